/- A part. -/
import Derived.Test.YtipgfplekgdoiaaGreatDoorPure1
set_option linter.unusedVariables false
namespace Go.Eng.Pure
open Go Go.Eng
set_option linter.unusedVariables false
noncomputable section
def zCP (d:(List Str)):((List Str)×Int)→Option (((List Str)×Int) ⊕ ((List Str) ⊕ ((List Str)×Bool)))
 | (f,b) =>
  (bif decide (b<(d.length:Int)) then
   (xnth d b).bind fun c =>
   (zA0 c).bind fun h =>
   (bif ((!h)||(c==[42])) then
    some (.inr (.inr (([]:List Str),false)))
   else
    (zAe c).bind fun i =>
    (xapp f ([i]:List Str)).bind fun j =>
    some (.inl (j,wr (b+1))))
  else
   some (.inr (.inl f)))
def zHu (c:(List GField)):Option ((List Str)×Bool) :=
 (zEA c [86,97,114,121]).bind fun b =>
 (bif decide (64≤(b.length:Int)) then
  some (([]:List Str),false)
 else
  (zAF (zCP b) (([]:List Str),0)).bind fun d=>match d with
  | .inr e=>some e
  | .inl f =>
   (slices_Sort_string f).bind fun h =>
   (slices_Compact_string h).bind fun i =>
   some (i,true))
def zF1 (b:GRequest):Option Bool :=
 (bif ((decide ((b.fMethod.length:Int)≤100))&&(decide ((b.fTarget.length:Int)≤2100))) then
  (zEf b.fFields).bind fun c =>
  some (c)
 else
  some false).bind fun d =>
 some (d&&(decide ((b.fBody.length:Int)≤2000)))
def zFR (b:GResponse):Option Bool :=
 (bif decide ((b.fReason.length:Int)≤2100) then
  (zEf b.fFields).bind fun c =>
  some (c)
 else
  some false).bind fun d =>
 some (d&&(decide ((b.fBody.length:Int)≤2000)))
def zFe (b:Str) (d:Str):Option (Str×Str×Bool) :=
 (zBH b d).bind fun c =>
 (bif decide (0≤c) then
  (xsub b 0 c).bind fun f =>
  (xsub b (wr (c+(d.length:Int))) b.length).bind fun h =>
  some (f,h,true)
 else
  some (b,[],false))
def zEY (c:Str) (d:Str):Option (Str×Str×Bool) :=
 (zFe c d).bind fun b =>
 some (b.1,b.2.1,b.2.2)
def zE2 (s0_buf:(List UInt8)):Option Unit :=
 some ()
def zEe (s0_buf:(List UInt8)):Option Unit :=
 some ()
def zA3 (s0_buf:List UInt8):Option Unit :=
 some ()
def zAN (b:Str) (s0_buf:(List UInt8)):Option (Int×Unit×(List UInt8)) :=
 (zA3 s0_buf).bind fun d =>
 (xapp s0_buf b).bind fun c =>
 some ((b.length:Int),(),c)
def zBK (s0_buf:(List UInt8)):Option Str :=
 some s0_buf
def zCF (c:Str):Option Gvariants_domain :=
 (zEg c).bind fun b =>
 ((bif b==1 then
  some (.inr (.media:Gvariants_domain))
 else
  (bif b==2 then
   some (.inr (.tags:Gvariants_domain))
  else
   ((bif b==3 then
    some (b==3)
   else
    some (b==4))).bind fun (d:Bool) =>
   (bif d then
    some (.inr (.words b:Gvariants_domain))
   else
    some (.inl ()))))).bind fun (f:(Unit ⊕ Gvariants_domain))=>match f with
 | .inr e=>some e
 | .inl _ =>
  some (.texts:Gvariants_domain)
def zD2 (d:Str):((List Str)×Bool×Int×Int)→Option (((List Str)×Bool×Int×Int) ⊕ ((List Str)×Int))
 | (f,c,h,b) =>
  (bif decide (b<(d.length:Int)) then
   (bif c then
    (xnth d b).bind fun i =>
    some (i==92)
   else
    some false).bind fun j =>
   (bif j then
    some (.inl (f,c,h,wr ((wr (b+1))+1)))
   else
    (xnth d b).bind fun k =>
    (bif k==34 then
     some (.inl (f,!c,h,wr (b+1)))
    else
     (xnth d b).bind fun l =>
     (bif ((l==59)&&(!c)) then
      (xsub d h b).bind fun o =>
      (xapp f ([o]:List Str)).bind fun p =>
      some (.inl (p,c,wr (b+1),wr (b+1)))
     else
      some (.inl (f,c,h,wr (b+1))))))
  else
   some (.inr (f,h)))
def zIw (b:Str):Option (List Str) :=
 (zAF (zD2 b) (([]:List Str),false,0,0)).bind fun c=>match c with
 | (d,f) =>
  (xsub b f b.length).bind fun h =>
  (xapp d ([h]:List Str)).bind fun i =>
  some i
def zIl (d:Str):Option (Str×Str×Bool) :=
 (zEY d [61]).bind fun b =>
 (bif !b.2.2 then
  some true
 else
  (zA0 b.1).bind fun f =>
  some (!f)).bind fun h =>
 (bif h then
  some ([],[],false)
 else
  (zA0 b.2.1).bind fun i =>
  ((bif !i then
   (zDD b.2.1).bind fun c =>
   some (c.1,c.2)
  else
   some (b.2.1,b.2.2))).bind fun (j:(Str×Bool)) =>
  match j with
  | (k,l) =>
   (zAe b.1).bind fun o =>
   some (o,k,l))
def zDf (f:(List Str)):((List GParam)×Int)→Option (((List GParam)×Int) ⊕ ((List GParam) ⊕ (Str×(List GParam)×Bool)))
 | (c,b) =>
  (bif decide (b<(f.length:Int)) then
   (xnth f b).bind fun i =>
   (zEZ i).bind fun h =>
   (bif h==[] then
    some (.inl (c,wr (b+1)))
   else
    (zIl h).bind fun d =>
    (bif !d.2.2 then
     some (.inr (.inr ([],([]:List GParam),false)))
    else
     (xapp c ([(⟨d.1,d.2.1⟩:GParam)]:List GParam)).bind fun j =>
     some (.inl (j,wr (b+1)))))
  else
   some (.inr (.inl c)))
def zFa (d:Str):Option (Str×(List GParam)×Bool) :=
 (zIw d).bind fun b =>
 (xnth b 0).bind fun f =>
 (zEZ f).bind fun c =>
 (bif c==[] then
  some ([],([]:List GParam),false)
 else
  (xsub b 1 b.length).bind fun h =>
  (zAF (zDf h) (([]:List GParam),0)).bind fun i=>match i with
  | .inr e=>some e
  | .inl j =>
   some (c,j,true))
def zBC (d:Str):Option (GMediaType×Bool) :=
 (zFa d).bind fun c =>
 (bif !c.2.2 then
  some ((⟨[],[],([]:List GParam)⟩:GMediaType),false)
 else
  (zEY c.1 [47]).bind fun b =>
  (zA0 b.1).bind fun f =>
  (bif !f then
   some true
  else
   (zA0 b.2.1).bind fun h =>
   some (!h)).bind fun i =>
  (bif (i||((b.1==[42])&&(b.2.1 !=[42]))) then
   some ((⟨[],[],([]:List GParam)⟩:GMediaType),false)
  else
   (zAe b.1).bind fun j =>
   (zAe b.2.1).bind fun k =>
   some ((⟨j,k,c.2.1⟩:GMediaType),true)))
def zCz (c:Str):Option (GMediaType×Bool) :=
 (zBC c).bind fun b =>
 (bif (((!b.2)||(b.1.fType==[42]))||(b.1.fSub==[42])) then
  some ((⟨[],[],([]:List GParam)⟩:GMediaType),false)
 else
  some (b.1,true))
def zB1 (b:GParam) (c:GParam):Option Bool :=
 some (b.fName==c.fName)
def zAL (c:(List GParam)) (d:(GParam→Option Bool)) (b:Int):Option (Int ⊕ (Unit ⊕ Int)) :=
  (bif decide (b<(c.length:Int)) then
   (xnth c b).bind fun f =>
   (d f).bind fun h =>
   (bif h then
    some (.inr (.inr b))
   else
    some (.inl (wr (b+1))))
  else
   some (.inr (.inl ())))
def zAT (b:(List GParam)) (c:(GParam→Option Bool)):Option Int :=
 (zAF (zAL b c) 0).bind fun d=>match d with
 | .inr e=>some e
 | .inl _ =>
  some (-1)
def zAW (b:(List GParam)) (c:(GParam→Option Bool)):Option Bool :=
 (zAT b c).bind fun d =>
 some (decide (0≤d))
def zBE (c:(GMediaType×Bool)):(Bool×Int)→Option ((Bool×Int) ⊕ Bool)
 | (d,b) =>
  (bif decide (b<(c.1.fParams.length:Int)) then
   (xnth c.1.fParams b).bind fun f =>
   (bif (d&&(f.fName !=[113])) then
    (xsub c.1.fParams 0 b).bind fun h =>
    (zAW h (fun i=>zB1 i f)).bind fun j =>
    some (!j)
   else
    some false).bind fun k =>
   some (.inl (k,wr (b+1)))
  else
   some (.inr d))
def zCU (h:Unit) (b:Str):Option (Str×Bool) :=
 (zCz b).bind fun c =>
 (zAF (zBE c) (c.2,0)).bind fun d =>
 (zAe b).bind fun f =>
 some (f,d)
def zEO (b:Str) (c:Str):Option Int :=
 (zBH b c).bind fun d =>
 some d
def zG6 (c:Str):(Str×Int)→Option ((Str×Int) ⊕ Int)
 | (b,d) =>
  (zEO b c).bind fun f =>
  (bif f==(-1) then
   some (.inr d)
  else
   (xsub b (wr (f+(c.length:Int))) b.length).bind fun h =>
   some (.inl (h,wr (d+1))))
def zDK (c:Str) (b:Str):Option Int :=
 (bif (b.length:Int)==0 then
  none
 else
  (bif (b.length:Int)==1 then
   (xnth b 0).bind fun d =>
   some (c.count d:Nat)
  else
   (zAF (zG6 b) (c,0)).bind fun f=>some f))
def zA2 (h:Str) (i:Str) (k:Int) (j:Int):(Str×Int×(List Str))→Option ((Str×Int×(List Str)) ⊕ (Str×Int×(List Str)))
 | (b,c,d) =>
  (bif decide (c<(wr ((if (wr ((h.length:Int)+1))<j then (wr ((h.length:Int)+1)) else j) - 1))) then
   (zEO b i).bind fun f =>
   (bif decide (f<0) then
    some (.inr (b,c,d))
   else
    (xsub b 0 (wr (f+k))).bind fun l =>
    (xnth d c).bind fun q =>
    (xput d c l).bind fun o =>
    (xsub b (wr (f+(i.length:Int))) b.length).bind fun p =>
    some (.inl (p,wr (c+1),o)))
  else
   some (.inr (b,c,d)))
def zE8 (b:Str) (c:Str) (j:Int) (d:Int):Option (List Str) :=
 (bif d==0 then
  some ([]:List Str)
 else
  (bif c==[] then
   none
  else
   ((bif decide (d<0) then
    (zDK b c).bind fun k =>
    some (wr (k+1))
   else
    some d)).bind fun (f:Int) =>
   (xmake (if (wr ((b.length:Int)+1))<f then (wr ((b.length:Int)+1)) else f) ([]:Str)).bind fun l =>
   (zAF (zA2 b c j f) (b,0,l)).bind fun o=>match o with
   | (p,h,i) =>
    (xnth i h).bind fun t =>
    (xput i h p).bind fun q =>
    (xsub q 0 (wr (h+1))).bind fun r =>
    some r))
def zFK (b:Str) (c:Str):Option (List Str) :=
 (zE8 b c 0 (-1)).bind fun d =>
 some d
def zB2 (f:Bool) (d:Str) (b:Int):Option (Int ⊕ (Unit ⊕ Bool)) :=
  (bif decide (b<(d.length:Int)) then
   (xnth d b).bind fun h =>
   (xnth d b).bind fun c =>
   (bif (((decide (c<97))||(decide (122<c)))&&(((!f)||(decide (c<48)))||(decide (57<c)))) then
    some (.inr (.inr false))
   else
    some (.inl (wr (b+1))))
  else
   some (.inr (.inl ())))
def zEI (b:Str) (c:Bool):Option Bool :=
 (zAe b).bind fun d =>
 (zAF (zB2 c d) 0).bind fun f=>match f with
 | .inr e=>some e
 | .inl _ =>
  some ((b !=[])&&(decide ((b.length:Int)≤8)))
def zCy (c:(List Str)) (b:Int):Option (Int ⊕ (Unit ⊕ Bool)) :=
  (bif decide (b<(c.length:Int)) then
   (xnth c b).bind fun d =>
   (zEI d (decide (0<b))).bind fun f =>
   (bif !f then
    some (.inr (.inr false))
   else
    some (.inl (wr (b+1))))
  else
   some (.inr (.inl ())))
def zD4 (b:Str):Option Bool :=
 (zFK b [45]).bind fun c =>
 (zAF (zCy c) 0).bind fun d=>match d with
 | .inr e=>some e
 | .inl _ =>
  some true
def zCl (f:Unit) (b:Str):Option (Str×Bool) :=
 (zAe b).bind fun c =>
 (zD4 b).bind fun d =>
 some (c,d)
def zBD (c:Int) (d:Str):Option Str :=
 (zAe d).bind fun b =>
 (bif c !=4 then
  some b
 else
  (((bif b==[103,122,105,112] then
   some (b==[103,122,105,112])
  else
   some (b==[120,45,103,122,105,112]))).bind fun (f:Bool) =>
  (bif f then
   some (.inr [103,122,105,112])
  else
   ((bif b==[99,111,109,112,114,101,115,115] then
    some (b==[99,111,109,112,114,101,115,115])
   else
    some (b==[120,45,99,111,109,112,114,101,115,115]))).bind fun (h:Bool) =>
   (bif h then
    some (.inr [99,111,109,112,114,101,115,115])
   else
    some (.inl ())))).bind fun (i:(Unit ⊕ Str))=>match i with
  | .inr e=>some e
  | .inl _ =>
   some b)
def zCS (c:Int) (b:Str):Option (Str×Bool) :=
 (zBD c b).bind fun d =>
 (zA0 b).bind fun f =>
 some (d,(f&&(b !=[42])))
def zCO (i:Unit) (b:Str):Option (Str×Bool) :=
 (bif ((decide (1≤(b.length:Int)))&&(decide ((b.length:Int)≤100))) then
  (zGV b).bind fun c =>
  some (c)
 else
  some false).bind fun d =>
 (bif d then
  (zEZ b).bind fun f =>
  some (f==b)
 else
  some false).bind fun h =>
 some (b,h)
def zBY (x:Gvariants_domain) (p0:Str):Option (Str×Bool) :=
 match x with
 | .media=>zCU () p0
 | .tags=>zCl () p0
 | .words n=>zCS n p0
 | .texts=>zCO () p0
def zEP (c:Str) (d:Str) (f:Str):Option Bool :=
 (zCF c).bind fun b =>
 (zBY b d).bind fun h =>
 (zBY b f).bind fun i =>
 some (h.1==i.1)
def zBI (d:GAxis) (h:Gvariants_domain):(Int×(List (Str×Bool)))→Option ((Int×(List (Str×Bool))) ⊕ (Unit ⊕ Bool))
 | (b,f) =>
  (bif decide (b<(d.fValues.length:Int)) then
   (xnth d.fValues b).bind fun i =>
   (zBY h i).bind fun c =>
   (bif !c.2 then
    some true
   else
    (some (mget f c.1 false)).bind fun g38 =>
    some (g38.1)).bind fun j =>
   (bif j then
    some (.inr (.inr false))
   else
    some (.inl (wr (b+1),(mset f c.1 true))))
  else
   some (.inr (.inl ())))
def zEo (b:GAxis):Option Bool :=
 (bif ((decide ((b.fValues.length:Int)<1))||(decide (16<(b.fValues.length:Int)))) then
  some false
 else
  (zCF b.fName).bind fun c =>
  (zAF (zBI b c) (0,([]:List (Str×Bool)))).bind fun d=>match d with
  | .inr e=>some e
  | .inl _ =>
   some true)
def zCE (d:GAxis) (c:(List GAxis)) (b:Int):Option (Int ⊕ (Unit ⊕ (Int ⊕ (Unit ⊕ Bool)))) :=
  (bif decide (b<(c.length:Int)) then
   (xnth c b).bind fun f =>
   (bif d.fName==f.fName then
    some (.inr (.inr (.inr (.inr false))))
   else
    some (.inl (wr (b+1))))
  else
   some (.inr (.inl ())))
def zCH (d:(List GAxis)) (c:Int):Option (Int ⊕ (Unit ⊕ Bool)) :=
  (bif decide (c<(d.length:Int)) then
   (xnth d c).bind fun b =>
   (zA0 b.fName).bind fun f =>
   (bif !f then
    some true
   else
    (zAe b.fName).bind fun h =>
    some (h !=b.fName)).bind fun i =>
   (bif i then
    some true
   else
    (zEo b).bind fun j =>
    some (!j)).bind fun k =>
   (bif k then
    some (.inr (.inr false))
   else
    (xsub d 0 c).bind fun l =>
    (zAF (zCE b l) 0).bind fun o=>match o with
    | .inr e=>some e
    | .inl _ =>
     some (.inl (wr (c+1))))
  else
   some (.inr (.inl ())))
def zBd (b:(List GAxis)):Option Bool :=
 (bif ((decide ((b.length:Int)<1))||(decide (4<(b.length:Int)))) then
  some false
 else
  (zAF (zCH b) 0).bind fun c=>match c with
  | .inr e=>some e
  | .inl _ =>
   some true)
def zBX (b:Str) (c:GAxis) (d:(List Str)) (f:Int):Option Bool :=
 (xnth d f).bind fun h =>
 (zEP c.fName b h).bind fun i =>
 some i
def zAh (f:(List GAxis)) (i:(List Str)):(Int×(List Str))→Option ((Int×(List Str)) ⊕ ((List Str) ⊕ ((List Str)×Bool)))
 | (b,c) =>
  (bif decide (b<(f.length:Int)) then
   (xnth f b).bind fun d =>
   (zAq d.fValues (fun j=>zBX j d i b)).bind fun h =>
   (bif decide (h<0) then
    some (.inr (.inr (([]:List Str),false)))
   else
    (xnth d.fValues h).bind fun k =>
    (xnth c b).bind fun o =>
    (xput c b k).bind fun l =>
    some (.inl (wr (b+1),l)))
  else
   some (.inr (.inl c)))
def zCp (c:(List GAxis)) (b:(List Str)):Option ((List Str)×Bool) :=
 (bif (b.length:Int) !=(c.length:Int) then
  some (([]:List Str),false)
 else
  (xmake (b.length:Int) ([]:Str)).bind fun d =>
  (zAF (zAh c b) (0,d)).bind fun f=>match f with
  | .inr e=>some e
  | .inl h =>
   some (h,true))
def zDq (c:Str) (b:Str):Option Str :=
 (bif ((c==[])||(b==[])) then
  some c
 else
  (bif (b.length:Int)==1 then
   (xnth b 0).bind fun d =>
   some (decide (d<128))
  else
   some false).bind fun f =>
  (bif f then
   (xnth b 0).bind fun h =>
   (zBa c h).bind fun i =>
   some i
  else
   (strings_makeASCIISet b).bind fun k =>
   (zBP c b).bind fun j =>
   some j))
def zAx (c:Str) (b:Int):Option (Int ⊕ (Unit ⊕ Int)) :=
  (bif decide (b<(c.length:Int)) then
   (xnth c b).bind fun d =>
   (bif d==92 then
    some (.inl (wr ((wr (b+1))+1)))
   else
    (bif d==34 then
     some (.inr (.inr (wr (b+1))))
    else
     some (.inl (wr (b+1)))))
  else
   some (.inr (.inl ())))
def zEv (b:Str):Option Int :=
 (zAF (zAx b) 1).bind fun c=>match c with
 | .inr e=>some e
 | .inl _ =>
  some 0
def zBv (b:(List Str)) (c:(List Str)):Option Bool :=
 (zAY b c).bind fun d =>
 some d
def zAS (c:(List (List Str))) (d:((List Str)→Option Bool)) (b:Int):Option (Int ⊕ (Unit ⊕ Int)) :=
  (bif decide (b<(c.length:Int)) then
   (xnth c b).bind fun f =>
   (d f).bind fun h =>
   (bif h then
    some (.inr (.inr b))
   else
    some (.inl (wr (b+1))))
  else
   some (.inr (.inl ())))
def zA5 (b:(List (List Str))) (c:((List Str)→Option Bool)):Option Int :=
 (zAF (zAS b c) 0).bind fun d=>match d with
 | .inr e=>some e
 | .inl _ =>
  some (-1)
def zAO (b:(List (List Str))) (c:((List Str)→Option Bool)):Option Bool :=
 (zA5 b c).bind fun d =>
 some (decide (0≤d))
def zBZ (i:(List Str)):((List GParam)×Int)→Option (((List GParam)×Int) ⊕ ((List GParam) ⊕ (Str×(List GParam)×Bool)))
 | (f,c) =>
  (bif decide (c<(i.length:Int)) then
   (xnth i c).bind fun k =>
   (zEd k).bind fun b =>
   (bif b==[] then
    some (.inl (f,wr (c+1)))
   else
    (zDu b 61 0).bind fun d =>
    (bif decide (d<0) then
     some true
    else
     (xsub b 0 d).bind fun l =>
     (zA6 l).bind fun o =>
     some (!o)).bind fun p =>
    (bif p then
     some (.inr (.inr ([],([]:List GParam),false)))
    else
     (xsub b (wr (d+1)) b.length).bind fun h =>
     (zA6 h).bind fun q =>
     ((bif !q then
      (zEG h).bind fun j =>
      (bif !j.2 then
       some (.inr (.inr (.inr ([],([]:List GParam),false))))
      else
       some (.inl j.1))
     else
      some (.inl h))).bind fun (r:(Str ⊕ (((List GParam)×Int) ⊕ ((List GParam) ⊕ (Str×(List GParam)×Bool)))))=>match r with
     | .inr e=>some e
     | .inl t =>
      (xsub b 0 d).bind fun u =>
      (zBl u).bind fun v =>
      (xapp f ([(⟨v,t⟩:GParam)]:List GParam)).bind fun x =>
      some (.inl (x,wr (c+1)))))
  else
   some (.inr (.inl f)))
def zCJ (d:Str):Option (Str×(List GParam)×Bool) :=
 (zGd d 59).bind fun b =>
 (xnth b 0).bind fun f =>
 (zEd f).bind fun c =>
 (bif c==[] then
  some ([],([]:List GParam),false)
 else
  (zAF (zBZ b) (([]:List GParam),1)).bind fun h=>match h with
  | .inr e=>some e
  | .inl i =>
   some (c,i,true))
def zBU (d:Str):Option (GMediaType×Bool) :=
 (zCJ d).bind fun b =>
 (bif !b.2.2 then
  some ((⟨[],[],([]:List GParam)⟩:GMediaType),false)
 else
  (zDu b.1 47 0).bind fun c =>
  (bif decide (c<0) then
   some true
  else
   (xsub b.1 0 c).bind fun f =>
   (zA6 f).bind fun h =>
   some (!h)).bind fun i =>
  (bif i then
   some true
  else
   (xsub b.1 (wr (c+1)) b.1.length).bind fun j =>
   (zA6 j).bind fun k =>
   some (!k)).bind fun l =>
  (bif l then
   some true
  else
   (xsub b.1 0 c).bind fun o =>
   (bif o==[42] then
    (xsub b.1 (wr (c+1)) b.1.length).bind fun p =>
    some (p !=[42])
   else
    some false).bind fun q =>
   some (q)).bind fun r =>
  (bif r then
   some ((⟨[],[],([]:List GParam)⟩:GMediaType),false)
  else
   (xsub b.1 0 c).bind fun t =>
   (zBl t).bind fun u =>
   (xsub b.1 (wr (c+1)) b.1.length).bind fun v =>
   (zBl v).bind fun x =>
   some ((⟨u,x,b.2.1⟩:GMediaType),true)))
def zCr (c:Str):Option (GMediaType×Bool) :=
 (zBU c).bind fun b =>
 (bif (((!b.2)||(b.1.fType==[42]))||(b.1.fSub==[42])) then
  some ((⟨[],[],([]:List GParam)⟩:GMediaType),false)
 else
  some (b.1,true))
def zBT:(Str×(List Str))→Option ((Str×(List Str)) ⊕ (List Str))
 | (b,d) =>
  (zDu b 45 0).bind fun c =>
  (bif decide (c<0) then
   (xapp d ([b]:List Str)).bind fun f =>
   some (.inr f)
  else
   (xsub b 0 c).bind fun h =>
   (xsub b (wr (c+1)) b.length).bind fun i =>
   (xapp d ([h]:List Str)).bind fun j =>
   some (.inl (i,j)))
def zDN (b:Str):Option (List Str) :=
 (zAF (zBT) (b,([]:List Str))).bind fun c=>some c
def zEr (f:(List Str)) (c:Int) (d:Int):Option (Int ⊕ (Unit ⊕ (Int ⊕ (Unit ⊕ Bool)))) :=
  (xnth f c).bind fun h =>
  (bif decide (d<(h.length:Int)) then
   (xnth f c).bind fun i =>
   (xnth i d).bind fun b =>
   (bif (((decide (97≤b))&&(decide (b≤122)))||((decide (65≤b))&&(decide (b≤90)))) then
    some true
   else
    (bif decide (0<c) then
     (zEW b).bind fun j =>
     some (j)
    else
     some false).bind fun k =>
    some (k)).bind fun l =>
   (bif !l then
    some (.inr (.inr (.inr (.inr false))))
   else
    some (.inl (wr (d+1))))
  else
   some (.inr (.inl ())))
def zE0 (c:(List Str)) (b:Int):Option (Int ⊕ (Unit ⊕ Bool)) :=
  (bif decide (b<(c.length:Int)) then
   (xnth c b).bind fun d =>
   (bif decide ((d.length:Int)<1) then
    some true
   else
    (xnth c b).bind fun f =>
    some (decide (8<(f.length:Int)))).bind fun h =>
   (bif h then
    some (.inr (.inr false))
   else
    (zAF (zEr c b) 0).bind fun i=>match i with
    | .inr e=>some e
    | .inl _ =>
     some (.inl (wr (b+1))))
  else
   some (.inr (.inl ())))
def zGH (b:Str):Option Bool :=
 (zDN b).bind fun c =>
 (zAF (zE0 c) 0).bind fun d=>match d with
 | .inr e=>some e
 | .inl _ =>
  some true
def zB5 (c:(GMediaType×Bool)) (d:Int):(Bool×Int)→Option ((Bool×Int) ⊕ Bool)
 | (f,b) =>
  (bif decide (b<d) then
   (bif f then
    (xnth c.1.fParams d).bind fun h =>
    (xnth c.1.fParams b).bind fun i =>
    some (h.fName !=i.fName)
   else
    some false).bind fun j =>
   some (.inl (j,wr (b+1)))
  else
   some (.inr f))
def zCe (c:(GMediaType×Bool)):(Bool×Int)→Option ((Bool×Int) ⊕ Bool)
 | (d,b) =>
  (bif decide (b<(c.1.fParams.length:Int)) then
   (zAF (zB5 c b) (d,0)).bind fun f =>
   (bif f then
    (xnth c.1.fParams b).bind fun h =>
    some (h.fName !=[113])
   else
    some false).bind fun i =>
   some (.inl (i,wr (b+1)))
  else
   some (.inr d))
def zGz (f:Str) (b:Str):Option Bool :=
 (zFU f).bind fun c =>
 ((bif c==1 then
  (zCr b).bind fun d =>
  (zAF (zCe d) (d.2,0)).bind fun h =>
  some (.inr h)
 else
  (bif c==2 then
   (zGH b).bind fun i =>
   some (.inr i)
  else
   ((bif c==3 then
    some (c==3)
   else
    some (c==4))).bind fun (j:Bool) =>
   (bif j then
    (zA6 b).bind fun k =>
    some (.inr (k&&(b !=[42])))
   else
    some (.inl ()))))).bind fun (l:(Unit ⊕ Bool))=>match l with
 | .inr e=>some e
 | .inl _ =>
  (bif ((decide (1≤(b.length:Int)))&&(decide ((b.length:Int)≤100))) then
   (zHn b).bind fun o =>
   some (o)
  else
   some false).bind fun p =>
  (bif p then
   (zEd b).bind fun q =>
   some (q==b)
  else
   some false).bind fun r =>
  some r
def zA7 (c:Int) (d:Str):Option Str :=
 (zBl d).bind fun b =>
 (bif ((c==4)&&(b==[120,45,103,122,105,112])) then
  some [103,122,105,112]
 else
  (bif ((c==4)&&(b==[120,45,99,111,109,112,114,101,115,115])) then
   some [99,111,109,112,114,101,115,115]
  else
   some b))
def zGX (f:Str) (c:Str) (d:Str):Option Bool :=
 (zFU f).bind fun b =>
 (((bif b==1 then
  some (b==1)
 else
  some (b==2))).bind fun (h:Bool) =>
 (bif h then
  (zBr c d).bind fun i =>
  some (.inr i)
 else
  ((bif b==3 then
   some (b==3)
  else
   some (b==4))).bind fun (j:Bool) =>
  (bif j then
   (zA7 b c).bind fun k =>
   (zA7 b d).bind fun l =>
   some (.inr (k==l))
  else
   some (.inl ())))).bind fun (o:(Unit ⊕ Bool))=>match o with
 | .inr e=>some e
 | .inl _ =>
  some (c==d)
def zBw (b:GAxis) (d:Int) (c:Int):Option (Int ⊕ (Unit ⊕ (Int ⊕ (Unit ⊕ Bool)))) :=
  (bif decide (c<d) then
   (xnth b.fValues d).bind fun f =>
   (xnth b.fValues c).bind fun h =>
   (zGX b.fName f h).bind fun i =>
   (bif i then
    some (.inr (.inr (.inr (.inr false))))
   else
    some (.inl (wr (c+1))))
  else
   some (.inr (.inl ())))
def zB4 (b:GAxis) (c:Int):Option (Int ⊕ (Unit ⊕ Bool)) :=
  (bif decide (c<(b.fValues.length:Int)) then
   (xnth b.fValues c).bind fun d =>
   (zGz b.fName d).bind fun f =>
   (bif !f then
    some (.inr (.inr false))
   else
    (zAF (zBw b c) 0).bind fun h=>match h with
    | .inr e=>some e
    | .inl _ =>
     some (.inl (wr (c+1))))
  else
   some (.inr (.inl ())))
def zCu (b:GAxis):Option Bool :=
 (zA6 b.fName).bind fun c =>
 (bif !c then
  some true
 else
  (zBl b.fName).bind fun d =>
  some (d !=b.fName)).bind fun f =>
 (bif ((f||(decide ((b.fValues.length:Int)<1)))||(decide (16<(b.fValues.length:Int)))) then
  some false
 else
  (zAF (zB4 b) 0).bind fun h=>match h with
  | .inr e=>some e
  | .inl _ =>
   some true)
def zDV (c:(List GAxis)) (d:Int) (b:Int):Option (Int ⊕ (Unit ⊕ (Int ⊕ (Unit ⊕ Bool)))) :=
  (bif decide (b<d) then
   (xnth c d).bind fun f =>
   (xnth c b).bind fun h =>
   (bif f.fName==h.fName then
    some (.inr (.inr (.inr (.inr false))))
   else
    some (.inl (wr (b+1))))
  else
   some (.inr (.inl ())))
def zDh (c:(List GAxis)) (b:Int):Option (Int ⊕ (Unit ⊕ Bool)) :=
  (bif decide (b<(c.length:Int)) then
   (xnth c b).bind fun d =>
   (zCu d).bind fun f =>
   (bif !f then
    some (.inr (.inr false))
   else
    (zAF (zDV c b) 0).bind fun h=>match h with
    | .inr e=>some e
    | .inl _ =>
     some (.inl (wr (b+1))))
  else
   some (.inr (.inl ())))
def zGw (b:(List GAxis)):Option Bool :=
 (bif ((decide ((b.length:Int)<1))||(decide (4<(b.length:Int)))) then
  some false
 else
  (zAF (zDh b) 0).bind fun c=>match c with
  | .inr e=>some e
  | .inl _ =>
   some true)
def zHm (b:Str):Option Int :=
 (zCc b [32,9,40,41,44,34]).bind fun c =>
 (bif decide (0≤c) then
  some c
 else
  some (b.length:Int))
def zCT:(Str×(List Str))→Option ((Str×(List Str)) ⊕ ((List Str)×Bool))
 | (i,d) =>
  (zDq i [32]).bind fun b =>
  (bif b==[] then
   some (.inr (d,true))
  else
   (zHm b).bind fun j =>
   (xnth b 0).bind fun k =>
   ((bif k==34 then
    (zEv b).bind fun l =>
    some l
   else
    some j)).bind fun (c:Int) =>
   (bif c==0 then
    some true
   else
    (bif decide (c<(b.length:Int)) then
     (xnth b c).bind fun o =>
     some (o !=32)
    else
     some false).bind fun p =>
    some (p)).bind fun q =>
   (bif q then
    some (.inr (([]:List Str),false))
   else
    (xsub b 0 c).bind fun f =>
    (xnth b 0).bind fun r =>
    ((bif r==34 then
     (zDD f).bind fun h =>
     (bif !h.2 then
      some (.inr (.inr (([]:List Str),false)))
     else
      some (.inl h.1))
    else
     some (.inl f))).bind fun (t:(Str ⊕ ((Str×(List Str)) ⊕ ((List Str)×Bool))))=>match t with
    | .inr e=>some e
    | .inl u =>
     (xapp d ([u]:List Str)).bind fun v =>
     (xsub b c b.length).bind fun x =>
     some (.inl (x,v))))
def zGQ (b:Str):Option ((List Str)×Bool) :=
 (bif decide ((b.length:Int)<2) then
  some true
 else
  (xnth b 0).bind fun c =>
  some (c !=40)).bind fun d =>
 (bif d then
  some true
 else
  (xnth b (wr ((b.length:Int) - 1))).bind fun f =>
  some (f !=41)).bind fun h =>
 (bif h then
  some (([]:List Str),false)
 else
  (xsub b 1 (wr ((b.length:Int) - 1))).bind fun i =>
  (zAF (zCT) (i,([]:List Str))).bind fun j=>some j)
def zCK (d:(List Str)):((List GAxis)×Int)→Option (((List GAxis)×Int) ⊕ ((List GAxis) ⊕ ((List GAxis)×Int)))
 | (f,b) =>
  (bif decide (b<(d.length:Int)) then
   (xnth d b).bind fun i =>
   (zEY i [61]).bind fun c =>
   (zGQ c.2.1).bind fun h =>
   (bif !h.2 then
    some true
   else
    (zA0 c.1).bind fun j =>
    some (!j)).bind fun k =>
   (bif k then
    some (.inr (.inr (([]:List GAxis),1)))
   else
    (zAe c.1).bind fun l =>
    (xapp f ([(⟨l,h.1⟩:GAxis)]:List GAxis)).bind fun o =>
    some (.inl (o,wr (b+1))))
  else
   some (.inr (.inl f)))
def zEi (b:(List GField)):Option ((List GAxis)×Int) :=
 (zDB b [86,97,114,105,97,110,116,115]).bind fun d =>
 (bif !d then
  some (([]:List GAxis),12)
 else
  (zEA b [86,97,114,105,97,110,116,115]).bind fun f =>
  (zAF (zCK f) (([]:List GAxis),0)).bind fun h=>match h with
  | .inr e=>some e
  | .inl c =>
   (zBd c).bind fun i =>
   (bif !i then
    some (([]:List GAxis),11)
   else
    some (c,0)))
def zBm (c:(List Str)):((List (List Str))×Int)→Option (((List (List Str))×Int) ⊕ ((List (List Str)) ⊕ ((List (List Str))×Int)))
 | (d,b) =>
  (bif decide (b<(c.length:Int)) then
   (xnth c b).bind fun h =>
   (zGQ h).bind fun f =>
   (bif !f.2 then
    some (.inr (.inr (([]:List (List Str)),1)))
   else
    (xapp d ([f.1]:List (List Str))).bind fun i =>
    some (.inl (i,wr (b+1))))
  else
   some (.inr (.inl d)))
def zAt (h:(List GAxis)) (f:(List (List Str))):((List (List Str))×Int)→Option (((List (List Str))×Int) ⊕ ((List (List Str)) ⊕ ((List (List Str))×Int)))
 | (b,c) =>
  (bif decide (c<(f.length:Int)) then
   (xnth f c).bind fun i =>
   (zCp h i).bind fun d =>
   (bif !d.2 then
    some (.inr (.inr (([]:List (List Str)),11)))
   else
    (zAO b (fun j=>zBv j d.1)).bind fun k =>
    (bif !k then
     (xapp b ([d.1]:List (List Str))).bind fun l =>
     some (.inl (l,wr (c+1)))
    else
     some (.inl (b,wr (c+1)))))
  else
   some (.inr (.inl b)))
def zDr (d:(List GField)) (b:(List GAxis)):Option ((List (List Str))×Int) :=
 (zBd b).bind fun f =>
 (bif !f then
  some (([]:List (List Str)),10)
 else
  (zEA d [86,97,114,105,97,110,116,45,75,101,121]).bind fun c =>
  (bif (c.length:Int)==0 then
   some (([]:List (List Str)),12)
  else
   (zAF (zBm c) (([]:List (List Str)),0)).bind fun h=>match h with
   | .inr e=>some e
   | .inl i =>
    (zAF (zAt b i) (([]:List (List Str)),0)).bind fun j=>match j with
    | .inr e=>some e
    | .inl k =>
     some (k,0)))
def zBx (c:(List Str)):(Int×(List (Str×Bool)))→Option ((Int×(List (Str×Bool))) ⊕ (List (Str×Bool)))
 | (b,d) =>
  (bif decide (b<(c.length:Int)) then
   (xnth c b).bind fun f =>
   (zAe f).bind fun h =>
   some (.inl (wr (b+1),(mset d h true)))
  else
   some (.inr d))
def zF6 (d:(List GField)) (h:(List (Str×Bool))):((List GField)×Int)→Option (((List GField)×Int) ⊕ (List GField))
 | (c,b) =>
  (bif decide (b<(d.length:Int)) then
   (xnth d b).bind fun f =>
   (zAe f.fName).bind fun i =>
   (some (mget h i false)).bind fun g103 =>
   (bif !g103.1 then
    (xapp c ([f]:List GField)).bind fun j =>
    some (.inl (j,wr (b+1)))
   else
    some (.inl (c,wr (b+1))))
  else
   some (.inr c))
def zIR (b:(List GField)):Option (List GField) :=
 (zEA b [67,111,110,110,101,99,116,105,111,110]).bind fun c =>
 (zAF (zBx c) (0,([]:List (Str×Bool)))).bind fun d =>
 (some ((zEV 32 [104,111,115,116,32,99,97,99,104,101,45,99,111,110,116,114,111,108,32,118,97,114,121,32,118,97,114,105,97,110,116,115,32,118,97,114,105,97,110,116,45,107,101,121,32,118,105,97]).foldl (fun m k=>mdel m k) d)).bind fun f =>
 (some ((zEV 32 [99,111,110,110,101,99,116,105,111,110,32,107,101,101,112,45,97,108,105,118,101,32,112,114,111,120,121,45,99,111,110,110,101,99,116,105,111,110,32,112,114,111,120,121,45,97,117,116,104,101,110,116,105,99,97,116,101,32,112,114,111,120,121,45,97,117,116,104,111,114,105,122,97,116,105,111,110,32,116,101,32,116,114,97,105,108,101,114,32,116,114,97,110,115,102,101,114,45,101,110,99,111,100,105,110,103,32,99,111,110,116,101,110,116,45,108,101,110,103,116,104,32,117,112,103,114,97,100,101]).foldl (fun m k=>mset m k true) f)).bind fun h =>
 (zAF (zF6 b h) (([]:List GField),0)).bind fun i =>
 some i
def zHl (k:GRequest) (b:GResponse) (d:Int) (f:Int):Option (GEntry×(List GAxis)) :=
 (zIR b.fFields).bind fun h =>
 (zEi b.fFields).bind fun c =>
 (zDr b.fFields c.1).bind fun i =>
 (bif ((c.2==0)&&(i.2==0)) then
  some ((⟨i.1,([]:List Str),([]:List Str),b.fReason,h,b.fBody,d,f⟩:GEntry),c.1)
 else
  (zHu b.fFields).bind fun j =>
  (zEH j.1 k.fFields).bind fun l =>
  some ((⟨([]:List (List Str)),j.1,l,b.fReason,h,b.fBody,d,f⟩:GEntry),([]:List GAxis)))
def zBO (c:(List GParam)) (d:GParam) (b:Int):Option (Int ⊕ (Unit ⊕ Bool)) :=
  (bif decide (b<(c.length:Int)) then
   (xnth c b).bind fun f =>
   (bif f.fName==d.fName then
    (zDI f.fValue d.fValue).bind fun h =>
    some (h)
   else
    some false).bind fun i =>
   (bif i then
    some (.inr (.inr true))
   else
    some (.inl (wr (b+1))))
  else
   some (.inr (.inl ())))
def zCo (b:(List GParam)) (c:GParam):Option Bool :=
 (zAF (zBO b c) 0).bind fun d=>match d with
 | .inr e=>some e
 | .inl _ =>
  some false
def zB0 (c:GMediaType) (d:GMediaType) (b:Int):Option (Int ⊕ (Unit ⊕ Int)) :=
  (bif decide (b<(c.fParams.length:Int)) then
   (xnth c.fParams b).bind fun f =>
   (zCo d.fParams f).bind fun h =>
   (bif !h then
    some (.inr (.inr (-1)))
   else
    some (.inl (wr (b+1))))
  else
   some (.inr (.inl ())))
def zEJ (b:GMediaType) (c:GMediaType):Option Int :=
 (bif ((b.fType==[42])&&(b.fSub==[42])) then
  some 0
 else
  (bif ((b.fSub==[42])&&(b.fType==c.fType)) then
   some 1
  else
   (bif ((b.fType !=c.fType)||(b.fSub !=c.fSub)) then
    some (-1)
   else
    (zAF (zB0 b c) 0).bind fun d=>match d with
    | .inr e=>some e
    | .inl _ =>
     some (wr (2+(b.fParams.length:Int))))))
def zDk (b:Str):Option Bool :=
 (bif b==[42] then
  some true
 else
  (zD4 b).bind fun c =>
  some (c)).bind fun d =>
 some d
def zEb (b:Str) (c:Str):Option Bool :=
 (zBt b c).bind fun d =>
 some d
def zEl (b:Str) (c:Str):Option Int :=
 (zDk b).bind fun d =>
 (bif !d then
  some true
 else
  (zD4 c).bind fun f =>
  some (!f)).bind fun h =>
 (bif h then
  some (-1)
 else
  (bif b==[42] then
   some 0
  else
   (zAe c).bind fun i =>
   (xcat i [45]).bind fun j =>
   (zAe b).bind fun k =>
   (xcat k [45]).bind fun l =>
   (zEb j l).bind fun o =>
   (bif !o then
    some (-1)
   else
    (zDK b [45]).bind fun p =>
    some (wr (p+1)))))
end
end Go.Eng.Pure
