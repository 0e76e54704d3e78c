/- A part. -/
import Derived.Test.YtihjhdoinmfddaaGreatDoorPure1
set_option linter.unusedVariables false
set_option linter.unusedSimpArgs false
namespace Go.Eng.Pure
open Go Go.Eng
noncomputable section
def zDa (d:(List Str)):((List Str)×Int)→Option (((List Str)×Int) ⊕ ((List Str) ⊕ ((List Str)×Bool)))
 | (f,b) =>
  (bif decide (b<(d.length:Int)) then
   (xnth d b).bind fun c =>
   (zAZ c).bind fun h =>
   (bif ((!h)||(c==[42])) then
    some (.inr (.inr (([]:List Str),false)))
   else
    (zAO c).bind fun i =>
    (xapp f ([i]:List Str)).bind fun j =>
    some (.inl (j,wr (b+1))))
  else
   some (.inr (.inl f)))
def zEK (c:(List GField)):Option ((List Str)×Bool) :=
 (zC3 c [86,97,114,121]).bind fun b =>
 (bif decide (64≤(b.length:Int)) then
  some (([]:List Str),false)
 else
  (zAB (zDa b) (([]:List Str),0)).bind fun d=>match d with
  | .inr e=>some e
  | .inl f =>
   (slices_Sort_string f).bind fun h =>
   (slices_Compact_string h).bind fun i =>
   some (i,true))
def zCB (b:(List GField)):Option Bool :=
 (zIG b).bind fun c =>
 (bif c.2 then
  some true
 else
  (zAt b [76,97,115,116,45,77,111,100,105,102,105,101,100]).bind fun d =>
  (zGE d.1).bind fun f =>
  some f.2)
def zDP (d:GRequest) (b:GResponse):Option Bool :=
 (bif ((d.fMethod !=[71,69,84])||(b.fStatus !=200)) then
  some false
 else
  (zAc b.fFields).bind fun c =>
  (bif (c.fNoStore||c.fPrivate) then
   some true
  else
   (zBN d.fFields).bind fun f =>
   some (f.fNoStore)).bind fun h =>
  (bif h then
   some false
  else
   (zEK b.fFields).bind fun i =>
   (bif !i.2 then
    some false
   else
    (zAv d.fFields [82,97,110,103,101]).bind fun j =>
    (bif j then
     some false
    else
     (zAv d.fFields [65,117,116,104,111,114,105,122,97,116,105,111,110]).bind fun k =>
     (bif (((k&&(!c.fMustRevalidate))&&(!c.fPublic))&&(c.fSMaxAge==(-1))) then
      some false
     else
      (zCA b.fFields).bind fun l =>
      (bif decide (0<l) then
       some true
      else
       (zCB b.fFields).bind fun o =>
       some (o)).bind fun p =>
      some p)))))
def zGU (b:Str):Option Bool :=
 some ((((b !=[71,69,84])&&(b !=[72,69,65,68]))&&(b !=[79,80,84,73,79,78,83]))&&(b !=[84,82,65,67,69]))
def zCJ (b:GField) (c:(GField→Option Bool)):Option Bool :=
 (c b).bind fun d =>
 some (!d)
def zAs (b:(List GField)) (c:Str):Option (List GField) :=
 (zGZ c).bind fun d =>
 (zBl b (fun f=>zCJ f d)).bind fun h =>
 some h
def zBa (b:Int):Option Str :=
 (strconv_Itoa b).bind fun c =>
 some c
def zKz (b:(List GField)) (c:Int) (d:Str):Option (List GField) :=
 (xapp ([]:List GField) b).bind fun f =>
 (zBa c).bind fun h =>
 (xcat [49,46] h).bind fun i =>
 (xcat i [32]).bind fun j =>
 (xcat j d).bind fun k =>
 (xapp f ([(⟨[86,105,97],k⟩:GField)]:List GField)).bind fun l =>
 some l
def zEc (b:GEntry) (c:Int) (d:Str):Option GResponse :=
 (zAs b.fFields [65,103,101]).bind fun f =>
 (zBa c).bind fun h =>
 (xapp f ([(⟨[65,103,101],h⟩:GField)]:List GField)).bind fun i =>
 (zKz i 1 d).bind fun j =>
 some (⟨1,200,b.fReason,j,b.fBody⟩:GResponse)
def zCt (b:GEntry) (c:Int) (d:Str):Option GResponse :=
 (zIe b c).bind fun f =>
 (zEc b f d).bind fun h =>
 some h
def zEo (b:Str) (d:Str):Option (Str×Str×Bool) :=
 (zA1 b d).bind fun c =>
 (bif decide (0≤c) then
  (xsub b 0 c).bind fun f =>
  (xsub b (wr (c+(d.length:Int))) b.length).bind fun h =>
  some (f,h,true)
 else
  some (b,[],false))
def zAW (c:Str) (d:Str):Option (Str×Str×Bool) :=
 (zEo c d).bind fun b =>
 some (b.1,b.2.1,b.2.2)
def zCQ (b:UInt8):Option Bool :=
 some ((decide (48≤b))&&(decide (b≤57)))
def zB4 (b:Str):Option (Int×Bool) :=
 (bif (b.length:Int) !=3 then
  some true
 else
  (xnth b 0).bind fun c =>
  some (decide (c<49))).bind fun d =>
 (bif d then
  some true
 else
  (xnth b 0).bind fun f =>
  some (decide (53<f))).bind fun h =>
 (bif h then
  some true
 else
  (xnth b 1).bind fun i =>
  (zCQ i).bind fun j =>
  some (!j)).bind fun k =>
 (bif k then
  some true
 else
  (xnth b 2).bind fun l =>
  (zCQ l).bind fun o =>
  some (!o)).bind fun p =>
 (bif p then
  some (0,false)
 else
  (zA5 b).bind fun r =>
  some (r.1,true))
def zJs {ρ:Type} (b:Str) (kS kV:Option ρ) (k:Int→Option ρ):Option ρ :=
 (bif (b.length:Int) !=8 then
  some true
 else
  (xsub b 0 5).bind fun c =>
  some (c !=[72,84,84,80,47])).bind fun d =>
 (bif d then
  some true
 else
  (xnth b 5).bind fun f =>
  (zCQ f).bind fun h =>
  some (!h)).bind fun i =>
 (bif i then
  some true
 else
  (xnth b 6).bind fun j =>
  some (j !=46)).bind fun l =>
 (bif l then
  some true
 else
  (xnth b 7).bind fun o =>
  (zCQ o).bind fun p =>
  some (!p)).bind fun r =>
 (bif r then
  kS
 else
  (xnth b 5).bind fun c37 =>
  (bif c37 !=49 then
   some true
  else
   (xnth b 7).bind fun c40 =>
   some (decide (49<c40))).bind fun t =>
  (bif t then
   kV
  else
   (xnth b 7).bind fun u =>
   k ((u - 48).toNat:Int)))
def zAY (c:Str):Option (Int×Int×Str×Int) :=
 (bif decide (2000<(c.length:Int)) then
  some (0,0,[],4)
 else
  (zAW c [32]).bind fun d =>
  (zAW d.2.1 [32]).bind fun b =>
  (zB4 b.1).bind fun f =>
  (bif ((!b.2.2)||(!f.2)) then
   some true
  else
   (zCw b.2.1).bind fun h =>
   some (!h)).bind fun i =>
  (bif i then
   some (0,0,[],1)
  else
   zJs d.1 (some (0,0,[],1)) (some (0,0,[],3)) fun m=>some (m,f.1,b.2.1,0)))
def zA6 (c:Int) (d:Int) (f:Str):Option Str :=
 (strconv_Itoa c).bind fun i =>
 (xcat [72,84,84,80,47,49,46] i).bind fun j =>
 (xcat j [32]).bind fun k =>
 (strconv_Itoa d).bind fun l =>
 (xcat k l).bind fun o =>
 (xcat o [32]).bind fun p =>
 (xcat p f).bind fun h =>
 (zAY h).bind fun b =>
 (bif ((((b.2.2.2 !=0)||(b.1 !=c))||(b.2.1 !=d))||(b.2.2.1 !=f)) then
  some []
 else
  some h)
def zBj (b:Int) (c:Str):Option Bool :=
 some (((((decide (100≤b))&&(decide (b≤199)))||(b==204))||(b==304))||(c==[72,69,65,68]))
def zDi (b:GField):Option Str :=
 (bif b.fValue==[] then
  (xcat b.fName [58]).bind fun c =>
  some c
 else
  (xcat b.fName [58,32]).bind fun d =>
  (xcat d b.fValue).bind fun f =>
  some f)
def zDI (b:GField):Option Bool :=
 (zAZ b.fName).bind fun c =>
 (bif c then
  (zCw b.fValue).bind fun d =>
  some (d)
 else
  some false).bind fun f =>
 (bif f then
  (zCu b.fValue).bind fun h =>
  some (h==b.fValue)
 else
  some false).bind fun i =>
 (bif i then
  (zDi b).bind fun j =>
  some (decide ((j.length:Int)≤2000))
 else
  some false).bind fun k =>
 some k
def zD0 (b:GField):Option Str :=
 (zDI b).bind fun c =>
 (bif !c then
  some []
 else
  (zDi b).bind fun d =>
  some d)
def zFO (s0_buf:(List UInt8)):Option Unit :=
 some ()
def zE2 (s0_buf:(List UInt8)):Option Unit :=
 some ()
def zBI (s0_buf:List UInt8):Option Unit :=
 some ()
def zAk (b:Str) (s0_buf:(List UInt8)):Option (Int×Unit×(List UInt8)) :=
 (zBI s0_buf).bind fun d =>
 (xapp s0_buf b).bind fun c =>
 some ((b.length:Int),(),c)
def zBr (s0_buf:(List UInt8)):Option Int :=
 some (s0_buf.length:Int)
def zBT (s0_buf:(List UInt8)):Option Str :=
 some s0_buf
def zBG (h:(List GField)):(Int×Int×(List UInt8))→Option ((Int×Int×(List UInt8)) ⊕ ((List UInt8) ⊕ Str))
 | (d,b,c) =>
  (bif decide (b<(h.length:Int)) then
   (xnth h b).bind fun f =>
   (zAe f.fName [67,111,110,116,101,110,116,45,76,101,110,103,116,104]).bind fun j =>
   (bif j then
    some true
   else
    (zAe f.fName [84,114,97,110,115,102,101,114,45,69,110,99,111,100,105,110,103]).bind fun k =>
    some (k)).bind fun l =>
   (bif l then
    some (.inl (d,wr (b+1),c))
   else
    (zD0 f).bind fun i =>
    (bif ((i==[])||(decide (64≤(wr (d+1))))) then
     some true
    else
     some (decide (16000<(c.length:Int)))).bind fun o =>
    (bif o then
     some (.inr (.inr []))
    else
     (xcat i [13,10]).bind fun p =>
     (xapp c p).bind fun r =>
     some (.inl (wr (d+1),wr (b+1),r))))
  else
   some (.inr (.inl c)))
def zBs (b:Str) (h:(List GField)) (c:Int) (i:Str):Option Str :=
 (bif b==[] then
  some []
 else
  (xcat b [13,10]).bind fun j =>
  (xapp ([]:List UInt8) j).bind fun k =>
  (zAB (zBG h) (0,0,k)).bind fun l=>match l with
  | .inr e=>some e
  | .inl d =>
   ((bif decide (0≤c) then
    (zBa c).bind fun o =>
    (xcat [67,111,110,116,101,110,116,45,76,101,110,103,116,104,58,32] o).bind fun p =>
    (xcat p [13,10]).bind fun r =>
    (xapp d r).bind fun t =>
    some t
   else
    some d)).bind fun (u:(List UInt8)) =>
   (xapp u [13,10]).bind fun f =>
   (bif decide (16000<(f.length:Int)) then
    some []
   else
        (xcat f i).bind fun v =>
    some v))
def zAJ (b:GResponse) (d:Str):Option Str :=
 (bif decide (100000<(b.fBody.length:Int)) then
  some []
 else
  (zA6 b.fMinor b.fStatus b.fReason).bind fun c =>
  (zBj b.fStatus d).bind fun f =>
  (bif f then
   (zBs c b.fFields (-1) []).bind fun h =>
   some h
  else
   (zBs c b.fFields (b.fBody.length:Int) b.fBody).bind fun i =>
   some i))
def zDo (b:GEntry) (c:Str):Option Bool :=
 (zEc b 2147483647 c).bind fun d =>
 (zAJ d [71,69,84]).bind fun f =>
 some (f !=[])
def zCP (c:Str):Option Gvariants_domain :=
 (zD2 c).bind fun b =>
 ((bif b==1 then
  some (.inr (.media:Gvariants_domain))
 else
  (bif b==2 then
   some (.inr (.tags:Gvariants_domain))
  else
   ((bif b==3 then
    some (b==3)
   else
    some (b==4))).bind fun (d:Bool) =>
   (bif d then
    some (.inr (.words b:Gvariants_domain))
   else
    some (.inl ()))))).bind fun (f:(Unit ⊕ Gvariants_domain))=>match f with
 | .inr e=>some e
 | .inl _ =>
  some (.texts:Gvariants_domain)
def zGm (d:Str):((List Str)×Bool×Int×Int)→Option (((List Str)×Bool×Int×Int) ⊕ ((List Str)×Int))
 | (f,c,h,b) =>
  (bif decide (b<(d.length:Int)) then
   (bif c then
    (xnth d b).bind fun c29 =>
    some (c29==92)
   else
    some false).bind fun i =>
   (bif i then
    some (.inl (f,c,h,wr ((wr (b+1))+1)))
   else
    (xnth d b).bind fun j =>
    (bif j==34 then
     some (.inl (f,!c,h,wr (b+1)))
    else
     (xnth d b).bind fun c34 =>
     (bif ((c34==59)&&(!c)) then
      (xsub d h b).bind fun k =>
      (xapp f ([k]:List Str)).bind fun l =>
      some (.inl (l,c,wr (b+1),wr (b+1)))
     else
      some (.inl (f,c,h,wr (b+1))))))
  else
   some (.inr (f,h)))
def zKW (b:Str):Option (List Str) :=
 (zAB (zGm b) (([]:List Str),false,0,0)).bind fun c=>match c with
 | (d,f) =>
  (xsub b f b.length).bind fun h =>
  (xapp d ([h]:List Str)).bind fun i =>
  some i
def zJ7 (d:Str):Option (Str×Str×Bool) :=
 (zAW d [61]).bind fun b =>
 (bif !b.2.2 then
  some true
 else
  (zAZ b.1).bind fun f =>
  some (!f)).bind fun h =>
 (bif h then
  some ([],[],false)
 else
  (zAZ b.2.1).bind fun i =>
  ((bif !i then
   (zCf b.2.1).bind fun c =>
   some (c.1,c.2)
  else
   some (b.2.1,b.2.2))).bind fun (j:(Str×Bool)) =>
  match j with
  | (k,l) =>
   (zAO b.1).bind fun o =>
   some (o,k,l))
def zFA (f:(List Str)):((List GParam)×Int)→Option (((List GParam)×Int) ⊕ ((List GParam) ⊕ (Str×(List GParam)×Bool)))
 | (c,b) =>
  (bif decide (b<(f.length:Int)) then
   (xnth f b).bind fun i =>
   (zCu i).bind fun h =>
   (bif h==[] then
    some (.inl (c,wr (b+1)))
   else
    (zJ7 h).bind fun d =>
    (bif !d.2.2 then
     some (.inr (.inr ([],([]:List GParam),false)))
    else
     (xapp c ([(⟨d.1,d.2.1⟩:GParam)]:List GParam)).bind fun j =>
     some (.inl (j,wr (b+1)))))
  else
   some (.inr (.inl c)))
def zGS (d:Str):Option (Str×(List GParam)×Bool) :=
 (zKW d).bind fun b =>
 (xnth b 0).bind fun f =>
 (zCu f).bind fun c =>
 (bif c==[] then
  some ([],([]:List GParam),false)
 else
  (xsub b 1 b.length).bind fun h =>
  (zAB (zFA h) (([]:List GParam),0)).bind fun i=>match i with
  | .inr e=>some e
  | .inl j =>
   some (c,j,true))
def zA4 (d:Str):Option (GMediaType×Bool) :=
 (zGS d).bind fun c =>
 (bif !c.2.2 then
  some ((⟨[],[],([]:List GParam)⟩:GMediaType),false)
 else
  (zAW c.1 [47]).bind fun b =>
  (zAZ b.1).bind fun f =>
  (bif !f then
   some true
  else
   (zAZ b.2.1).bind fun h =>
   some (!h)).bind fun i =>
  (bif (i||((b.1==[42])&&(b.2.1 !=[42]))) then
   some ((⟨[],[],([]:List GParam)⟩:GMediaType),false)
  else
   (zAO b.1).bind fun j =>
   (zAO b.2.1).bind fun k =>
   some ((⟨j,k,c.2.1⟩:GMediaType),true)))
def zCV (c:Str):Option (GMediaType×Bool) :=
 (zA4 c).bind fun b =>
 (bif (((!b.2)||(b.1.fType==[42]))||(b.1.fSub==[42])) then
  some ((⟨[],[],([]:List GParam)⟩:GMediaType),false)
 else
  some (b.1,true))
def zCC (b:GParam) (c:GParam):Option Bool :=
 some (b.fName==c.fName)
def zAM (c:(List GParam)) (d:(GParam→Option Bool)) (b:Int):Option (Int ⊕ (Unit ⊕ Int)) :=
  (bif decide (b<(c.length:Int)) then
   (xnth c b).bind fun f =>
   (d f).bind fun h =>
   (bif h then
    some (.inr (.inr b))
   else
    some (.inl (wr (b+1))))
  else
   some (.inr (.inl ())))
def zAm (b:(List GParam)) (c:(GParam→Option Bool)):Option Int :=
 (zAB (zAM b c) 0).bind fun d=>match d with
 | .inr e=>some e
 | .inl _ =>
  some (-1)
def zAR (b:(List GParam)) (c:(GParam→Option Bool)):Option Bool :=
 (zAm b c).bind fun d =>
 some (decide (0≤d))
def zBQ (c:(GMediaType×Bool)):(Bool×Int)→Option ((Bool×Int) ⊕ Bool)
 | (d,b) =>
  (bif decide (b<(c.1.fParams.length:Int)) then
   (xnth c.1.fParams b).bind fun f =>
   (bif (d&&(f.fName !=[113])) then
    (xsub c.1.fParams 0 b).bind fun h =>
    (zAR h (fun i=>zCC i f)).bind fun j =>
    some (!j)
   else
    some false).bind fun k =>
   some (.inl (k,wr (b+1)))
  else
   some (.inr d))
def zCl (h:Unit) (b:Str):Option (Str×Bool) :=
 (zCV b).bind fun c =>
 (zAB (zBQ c) (c.2,0)).bind fun d =>
 (zAO b).bind fun f =>
 some (f,d)
def zDL (b:Str) (c:Str):Option Int :=
 (zA1 b c).bind fun d =>
 some d
def zH7 (c:Str):(Str×Int)→Option ((Str×Int) ⊕ Int)
 | (b,d) =>
  (zDL b c).bind fun f =>
  (bif f==(-1) then
   some (.inr d)
  else
   (xsub b (wr (f+(c.length:Int))) b.length).bind fun h =>
   some (.inl (h,wr (d+1))))
def zCe (c:Str) (b:Str):Option Int :=
 (bif (b.length:Int)==0 then
  none
 else
  (bif (b.length:Int)==1 then
   (xnth b 0).bind fun d =>
   some (c.count d:Nat)
  else
   (zAB (zH7 b) (c,0)).bind fun f=>some f))
def zBV (h:Str) (i:Str) (k:Int) (j:Int):(Str×Int×(List Str))→Option ((Str×Int×(List Str)) ⊕ (Str×Int×(List Str)))
 | (b,c,d) =>
  (bif decide (c<(wr ((if (wr ((h.length:Int)+1))<j then (wr ((h.length:Int)+1)) else j) - 1))) then
   (zDL b i).bind fun f =>
   (bif decide (f<0) then
    some (.inr (b,c,d))
   else
    (xsub b 0 (wr (f+k))).bind fun l =>
    (xnth d c).bind fun r =>
    (xput d c l).bind fun o =>
    (xsub b (wr (f+(i.length:Int))) b.length).bind fun p =>
    some (.inl (p,wr (c+1),o)))
  else
   some (.inr (b,c,d)))
def zDy (b:Str) (c:Str) (j:Int) (d:Int):Option (List Str) :=
 (bif d==0 then
  some ([]:List Str)
 else
  (bif c==[] then
   none
  else
   ((bif decide (d<0) then
    (zCe b c).bind fun k =>
    some (wr (k+1))
   else
    some d)).bind fun (f:Int) =>
   (xmake (if (wr ((b.length:Int)+1))<f then (wr ((b.length:Int)+1)) else f) ([]:Str)).bind fun l =>
   (zAB (zBV b c j f) (b,0,l)).bind fun o=>match o with
   | (p,h,i) =>
    (xnth i h).bind fun u =>
    (xput i h p).bind fun r =>
    (xsub r 0 (wr (h+1))).bind fun t =>
    some t))
def zF6 (b:Str) (c:Str):Option (List Str) :=
 (zDy b c 0 (-1)).bind fun d =>
 some d
def zCz (d:Bool) (c:Str) (b:Int):Option (Int ⊕ (Unit ⊕ Bool)) :=
  (bif decide (b<(c.length:Int)) then
   (xnth c b).bind fun f =>
   (xnth c b).bind fun c26 =>
   (bif (((decide (c26<97))||(decide (122<c26)))&&(((!d)||(decide (c26<48)))||(decide (57<c26)))) then
    some (.inr (.inr false))
   else
    some (.inl (wr (b+1))))
  else
   some (.inr (.inl ())))
def zC8 (b:Str) (c:Bool):Option Bool :=
 (zAO b).bind fun d =>
 (zAB (zCz c d) 0).bind fun f=>match f with
 | .inr e=>some e
 | .inl _ =>
  some ((b !=[])&&(decide ((b.length:Int)≤8)))
def zEa (c:(List Str)) (b:Int):Option (Int ⊕ (Unit ⊕ Bool)) :=
  (bif decide (b<(c.length:Int)) then
   (xnth c b).bind fun d =>
   (zC8 d (decide (0<b))).bind fun f =>
   (bif !f then
    some (.inr (.inr false))
   else
    some (.inl (wr (b+1))))
  else
   some (.inr (.inl ())))
def zDG (b:Str):Option Bool :=
 (zF6 b [45]).bind fun c =>
 (zAB (zEa c) 0).bind fun d=>match d with
 | .inr e=>some e
 | .inl _ =>
  some true
def zC1 (f:Unit) (b:Str):Option (Str×Bool) :=
 (zAO b).bind fun c =>
 (zDG b).bind fun d =>
 some (c,d)
def zA8 (c:Int) (d:Str):Option Str :=
 (zAO d).bind fun b =>
 (bif c !=4 then
  some b
 else
  (((bif b==[103,122,105,112] then
   some (b==[103,122,105,112])
  else
   some (b==[120,45,103,122,105,112]))).bind fun (f:Bool) =>
  (bif f then
   some (.inr [103,122,105,112])
  else
   ((bif b==[99,111,109,112,114,101,115,115] then
    some (b==[99,111,109,112,114,101,115,115])
   else
    some (b==[120,45,99,111,109,112,114,101,115,115]))).bind fun (h:Bool) =>
   (bif h then
    some (.inr [99,111,109,112,114,101,115,115])
   else
    some (.inl ())))).bind fun (i:(Unit ⊕ Str))=>match i with
  | .inr e=>some e
  | .inl _ =>
   some b)
def zBy (c:Int) (b:Str):Option (Str×Bool) :=
 (zA8 c b).bind fun d =>
 (zAZ b).bind fun f =>
 some (d,(f&&(b !=[42])))
def zCj (i:Unit) (b:Str):Option (Str×Bool) :=
 (bif ((decide (1≤(b.length:Int)))&&(decide ((b.length:Int)≤100))) then
  (zCw b).bind fun c =>
  some (c)
 else
  some false).bind fun d =>
 (bif d then
  (zCu b).bind fun f =>
  some (f==b)
 else
  some false).bind fun h =>
 some (b,h)
def zBo (x:Gvariants_domain) (p0:Str):Option (Str×Bool) :=
 match x with
 | .media=>zCl () p0
 | .tags=>zC1 () p0
 | .words n=>zBy n p0
 | .texts=>zCj () p0
def zES (c:Str) (d:Str) (f:Str):Option Bool :=
 (zCP c).bind fun b =>
 (zBo b d).bind fun h =>
 (zBo b f).bind fun i =>
 some (h.1==i.1)
def zBU (d:GAxis) (h:Gvariants_domain):(Int×(List (Str×Bool)))→Option ((Int×(List (Str×Bool))) ⊕ (Unit ⊕ Bool))
 | (b,f) =>
  (bif decide (b<(d.fValues.length:Int)) then
   (xnth d.fValues b).bind fun i =>
   (zBo h i).bind fun c =>
   (bif !c.2 then
    some true
   else
    (some (mget f c.1 false)).bind fun g38 =>
    some (g38.1)).bind fun j =>
   (bif j then
    some (.inr (.inr false))
   else
    some (.inl (wr (b+1),(mset f c.1 true))))
  else
   some (.inr (.inl ())))
def zDp (b:GAxis):Option Bool :=
 (bif ((decide ((b.fValues.length:Int)<1))||(decide (16<(b.fValues.length:Int)))) then
  some false
 else
  (zCP b.fName).bind fun c =>
  (zAB (zBU b c) (0,([]:List (Str×Bool)))).bind fun d=>match d with
  | .inr e=>some e
  | .inl _ =>
   some true)
def zDY (d:GAxis) (c:(List GAxis)) (b:Int):Option (Int ⊕ (Unit ⊕ (Int ⊕ (Unit ⊕ Bool)))) :=
  (bif decide (b<(c.length:Int)) then
   (xnth c b).bind fun f =>
   (bif d.fName==f.fName then
    some (.inr (.inr (.inr (.inr false))))
   else
    some (.inl (wr (b+1))))
  else
   some (.inr (.inl ())))
def zDM (d:(List GAxis)) (c:Int):Option (Int ⊕ (Unit ⊕ Bool)) :=
  (bif decide (c<(d.length:Int)) then
   (xnth d c).bind fun b =>
   (zAZ b.fName).bind fun f =>
   (bif !f then
    some true
   else
    (zAO b.fName).bind fun h =>
    some (h !=b.fName)).bind fun i =>
   (bif i then
    some true
   else
    (zDp b).bind fun j =>
    some (!j)).bind fun k =>
   (bif k then
    some (.inr (.inr false))
   else
    (xsub d 0 c).bind fun l =>
    (zAB (zDY b l) 0).bind fun o=>match o with
    | .inr e=>some e
    | .inl _ =>
     some (.inl (wr (c+1))))
  else
   some (.inr (.inl ())))
def zBZ (b:(List GAxis)):Option Bool :=
 (bif ((decide ((b.length:Int)<1))||(decide (4<(b.length:Int)))) then
  some false
 else
  (zAB (zDM b) 0).bind fun c=>match c with
  | .inr e=>some e
  | .inl _ =>
   some true)
def zBm (b:Str) (c:GAxis) (d:(List Str)) (f:Int):Option Bool :=
 (xnth d f).bind fun h =>
 (zES c.fName b h).bind fun i =>
 some i
def zAb (f:(List GAxis)) (i:(List Str)):(Int×(List Str))→Option ((Int×(List Str)) ⊕ ((List Str) ⊕ ((List Str)×Bool)))
 | (b,c) =>
  (bif decide (b<(f.length:Int)) then
   (xnth f b).bind fun d =>
   (zAK d.fValues (fun j=>zBm j d i b)).bind fun h =>
   (bif decide (h<0) then
    some (.inr (.inr (([]:List Str),false)))
   else
    (xnth d.fValues h).bind fun k =>
    (xnth c b).bind fun o =>
    (xput c b k).bind fun l =>
    some (.inl (wr (b+1),l)))
  else
   some (.inr (.inl c)))
def zCE (c:(List GAxis)) (b:(List Str)):Option ((List Str)×Bool) :=
 (bif (b.length:Int) !=(c.length:Int) then
  some (([]:List Str),false)
 else
  (xmake (b.length:Int) ([]:Str)).bind fun d =>
  (zAB (zAb c b) (0,d)).bind fun f=>match f with
  | .inr e=>some e
  | .inl h =>
   some (h,true))
def zCn (c:Str) (b:Str):Option Str :=
 (bif ((c==[])||(b==[])) then
  some c
 else
  (bif (b.length:Int)==1 then
   (xnth b 0).bind fun d =>
   some (decide (d<128))
  else
   some false).bind fun f =>
  (bif f then
   (xnth b 0).bind fun h =>
   (zBM c h).bind fun i =>
   some i
  else
   (strings_makeASCIISet b).bind fun k =>
   (zBe c b).bind fun j =>
   some j))
def zBL (c:Str) (b:Int):Option (Int ⊕ (Unit ⊕ Int)) :=
  (bif decide (b<(c.length:Int)) then
   (xnth c b).bind fun d =>
   (bif d==92 then
    some (.inl (wr ((wr (b+1))+1)))
   else
    (bif d==34 then
     some (.inr (.inr (wr (b+1))))
    else
     some (.inl (wr (b+1)))))
  else
   some (.inr (.inl ())))
def zFV (b:Str):Option Int :=
 (zAB (zBL b) 1).bind fun c=>match c with
 | .inr e=>some e
 | .inl _ =>
  some 0
def zEb (b:(List Str)) (c:(List Str)):Option Bool :=
 (zAS b c).bind fun d =>
 some d
def zAX (c:(List (List Str))) (d:((List Str)→Option Bool)) (b:Int):Option (Int ⊕ (Unit ⊕ Int)) :=
  (bif decide (b<(c.length:Int)) then
   (xnth c b).bind fun f =>
   (d f).bind fun h =>
   (bif h then
    some (.inr (.inr b))
   else
    some (.inl (wr (b+1))))
  else
   some (.inr (.inl ())))
def zCD (b:(List (List Str))) (c:((List Str)→Option Bool)):Option Int :=
 (zAB (zAX b c) 0).bind fun d=>match d with
 | .inr e=>some e
 | .inl _ =>
  some (-1)
def zAL (b:(List (List Str))) (c:((List Str)→Option Bool)):Option Bool :=
 (zCD b c).bind fun d =>
 some (decide (0≤d))
def zI6 (b:Str):Option Int :=
 (zAh b [32,9,40,41,44,34]).bind fun c =>
 (bif decide (0≤c) then
  some c
 else
  some (b.length:Int))
def zER:(Str×(List Str))→Option ((Str×(List Str)) ⊕ ((List Str)×Bool))
 | (i,d) =>
  (zCn i [32]).bind fun b =>
  (bif b==[] then
   some (.inr (d,true))
  else
   (zI6 b).bind fun j =>
   (xnth b 0).bind fun c34 =>
   ((bif c34==34 then
    (zFV b).bind fun k =>
    some k
   else
    some j)).bind fun (c:Int) =>
   (bif c==0 then
    some true
   else
    (bif decide (c<(b.length:Int)) then
     (xnth b c).bind fun l =>
     some (l !=32)
    else
     some false).bind fun o =>
    some (o)).bind fun p =>
   (bif p then
    some (.inr (([]:List Str),false))
   else
    (xsub b 0 c).bind fun f =>
    (xnth b 0).bind fun c57 =>
    ((bif c57==34 then
     (zCf f).bind fun h =>
     (bif !h.2 then
      some (.inr (.inr (([]:List Str),false)))
     else
      some (.inl h.1))
    else
     some (.inl f))).bind fun (r:(Str ⊕ ((Str×(List Str)) ⊕ ((List Str)×Bool))))=>match r with
    | .inr e=>some e
    | .inl t =>
     (xapp d ([t]:List Str)).bind fun u =>
     (xsub b c b.length).bind fun v =>
     some (.inl (v,u))))
def zHK (b:Str):Option ((List Str)×Bool) :=
 (bif decide ((b.length:Int)<2) then
  some true
 else
  (xnth b 0).bind fun c =>
  some (c !=40)).bind fun d =>
 (bif d then
  some true
 else
  (xnth b (wr ((b.length:Int) - 1))).bind fun f =>
  some (f !=41)).bind fun h =>
 (bif h then
  some (([]:List Str),false)
 else
  (xsub b 1 (wr ((b.length:Int) - 1))).bind fun i =>
  (zAB (zER) (i,([]:List Str))).bind fun j=>some j)
def zDU (d:(List Str)):((List GAxis)×Int)→Option (((List GAxis)×Int) ⊕ ((List GAxis) ⊕ ((List GAxis)×Int)))
 | (f,b) =>
  (bif decide (b<(d.length:Int)) then
   (xnth d b).bind fun i =>
   (zAW i [61]).bind fun c =>
   (zHK c.2.1).bind fun h =>
   (bif !h.2 then
    some true
   else
    (zAZ c.1).bind fun j =>
    some (!j)).bind fun k =>
   (bif k then
    some (.inr (.inr (([]:List GAxis),1)))
   else
    (zAO c.1).bind fun l =>
    (xapp f ([(⟨l,h.1⟩:GAxis)]:List GAxis)).bind fun o =>
    some (.inl (o,wr (b+1))))
  else
   some (.inr (.inl f)))
def zFB (b:(List GField)):Option ((List GAxis)×Int) :=
 (zAv b [86,97,114,105,97,110,116,115]).bind fun d =>
 (bif !d then
  some (([]:List GAxis),12)
 else
  (zC3 b [86,97,114,105,97,110,116,115]).bind fun f =>
  (zAB (zDU f) (([]:List GAxis),0)).bind fun h=>match h with
  | .inr e=>some e
  | .inl c =>
   (zBZ c).bind fun i =>
   (bif !i then
    some (([]:List GAxis),11)
   else
    some (c,0)))
def zD3 (c:(List Str)):((List (List Str))×Int)→Option (((List (List Str))×Int) ⊕ ((List (List Str)) ⊕ ((List (List Str))×Int)))
 | (d,b) =>
  (bif decide (b<(c.length:Int)) then
   (xnth c b).bind fun h =>
   (zHK h).bind fun f =>
   (bif !f.2 then
    some (.inr (.inr (([]:List (List Str)),1)))
   else
    (xapp d ([f.1]:List (List Str))).bind fun i =>
    some (.inl (i,wr (b+1))))
  else
   some (.inr (.inl d)))
def zBE (h:(List GAxis)) (f:(List (List Str))):((List (List Str))×Int)→Option (((List (List Str))×Int) ⊕ ((List (List Str)) ⊕ ((List (List Str))×Int)))
 | (b,c) =>
  (bif decide (c<(f.length:Int)) then
   (xnth f c).bind fun i =>
   (zCE h i).bind fun d =>
   (bif !d.2 then
    some (.inr (.inr (([]:List (List Str)),11)))
   else
    (zAL b (fun j=>zEb j d.1)).bind fun k =>
    (bif !k then
     (xapp b ([d.1]:List (List Str))).bind fun l =>
     some (.inl (l,wr (c+1)))
    else
     some (.inl (b,wr (c+1)))))
  else
   some (.inr (.inl b)))
def zDv (d:(List GField)) (b:(List GAxis)):Option ((List (List Str))×Int) :=
 (zBZ b).bind fun f =>
 (bif !f then
  some (([]:List (List Str)),10)
 else
  (zC3 d [86,97,114,105,97,110,116,45,75,101,121]).bind fun c =>
  (bif (c.length:Int)==0 then
   some (([]:List (List Str)),12)
  else
   (zAB (zD3 c) (([]:List (List Str)),0)).bind fun h=>match h with
   | .inr e=>some e
   | .inl i =>
    (zAB (zBE b i) (([]:List (List Str)),0)).bind fun j=>match j with
    | .inr e=>some e
    | .inl k =>
     some (k,0)))
def zEJ (c:(List Str)):(Int×(List (Str×Bool)))→Option ((Int×(List (Str×Bool))) ⊕ (List (Str×Bool)))
 | (b,d) =>
  (bif decide (b<(c.length:Int)) then
   (xnth c b).bind fun f =>
   (zAO f).bind fun h =>
   some (.inl (wr (b+1),(mset d h true)))
  else
   some (.inr d))
def zGp (d:(List GField)) (h:(List (Str×Bool))):((List GField)×Int)→Option (((List GField)×Int) ⊕ (List GField))
 | (c,b) =>
  (bif decide (b<(d.length:Int)) then
   (xnth d b).bind fun f =>
   (zAO f.fName).bind fun i =>
   (some (mget h i false)).bind fun g103 =>
   (bif !g103.1 then
    (xapp c ([f]:List GField)).bind fun j =>
    some (.inl (j,wr (b+1)))
   else
    some (.inl (c,wr (b+1))))
  else
   some (.inr c))
def zFZ (b:(List GField)):Option (List GField) :=
 (zC3 b [67,111,110,110,101,99,116,105,111,110]).bind fun c =>
 (zAB (zEJ c) (0,([]:List (Str×Bool)))).bind fun d =>
 (some ((pieces 32 [104,111,115,116,32,99,97,99,104,101,45,99,111,110,116,114,111,108,32,118,97,114,121,32,118,97,114,105,97,110,116,115,32,118,97,114,105,97,110,116,45,107,101,121,32,118,105,97]).foldl (fun m k=>mdel m k) d)).bind fun f =>
 (some ((pieces 32 [99,111,110,110,101,99,116,105,111,110,32,107,101,101,112,45,97,108,105,118,101,32,112,114,111,120,121,45,99,111,110,110,101,99,116,105,111,110,32,112,114,111,120,121,45,97,117,116,104,101,110,116,105,99,97,116,101,32,112,114,111,120,121,45,97,117,116,104,111,114,105,122,97,116,105,111,110,32,116,101,32,116,114,97,105,108,101,114,32,116,114,97,110,115,102,101,114,45,101,110,99,111,100,105,110,103,32,99,111,110,116,101,110,116,45,108,101,110,103,116,104,32,117,112,103,114,97,100,101]).foldl (fun m k=>mset m k true) f)).bind fun h =>
 (zAB (zGp b h) (([]:List GField),0)).bind fun i =>
 some i
def zIu (k:GRequest) (b:GResponse) (d:Int) (f:Int):Option (GEntry×(List GAxis)) :=
 (zFZ b.fFields).bind fun h =>
 (zFB b.fFields).bind fun c =>
 (zDv b.fFields c.1).bind fun i =>
 (bif ((c.2==0)&&(i.2==0)) then
  some ((⟨i.1,([]:List Str),([]:List Str),b.fReason,h,b.fBody,d,f⟩:GEntry),c.1)
 else
  (zEK b.fFields).bind fun j =>
  (zEU j.1 k.fFields).bind fun l =>
  some ((⟨([]:List (List Str)),j.1,l,b.fReason,h,b.fBody,d,f⟩:GEntry),([]:List GAxis)))
def zFS (c:(List GParam)) (d:GParam) (b:Int):Option (Int ⊕ (Unit ⊕ Bool)) :=
  (bif decide (b<(c.length:Int)) then
   (xnth c b).bind fun f =>
   (bif f.fName==d.fName then
    (zAe f.fValue d.fValue).bind fun h =>
    some (h)
   else
    some false).bind fun i =>
   (bif i then
    some (.inr (.inr true))
   else
    some (.inl (wr (b+1))))
  else
   some (.inr (.inl ())))
def zEm (b:(List GParam)) (c:GParam):Option Bool :=
 (zAB (zFS b c) 0).bind fun d=>match d with
 | .inr e=>some e
 | .inl _ =>
  some false
def zGg (c:GMediaType) (d:GMediaType) (b:Int):Option (Int ⊕ (Unit ⊕ Int)) :=
  (bif decide (b<(c.fParams.length:Int)) then
   (xnth c.fParams b).bind fun f =>
   (zEm d.fParams f).bind fun h =>
   (bif !h then
    some (.inr (.inr (-1)))
   else
    some (.inl (wr (b+1))))
  else
   some (.inr (.inl ())))
def zEY (b:GMediaType) (c:GMediaType):Option Int :=
 (bif ((b.fType==[42])&&(b.fSub==[42])) then
  some 0
 else
  (bif ((b.fSub==[42])&&(b.fType==c.fType)) then
   some 1
  else
   (bif ((b.fType !=c.fType)||(b.fSub !=c.fSub)) then
    some (-1)
   else
    (zAB (zGg b c) 0).bind fun d=>match d with
    | .inr e=>some e
    | .inl _ =>
     some (wr (2+(b.fParams.length:Int))))))
end
end Go.Eng.Pure
