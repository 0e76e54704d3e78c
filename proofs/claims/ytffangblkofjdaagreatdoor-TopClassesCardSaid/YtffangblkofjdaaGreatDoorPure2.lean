/- A part. -/
import Derived.Test.YtffangblkofjdaaGreatDoorPure1
set_option linter.unusedVariables false
namespace Go.Eng.Pure
open Go Go.Eng
set_option linter.unusedVariables false
noncomputable section
def zHC (d:(List Str)):((List Str)×Int)→Option (((List Str)×Int) ⊕ ((List Str) ⊕ ((List Str)×Bool)))
 | (f,b) =>
  (bif decide (b<(d.length:Int)) then
   (xnth d b).bind fun c =>
   (zAW c).bind fun h =>
   (bif ((!h)||(c==[42])) then
    some (.inr (.inr (([]:List Str),false)))
   else
    (zAQ c).bind fun i =>
    (xapp f ([i]:List Str)).bind fun j =>
    some (.inl (j,wr (b+1))))
  else
   some (.inr (.inl f)))
def zJo (c:(List GField)):Option ((List Str)×Bool) :=
 (zB6 c [86,97,114,121]).bind fun b =>
 (bif decide (64≤(b.length:Int)) then
  some (([]:List Str),false)
 else
  (zAE (zHC b) (([]:List Str),0)).bind fun d=>match d with
  | .inr e=>some e
  | .inl f =>
   (slices_Sort_string f).bind fun h =>
   (slices_Compact_string h).bind fun i =>
   some (i,true))
def zFt (b:Str):Option Bool :=
 some ((((b !=[71,69,84])&&(b !=[72,69,65,68]))&&(b !=[79,80,84,73,79,78,83]))&&(b !=[84,82,65,67,69]))
def zD4 (b:Int):Option Str :=
 (strconv_Itoa b).bind fun c =>
 some c
def zRp (b:(List GField)) (c:Int) (d:Str):Option (List GField) :=
 (xapp ([]:List GField) b).bind fun f =>
 (zD4 c).bind fun h =>
 (xcat [49,46] h).bind fun i =>
 (xcat i [32]).bind fun j =>
 (xcat j d).bind fun k =>
 (xapp f ([(⟨[86,105,97],k⟩:GField)]:List GField)).bind fun l =>
 some l
def zES (b:Str) (d:Str):Option (Str×Str×Bool) :=
 (zAs b d).bind fun c =>
 (bif decide (0≤c) then
  (xsub b 0 c).bind fun f =>
  (xsub b (wr (c+(d.length:Int))) b.length).bind fun h =>
  some (f,h,true)
 else
  some (b,[],false))
def zCG (c:Str) (d:Str):Option (Str×Str×Bool) :=
 (zES c d).bind fun b =>
 some (b.1,b.2.1,b.2.2)
def zEI (b:UInt8):Option Bool :=
 some ((decide (48≤b))&&(decide (b≤57)))
def zIM (b:Str):Option (Int×Bool) :=
 (bif (b.length:Int) !=3 then
  some true
 else
  (xnth b 0).bind fun c =>
  some (decide (c<49))).bind fun d =>
 (bif d then
  some true
 else
  (xnth b 0).bind fun f =>
  some (decide (53<f))).bind fun h =>
 (bif h then
  some true
 else
  (xnth b 1).bind fun c11 =>
  (zEI c11).bind fun i =>
  some (!i)).bind fun j =>
 (bif j then
  some true
 else
  (xnth b 2).bind fun c23 =>
  (zEI c23).bind fun k =>
  some (!k)).bind fun l =>
 (bif l then
  some (0,false)
 else
  (zEd b).bind fun o =>
  some (o.1,true))
def zIR (b:Int) (c:Str):Option Bool :=
 some (((((decide (100≤b))&&(decide (b≤199)))||(b==204))||(b==304))||(c==[72,69,65,68]))
def zEt (b:GField):Option Str :=
 (bif b.fValue==[] then
  (xcat b.fName [58]).bind fun c =>
  some c
 else
  (xcat b.fName [58,32]).bind fun d =>
  (xcat d b.fValue).bind fun f =>
  some f)
def zEK (b:GField):Option Bool :=
 (zAW b.fName).bind fun c =>
 (bif c then
  (zCv b.fValue).bind fun d =>
  some (d)
 else
  some false).bind fun f =>
 (bif f then
  (zB2 b.fValue).bind fun h =>
  some (h==b.fValue)
 else
  some false).bind fun i =>
 (bif i then
  (zEt b).bind fun j =>
  some (decide ((j.length:Int)≤2000))
 else
  some false).bind fun k =>
 some k
def zDp (b:GField):Option Str :=
 (zEK b).bind fun c =>
 (bif !c then
  some []
 else
  (zEt b).bind fun d =>
  some d)
def zDh (s0_buf:(List UInt8)):Option Unit :=
 some ()
def zDW (s0_buf:(List UInt8)):Option Unit :=
 some ()
def zAt (s0_buf:List UInt8):Option Unit :=
 some ()
def zAD (b:Str) (s0_buf:(List UInt8)):Option (Int×Unit×(List UInt8)) :=
 (zAt s0_buf).bind fun d =>
 (xapp s0_buf b).bind fun c =>
 some ((b.length:Int),(),c)
def zBF (s0_buf:(List UInt8)):Option Int :=
 some (s0_buf.length:Int)
def zAa (s0_buf:(List UInt8)):Option Str :=
 some s0_buf
def zFB (h:(List GField)):(Int×Int×(List UInt8))→Option ((Int×Int×(List UInt8)) ⊕ ((List UInt8) ⊕ Str))
 | (d,b,c) =>
  (bif decide (b<(h.length:Int)) then
   (xnth h b).bind fun f =>
   (zAz f.fName [67,111,110,116,101,110,116,45,76,101,110,103,116,104]).bind fun j =>
   (bif j then
    some true
   else
    (zAz f.fName [84,114,97,110,115,102,101,114,45,69,110,99,111,100,105,110,103]).bind fun k =>
    some (k)).bind fun l =>
   (bif l then
    some (.inl (d,wr (b+1),c))
   else
    (zDp f).bind fun i =>
    (bif ((i==[])||(decide (64≤(wr (d+1))))) then
     some true
    else
     (zBF c).bind fun o =>
     some (decide (16000<o))).bind fun p =>
    (bif p then
     some (.inr (.inr []))
    else
     (xcat i [13,10]).bind fun r =>
     (zAD r c).bind fun t =>
     some (.inl (wr (d+1),wr (b+1),t.2.2))))
  else
   some (.inr (.inl c)))
def zGf (b:Str) (h:(List GField)) (c:Int) (i:Str):Option Str :=
 (bif b==[] then
  some []
 else
  (xcat b [13,10]).bind fun j =>
  (zAD j ([]:List UInt8)).bind fun k =>
  (zAE (zFB h) (0,0,k.2.2)).bind fun l=>match l with
  | .inr e=>some e
  | .inl d =>
   ((bif decide (0≤c) then
    (zD4 c).bind fun o =>
    (xcat [67,111,110,116,101,110,116,45,76,101,110,103,116,104,58,32] o).bind fun p =>
    (xcat p [13,10]).bind fun r =>
    (zAD r d).bind fun t =>
    some t.2.2
   else
    some d)).bind fun (u:(List UInt8)) =>
   (zAD [13,10] u).bind fun f =>
   (zBF f.2.2).bind fun v =>
   (bif decide (16000<v) then
    some []
   else
    (zAa f.2.2).bind fun x =>
    (xcat x i).bind fun z =>
    some z))
def zBl (c:Str):Option Gvariants_domain :=
 (zCk c).bind fun b =>
 ((bif b==1 then
  some (.inr (.media:Gvariants_domain))
 else
  (bif b==2 then
   some (.inr (.tags:Gvariants_domain))
  else
   ((bif b==3 then
    some (b==3)
   else
    some (b==4))).bind fun (d:Bool) =>
   (bif d then
    some (.inr (.words b:Gvariants_domain))
   else
    some (.inl ()))))).bind fun (f:(Unit ⊕ Gvariants_domain))=>match f with
 | .inr e=>some e
 | .inl _ =>
  some (.texts:Gvariants_domain)
def zDn (d:Str):((List Str)×Bool×Int×Int)→Option (((List Str)×Bool×Int×Int) ⊕ ((List Str)×Int))
 | (f,c,h,b) =>
  (bif decide (b<(d.length:Int)) then
   (bif c then
    (xnth d b).bind fun c29 =>
    some (c29==92)
   else
    some false).bind fun i =>
   (bif i then
    some (.inl (f,c,h,wr ((wr (b+1))+1)))
   else
    (xnth d b).bind fun j =>
    (bif j==34 then
     some (.inl (f,!c,h,wr (b+1)))
    else
     (xnth d b).bind fun k =>
     (bif ((k==59)&&(!c)) then
      (xsub d h b).bind fun l =>
      (xapp f ([l]:List Str)).bind fun o =>
      some (.inl (o,c,wr (b+1),wr (b+1)))
     else
      some (.inl (f,c,h,wr (b+1))))))
  else
   some (.inr (f,h)))
def zHN (b:Str):Option (List Str) :=
 (zAE (zDn b) (([]:List Str),false,0,0)).bind fun c=>match c with
 | (d,f) =>
  (xsub b f b.length).bind fun h =>
  (xapp d ([h]:List Str)).bind fun i =>
  some i
def zHQ (d:Str):Option (Str×Str×Bool) :=
 (zCG d [61]).bind fun b =>
 (bif !b.2.2 then
  some true
 else
  (zAW b.1).bind fun f =>
  some (!f)).bind fun h =>
 (bif h then
  some ([],[],false)
 else
  (zAW b.2.1).bind fun i =>
  ((bif !i then
   (zBr b.2.1).bind fun c =>
   some (c.1,c.2)
  else
   some (b.2.1,b.2.2))).bind fun (j:(Str×Bool)) =>
  match j with
  | (k,l) =>
   (zAQ b.1).bind fun o =>
   some (o,k,l))
def zDZ (f:(List Str)):((List GParam)×Int)→Option (((List GParam)×Int) ⊕ ((List GParam) ⊕ (Str×(List GParam)×Bool)))
 | (c,b) =>
  (bif decide (b<(f.length:Int)) then
   (xnth f b).bind fun i =>
   (zB2 i).bind fun h =>
   (bif h==[] then
    some (.inl (c,wr (b+1)))
   else
    (zHQ h).bind fun d =>
    (bif !d.2.2 then
     some (.inr (.inr ([],([]:List GParam),false)))
    else
     (xapp c ([(⟨d.1,d.2.1⟩:GParam)]:List GParam)).bind fun j =>
     some (.inl (j,wr (b+1)))))
  else
   some (.inr (.inl c)))
def zEC (d:Str):Option (Str×(List GParam)×Bool) :=
 (zHN d).bind fun b =>
 (xnth b 0).bind fun f =>
 (zB2 f).bind fun c =>
 (bif c==[] then
  some ([],([]:List GParam),false)
 else
  (xsub b 1 b.length).bind fun h =>
  (zAE (zDZ h) (([]:List GParam),0)).bind fun i=>match i with
  | .inr e=>some e
  | .inl j =>
   some (c,j,true))
def zAn (d:Str):Option (GMediaType×Bool) :=
 (zEC d).bind fun c =>
 (bif !c.2.2 then
  some ((⟨[],[],([]:List GParam)⟩:GMediaType),false)
 else
  (zCG c.1 [47]).bind fun b =>
  (zAW b.1).bind fun f =>
  (bif !f then
   some true
  else
   (zAW b.2.1).bind fun h =>
   some (!h)).bind fun i =>
  (bif (i||((b.1==[42])&&(b.2.1 !=[42]))) then
   some ((⟨[],[],([]:List GParam)⟩:GMediaType),false)
  else
   (zAQ b.1).bind fun j =>
   (zAQ b.2.1).bind fun k =>
   some ((⟨j,k,c.2.1⟩:GMediaType),true)))
def zBj (c:Str):Option (GMediaType×Bool) :=
 (zAn c).bind fun b =>
 (bif (((!b.2)||(b.1.fType==[42]))||(b.1.fSub==[42])) then
  some ((⟨[],[],([]:List GParam)⟩:GMediaType),false)
 else
  some (b.1,true))
def zBX (b:GParam) (c:GParam):Option Bool :=
 some (b.fName==c.fName)
def zAG (c:(List GParam)) (d:(GParam→Option Bool)) (b:Int):Option (Int ⊕ (Unit ⊕ Int)) :=
  (bif decide (b<(c.length:Int)) then
   (xnth c b).bind fun f =>
   (d f).bind fun h =>
   (bif h then
    some (.inr (.inr b))
   else
    some (.inl (wr (b+1))))
  else
   some (.inr (.inl ())))
def zAP (b:(List GParam)) (c:(GParam→Option Bool)):Option Int :=
 (zAE (zAG b c) 0).bind fun d=>match d with
 | .inr e=>some e
 | .inl _ =>
  some (-1)
def zAR (b:(List GParam)) (c:(GParam→Option Bool)):Option Bool :=
 (zAP b c).bind fun d =>
 some (decide (0≤d))
def zAw (c:(GMediaType×Bool)):(Bool×Int)→Option ((Bool×Int) ⊕ Bool)
 | (d,b) =>
  (bif decide (b<(c.1.fParams.length:Int)) then
   (xnth c.1.fParams b).bind fun f =>
   (bif (d&&(f.fName !=[113])) then
    (xsub c.1.fParams 0 b).bind fun h =>
    (zAR h (fun i=>zBX i f)).bind fun j =>
    some (!j)
   else
    some false).bind fun k =>
   some (.inl (k,wr (b+1)))
  else
   some (.inr d))
def zBt (h:Unit) (b:Str):Option (Str×Bool) :=
 (zBj b).bind fun c =>
 (zAE (zAw c) (c.2,0)).bind fun d =>
 (zAQ b).bind fun f =>
 some (f,d)
def zCO (b:Str) (c:Str):Option Int :=
 (zAs b c).bind fun d =>
 some d
def zFc (c:Str):(Str×Int)→Option ((Str×Int) ⊕ Int)
 | (b,d) =>
  (zCO b c).bind fun f =>
  (bif f==(-1) then
   some (.inr d)
  else
   (xsub b (wr (f+(c.length:Int))) b.length).bind fun h =>
   some (.inl (h,wr (d+1))))
def zBw (c:Str) (b:Str):Option Int :=
 (bif (b.length:Int)==0 then
  none
 else
  (bif (b.length:Int)==1 then
   (xnth b 0).bind fun d =>
   some (c.count d:Nat)
  else
   (zAE (zFc b) (c,0)).bind fun f=>some f))
def zAr (h:Str) (i:Str) (k:Int) (j:Int):(Str×Int×(List Str))→Option ((Str×Int×(List Str)) ⊕ (Str×Int×(List Str)))
 | (b,c,d) =>
  (bif decide (c<(wr ((if (wr ((h.length:Int)+1))<j then (wr ((h.length:Int)+1)) else j) - 1))) then
   (zCO b i).bind fun f =>
   (bif decide (f<0) then
    some (.inr (b,c,d))
   else
    (xsub b 0 (wr (f+k))).bind fun l =>
    (xnth d c).bind fun r =>
    (xput d c l).bind fun o =>
    (xsub b (wr (f+(i.length:Int))) b.length).bind fun p =>
    some (.inl (p,wr (c+1),o)))
  else
   some (.inr (b,c,d)))
def zCg (b:Str) (c:Str) (j:Int) (d:Int):Option (List Str) :=
 (bif d==0 then
  some ([]:List Str)
 else
  (bif c==[] then
   none
  else
   ((bif decide (d<0) then
    (zBw b c).bind fun k =>
    some (wr (k+1))
   else
    some d)).bind fun (f:Int) =>
   (xmake (if (wr ((b.length:Int)+1))<f then (wr ((b.length:Int)+1)) else f) ([]:Str)).bind fun l =>
   (zAE (zAr b c j f) (b,0,l)).bind fun o=>match o with
   | (p,h,i) =>
    (xnth i h).bind fun u =>
    (xput i h p).bind fun r =>
    (xsub r 0 (wr (h+1))).bind fun t =>
    some t))
def zD0 (b:Str) (c:Str):Option (List Str) :=
 (zCg b c 0 (-1)).bind fun d =>
 some d
def zBU (d:Bool) (c:Str) (b:Int):Option (Int ⊕ (Unit ⊕ Bool)) :=
  (bif decide (b<(c.length:Int)) then
   (xnth c b).bind fun c24 =>
   (xnth c b).bind fun c26 =>
   (bif (((decide (c26<97))||(decide (122<c26)))&&(((!d)||(decide (c26<48)))||(decide (57<c26)))) then
    some (.inr (.inr false))
   else
    some (.inl (wr (b+1))))
  else
   some (.inr (.inl ())))
def zCF (b:Str) (c:Bool):Option Bool :=
 (zAQ b).bind fun d =>
 (zAE (zBU c d) 0).bind fun f=>match f with
 | .inr e=>some e
 | .inl _ =>
  some ((b !=[])&&(decide ((b.length:Int)≤8)))
def zC4 (c:(List Str)) (b:Int):Option (Int ⊕ (Unit ⊕ Bool)) :=
  (bif decide (b<(c.length:Int)) then
   (xnth c b).bind fun d =>
   (zCF d (decide (0<b))).bind fun f =>
   (bif !f then
    some (.inr (.inr false))
   else
    some (.inl (wr (b+1))))
  else
   some (.inr (.inl ())))
def zCC (b:Str):Option Bool :=
 (zD0 b [45]).bind fun c =>
 (zAE (zC4 c) 0).bind fun d=>match d with
 | .inr e=>some e
 | .inl _ =>
  some true
def zB5 (f:Unit) (b:Str):Option (Str×Bool) :=
 (zAQ b).bind fun c =>
 (zCC b).bind fun d =>
 some (c,d)
def zAo (c:Int) (d:Str):Option Str :=
 (zAQ d).bind fun b =>
 (bif c !=4 then
  some b
 else
  (((bif b==[103,122,105,112] then
   some (b==[103,122,105,112])
  else
   some (b==[120,45,103,122,105,112]))).bind fun (f:Bool) =>
  (bif f then
   some (.inr [103,122,105,112])
  else
   ((bif b==[99,111,109,112,114,101,115,115] then
    some (b==[99,111,109,112,114,101,115,115])
   else
    some (b==[120,45,99,111,109,112,114,101,115,115]))).bind fun (h:Bool) =>
   (bif h then
    some (.inr [99,111,109,112,114,101,115,115])
   else
    some (.inl ())))).bind fun (i:(Unit ⊕ Str))=>match i with
  | .inr e=>some e
  | .inl _ =>
   some b)
def zBL (c:Int) (b:Str):Option (Str×Bool) :=
 (zAo c b).bind fun d =>
 (zAW b).bind fun f =>
 some (d,(f&&(b !=[42])))
def zBq (i:Unit) (b:Str):Option (Str×Bool) :=
 (bif ((decide (1≤(b.length:Int)))&&(decide ((b.length:Int)≤100))) then
  (zCv b).bind fun c =>
  some (c)
 else
  some false).bind fun d =>
 (bif d then
  (zB2 b).bind fun f =>
  some (f==b)
 else
  some false).bind fun h =>
 some (b,h)
def zBE (x:Gvariants_domain) (p0:Str):Option (Str×Bool) :=
 match x with
 | .media=>zBt () p0
 | .tags=>zB5 () p0
 | .words n=>zBL n p0
 | .texts=>zBq () p0
def zDF (c:Str) (d:Str) (f:Str):Option Bool :=
 (zBl c).bind fun b =>
 (zBE b d).bind fun h =>
 (zBE b f).bind fun i =>
 some (h.1==i.1)
def zA0 (d:GAxis) (h:Gvariants_domain):(Int×(List (Str×Bool)))→Option ((Int×(List (Str×Bool))) ⊕ (Unit ⊕ Bool))
 | (b,f) =>
  (bif decide (b<(d.fValues.length:Int)) then
   (xnth d.fValues b).bind fun i =>
   (zBE h i).bind fun c =>
   (bif !c.2 then
    some true
   else
    (some (mget f c.1 false)).bind fun g38 =>
    some (g38.1)).bind fun j =>
   (bif j then
    some (.inr (.inr false))
   else
    some (.inl (wr (b+1),(mset f c.1 true))))
  else
   some (.inr (.inl ())))
def zCb (b:GAxis):Option Bool :=
 (bif ((decide ((b.fValues.length:Int)<1))||(decide (16<(b.fValues.length:Int)))) then
  some false
 else
  (zBl b.fName).bind fun c =>
  (zAE (zA0 b c) (0,([]:List (Str×Bool)))).bind fun d=>match d with
  | .inr e=>some e
  | .inl _ =>
   some true)
def zCU (d:GAxis) (c:(List GAxis)) (b:Int):Option (Int ⊕ (Unit ⊕ (Int ⊕ (Unit ⊕ Bool)))) :=
  (bif decide (b<(c.length:Int)) then
   (xnth c b).bind fun f =>
   (bif d.fName==f.fName then
    some (.inr (.inr (.inr (.inr false))))
   else
    some (.inl (wr (b+1))))
  else
   some (.inr (.inl ())))
def zCP (d:(List GAxis)) (c:Int):Option (Int ⊕ (Unit ⊕ Bool)) :=
  (bif decide (c<(d.length:Int)) then
   (xnth d c).bind fun b =>
   (zAW b.fName).bind fun f =>
   (bif !f then
    some true
   else
    (zAQ b.fName).bind fun h =>
    some (h !=b.fName)).bind fun i =>
   (bif i then
    some true
   else
    (zCb b).bind fun j =>
    some (!j)).bind fun k =>
   (bif k then
    some (.inr (.inr false))
   else
    (xsub d 0 c).bind fun l =>
    (zAE (zCU b l) 0).bind fun o=>match o with
    | .inr e=>some e
    | .inl _ =>
     some (.inl (wr (c+1))))
  else
   some (.inr (.inl ())))
def zA3 (b:(List GAxis)):Option Bool :=
 (bif ((decide ((b.length:Int)<1))||(decide (4<(b.length:Int)))) then
  some false
 else
  (zAE (zCP b) 0).bind fun c=>match c with
  | .inr e=>some e
  | .inl _ =>
   some true)
def zCZ (b:Str) (c:GAxis) (d:(List Str)) (f:Int):Option Bool :=
 (xnth d f).bind fun h =>
 (zDF c.fName b h).bind fun i =>
 some i
def zDo (f:(List GAxis)) (i:(List Str)):(Int×(List Str))→Option ((Int×(List Str)) ⊕ ((List Str) ⊕ ((List Str)×Bool)))
 | (b,c) =>
  (bif decide (b<(f.length:Int)) then
   (xnth f b).bind fun d =>
   (zAU d.fValues (fun j=>zCZ j d i b)).bind fun h =>
   (bif decide (h<0) then
    some (.inr (.inr (([]:List Str),false)))
   else
    (xnth d.fValues h).bind fun k =>
    (xnth c b).bind fun o =>
    (xput c b k).bind fun l =>
    some (.inl (wr (b+1),l)))
  else
   some (.inr (.inl c)))
def zEa (c:(List GAxis)) (b:(List Str)):Option ((List Str)×Bool) :=
 (bif (b.length:Int) !=(c.length:Int) then
  some (([]:List Str),false)
 else
  (xmake (b.length:Int) ([]:Str)).bind fun d =>
  (zAE (zDo c b) (0,d)).bind fun f=>match f with
  | .inr e=>some e
  | .inl h =>
   some (h,true))
def zDq (c:Str) (b:Str):Option Str :=
 (bif ((c==[])||(b==[])) then
  some c
 else
  (bif (b.length:Int)==1 then
   (xnth b 0).bind fun c6 =>
   some (decide (c6<128))
  else
   some false).bind fun d =>
  (bif d then
   (xnth b 0).bind fun c9 =>
   (zBi c c9).bind fun f =>
   some f
  else
   (strings_makeASCIISet b).bind fun i =>
   (zA8 c b).bind fun h =>
   some h))
def zJA (c:Str) (b:Int):Option (Int ⊕ (Unit ⊕ Int)) :=
  (bif decide (b<(c.length:Int)) then
   (xnth c b).bind fun c12 =>
   (bif c12==92 then
    some (.inl (wr ((wr (b+1))+1)))
   else
    (bif c12==34 then
     some (.inr (.inr (wr (b+1))))
    else
     some (.inl (wr (b+1)))))
  else
   some (.inr (.inl ())))
def zIH (b:Str):Option Int :=
 (zAE (zJA b) 1).bind fun c=>match c with
 | .inr e=>some e
 | .inl _ =>
  some 0
def zAO (c:(List (List Str))) (d:((List Str)→Option Bool)) (b:Int):Option (Int ⊕ (Unit ⊕ Int)) :=
  (bif decide (b<(c.length:Int)) then
   (xnth c b).bind fun f =>
   (d f).bind fun h =>
   (bif h then
    some (.inr (.inr b))
   else
    some (.inl (wr (b+1))))
  else
   some (.inr (.inl ())))
def zAu (b:(List (List Str))) (c:((List Str)→Option Bool)):Option Int :=
 (zAE (zAO b c) 0).bind fun d=>match d with
 | .inr e=>some e
 | .inl _ =>
  some (-1)
def zAb (b:(List (List Str))) (c:((List Str)→Option Bool)):Option Bool :=
 (zAu b c).bind fun d =>
 some (decide (0≤d))
def zJ9 (b:Str):Option Int :=
 (zBS b [32,9,40,41,44,34]).bind fun c =>
 (bif decide (0≤c) then
  some c
 else
  some (b.length:Int))
def zKi:(Str×(List Str))→Option ((Str×(List Str)) ⊕ ((List Str)×Bool))
 | (i,d) =>
  (zDq i [32]).bind fun b =>
  (bif b==[] then
   some (.inr (d,true))
  else
   (zJ9 b).bind fun j =>
   (xnth b 0).bind fun k =>
   ((bif k==34 then
    (zIH b).bind fun l =>
    some l
   else
    some j)).bind fun (c:Int) =>
   (bif c==0 then
    some true
   else
    (bif decide (c<(b.length:Int)) then
     (xnth b c).bind fun c52 =>
     some (c52 !=32)
    else
     some false).bind fun o =>
    some (o)).bind fun p =>
   (bif p then
    some (.inr (([]:List Str),false))
   else
    (xsub b 0 c).bind fun f =>
    (xnth b 0).bind fun r =>
    ((bif r==34 then
     (zBr f).bind fun h =>
     (bif !h.2 then
      some (.inr (.inr (([]:List Str),false)))
     else
      some (.inl h.1))
    else
     some (.inl f))).bind fun (t:(Str ⊕ ((Str×(List Str)) ⊕ ((List Str)×Bool))))=>match t with
    | .inr e=>some e
    | .inl u =>
     (xapp d ([u]:List Str)).bind fun v =>
     (xsub b c b.length).bind fun x =>
     some (.inl (x,v))))
def zJr (b:Str):Option ((List Str)×Bool) :=
 (bif decide ((b.length:Int)<2) then
  some true
 else
  (xnth b 0).bind fun c =>
  some (c !=40)).bind fun d =>
 (bif d then
  some true
 else
  (xnth b (wr ((b.length:Int) - 1))).bind fun f =>
  some (f !=41)).bind fun h =>
 (bif h then
  some (([]:List Str),false)
 else
  (xsub b 1 (wr ((b.length:Int) - 1))).bind fun i =>
  (zAE (zKi) (i,([]:List Str))).bind fun j=>some j)
def zH1 (d:(List Str)):((List GAxis)×Int)→Option (((List GAxis)×Int) ⊕ ((List GAxis) ⊕ ((List GAxis)×Int)))
 | (f,b) =>
  (bif decide (b<(d.length:Int)) then
   (xnth d b).bind fun i =>
   (zCG i [61]).bind fun c =>
   (zJr c.2.1).bind fun h =>
   (bif !h.2 then
    some true
   else
    (zAW c.1).bind fun j =>
    some (!j)).bind fun k =>
   (bif k then
    some (.inr (.inr (([]:List GAxis),1)))
   else
    (zAQ c.1).bind fun l =>
    (xapp f ([(⟨l,h.1⟩:GAxis)]:List GAxis)).bind fun o =>
    some (.inl (o,wr (b+1))))
  else
   some (.inr (.inl f)))
def zJj (b:(List GField)):Option ((List GAxis)×Int) :=
 (zA4 b [86,97,114,105,97,110,116,115]).bind fun d =>
 (bif !d then
  some (([]:List GAxis),12)
 else
  (zB6 b [86,97,114,105,97,110,116,115]).bind fun f =>
  (zAE (zH1 f) (([]:List GAxis),0)).bind fun h=>match h with
  | .inr e=>some e
  | .inl c =>
   (zA3 c).bind fun i =>
   (bif !i then
    some (([]:List GAxis),11)
   else
    some (c,0)))
def zID (c:(List Str)):(Int×(List (Str×Bool)))→Option ((Int×(List (Str×Bool))) ⊕ (List (Str×Bool)))
 | (b,d) =>
  (bif decide (b<(c.length:Int)) then
   (xnth c b).bind fun f =>
   (zAQ f).bind fun h =>
   some (.inl (wr (b+1),(mset d h true)))
  else
   some (.inr d))
def zH9 (d:(List GField)) (h:(List (Str×Bool))):((List GField)×Int)→Option (((List GField)×Int) ⊕ (List GField))
 | (c,b) =>
  (bif decide (b<(d.length:Int)) then
   (xnth d b).bind fun f =>
   (zAQ f.fName).bind fun i =>
   (some (mget h i false)).bind fun g103 =>
   (bif !g103.1 then
    (xapp c ([f]:List GField)).bind fun j =>
    some (.inl (j,wr (b+1)))
   else
    some (.inl (c,wr (b+1))))
  else
   some (.inr c))
def zLE (b:(List GField)):Option (List GField) :=
 (zB6 b [67,111,110,110,101,99,116,105,111,110]).bind fun c =>
 (zAE (zID c) (0,([]:List (Str×Bool)))).bind fun d =>
 (some ((zDv 32 [104,111,115,116,32,99,97,99,104,101,45,99,111,110,116,114,111,108,32,118,97,114,121,32,118,97,114,105,97,110,116,115,32,118,97,114,105,97,110,116,45,107,101,121,32,118,105,97]).foldl (fun m k=>mdel m k) d)).bind fun f =>
 (some ((zDv 32 [99,111,110,110,101,99,116,105,111,110,32,107,101,101,112,45,97,108,105,118,101,32,112,114,111,120,121,45,99,111,110,110,101,99,116,105,111,110,32,112,114,111,120,121,45,97,117,116,104,101,110,116,105,99,97,116,101,32,112,114,111,120,121,45,97,117,116,104,111,114,105,122,97,116,105,111,110,32,116,101,32,116,114,97,105,108,101,114,32,116,114,97,110,115,102,101,114,45,101,110,99,111,100,105,110,103,32,99,111,110,116,101,110,116,45,108,101,110,103,116,104,32,117,112,103,114,97,100,101]).foldl (fun m k=>mset m k true) f)).bind fun h =>
 (zAE (zH9 b h) (([]:List GField),0)).bind fun i =>
 some i
def zBb (c:(List GParam)) (d:GParam) (b:Int):Option (Int ⊕ (Unit ⊕ Bool)) :=
  (bif decide (b<(c.length:Int)) then
   (xnth c b).bind fun f =>
   (bif f.fName==d.fName then
    (zAz f.fValue d.fValue).bind fun h =>
    some (h)
   else
    some false).bind fun i =>
   (bif i then
    some (.inr (.inr true))
   else
    some (.inl (wr (b+1))))
  else
   some (.inr (.inl ())))
def zCA (b:(List GParam)) (c:GParam):Option Bool :=
 (zAE (zBb b c) 0).bind fun d=>match d with
 | .inr e=>some e
 | .inl _ =>
  some false
def zB9 (c:GMediaType) (d:GMediaType) (b:Int):Option (Int ⊕ (Unit ⊕ Int)) :=
  (bif decide (b<(c.fParams.length:Int)) then
   (xnth c.fParams b).bind fun f =>
   (zCA d.fParams f).bind fun h =>
   (bif !h then
    some (.inr (.inr (-1)))
   else
    some (.inl (wr (b+1))))
  else
   some (.inr (.inl ())))
def zC2 (b:GMediaType) (c:GMediaType):Option Int :=
 (bif ((b.fType==[42])&&(b.fSub==[42])) then
  some 0
 else
  (bif ((b.fSub==[42])&&(b.fType==c.fType)) then
   some 1
  else
   (bif ((b.fType !=c.fType)||(b.fSub !=c.fSub)) then
    some (-1)
   else
    (zAE (zB9 b c) 0).bind fun d=>match d with
    | .inr e=>some e
    | .inl _ =>
     some (wr (2+(b.fParams.length:Int))))))
def zB3 (b:Str):Option Bool :=
 (bif b==[42] then
  some true
 else
  (zCC b).bind fun c =>
  some (c)).bind fun d =>
 some d
def zDP (b:Str) (c:Str):Option Bool :=
 (zA7 b c).bind fun d =>
 some d
def zDb (b:Str) (c:Str):Option Int :=
 (zB3 b).bind fun d =>
 (bif !d then
  some true
 else
  (zCC c).bind fun f =>
  some (!f)).bind fun h =>
 (bif h then
  some (-1)
 else
  (bif b==[42] then
   some 0
  else
   (zAQ c).bind fun i =>
   (xcat i [45]).bind fun j =>
   (zAQ b).bind fun k =>
   (xcat k [45]).bind fun l =>
   (zDP j l).bind fun o =>
   (bif !o then
    some (-1)
   else
    (zBw b [45]).bind fun p =>
    some (wr (p+1)))))
end
end Go.Eng.Pure
