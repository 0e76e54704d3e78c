/- A part. -/
import Derived.Test.YtffangblkofjdaaGreatDoorPure1
set_option linter.unusedVariables false
namespace Go.Eng.Pure
open Go Go.Eng
set_option linter.unusedVariables false
noncomputable section
def zHN (d:(List Str)):((List Str)×Int)→Option (((List Str)×Int) ⊕ ((List Str) ⊕ ((List Str)×Bool)))
 | (f,b) =>
  (bif decide (b<(d.length:Int)) then
   (xnth d b).bind fun c =>
   (zAW c).bind fun h =>
   (bif ((!h)||(c==[42])) then
    some (.inr (.inr (([]:List Str),false)))
   else
    (zAQ c).bind fun i =>
    (xapp f ([i]:List Str)).bind fun j =>
    some (.inl (j,wr (b+1))))
  else
   some (.inr (.inl f)))
def zKN (c:(List GField)):Option ((List Str)×Bool) :=
 (zB8 c [86,97,114,121]).bind fun b =>
 (bif decide (64≤(b.length:Int)) then
  some (([]:List Str),false)
 else
  (zAE (zHN b) (([]:List Str),0)).bind fun d=>match d with
  | .inr e=>some e
  | .inl f =>
   (slices_Sort_string f).bind fun h =>
   (slices_Compact_string h).bind fun i =>
   some (i,true))
def zF9 (b:Str):Option Bool :=
 some ((((b !=[71,69,84])&&(b !=[72,69,65,68]))&&(b !=[79,80,84,73,79,78,83]))&&(b !=[84,82,65,67,69]))
def zDG (b:GField) (c:(GField→Option Bool)):Option Bool :=
 (c b).bind fun d =>
 some (!d)
def zDv (b:(List GField)) (c:Str):Option (List GField) :=
 (zBp c).bind fun d =>
 (zBU b (fun f=>zDG f d)).bind fun h =>
 some h
def zDB (b:Int):Option Str :=
 (strconv_Itoa b).bind fun c =>
 some c
def zPg (b:(List GField)) (c:Int) (d:Str):Option (List GField) :=
 (xapp ([]:List GField) b).bind fun f =>
 (zDB c).bind fun h =>
 (xcat [49,46] h).bind fun i =>
 (xcat i [32]).bind fun j =>
 (xcat j d).bind fun k =>
 (xapp f ([(⟨[86,105,97],k⟩:GField)]:List GField)).bind fun l =>
 some l
def zEO (b:Str) (d:Str):Option (Str×Str×Bool) :=
 (zAt b d).bind fun c =>
 (bif decide (0≤c) then
  (xsub b 0 c).bind fun f =>
  (xsub b (wr (c+(d.length:Int))) b.length).bind fun h =>
  some (f,h,true)
 else
  some (b,[],false))
def zBM (c:Str) (d:Str):Option (Str×Str×Bool) :=
 (zEO c d).bind fun b =>
 some (b.1,b.2.1,b.2.2)
def zBn (b:UInt8):Option Bool :=
 some ((decide (48≤b))&&(decide (b≤57)))
def zDx (b:Str):Option (Int×Bool) :=
 (bif (b.length:Int) !=3 then
  some true
 else
  (xnth b 0).bind fun c =>
  some (decide (c<49))).bind fun d =>
 (bif d then
  some true
 else
  (xnth b 0).bind fun f =>
  some (decide (53<f))).bind fun h =>
 (bif h then
  some true
 else
  (xnth b 1).bind fun c11 =>
  (zBn c11).bind fun i =>
  some (!i)).bind fun j =>
 (bif j then
  some true
 else
  (xnth b 2).bind fun c23 =>
  (zBn c23).bind fun k =>
  some (!k)).bind fun l =>
 (bif l then
  some (0,false)
 else
  (zEi b).bind fun o =>
  some (o.1,true))
def zE4 (b:Str):Option (Int×Unit) :=
 (bif (b.length:Int) !=8 then
  some true
 else
  (xsub b 0 5).bind fun c =>
  some (c !=[72,84,84,80,47])).bind fun d =>
 (bif d then
  some true
 else
  (xnth b 5).bind fun f =>
  (zBn f).bind fun h =>
  some (!h)).bind fun i =>
 (bif i then
  some true
 else
  (xnth b 6).bind fun c19 =>
  some (c19 !=46)).bind fun j =>
 (bif j then
  some true
 else
  (xnth b 7).bind fun c23 =>
  (zBn c23).bind fun k =>
  some (!k)).bind fun l =>
 (bif l then
  none
 else
  (xnth b 5).bind fun c37 =>
  (bif c37 !=49 then
   some true
  else
   (xnth b 7).bind fun c40 =>
   some (decide (49<c40))).bind fun o =>
  (bif o then
   none
  else
   (xnth b 7).bind fun p =>
   some (((p - 48).toNat:Int),())))
def zCC (c:Str):Option (Int×Int×Str×Int) :=
 (bif decide (2000<(c.length:Int)) then
  some (0,0,[],4)
 else
  (zBM c [32]).bind fun d =>
  (zBM d.2.1 [32]).bind fun b =>
  (zDx b.1).bind fun f =>
  (bif ((!b.2.2)||(!f.2)) then
   some true
  else
   (zCS b.2.1).bind fun h =>
   some (!h)).bind fun i =>
  (bif i then
   some (0,0,[],1)
  else
   (zE4 d.1).bind fun j =>
   some (j.1,f.1,b.2.1,0)))
def zDO (c:Int) (d:Int) (f:Str):Option Str :=
 (strconv_Itoa c).bind fun i =>
 (xcat [72,84,84,80,47,49,46] i).bind fun j =>
 (xcat j [32]).bind fun k =>
 (strconv_Itoa d).bind fun l =>
 (xcat k l).bind fun o =>
 (xcat o [32]).bind fun p =>
 (xcat p f).bind fun h =>
 (zCC h).bind fun b =>
 (bif ((((b.2.2.2 !=0)||(b.1 !=c))||(b.2.1 !=d))||(b.2.2.1 !=f)) then
  some []
 else
  some h)
def zFm (b:Int) (c:Str):Option Bool :=
 some (((((decide (100≤b))&&(decide (b≤199)))||(b==204))||(b==304))||(c==[72,69,65,68]))
def zEy (b:GField):Option Str :=
 (bif b.fValue==[] then
  (xcat b.fName [58]).bind fun c =>
  some c
 else
  (xcat b.fName [58,32]).bind fun d =>
  (xcat d b.fValue).bind fun f =>
  some f)
def zEa (b:GField):Option Bool :=
 (zAW b.fName).bind fun c =>
 (bif c then
  (zCS b.fValue).bind fun d =>
  some (d)
 else
  some false).bind fun f =>
 (bif f then
  (zB6 b.fValue).bind fun h =>
  some (h==b.fValue)
 else
  some false).bind fun i =>
 (bif i then
  (zEy b).bind fun j =>
  some (decide ((j.length:Int)≤2000))
 else
  some false).bind fun k =>
 some k
def zDz (b:GField):Option Str :=
 (zEa b).bind fun c =>
 (bif !c then
  some []
 else
  (zEy b).bind fun d =>
  some d)
def zDu (s0_buf:(List UInt8)):Option Unit :=
 some ()
def zDS (s0_buf:(List UInt8)):Option Unit :=
 some ()
def zAu (s0_buf:List UInt8):Option Unit :=
 some ()
def zAD (b:Str) (s0_buf:(List UInt8)):Option (Int×Unit×(List UInt8)) :=
 (zAu s0_buf).bind fun d =>
 (xapp s0_buf b).bind fun c =>
 some ((b.length:Int),(),c)
def zBG (s0_buf:(List UInt8)):Option Int :=
 some (s0_buf.length:Int)
def zAa (s0_buf:(List UInt8)):Option Str :=
 some s0_buf
def zFB (h:(List GField)):(Int×Int×(List UInt8))→Option ((Int×Int×(List UInt8)) ⊕ ((List UInt8) ⊕ Str))
 | (d,b,c) =>
  (bif decide (b<(h.length:Int)) then
   (xnth h b).bind fun f =>
   (zA0 f.fName [67,111,110,116,101,110,116,45,76,101,110,103,116,104]).bind fun j =>
   (bif j then
    some true
   else
    (zA0 f.fName [84,114,97,110,115,102,101,114,45,69,110,99,111,100,105,110,103]).bind fun k =>
    some (k)).bind fun l =>
   (bif l then
    some (.inl (d,wr (b+1),c))
   else
    (zDz f).bind fun i =>
    (bif ((i==[])||(decide (64≤(wr (d+1))))) then
     some true
    else
     (zBG c).bind fun o =>
     some (decide (16000<o))).bind fun p =>
    (bif p then
     some (.inr (.inr []))
    else
     (xcat i [13,10]).bind fun r =>
     (zAD r c).bind fun t =>
     some (.inl (wr (d+1),wr (b+1),t.2.2))))
  else
   some (.inr (.inl c)))
def zDg (b:Str) (h:(List GField)) (c:Int) (i:Str):Option Str :=
 (bif b==[] then
  some []
 else
  (xcat b [13,10]).bind fun j =>
  (zAD j ([]:List UInt8)).bind fun k =>
  (zAE (zFB h) (0,0,k.2.2)).bind fun l=>match l with
  | .inr e=>some e
  | .inl d =>
   ((bif decide (0≤c) then
    (zDB c).bind fun o =>
    (xcat [67,111,110,116,101,110,116,45,76,101,110,103,116,104,58,32] o).bind fun p =>
    (xcat p [13,10]).bind fun r =>
    (zAD r d).bind fun t =>
    some t.2.2
   else
    some d)).bind fun (u:(List UInt8)) =>
   (zAD [13,10] u).bind fun f =>
   (zBG f.2.2).bind fun v =>
   (bif decide (16000<v) then
    some []
   else
    (zAa f.2.2).bind fun x =>
    (xcat x i).bind fun z =>
    some z))
def zFr (b:GResponse) (d:Str):Option Str :=
 (bif decide (100000<(b.fBody.length:Int)) then
  some []
 else
  (zDO b.fMinor b.fStatus b.fReason).bind fun c =>
  (zFm b.fStatus d).bind fun f =>
  (bif f then
   (zDg c b.fFields (-1) []).bind fun h =>
   some h
  else
   (zDg c b.fFields (b.fBody.length:Int) b.fBody).bind fun i =>
   some i))
def zBk (c:Str):Option Gvariants_domain :=
 (zCn c).bind fun b =>
 ((bif b==1 then
  some (.inr (.media:Gvariants_domain))
 else
  (bif b==2 then
   some (.inr (.tags:Gvariants_domain))
  else
   ((bif b==3 then
    some (b==3)
   else
    some (b==4))).bind fun (d:Bool) =>
   (bif d then
    some (.inr (.words b:Gvariants_domain))
   else
    some (.inl ()))))).bind fun (f:(Unit ⊕ Gvariants_domain))=>match f with
 | .inr e=>some e
 | .inl _ =>
  some (.texts:Gvariants_domain)
def zDs (d:Str):((List Str)×Bool×Int×Int)→Option (((List Str)×Bool×Int×Int) ⊕ ((List Str)×Int))
 | (f,c,h,b) =>
  (bif decide (b<(d.length:Int)) then
   (bif c then
    (xnth d b).bind fun c29 =>
    some (c29==92)
   else
    some false).bind fun i =>
   (bif i then
    some (.inl (f,c,h,wr ((wr (b+1))+1)))
   else
    (xnth d b).bind fun j =>
    (bif j==34 then
     some (.inl (f,!c,h,wr (b+1)))
    else
     (xnth d b).bind fun k =>
     (bif ((k==59)&&(!c)) then
      (xsub d h b).bind fun l =>
      (xapp f ([l]:List Str)).bind fun o =>
      some (.inl (o,c,wr (b+1),wr (b+1)))
     else
      some (.inl (f,c,h,wr (b+1))))))
  else
   some (.inr (f,h)))
def zHl (b:Str):Option (List Str) :=
 (zAE (zDs b) (([]:List Str),false,0,0)).bind fun c=>match c with
 | (d,f) =>
  (xsub b f b.length).bind fun h =>
  (xapp d ([h]:List Str)).bind fun i =>
  some i
def zHb (d:Str):Option (Str×Str×Bool) :=
 (zBM d [61]).bind fun b =>
 (bif !b.2.2 then
  some true
 else
  (zAW b.1).bind fun f =>
  some (!f)).bind fun h =>
 (bif h then
  some ([],[],false)
 else
  (zAW b.2.1).bind fun i =>
  ((bif !i then
   (zBu b.2.1).bind fun c =>
   some (c.1,c.2)
  else
   some (b.2.1,b.2.2))).bind fun (j:(Str×Bool)) =>
  match j with
  | (k,l) =>
   (zAQ b.1).bind fun o =>
   some (o,k,l))
def zDi (f:(List Str)):((List GParam)×Int)→Option (((List GParam)×Int) ⊕ ((List GParam) ⊕ (Str×(List GParam)×Bool)))
 | (c,b) =>
  (bif decide (b<(f.length:Int)) then
   (xnth f b).bind fun i =>
   (zB6 i).bind fun h =>
   (bif h==[] then
    some (.inl (c,wr (b+1)))
   else
    (zHb h).bind fun d =>
    (bif !d.2.2 then
     some (.inr (.inr ([],([]:List GParam),false)))
    else
     (xapp c ([(⟨d.1,d.2.1⟩:GParam)]:List GParam)).bind fun j =>
     some (.inl (j,wr (b+1)))))
  else
   some (.inr (.inl c)))
def zEJ (d:Str):Option (Str×(List GParam)×Bool) :=
 (zHl d).bind fun b =>
 (xnth b 0).bind fun f =>
 (zB6 f).bind fun c =>
 (bif c==[] then
  some ([],([]:List GParam),false)
 else
  (xsub b 1 b.length).bind fun h =>
  (zAE (zDi h) (([]:List GParam),0)).bind fun i=>match i with
  | .inr e=>some e
  | .inl j =>
   some (c,j,true))
def zAo (d:Str):Option (GMediaType×Bool) :=
 (zEJ d).bind fun c =>
 (bif !c.2.2 then
  some ((⟨[],[],([]:List GParam)⟩:GMediaType),false)
 else
  (zBM c.1 [47]).bind fun b =>
  (zAW b.1).bind fun f =>
  (bif !f then
   some true
  else
   (zAW b.2.1).bind fun h =>
   some (!h)).bind fun i =>
  (bif (i||((b.1==[42])&&(b.2.1 !=[42]))) then
   some ((⟨[],[],([]:List GParam)⟩:GMediaType),false)
  else
   (zAQ b.1).bind fun j =>
   (zAQ b.2.1).bind fun k =>
   some ((⟨j,k,c.2.1⟩:GMediaType),true)))
def zBm (c:Str):Option (GMediaType×Bool) :=
 (zAo c).bind fun b =>
 (bif (((!b.2)||(b.1.fType==[42]))||(b.1.fSub==[42])) then
  some ((⟨[],[],([]:List GParam)⟩:GMediaType),false)
 else
  some (b.1,true))
def zBb (b:GParam) (c:GParam):Option Bool :=
 some (b.fName==c.fName)
def zAF (c:(List GParam)) (d:(GParam→Option Bool)) (b:Int):Option (Int ⊕ (Unit ⊕ Int)) :=
  (bif decide (b<(c.length:Int)) then
   (xnth c b).bind fun f =>
   (d f).bind fun h =>
   (bif h then
    some (.inr (.inr b))
   else
    some (.inl (wr (b+1))))
  else
   some (.inr (.inl ())))
def zAP (b:(List GParam)) (c:(GParam→Option Bool)):Option Int :=
 (zAE (zAF b c) 0).bind fun d=>match d with
 | .inr e=>some e
 | .inl _ =>
  some (-1)
def zAR (b:(List GParam)) (c:(GParam→Option Bool)):Option Bool :=
 (zAP b c).bind fun d =>
 some (decide (0≤d))
def zAx (c:(GMediaType×Bool)):(Bool×Int)→Option ((Bool×Int) ⊕ Bool)
 | (d,b) =>
  (bif decide (b<(c.1.fParams.length:Int)) then
   (xnth c.1.fParams b).bind fun f =>
   (bif (d&&(f.fName !=[113])) then
    (xsub c.1.fParams 0 b).bind fun h =>
    (zAR h (fun i=>zBb i f)).bind fun j =>
    some (!j)
   else
    some false).bind fun k =>
   some (.inl (k,wr (b+1)))
  else
   some (.inr d))
def zBt (h:Unit) (b:Str):Option (Str×Bool) :=
 (zBm b).bind fun c =>
 (zAE (zAx c) (c.2,0)).bind fun d =>
 (zAQ b).bind fun f =>
 some (f,d)
def zCN (b:Str) (c:Str):Option Int :=
 (zAt b c).bind fun d =>
 some d
def zFk (c:Str):(Str×Int)→Option ((Str×Int) ⊕ Int)
 | (b,d) =>
  (zCN b c).bind fun f =>
  (bif f==(-1) then
   some (.inr d)
  else
   (xsub b (wr (f+(c.length:Int))) b.length).bind fun h =>
   some (.inl (h,wr (d+1))))
def zBw (c:Str) (b:Str):Option Int :=
 (bif (b.length:Int)==0 then
  none
 else
  (bif (b.length:Int)==1 then
   (xnth b 0).bind fun d =>
   some (c.count d:Nat)
  else
   (zAE (zFk b) (c,0)).bind fun f=>some f))
def zAs (h:Str) (i:Str) (k:Int) (j:Int):(Str×Int×(List Str))→Option ((Str×Int×(List Str)) ⊕ (Str×Int×(List Str)))
 | (b,c,d) =>
  (bif decide (c<(wr ((if (wr ((h.length:Int)+1))<j then (wr ((h.length:Int)+1)) else j) - 1))) then
   (zCN b i).bind fun f =>
   (bif decide (f<0) then
    some (.inr (b,c,d))
   else
    (xsub b 0 (wr (f+k))).bind fun l =>
    (xnth d c).bind fun r =>
    (xput d c l).bind fun o =>
    (xsub b (wr (f+(i.length:Int))) b.length).bind fun p =>
    some (.inl (p,wr (c+1),o)))
  else
   some (.inr (b,c,d)))
def zCk (b:Str) (c:Str) (j:Int) (d:Int):Option (List Str) :=
 (bif d==0 then
  some ([]:List Str)
 else
  (bif c==[] then
   none
  else
   ((bif decide (d<0) then
    (zBw b c).bind fun k =>
    some (wr (k+1))
   else
    some d)).bind fun (f:Int) =>
   (xmake (if (wr ((b.length:Int)+1))<f then (wr ((b.length:Int)+1)) else f) ([]:Str)).bind fun l =>
   (zAE (zAs b c j f) (b,0,l)).bind fun o=>match o with
   | (p,h,i) =>
    (xnth i h).bind fun u =>
    (xput i h p).bind fun r =>
    (xsub r 0 (wr (h+1))).bind fun t =>
    some t))
def zED (b:Str) (c:Str):Option (List Str) :=
 (zCk b c 0 (-1)).bind fun d =>
 some d
def zBd (d:Bool) (c:Str) (b:Int):Option (Int ⊕ (Unit ⊕ Bool)) :=
  (bif decide (b<(c.length:Int)) then
   (xnth c b).bind fun c24 =>
   (xnth c b).bind fun c26 =>
   (bif (((decide (c26<97))||(decide (122<c26)))&&(((!d)||(decide (c26<48)))||(decide (57<c26)))) then
    some (.inr (.inr false))
   else
    some (.inl (wr (b+1))))
  else
   some (.inr (.inl ())))
def zCD (b:Str) (c:Bool):Option Bool :=
 (zAQ b).bind fun d =>
 (zAE (zBd c d) 0).bind fun f=>match f with
 | .inr e=>some e
 | .inl _ =>
  some ((b !=[])&&(decide ((b.length:Int)≤8)))
def zC1 (c:(List Str)) (b:Int):Option (Int ⊕ (Unit ⊕ Bool)) :=
  (bif decide (b<(c.length:Int)) then
   (xnth c b).bind fun d =>
   (zCD d (decide (0<b))).bind fun f =>
   (bif !f then
    some (.inr (.inr false))
   else
    some (.inl (wr (b+1))))
  else
   some (.inr (.inl ())))
def zCH (b:Str):Option Bool :=
 (zED b [45]).bind fun c =>
 (zAE (zC1 c) 0).bind fun d=>match d with
 | .inr e=>some e
 | .inl _ =>
  some true
def zB7 (f:Unit) (b:Str):Option (Str×Bool) :=
 (zAQ b).bind fun c =>
 (zCH b).bind fun d =>
 some (c,d)
def zAq (c:Int) (d:Str):Option Str :=
 (zAQ d).bind fun b =>
 (bif c !=4 then
  some b
 else
  (((bif b==[103,122,105,112] then
   some (b==[103,122,105,112])
  else
   some (b==[120,45,103,122,105,112]))).bind fun (f:Bool) =>
  (bif f then
   some (.inr [103,122,105,112])
  else
   ((bif b==[99,111,109,112,114,101,115,115] then
    some (b==[99,111,109,112,114,101,115,115])
   else
    some (b==[120,45,99,111,109,112,114,101,115,115]))).bind fun (h:Bool) =>
   (bif h then
    some (.inr [99,111,109,112,114,101,115,115])
   else
    some (.inl ())))).bind fun (i:(Unit ⊕ Str))=>match i with
  | .inr e=>some e
  | .inl _ =>
   some b)
def zBL (c:Int) (b:Str):Option (Str×Bool) :=
 (zAq c b).bind fun d =>
 (zAW b).bind fun f =>
 some (d,(f&&(b !=[42])))
def zBz (i:Unit) (b:Str):Option (Str×Bool) :=
 (bif ((decide (1≤(b.length:Int)))&&(decide ((b.length:Int)≤100))) then
  (zCS b).bind fun c =>
  some (c)
 else
  some false).bind fun d =>
 (bif d then
  (zB6 b).bind fun f =>
  some (f==b)
 else
  some false).bind fun h =>
 some (b,h)
def zBF (x:Gvariants_domain) (p0:Str):Option (Str×Bool) :=
 match x with
 | .media=>zBt () p0
 | .tags=>zB7 () p0
 | .words n=>zBL n p0
 | .texts=>zBz () p0
def zDE (c:Str) (d:Str) (f:Str):Option Bool :=
 (zBk c).bind fun b =>
 (zBF b d).bind fun h =>
 (zBF b f).bind fun i =>
 some (h.1==i.1)
def zA2 (d:GAxis) (h:Gvariants_domain):(Int×(List (Str×Bool)))→Option ((Int×(List (Str×Bool))) ⊕ (Unit ⊕ Bool))
 | (b,f) =>
  (bif decide (b<(d.fValues.length:Int)) then
   (xnth d.fValues b).bind fun i =>
   (zBF h i).bind fun c =>
   (bif !c.2 then
    some true
   else
    (some (mget f c.1 false)).bind fun g38 =>
    some (g38.1)).bind fun j =>
   (bif j then
    some (.inr (.inr false))
   else
    some (.inl (wr (b+1),(mset f c.1 true))))
  else
   some (.inr (.inl ())))
def zCg (b:GAxis):Option Bool :=
 (bif ((decide ((b.fValues.length:Int)<1))||(decide (16<(b.fValues.length:Int)))) then
  some false
 else
  (zBk b.fName).bind fun c =>
  (zAE (zA2 b c) (0,([]:List (Str×Bool)))).bind fun d=>match d with
  | .inr e=>some e
  | .inl _ =>
   some true)
def zCP (d:GAxis) (c:(List GAxis)) (b:Int):Option (Int ⊕ (Unit ⊕ (Int ⊕ (Unit ⊕ Bool)))) :=
  (bif decide (b<(c.length:Int)) then
   (xnth c b).bind fun f =>
   (bif d.fName==f.fName then
    some (.inr (.inr (.inr (.inr false))))
   else
    some (.inl (wr (b+1))))
  else
   some (.inr (.inl ())))
def zCQ (d:(List GAxis)) (c:Int):Option (Int ⊕ (Unit ⊕ Bool)) :=
  (bif decide (c<(d.length:Int)) then
   (xnth d c).bind fun b =>
   (zAW b.fName).bind fun f =>
   (bif !f then
    some true
   else
    (zAQ b.fName).bind fun h =>
    some (h !=b.fName)).bind fun i =>
   (bif i then
    some true
   else
    (zCg b).bind fun j =>
    some (!j)).bind fun k =>
   (bif k then
    some (.inr (.inr false))
   else
    (xsub d 0 c).bind fun l =>
    (zAE (zCP b l) 0).bind fun o=>match o with
    | .inr e=>some e
    | .inl _ =>
     some (.inl (wr (c+1))))
  else
   some (.inr (.inl ())))
def zA6 (b:(List GAxis)):Option Bool :=
 (bif ((decide ((b.length:Int)<1))||(decide (4<(b.length:Int)))) then
  some false
 else
  (zAE (zCQ b) 0).bind fun c=>match c with
  | .inr e=>some e
  | .inl _ =>
   some true)
def zCb (b:Str) (c:GAxis) (d:(List Str)) (f:Int):Option Bool :=
 (xnth d f).bind fun h =>
 (zDE c.fName b h).bind fun i =>
 some i
def zDt (f:(List GAxis)) (i:(List Str)):(Int×(List Str))→Option ((Int×(List Str)) ⊕ ((List Str) ⊕ ((List Str)×Bool)))
 | (b,c) =>
  (bif decide (b<(f.length:Int)) then
   (xnth f b).bind fun d =>
   (zAT d.fValues (fun j=>zCb j d i b)).bind fun h =>
   (bif decide (h<0) then
    some (.inr (.inr (([]:List Str),false)))
   else
    (xnth d.fValues h).bind fun k =>
    (xnth c b).bind fun o =>
    (xput c b k).bind fun l =>
    some (.inl (wr (b+1),l)))
  else
   some (.inr (.inl c)))
def zEf (c:(List GAxis)) (b:(List Str)):Option ((List Str)×Bool) :=
 (bif (b.length:Int) !=(c.length:Int) then
  some (([]:List Str),false)
 else
  (xmake (b.length:Int) ([]:Str)).bind fun d =>
  (zAE (zDt c b) (0,d)).bind fun f=>match f with
  | .inr e=>some e
  | .inl h =>
   some (h,true))
def zD1 (c:Str) (b:Str):Option Str :=
 (bif ((c==[])||(b==[])) then
  some c
 else
  (bif (b.length:Int)==1 then
   (xnth b 0).bind fun c6 =>
   some (decide (c6<128))
  else
   some false).bind fun d =>
  (bif d then
   (xnth b 0).bind fun c9 =>
   (zBj c c9).bind fun f =>
   some f
  else
   (strings_makeASCIISet b).bind fun i =>
   (zA8 c b).bind fun h =>
   some h))
def zJJ (c:Str) (b:Int):Option (Int ⊕ (Unit ⊕ Int)) :=
  (bif decide (b<(c.length:Int)) then
   (xnth c b).bind fun c12 =>
   (bif c12==92 then
    some (.inl (wr ((wr (b+1))+1)))
   else
    (bif c12==34 then
     some (.inr (.inr (wr (b+1))))
    else
     some (.inl (wr (b+1)))))
  else
   some (.inr (.inl ())))
def zIV (b:Str):Option Int :=
 (zAE (zJJ b) 1).bind fun c=>match c with
 | .inr e=>some e
 | .inl _ =>
  some 0
def zAO (c:(List (List Str))) (d:((List Str)→Option Bool)) (b:Int):Option (Int ⊕ (Unit ⊕ Int)) :=
  (bif decide (b<(c.length:Int)) then
   (xnth c b).bind fun f =>
   (d f).bind fun h =>
   (bif h then
    some (.inr (.inr b))
   else
    some (.inl (wr (b+1))))
  else
   some (.inr (.inl ())))
def zAv (b:(List (List Str))) (c:((List Str)→Option Bool)):Option Int :=
 (zAE (zAO b c) 0).bind fun d=>match d with
 | .inr e=>some e
 | .inl _ =>
  some (-1)
def zAb (b:(List (List Str))) (c:((List Str)→Option Bool)):Option Bool :=
 (zAv b c).bind fun d =>
 some (decide (0≤d))
def zKH (b:Str):Option Int :=
 (zBV b [32,9,40,41,44,34]).bind fun c =>
 (bif decide (0≤c) then
  some c
 else
  some (b.length:Int))
def zKq:(Str×(List Str))→Option ((Str×(List Str)) ⊕ ((List Str)×Bool))
 | (i,d) =>
  (zD1 i [32]).bind fun b =>
  (bif b==[] then
   some (.inr (d,true))
  else
   (zKH b).bind fun j =>
   (xnth b 0).bind fun k =>
   ((bif k==34 then
    (zIV b).bind fun l =>
    some l
   else
    some j)).bind fun (c:Int) =>
   (bif c==0 then
    some true
   else
    (bif decide (c<(b.length:Int)) then
     (xnth b c).bind fun c52 =>
     some (c52 !=32)
    else
     some false).bind fun o =>
    some (o)).bind fun p =>
   (bif p then
    some (.inr (([]:List Str),false))
   else
    (xsub b 0 c).bind fun f =>
    (xnth b 0).bind fun r =>
    ((bif r==34 then
     (zBu f).bind fun h =>
     (bif !h.2 then
      some (.inr (.inr (([]:List Str),false)))
     else
      some (.inl h.1))
    else
     some (.inl f))).bind fun (t:(Str ⊕ ((Str×(List Str)) ⊕ ((List Str)×Bool))))=>match t with
    | .inr e=>some e
    | .inl u =>
     (xapp d ([u]:List Str)).bind fun v =>
     (xsub b c b.length).bind fun x =>
     some (.inl (x,v))))
def zKE (b:Str):Option ((List Str)×Bool) :=
 (bif decide ((b.length:Int)<2) then
  some true
 else
  (xnth b 0).bind fun c =>
  some (c !=40)).bind fun d =>
 (bif d then
  some true
 else
  (xnth b (wr ((b.length:Int) - 1))).bind fun f =>
  some (f !=41)).bind fun h =>
 (bif h then
  some (([]:List Str),false)
 else
  (xsub b 1 (wr ((b.length:Int) - 1))).bind fun i =>
  (zAE (zKq) (i,([]:List Str))).bind fun j=>some j)
def zIA (d:(List Str)):((List GAxis)×Int)→Option (((List GAxis)×Int) ⊕ ((List GAxis) ⊕ ((List GAxis)×Int)))
 | (f,b) =>
  (bif decide (b<(d.length:Int)) then
   (xnth d b).bind fun i =>
   (zBM i [61]).bind fun c =>
   (zKE c.2.1).bind fun h =>
   (bif !h.2 then
    some true
   else
    (zAW c.1).bind fun j =>
    some (!j)).bind fun k =>
   (bif k then
    some (.inr (.inr (([]:List GAxis),1)))
   else
    (zAQ c.1).bind fun l =>
    (xapp f ([(⟨l,h.1⟩:GAxis)]:List GAxis)).bind fun o =>
    some (.inl (o,wr (b+1))))
  else
   some (.inr (.inl f)))
def zJq (b:(List GField)):Option ((List GAxis)×Int) :=
 (zA5 b [86,97,114,105,97,110,116,115]).bind fun d =>
 (bif !d then
  some (([]:List GAxis),12)
 else
  (zB8 b [86,97,114,105,97,110,116,115]).bind fun f =>
  (zAE (zIA f) (([]:List GAxis),0)).bind fun h=>match h with
  | .inr e=>some e
  | .inl c =>
   (zA6 c).bind fun i =>
   (bif !i then
    some (([]:List GAxis),11)
   else
    some (c,0)))
def zIO (c:(List Str)):(Int×(List (Str×Bool)))→Option ((Int×(List (Str×Bool))) ⊕ (List (Str×Bool)))
 | (b,d) =>
  (bif decide (b<(c.length:Int)) then
   (xnth c b).bind fun f =>
   (zAQ f).bind fun h =>
   some (.inl (wr (b+1),(mset d h true)))
  else
   some (.inr d))
def zIQ (d:(List GField)) (h:(List (Str×Bool))):((List GField)×Int)→Option (((List GField)×Int) ⊕ (List GField))
 | (c,b) =>
  (bif decide (b<(d.length:Int)) then
   (xnth d b).bind fun f =>
   (zAQ f.fName).bind fun i =>
   (some (mget h i false)).bind fun g103 =>
   (bif !g103.1 then
    (xapp c ([f]:List GField)).bind fun j =>
    some (.inl (j,wr (b+1)))
   else
    some (.inl (c,wr (b+1))))
  else
   some (.inr c))
def zJR (b:(List GField)):Option (List GField) :=
 (zB8 b [67,111,110,110,101,99,116,105,111,110]).bind fun c =>
 (zAE (zIO c) (0,([]:List (Str×Bool)))).bind fun d =>
 (some ((pieces 32 [104,111,115,116,32,99,97,99,104,101,45,99,111,110,116,114,111,108,32,118,97,114,121,32,118,97,114,105,97,110,116,115,32,118,97,114,105,97,110,116,45,107,101,121,32,118,105,97]).foldl (fun m k=>mdel m k) d)).bind fun f =>
 (some ((pieces 32 [99,111,110,110,101,99,116,105,111,110,32,107,101,101,112,45,97,108,105,118,101,32,112,114,111,120,121,45,99,111,110,110,101,99,116,105,111,110,32,112,114,111,120,121,45,97,117,116,104,101,110,116,105,99,97,116,101,32,112,114,111,120,121,45,97,117,116,104,111,114,105,122,97,116,105,111,110,32,116,101,32,116,114,97,105,108,101,114,32,116,114,97,110,115,102,101,114,45,101,110,99,111,100,105,110,103,32,99,111,110,116,101,110,116,45,108,101,110,103,116,104,32,117,112,103,114,97,100,101]).foldl (fun m k=>mset m k true) f)).bind fun h =>
 (zAE (zIQ b h) (([]:List GField),0)).bind fun i =>
 some i
def zBc (c:(List GParam)) (d:GParam) (b:Int):Option (Int ⊕ (Unit ⊕ Bool)) :=
  (bif decide (b<(c.length:Int)) then
   (xnth c b).bind fun f =>
   (bif f.fName==d.fName then
    (zA0 f.fValue d.fValue).bind fun h =>
    some (h)
   else
    some false).bind fun i =>
   (bif i then
    some (.inr (.inr true))
   else
    some (.inl (wr (b+1))))
  else
   some (.inr (.inl ())))
def zB9 (b:(List GParam)) (c:GParam):Option Bool :=
 (zAE (zBc b c) 0).bind fun d=>match d with
 | .inr e=>some e
 | .inl _ =>
  some false
def zCB (c:GMediaType) (d:GMediaType) (b:Int):Option (Int ⊕ (Unit ⊕ Int)) :=
  (bif decide (b<(c.fParams.length:Int)) then
   (xnth c.fParams b).bind fun f =>
   (zB9 d.fParams f).bind fun h =>
   (bif !h then
    some (.inr (.inr (-1)))
   else
    some (.inl (wr (b+1))))
  else
   some (.inr (.inl ())))
def zC2 (b:GMediaType) (c:GMediaType):Option Int :=
 (bif ((b.fType==[42])&&(b.fSub==[42])) then
  some 0
 else
  (bif ((b.fSub==[42])&&(b.fType==c.fType)) then
   some 1
  else
   (bif ((b.fType !=c.fType)||(b.fSub !=c.fSub)) then
    some (-1)
   else
    (zAE (zCB b c) 0).bind fun d=>match d with
    | .inr e=>some e
    | .inl _ =>
     some (wr (2+(b.fParams.length:Int))))))
def zB3 (b:Str):Option Bool :=
 (bif b==[42] then
  some true
 else
  (zCH b).bind fun c =>
  some (c)).bind fun d =>
 some d
def zDV (b:Str) (c:Str):Option Bool :=
 (zA9 b c).bind fun d =>
 some d
def zDh (b:Str) (c:Str):Option Int :=
 (zB3 b).bind fun d =>
 (bif !d then
  some true
 else
  (zCH c).bind fun f =>
  some (!f)).bind fun h =>
 (bif h then
  some (-1)
 else
  (bif b==[42] then
   some 0
  else
   (zAQ c).bind fun i =>
   (xcat i [45]).bind fun j =>
   (zAQ b).bind fun k =>
   (xcat k [45]).bind fun l =>
   (zDV j l).bind fun o =>
   (bif !o then
    some (-1)
   else
    (zBw b [45]).bind fun p =>
    some (wr (p+1)))))
end
end Go.Eng.Pure
