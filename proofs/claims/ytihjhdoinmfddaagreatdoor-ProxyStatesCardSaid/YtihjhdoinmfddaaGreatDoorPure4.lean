/- A part. -/
import Derived.Test.YtihjhdoinmfddaaGreatDoorPure3
set_option linter.unusedVariables false
set_option linter.unusedSimpArgs false
namespace Go.Eng.Pure
open Go Go.Eng
noncomputable section
def zFs (c:(List Str)):((List GField)×Int)→Option (((List GField)×Int) ⊕ (List GField))
 | (d,b) =>
  (bif decide (b<(c.length:Int)) then
   (xnth c b).bind fun f =>
   (zAs d f).bind fun h =>
   some (.inl (h,wr (b+1)))
  else
   some (.inr d))
def zBt (b:(List GField)) (c:(List Str)):Option (List GField) :=
 (xapp ([]:List GField) b).bind fun d =>
 (zAB (zFs c) (d,0)).bind fun f =>
 some f
def zC2 (c:Str) (b:Int):Option Bool :=
 (zGU c).bind fun d =>
 some ((d&&(decide (200≤b)))&&(decide (b≤399)))
def zJR (c:(List Gvariantproxykeep_Step)) (b:Int):Option (Int ⊕ (Unit ⊕ Bool)) :=
  (bif ((decide (b<(c.length:Int)))&&(decide (b<17))) then
   (xnth c b).bind fun d =>
   (bif decide (1500<(d.fText.length:Int)) then
    some (.inr (.inr false))
   else
    some (.inl (wr (b+1))))
  else
   some (.inr (.inl ())))
def zHp (b:(List Gvariantproxykeep_Step)):Option Bool :=
 (zAB (zJR b) 0).bind fun c=>match c with
 | .inr e=>some e
 | .inl _ =>
  some (decide ((b.length:Int)≤16))
def zBF (b:Gvariantproxykeep_Step):Option Int :=
 (xrem b.fKind 5).bind fun c =>
 (xrem (wr (c+5)) 5).bind fun d =>
 some d
def zHX (b:Int) (c:Int) (d:Int):Option Bool :=
 some ((((((decide (1≤b))&&(decide (b≤100000000)))&&(decide (1≤c)))&&(decide (c≤64)))&&(decide (1≤d)))&&(decide (d≤1000)))
def zET (b:GConfig):Option Bool :=
 (zE1 b.fName).bind fun c =>
 (bif (c&&(decide ((b.fName.length:Int)≤100))) then
  (zHX b.fBytes b.fVariants b.fTables).bind fun d =>
  some (d)
 else
  some false).bind fun f =>
 some (f&&(b.fStrict||(!b.fRefuse)))
def zIc (b:Int):Option GResponse :=
 ((bif b==400 then
  some (.inl [66,97,100,32,82,101,113,117,101,115,116])
 else
  (bif b==406 then
   some (.inl [78,111,116,32,65,99,99,101,112,116,97,98,108,101])
  else
   (bif b==413 then
    some (.inl [67,111,110,116,101,110,116,32,84,111,111,32,76,97,114,103,101])
   else
    (bif b==431 then
     some (.inl [82,101,113,117,101,115,116,32,72,101,97,100,101,114,32,70,105,101,108,100,115,32,84,111,111,32,76,97,114,103,101])
    else
     (bif b==501 then
      some (.inl [78,111,116,32,73,109,112,108,101,109,101,110,116,101,100])
     else
      (bif b==502 then
       some (.inl [66,97,100,32,71,97,116,101,119,97,121])
      else
       (bif b==504 then
        some (.inl [71,97,116,101,119,97,121,32,84,105,109,101,111,117,116])
       else
        (bif b==505 then
         some (.inl [72,84,84,80,32,86,101,114,115,105,111,110,32,78,111,116,32,83,117,112,112,111,114,116,101,100])
        else
         some (.inr (⟨0,0,[],([]:List GField),[]⟩:GResponse))))))))))).bind fun (d:(Str ⊕ GResponse))=>match d with
 | .inr e=>some e
 | .inl c =>
  some (⟨1,b,c,([(⟨[67,97,99,104,101,45,67,111,110,116,114,111,108],[110,111,45,115,116,111,114,101]⟩:GField),(⟨[67,111,110,116,101,110,116,45,84,121,112,101],[116,101,120,116,47,112,108,97,105,110]⟩:GField)]:List GField),c⟩:GResponse)
def zAw (b:(List GEntry)) (c d:Int):Option (List GEntry) :=
 delI b c d
def zDD (d:GTable) (b:Int):Option GTable :=
 (zBW d).bind fun c =>
 ((bif ((decide (0≤b))&&(decide (b<(c.fEntries.length:Int)))) then
  (zAw c.fEntries b (wr (b+1))).bind fun f =>
  some f
 else
  some c.fEntries)).bind fun (h:(List GEntry)) =>
 some (⟨c.fAxes,h⟩:GTable)
def zFo (c:Str) (b:Int):Option (Int ⊕ (Unit ⊕ Bool)) :=
  (bif decide (b<(c.length:Int)) then
   (xnth c b).bind fun d =>
   (bif decide (d<33) then
    some true
   else
    (xnth c b).bind fun f =>
    some (decide (126<f))).bind fun h =>
   (bif h then
    some (.inr (.inr false))
   else
    some (.inl (wr (b+1))))
  else
   some (.inr (.inl ())))
def zDZ (b:Str):Option Bool :=
 (zAB (zFo b) 0).bind fun c=>match c with
 | .inr e=>some e
 | .inl _ =>
  some (b !=[])
def zAf (d:Str):Option (Str×Str×Int×Int) :=
 (bif decide (2000<(d.length:Int)) then
  some ([],[],0,4)
 else
  (zAW d [32]).bind fun b =>
  (zAW b.2.1 [32]).bind fun c =>
  (zAZ b.1).bind fun f =>
  (bif !f then
   some true
  else
   (zDZ c.1).bind fun h =>
   some (!h)).bind fun i =>
  (bif i then
   some ([],[],0,1)
  else
   zJs c.2.1 (some ([],[],0,1)) (some ([],[],0,3)) fun m=>some (b.1,c.1,m,0)))
def zEw (c:Str):Option (Str×Int×Int) :=
 (zAh c [13,10]).bind fun b =>
 (bif ((decide (2000<b))||((decide (b<0))&&(decide (2000<(c.length:Int))))) then
  some ([],0,4)
 else
  (bif decide (b<0) then
   some true
  else
   (xnth c b).bind fun c13 =>
   some (((c13==13)&&(b==(wr ((c.length:Int) - 1)))))).bind fun d =>
  (bif d then
   some ([],0,2)
  else
   (xnth c b).bind fun c18 =>
   (bif c18==10 then
    some true
   else
    (xnth c (wr (b+1))).bind fun f =>
    some (f !=10)).bind fun h =>
   (bif h then
    some ([],0,1)
   else
    (xsub c 0 b).bind fun i =>
    some (i,wr (b+2),0))))
def zBv (c:Str):Option (GField×Int) :=
 (bif decide (2000<(c.length:Int)) then
  some ((⟨[],[]⟩:GField),4)
 else
  (zAW c [58]).bind fun b =>
  (bif !b.2.2 then
   some true
  else
   (zAZ b.1).bind fun f =>
   some (!f)).bind fun h =>
  (bif h then
   some true
  else
   (zCw b.2.1).bind fun i =>
   some (!i)).bind fun j =>
  (bif j then
   some ((⟨[],[]⟩:GField),1)
  else
   (zCu b.2.1).bind fun d =>
   (zDI (⟨b.1,d⟩:GField)).bind fun k =>
   (bif !k then
    some ((⟨[],[]⟩:GField),4)
   else
    some ((⟨b.1,d⟩:GField),0))))
def zHy (c:Str):(Int×Int)→Option ((Int×Int) ⊕ (Int ⊕ (Int×Bool)))
 | (d,b) =>
  (bif decide (b<(c.length:Int)) then
   (xnth c b).bind fun i =>
   (xnth c b).bind fun h =>
   (strings_IndexByte [48,49,50,51,52,53,54,55,56,57,97,98,99,100,101,102] h).bind fun f =>
   (bif decide (f<0) then
    some (.inr (.inr (0,false)))
   else
    some (.inl (wr ((wr (16*d))+f),wr (b+1))))
  else
   some (.inr (.inl d)))
def zIv (c:Str):Option (Int×Bool) :=
 (zAW c [59]).bind fun b =>
 (bif ((b.1==[])||(decide (8<(b.1.length:Int)))) then
  some true
 else
  (zCw b.2.1).bind fun d =>
  some (!d)).bind fun f =>
 (bif f then
  some (0,false)
 else
  (zAO b.1).bind fun h =>
  (zAB (zHy h) (0,0)).bind fun i=>match i with
  | .inr e=>some e
  | .inl j =>
   some (j,true))
def zIk (b:Str):Option Int :=
 (bif ((b==[])||(b==[13])) then
  some 2
 else
  (zAj b [13,10]).bind fun c =>
  (bif c then
   some 0
  else
   some 1))
def zCU (c:Str) (d:Int):Option (Str×Int×Int) :=
 (xsub c d c.length).bind fun f =>
 (zEw f).bind fun b =>
 some (b.1,b.2.2,wr (d+b.2.1))
def zBO (f:Str):(Int×Int)→Option ((Int×Int) ⊕ (Int×Int))
 | (c,h) =>
  (zCU f h).bind fun b =>
  (bif b.2.1 !=0 then
   some (.inr (b.2.1,b.2.2))
  else
   (bif b.1==[] then
    some (.inr (0,b.2.2))
   else
    (bif c==64 then
     some (.inr (4,b.2.2))
    else
     (zBv b.1).bind fun d =>
     (bif d.2 !=0 then
      some (.inr (d.2,b.2.2))
     else
      some (.inl (wr (c+1),b.2.2))))))
def zA9 (b:Str) (c:Int):Option (Int×Int) :=
 (zAB (zBO b) (0,c)).bind fun d=>some d
def zGb (d:Str):(Int×(List UInt8))→Option ((Int×(List UInt8)) ⊕ (Str×Int×Int))
 | (j,f) =>
  (zCU d j).bind fun b =>
  (bif b.2.1 !=0 then
   some (.inr ([],0,b.2.1))
  else
   (zIv b.1).bind fun c =>
   (bif !c.2 then
    some (.inr ([],0,1))
   else
    (zBr f).bind fun k =>
    (bif decide (100000<(wr (k+c.1))) then
     some (.inr ([],0,5))
    else
     (bif c.1==0 then
      (zA9 d b.2.2).bind fun h =>
      (bif h.1 !=0 then
       some (.inr ([],0,h.1))
      else
       (zBT f).bind fun l =>
       some (.inr (l,h.2,0)))
     else
      (bif decide ((wr ((d.length:Int) - b.2.2))<c.1) then
       some (.inr ([],0,2))
      else
       (xsub d b.2.2 (wr (b.2.2+c.1))).bind fun o =>
       (zAk o f).bind fun p =>
       (xsub d (wr (b.2.2+c.1)) d.length).bind fun r =>
       (zIk r).bind fun i =>
       (bif i !=0 then
        some (.inr ([],0,i))
       else
        some (.inl (wr ((wr (b.2.2+c.1))+2),p.2.2))))))))
def zFP (b:Str):Option (Str×Int×Int) :=
 (zAB (zGb b) (0,([]:List UInt8))).bind fun c=>some c
def zFe (b:Int):Option Int :=
 (bif b==4 then
  some 431
 else
  (bif b==5 then
   some 413
  else
   (bif b==3 then
    some 505
   else
    (bif b==7 then
     some 501
    else
     some 400))))
def zDV (b:UInt8):Option Int :=
 (zAO ([b]:List UInt8)).bind fun c =>
 (xnth c 0).bind fun d =>
 (strings_IndexByte [48,49,50,51,52,53,54,55,56,57,97,98,99,100,101,102] d).bind fun f =>
 some f
def zGN (c:Str):((List UInt8)×Int)→Option (((List UInt8)×Int) ⊕ ((List UInt8) ⊕ (Str×Bool)))
 | (d,b) =>
  (bif decide (b<(c.length:Int)) then
   (xnth c b).bind fun c26 =>
   (bif decide (c26<33) then
    some true
   else
    (xnth c b).bind fun c29 =>
    some (decide (126<c29))).bind fun i =>
   (bif i then
    some true
   else
    (xnth c b).bind fun j =>
    some (j==35)).bind fun k =>
   (bif k then
    some (.inr (.inr ([],false)))
   else
    (xnth c b).bind fun l =>
    (bif l !=37 then
     (xnth c b).bind fun o =>
     (xapp d ([o]:List UInt8)).bind fun p =>
     some (.inl (p,wr (b+1)))
    else
     (bif decide ((c.length:Int)≤(wr (b+2))) then
      some true
     else
      (xnth c (wr (b+1))).bind fun r =>
      (zDV r).bind fun t =>
      some (decide (t<0))).bind fun u =>
     (bif u then
      some true
     else
      (xnth c (wr (b+2))).bind fun v =>
      (zDV v).bind fun x =>
      some (decide (x<0))).bind fun z =>
     (bif z then
      some (.inr (.inr ([],false)))
     else
      (xnth c (wr (b+1))).bind fun aa =>
      (zDV aa).bind fun f =>
      (xnth c (wr (b+2))).bind fun c84 =>
      (zDV c84).bind fun h =>
      (zCc (toU8 (wr ((wr (16*f))+h)))).bind fun ab =>
      (bif ab then
       some true
      else
       (strings_IndexByte [45,46,95,126] (toU8 (wr ((wr (16*f))+h)))).bind fun ac =>
       some (decide (0≤ac))).bind fun ad =>
      (bif ad then
       (xapp d ([toU8 (wr ((wr (16*f))+h))]:List UInt8)).bind fun ae =>
       some (.inl (ae,wr ((wr (b+2))+1)))
      else
       (xnth [48,49,50,51,52,53,54,55,56,57,65,66,67,68,69,70] f).bind fun c118 =>
       (xnth [48,49,50,51,52,53,54,55,56,57,65,66,67,68,69,70] h).bind fun c119 =>
       (xapp d ([37,c118,c119]:List UInt8)).bind fun af =>
       some (.inl (af,wr ((wr (b+2))+1)))))))
  else
   some (.inr (.inl d)))
def zCs (b:Str):Option (Str×Bool) :=
 (xroom (b.length:Int)).bind fun f =>
 (zAB (zGN b) (([]:List UInt8),0)).bind fun c=>match c with
 | .inr e=>some e
 | .inl d =>
  some (d,true)
def zGR (c:(Str×Str×Bool)) (b:Int):Option (Int ⊕ (Unit ⊕ (Str×Int×Bool))) :=
  (bif decide (b<(c.1.length:Int)) then
   (xnth c.1 b).bind fun d =>
   (zGT d).bind fun f =>
   (bif !f then
    some (.inr (.inr ([],0,false)))
   else
    some (.inl (wr (b+1))))
  else
   some (.inr (.inl ())))
def zDs (d:Str):Option (Str×Int×Bool) :=
 (zAW d [58]).bind fun b =>
 (zAB (zGR b) 0).bind fun f=>match f with
 | .inr e=>some e
 | .inl _ =>
  (bif b.1==[] then
   some ([],0,false)
  else
   ((bif b.2.1 !=[] then
    (zA5 b.2.1).bind fun c =>
    (bif ((((!c.2)||(decide (5<(b.2.1.length:Int))))||(decide (c.1<1)))||(decide (65535<c.1))) then
     some (.inr ([],0,false))
    else
     some (.inl c.1))
   else
    some (.inl 80))).bind fun (h:(Int ⊕ (Str×Int×Bool)))=>match h with
   | .inr e=>some e
   | .inl i =>
    (zAO b.1).bind fun j =>
    some (j,i,true))
def zBK (b:GRequest) (c:Int):Option GOutput :=
 (zIc c).bind fun d =>
 (zAJ d b.fMethod).bind fun f =>
 some (⟨f,[]⟩:GOutput)
def zCp (b:GURI):Option Str :=
 (bif b.fPort==80 then
  some b.fHost
 else
  (xcat b.fHost [58]).bind fun c =>
  (zBa b.fPort).bind fun d =>
  (xcat c d).bind fun f =>
  some f)
def zGG (b:GURI):Option Str :=
 (zCp b).bind fun d =>
 (xcat [104,116,116,112,58,47,47] d).bind fun f =>
 (xcat f b.fPath).bind fun c =>
 ((bif b.fHasQuery then
  (xcat [63] b.fQuery).bind fun h =>
  (xcat c h).bind fun i =>
  some i
 else
  some c)).bind fun (j:Str) =>
 some j
def zF3 (b:GEntry) (c:GRequest) (d:Int):Option Bool :=
 (zCA b.fFields).bind fun f =>
 (zIe b d).bind fun h =>
 (zBN c.fFields).bind fun i =>
 (zAc b.fFields).bind fun j =>
 (zEk f h i j).bind fun k =>
 some k
def zA3 (b:(List Str)) (c:(Str→Option Bool)):Option (List Str) :=
 (zAK b c).bind fun i=>delR b c i
def zCY (d:(List GField)) (f:Str):Option (Str×Int×Bool) :=
 (zAt d f).bind fun b =>
 (zGE b.1).bind fun c =>
 some (b.1,c.1,c.2)
def zED (c:((List GETag)×Bool×Bool)) (d:(GETag×Bool)) (b:Int):Option (Int ⊕ (Unit ⊕ Bool)) :=
  (bif decide (b<(c.1.length:Int)) then
   (xnth c.1 b).bind fun f =>
   (bif d.2 then
    (zIl f d.1).bind fun h =>
    some (h)
   else
    some false).bind fun i =>
   (bif i then
    some (.inr (.inr true))
   else
    some (.inl (wr (b+1))))
  else
   some (.inr (.inl ())))
def zB6 (b:GRequest) (d:GResponse):Option Bool :=
 (bif (((b.fMethod !=[71,69,84])&&(b.fMethod !=[72,69,65,68]))||(d.fStatus !=200)) then
  some false
 else
  (zAv b.fFields [73,102,45,78,111,110,101,45,77,97,116,99,104]).bind fun i =>
  (bif i then
   (zJz b.fFields [73,102,45,78,111,110,101,45,77,97,116,99,104]).bind fun c =>
   (bif ((!c.2.2)||c.2.1) then
    some c.2.2
   else
    (zIG d.fFields).bind fun j =>
    (zAB (zED c j) 0).bind fun k=>match k with
    | .inr e=>some e
    | .inl _ =>
     some false)
  else
   (zCY b.fFields [73,102,45,77,111,100,105,102,105,101,100,45,83,105,110,99,101]).bind fun f =>
   (zCY d.fFields [76,97,115,116,45,77,111,100,105,102,105,101,100]).bind fun h =>
   some ((f.2.2&&h.2.2)&&(decide (h.2.1≤f.2.1)))))
def zH3 (d:Str) (c:(List Str)) (b:Int):Option (Int ⊕ (Unit ⊕ Bool)) :=
  (bif decide (b<(c.length:Int)) then
   (xnth c b).bind fun f =>
   (zAe d f).bind fun h =>
   (bif h then
    some (.inr (.inr true))
   else
    some (.inl (wr (b+1))))
  else
   some (.inr (.inl ())))
def zF0 (b:Str) (c:(List Str)):Option Bool :=
 (zAB (zH3 b c) 0).bind fun d=>match d with
 | .inr e=>some e
 | .inl _ =>
  some false
def zGQ (j:GResponse):(Int×Int×Int×Str×(List GField)×Str)→Option ((Int×Int×Int×Str×(List GField)×Str) ⊕ (Int×Int×Str×(List GField)×Str))
 | (b,c,d,f,h,i) =>
  (bif decide (b<(j.fFields.length:Int)) then
   (xnth j.fFields b).bind fun k =>
   (zF0 k.fName ([[65,103,101],[67,97,99,104,101,45,67,111,110,116,114,111,108],[67,111,110,116,101,110,116,45,76,111,99,97,116,105,111,110],[68,97,116,101],[69,84,97,103],[69,120,112,105,114,101,115],[76,97,115,116,45,77,111,100,105,102,105,101,100],[86,97,114,105,97,110,116,115],[86,97,114,105,97,110,116,45,75,101,121],[86,97,114,121],[86,105,97]]:List Str)).bind fun l =>
   (bif l then
    (xapp h ([k]:List GField)).bind fun o =>
    some (.inl (wr (b+1),c,d,f,o,i))
   else
    some (.inl (wr (b+1),c,d,f,h,i)))
  else
   some (.inr (c,d,f,h,i)))
def zDx (b:GResponse):Option GResponse :=
 (zAB (zGQ b) (0,b.fMinor,304,[78,111,116,32,77,111,100,105,102,105,101,100],([]:List GField),[])).bind fun c=>match c with
 | (d,f,h,i,j) =>
  some (⟨d,f,h,i,j⟩:GResponse)
def zFU (d:GRequest) (b:GResponse):Option Str :=
 (bif b.fStatus==200 then
  (zB6 d b).bind fun f =>
  some (f)
 else
  some false).bind fun h =>
 ((bif h then
  (zDx b).bind fun c =>
  some (c.fMinor,c.fStatus,c.fReason,c.fFields,c.fBody)
 else
  some (b.fMinor,b.fStatus,b.fReason,b.fFields,b.fBody))).bind fun (i:(Int×Int×Str×(List GField)×Str)) =>
 match i with
 | (j,k,l,o,p) =>
  (zAJ (⟨j,k,l,o,p⟩:GResponse) d.fMethod).bind fun r =>
  some r
def zHP (b:GRequest) (d:GResponse):Option GOutput :=
 (zFU b d).bind fun c =>
 (bif c !=[] then
  some (⟨c,[]⟩:GOutput)
 else
  (zBK b 502).bind fun f =>
  some f)
def zHa (b:GETag):Option Str :=
 (zDl b.fTag).bind fun d =>
 (bif !d then
  some []
 else
  (xcat [34] b.fTag).bind fun f =>
  (xcat f [34]).bind fun c =>
  (bif b.fWeak then
   (xcat [87,47] c).bind fun h =>
   some h
  else
   some c))
def zEj (b:GRequest) (c:Str):Option GRequest :=
 (zFZ b.fFields).bind fun d =>
 (zKz d b.fMinor c).bind fun f =>
 (zBt f ([[82,97,110,103,101],[73,102,45,82,97,110,103,101]]:List Str)).bind fun h =>
 some (⟨b.fMethod,b.fTarget,1,h,b.fBody⟩:GRequest)
def zH0 (h:(List GField)) (i:Str) (j:(GField→Option Bool)):(Bool×(List GField)×Int)→Option ((Bool×(List GField)×Int) ⊕ (Bool×(List GField)))
 | (c,d,b) =>
  (bif decide (b<(h.length:Int)) then
   (xnth h b).bind fun f =>
   (j f).bind fun k =>
   (bif !k then
    (xapp d ([f]:List GField)).bind fun l =>
    some (.inl (c,l,wr (b+1)))
   else
    (bif !c then
     (xapp d ([(⟨f.fName,i⟩:GField)]:List GField)).bind fun o =>
     some (.inl (true,o,wr (b+1)))
    else
     some (.inl (c,d,wr (b+1)))))
  else
   some (.inr (c,d)))
def zFu (f:(List GField)) (b:Str) (c:Str):Option (List GField) :=
 (zAO b).bind fun h =>
 (zAB (zH0 f c (fun i=>zBR i h)) (false,([]:List GField),0)).bind fun j=>match j with
 | (k,d) =>
  ((bif !k then
   (xapp d ([(⟨b,c⟩:GField)]:List GField)).bind fun l =>
   some l
  else
   some d)).bind fun (o:(List GField)) =>
  some o
def zBq (c:Str) (d:Str) (f:Int):Option Str :=
 (xcat c [32]).bind fun i =>
 (xcat i d).bind fun j =>
 (xcat j [32,72,84,84,80,47,49,46]).bind fun k =>
 (strconv_Itoa f).bind fun l =>
 (xcat k l).bind fun h =>
 (zAf h).bind fun b =>
 (bif ((((b.2.2.2 !=0)||(b.1 !=c))||(b.2.1 !=d))||(b.2.2.1 !=f)) then
  some []
 else
  some h)
def zB8 (b:GRequest):Option Str :=
 (bif decide (100000<(b.fBody.length:Int)) then
  some []
 else
  ((bif (((((b.fBody.length:Int)==0)&&(b.fMethod !=[80,79,83,84]))&&(b.fMethod !=[80,85,84]))&&(b.fMethod !=[80,65,84,67,72])) then
   some (-1)
  else
   some (b.fBody.length:Int))).bind fun (c:Int) =>
  (zBq b.fMethod b.fTarget b.fMinor).bind fun d =>
  (zBs d b.fFields c b.fBody).bind fun f =>
  some f)
def zE7 (d:GEntry) (f:GResponse):Option Bool :=
 (zIG f.fFields).bind fun b =>
 (bif !b.2 then
  some true
 else
  (zIG d.fFields).bind fun c =>
  (bif c.2 then
   (zIl b.1 c.1).bind fun h =>
   some (h)
  else
   some false).bind fun i =>
  some i)
def zIX (c:(List GField)) (d:(List GField)) (f:Int) (h:GField) (b:Int):Option (Int ⊕ (Unit ⊕ (((List GField)×Int) ⊕ (List GField)))) :=
  (bif decide (b<(c.length:Int)) then
   (xnth c b).bind fun i =>
   (zAe h.fName i.fName).bind fun j =>
   (bif j then
    some (.inr (.inr (.inl (d,wr (f+1)))))
   else
    some (.inl (wr (b+1))))
  else
   some (.inr (.inl ())))
def zIj (d:(List GField)) (h:(List GField)):((List GField)×Int)→Option (((List GField)×Int) ⊕ (List GField))
 | (c,b) =>
  (bif decide (b<(d.length:Int)) then
   (xnth d b).bind fun f =>
   (zAB (zIX h c b f) 0).bind fun i=>match i with
   | .inr e=>some e
   | .inl _ =>
    (xapp c ([f]:List GField)).bind fun j =>
    some (.inl (j,wr (b+1)))
  else
   some (.inr c))
def zGo (c:(List GField)) (b:(List GField)):Option (List GField) :=
 (zAB (zIj c b) (([]:List GField),0)).bind fun d =>
 (xapp d b).bind fun f =>
 some f
end
end Go.Eng.Pure
