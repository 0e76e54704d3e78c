/- A part. -/
import Derived.Test.YtljjaiijlaeoeaaGreatDoorPure3
set_option linter.unusedVariables false
namespace Go.Eng.Pure
open Go Go.Eng
set_option linter.unusedVariables false
noncomputable section
def zDd (f:(List GField)):(Int×Int×(List UInt8))→Option ((Int×Int×(List UInt8)) ⊕ (List UInt8))
 | (h,b,c) =>
  (bif decide (b<(f.length:Int)) then
   (xnth f b).bind fun d =>
   (zAp d.fName [67,111,110,116,101,110,116,45,76,101,110,103,116,104]).bind fun j =>
   (bif j then
    some true
   else
    (zAp d.fName [84,114,97,110,115,102,101,114,45,69,110,99,111,100,105,110,103]).bind fun k =>
    some (k)).bind fun l =>
   (bif l then
    none
   else
    (zDl d).bind fun i =>
    (bif ((i==[])||(decide (64≤(wr (h+1))))) then
     some true
    else
     (zAe c).bind fun o =>
     some (decide (16000<o))).bind fun p =>
    (bif p then
     none
    else
     (xcat i [13,10]).bind fun q =>
     (zAG q c).bind fun r =>
     some (.inl (wr (h+1),wr (b+1),r.2.2))))
  else
   some (.inr c))
def zC2 (b:Str) (h:(List GField)) (c:Int) (i:Str):Option Str :=
 (bif b==[] then
  none
 else
  (xcat b [13,10]).bind fun j =>
  (zAG j ([]:List UInt8)).bind fun k =>
  (lf (zDd h) (0,0,k.2.2)).bind fun d =>
  ((bif decide (0≤c) then
   (zCG c).bind fun l =>
   (xcat [67,111,110,116,101,110,116,45,76,101,110,103,116,104,58,32] l).bind fun o =>
   (xcat o [13,10]).bind fun p =>
   (zAG p d).bind fun q =>
   some q.2.2
  else
   some d)).bind fun (r:(List UInt8)) =>
  (zAG [13,10] r).bind fun f =>
  (zAe f.2.2).bind fun t =>
  (bif decide (16000<t) then
   none
  else
   (zA4 f.2.2).bind fun u =>
   (xcat u i).bind fun v =>
   some v))
def zCF (b:Int) (c:Str):Option Bool :=
 some (((((decide (100≤b))&&(decide (b≤199)))||(b==204))||(b==304))||(c==[72,69,65,68]))
def zBE (b:GResponse) (c:Str):Option Str :=
 (bif decide (100000<(b.fBody.length:Int)) then
  none
 else
  (zB0 b.fMinor b.fStatus b.fReason).bind fun d =>
  (zCF b.fStatus c).bind fun f =>
  (bif f then
   none
  else
   (zC2 d b.fFields (b.fBody.length:Int) b.fBody).bind fun h =>
   some h))
def zD4 (c:GRequest) (b:GResponse):Option Str :=
 (bif b.fStatus==200 then
  (zCE c b).bind fun d =>
  some (d)
 else
  some false).bind fun f =>
 (bif f then
  none
 else
  (zBE b c.fMethod).bind fun h =>
  some h)
def zGf (c:GRequest) (d:GResponse):Option GOutput :=
 (zD4 c d).bind fun b =>
 (bif b !=[] then
  some (⟨b,[]⟩:GOutput)
 else
  none)
def zF2 (b:(List Str)):Unit→Option (Unit ⊕ Unit)
 | _ =>
  (bif decide (0<(b.length:Int)) then
   none
  else
   some (.inr ()))
def zF3 (c:(List GField)) (h:(List (Str×Bool))):((List GField)×Int)→Option (((List GField)×Int) ⊕ (List GField))
 | (d,b) =>
  (bif decide (b<(c.length:Int)) then
   (xnth c b).bind fun f =>
   (zA1 f.fName).bind fun i =>
   (some (mget h i false)).bind fun g87 =>
   (bif !g87.1 then
    (xapp d ([f]:List GField)).bind fun j =>
    some (.inl (j,wr (b+1)))
   else
    none)
  else
   some (.inr d))
def zER (b:(List GField)):Option (List GField) :=
 (zEH b [67,111,110,110,101,99,116,105,111,110]).bind fun c =>
 (lf (zF2 c) ()).bind fun i =>
 (some ((zC8 32 [104,111,115,116,32,99,97,99,104,101,45,99,111,110,116,114,111,108,32,118,97,114,121,32,118,97,114,105,97,110,116,115,32,118,97,114,105,97,110,116,45,107,101,121,32,118,105,97]).foldl (fun m k=>mdel m k) ([]:List (Str×Bool)))).bind fun d =>
 (some ((zC8 32 [99,111,110,110,101,99,116,105,111,110,32,107,101,101,112,45,97,108,105,118,101,32,112,114,111,120,121,45,99,111,110,110,101,99,116,105,111,110,32,112,114,111,120,121,45,97,117,116,104,101,110,116,105,99,97,116,101,32,112,114,111,120,121,45,97,117,116,104,111,114,105,122,97,116,105,111,110,32,116,101,32,116,114,97,105,108,101,114,32,116,114,97,110,115,102,101,114,45,101,110,99,111,100,105,110,103,32,99,111,110,116,101,110,116,45,108,101,110,103,116,104,32,117,112,103,114,97,100,101]).foldl (fun m k=>mset m k true) d)).bind fun f =>
 (lf (zF3 b f) (([]:List GField),0)).bind fun h =>
 some h
def zCP (c:(List Str)):((List GField)×Int)→Option (((List GField)×Int) ⊕ (List GField))
 | (d,b) =>
  (bif decide (b<(c.length:Int)) then
   (xnth c b).bind fun f =>
   (zBP d f).bind fun h =>
   some (.inl (h,wr (b+1)))
  else
   some (.inr d))
def zDJ (b:(List GField)) (c:(List Str)):Option (List GField) :=
 (xapp ([]:List GField) b).bind fun d =>
 (lf (zCP c) (d,0)).bind fun f =>
 some f
def zC5 (b:GRequest) (c:Str):Option GRequest :=
 (zER b.fFields).bind fun d =>
 (zGF d b.fMinor c).bind fun f =>
 (zDJ f ([[82,97,110,103,101],[73,102,45,82,97,110,103,101]]:List Str)).bind fun h =>
 some (⟨b.fMethod,b.fTarget,1,h,b.fBody⟩:GRequest)
def zDn (h:(List GField)) (i:Str) (j:(GField→Option Bool)):(Bool×(List GField)×Int)→Option ((Bool×(List GField)×Int) ⊕ (Bool×(List GField)))
 | (c,d,b) =>
  (bif decide (b<(h.length:Int)) then
   (xnth h b).bind fun f =>
   (j f).bind fun k =>
   (bif !k then
    (xapp d ([f]:List GField)).bind fun l =>
    some (.inl (c,l,wr (b+1)))
   else
    (bif !c then
     (xapp d ([(⟨f.fName,i⟩:GField)]:List GField)).bind fun o =>
     some (.inl (true,o,wr (b+1)))
    else
     none))
  else
   some (.inr (c,d)))
def zFa (b:(List GField)) (c:Str) (d:Str):Option (List GField) :=
 (zBD c).bind fun f =>
 (lf (zDn b d f) (false,([]:List GField),0)).bind fun h=>match h with
 | (i,j) =>
  (bif !i then
   none
  else
   some j)
def zBp (c:Str) (d:Str) (f:Int):Option Str :=
 (xcat c [32]).bind fun i =>
 (xcat i d).bind fun j =>
 (xcat j [32,72,84,84,80,47,49,46]).bind fun k =>
 (strconv_Itoa f).bind fun l =>
 (xcat k l).bind fun h =>
 (zBG h).bind fun b =>
 (bif ((((b.2.2.2 !=0)||(b.1 !=c))||(b.2.1 !=d))||(b.2.2.1 !=f)) then
  none
 else
  some h)
def zB7 (b:GRequest):Option Str :=
 (bif decide (100000<(b.fBody.length:Int)) then
  none
 else
  (bif (((((b.fBody.length:Int)==0)&&(b.fMethod !=[80,79,83,84]))&&(b.fMethod !=[80,85,84]))&&(b.fMethod !=[80,65,84,67,72])) then
   (zBp b.fMethod b.fTarget b.fMinor).bind fun c =>
   (zC2 c b.fFields (-1) b.fBody).bind fun d =>
   some d
  else
   none))
def zBh:(Int×Str×Int×(List GField)×(List Str)×(List Str)×Int×Int×Str×(List GField)×Str)→Option ((Int×Str×Int×(List GField)×(List Str)×(List Str)×Int×Int×Str×(List GField)×Str) ⊕ (Int×Str×Int×(List GField)×(List Str)×(List Str)×Int×Int×Str×(List GField)×Str))
 | (k,d,f,h,i,l,o,p,q,r,t) =>
  (xsub d f d.length).bind fun u =>
  (zFA u).bind fun b =>
  (bif b.2.2 !=0 then
   none
  else
   ((bif ((decide (16000<(wr (f+b.2.1))))||((decide (64<k))&&(b.1 !=[]))) then
    none
   else
    (bif k==0 then
     (zBJ b.1).bind fun j =>
     some (.inl (j.2.2.2,h,i,j.1,j.2.1,j.2.2.1))
    else
     (bif b.1==[] then
      some (.inr (.inr (0,d,wr (f+b.2.1),h,i,l,o,p,q,r,t)))
     else
      (zCZ b.1).bind fun c =>
      ((bif c.2 !=0 then
       none
      else
       (zAp c.1.fName [67,111,110,116,101,110,116,45,76,101,110,103,116,104]).bind fun v =>
       (bif v then
        (xapp i ([c.1.fValue]:List Str)).bind fun x =>
        some (h,x)
       else
        (zAp c.1.fName [84,114,97,110,115,102,101,114,45,69,110,99,111,100,105,110,103]).bind fun z =>
        (bif z then
         none
        else
         (xapp h ([c.1]:List GField)).bind fun aa =>
         some (aa,i))))).bind fun (ab:((List GField)×(List Str))) =>
      match ab with
      | (ac,ad) =>
       some (.inl (0,ac,ad,o,p,q)))))).bind fun (ae:((Int×(List GField)×(List Str)×Int×Int×Str) ⊕ ((Int×Str×Int×(List GField)×(List Str)×(List Str)×Int×Int×Str×(List GField)×Str) ⊕ (Int×Str×Int×(List GField)×(List Str)×(List Str)×Int×Int×Str×(List GField)×Str))))=>match ae with
   | .inr e=>some e
   | .inl (af,ah,ai,aj,ak,al) =>
    (bif af !=0 then
     none
    else
     some (.inl (wr (k+1),d,wr (f+b.2.1),ah,ai,l,aj,ak,al,r,t))))
def zBj (c:(List Str)) (b:Int):Option (Int ⊕ Unit) :=
  (bif decide (b<(c.length:Int)) then
   (xnth c b).bind fun d =>
   (zBM d).bind fun f =>
   (bif ((!f.2)||(decide (9<(d.length:Int)))) then
    none
   else
    some (.inl (wr (b+1))))
  else
   some (.inr ()))
def zCB (k:Str) (l:Str) (ae:Bool):Option (GResponse×Int×Int) :=
 ((lf (zBh) (0,k,0,([]:List GField),([]:List Str),([]:List Str),0,0,[],([]:List GField),[])).bind fun o=>some o).bind fun (p:(Int×Str×Int×(List GField)×(List Str)×(List Str)×Int×Int×Str×(List GField)×Str)) =>
 match p with
 | (q,f,h,r,b,c,t,i,u,af,ah) =>
  (bif q !=0 then
   none
  else
   (bif decide (1<(c.length:Int)) then
    some true
   else
    (bif (c.length:Int)==1 then
     (xnth c 0).bind fun v =>
     (zAp v [99,104,117,110,107,101,100]).bind fun x =>
     some (!x)
    else
     some false).bind fun z =>
    some (z)).bind fun aa =>
   (bif aa then
    none
   else
    (bif ((decide (1<(b.length:Int)))||(((b.length:Int)==1)&&((c.length:Int)==1))) then
     none
    else
     (lf (zBj b) 0).bind fun ai =>
     (zCF i l).bind fun ab =>
     (bif ab then
      none
     else
      (bif decide (0<(wr ((c.length:Int)+(b.length:Int)))) then
       (xsub f h f.length).bind fun j =>
       (bif decide (0<(c.length:Int)) then
        none
       else
        (bif decide (0<(b.length:Int)) then
         (xnth b 0).bind fun ac =>
         (zBM ac).bind fun d =>
         (bif decide (100000<d.1) then
          none
         else
          (bif decide ((j.length:Int)<d.1) then
           none
          else
           (xsub j 0 d.1).bind fun ad =>
           some ((⟨t,i,u,r,ad⟩:GResponse),wr (h+d.1),0)))
        else
         none))
      else
       none)))))
def zFb (b:(List Str)):Unit→Option (Unit ⊕ Unit)
 | _ =>
  (bif decide (0<(b.length:Int)) then
   none
  else
   some (.inr ()))
def zFS (c:(List GField)):Option ((List Str)×Bool) :=
 (zEH c [86,97,114,121]).bind fun b =>
 (bif decide (64≤(b.length:Int)) then
  none
 else
  (lf (zFb b) ()).bind fun h =>
  (slices_Sort_string ([]:List Str)).bind fun d =>
  (slices_Compact_string d).bind fun f =>
  some (f,true))
def zDe (c:GRequest) (d:GResponse):Option Bool :=
 (bif ((c.fMethod !=[71,69,84])||(d.fStatus !=200)) then
  none
 else
  (zAW d.fFields).bind fun b =>
  (bif (b.fNoStore||b.fPrivate) then
   some true
  else
   (zAx c.fFields).bind fun f =>
   some (f.fNoStore)).bind fun h =>
  (bif h then
   none
  else
   (zFS d.fFields).bind fun i =>
   (bif !i.2 then
    none
   else
    (zAw c.fFields [82,97,110,103,101]).bind fun j =>
    (bif j then
     none
    else
     (zAw c.fFields [65,117,116,104,111,114,105,122,97,116,105,111,110]).bind fun k =>
     (bif (((k&&(!b.fMustRevalidate))&&(!b.fPublic))&&(b.fSMaxAge==(-1))) then
      none
     else
      (zBn d.fFields).bind fun l =>
      (bif decide (0<l) then
       some true
      else
       none).bind fun o =>
      some o)))))
def zEc (b:(List GField)):Option ((List GAxis)×Int) :=
 (zAw b [86,97,114,105,97,110,116,115]).bind fun c =>
 (bif !c then
  some (([]:List GAxis),12)
 else
  none)
def zCs (b:(List GAxis)):Option Bool :=
 (bif ((decide ((b.length:Int)<1))||(decide (4<(b.length:Int)))) then
  some false
 else
  none)
def zDv (d:(List GField)) (b:(List GAxis)):Option ((List (List Str))×Int) :=
 (zCs b).bind fun c =>
 (bif !c then
  some (([]:List (List Str)),10)
 else
  none)
def zGo (f:GRequest) (b:GResponse) (h:Int) (i:Int):Option (GEntry×(List GAxis)) :=
 (zER b.fFields).bind fun j =>
 (zEc b.fFields).bind fun c =>
 (zDv b.fFields c.1).bind fun k =>
 (bif ((c.2==0)&&(k.2==0)) then
  none
 else
  (zFS b.fFields).bind fun d =>
  (zDO d.1 f.fFields).bind fun l =>
  some ((⟨([]:List (List Str)),d.1,l,b.fReason,j,b.fBody,h,i⟩:GEntry),([]:List GAxis)))
def zEf (b:GEntry) (c:Str):Option Bool :=
 (zDQ b 2147483647 c).bind fun d =>
 (zBE d [71,69,84]).bind fun f =>
 some (f !=[])
def zD0 (b:(List Str)):Unit→Option (Unit ⊕ Unit)
 | _ =>
  (bif decide (0<(b.length:Int)) then
   none
  else
   some (.inr ()))
def zDZ (b:(List Str)):Option Int :=
 (lf (zD0 b) ()).bind fun c =>
 some 0
def zFN (c:GEntry):(Int×Int)→Option ((Int×Int) ⊕ Int)
 | (d,b) =>
  (bif decide (b<(c.fFields.length:Int)) then
   (xnth c.fFields b).bind fun f =>
   some (.inl (wr (d+(wr ((wr (4+(f.fName.length:Int)))+(f.fValue.length:Int)))),wr (b+1)))
  else
   some (.inr d))
def zFV (b:GEntry):Unit→Option (Unit ⊕ Unit)
 | _ =>
  (bif decide (0<(b.fKeys.length:Int)) then
   none
  else
   some (.inr ()))
def zFF (b:GEntry):Option Int :=
 (zDZ b.fVary).bind fun c =>
 (zDZ b.fSnapshot).bind fun d =>
 (lf (zFN b) (wr ((wr ((wr ((wr (100+(b.fReason.length:Int)))+(b.fBody.length:Int)))+c))+d),0)).bind fun f =>
 (lf (zFV b) ()).bind fun h =>
 some f
def zAN (b:(List GAxis)):Unit→Option (Unit ⊕ Unit)
 | _ =>
  (bif decide (0<(b.length:Int)) then
   none
  else
   some (.inr ()))
def zAO (b:(List GAxis)) (c:(List GAxis)) (d:(GAxis→GAxis→Option Bool)):Option Bool :=
 (bif (b.length:Int) !=(c.length:Int) then
  none
 else
  (lf (zAN b) ()).bind fun f =>
  some true)
def zCA (b:GAxis) (c:GAxis):Option Bool :=
 none
def zEW (b:(List GAxis)) (c:(List GAxis)):Option Bool :=
 (zAO b c zCA).bind fun d =>
 some d
def zET (b:GEntry) (c:(List GAxis)) (d:GEntry):Option Bool :=
 none
def zAc (b:(List GEntry)):Unit→Option (Unit ⊕ Unit)
 | _ =>
  (bif decide (0<(b.length:Int)) then
   none
  else
   some (.inr ()))
def zAh (b:(List GEntry)) (c:(GEntry→Option Bool)):Option Int :=
 (lf (zAc b) ()).bind fun d =>
 some (-1)
def zAQ (b:(List GEntry)) (c:(GEntry→Option Bool)):Option (List GEntry) :=
 (zAh b c).bind fun i=>delRF b c i
def zG6 (d:GTable) (f:GEntry) (h:(List GAxis)) (b:Int):Option GTable :=
 (zCH d).bind fun i =>
 (zEW d.fAxes h).bind fun j =>
 (bif !j then
  none
 else
  (zAQ i.fEntries (fun k=>zET k h f)).bind fun l =>
  (zEQ f).bind fun o =>
  (xapp l ([o]:List GEntry)).bind fun c =>
  (xsub c (if (wr ((c.length:Int) - (if b<0 then 0 else b)))<0 then 0 else (wr ((c.length:Int) - (if b<0 then 0 else b)))) c.length).bind fun p =>
  some (⟨i.fAxes,p⟩:GTable))
def zE0 (c:GTable):(Int×Int)→Option ((Int×Int) ⊕ Int)
 | (d,b) =>
  (bif decide (b<(c.fEntries.length:Int)) then
   (xnth c.fEntries b).bind fun f =>
   (zFF f).bind fun h =>
   some (.inl (wr (d+h),wr (b+1)))
  else
   some (.inr d))
def zFD (b:GTable):Option Int :=
 (lf (zE0 b) (0,0)).bind fun c =>
 some c
def zAD (b:Str) (c:Str):Option Bool :=
 some (b==c)
def zCS (c:(List Str)) (b:Str):Option (List Str) :=
 (zAP c (fun d=>zAD d b)).bind fun f =>
 (xapp f ([b]:List Str)).bind fun h =>
 some h
def zCa (b:Str) (c:Str):Option Unit :=
 (bif decide (c=b) then
  some ()
 else
  none)
def zCU (c:Str) (d:(List Str)) (b:Str):Option (List Str) :=
 (zCa c b).bind fun (h:Unit) =>
 (zCS d b).bind fun (f:(List Str)) =>
 some f
def zCe (b:Str) (c:Str):Option Unit :=
 (bif decide (c=b) then
  some ()
 else
  none)
def zCT (b:Str) (c:GTable) (d:Str):Option GTable :=
 (zCe b d).bind fun (h:Unit) =>
 (zCH c).bind fun f =>
 some f
def zCV (f:GConfig) (h:Str) (j:(List Str)) (k:GTable):Option (GOutput×GDecision×(GRequest×GURI×Unit)×GTable×(List Str)) :=
 (zE1 [71,69,84,32,47,97,32,72,84,84,80,47,49,46,49,13,10,72,111,115,116,58,32,104,13,10,13,10]).bind fun b =>
 (zFH b.2.1).bind fun i =>
 (zCT h k i).bind fun (c:GTable) =>
 (zDW c b.1 (wr (0+(if 1099511627776<5 then 1099511627776 else 5))) f).bind fun d =>
 (bif d.fKind==1 then
  (zCU h j i).bind fun (l:(List Str)) =>
  (xnth c.fEntries d.fIndex).bind fun o =>
  (zEi o (wr (0+(if 1099511627776<5 then 1099511627776 else 5))) f.fName).bind fun p =>
  (zGf b.1 p).bind fun q =>
  some (q,d,b,c,l)
 else
  none)
def zCd:Option Unit :=
 some ()
def zCY (b:Str):Option (List Str) :=
 (zAP ([]:List Str) (fun c=>zAD c b)).bind fun d =>
 (xapp d ([b]:List Str)).bind fun f =>
 some f
def zCb (b:GTable):Option (Int×Int) :=
 (zFD b).bind fun c =>
 (zFD (⟨([]:List GAxis),([]:List GEntry)⟩:GTable)).bind fun d =>
 (bif decide (0<(b.fEntries.length:Int)) then
  some (c,d)
 else
  none)
def zEY (b:GConfig) (c:Int) (d:Int) (f:(List Str)):Unit→Option (Unit ⊕ Unit)
 | _ =>
  (bif ((decide (b.fBytes<(wr (0+(wr (c - d))))))||(decide (b.fTables<(f.length:Int)))) then
   none
  else
   some (.inr ()))
def zCv (c:GConfig) (j:Str) (b:(GEntry×(List GAxis))):Option (Int×Int×(List Str)×GTable) :=
 (zFF b.1).bind fun k =>
 (bif decide (c.fBytes<k) then
  some true
 else
  (bif decide (0<(b.2.length:Int)) then
   (zCs b.2).bind fun l =>
   some (!l)
  else
   some false).bind fun o =>
  some (o)).bind fun p =>
 (bif p then
  none
 else
  (zG6 (⟨([]:List GAxis),([]:List GEntry)⟩:GTable) b.1 b.2 c.fVariants).bind fun d =>
  (zCb d).bind fun (q:(Int×Int)) =>
  match q with
  | (f,h) =>
   (zCY j).bind fun (i:(List Str)) =>
   ((lf (zEY c f h i) ()).bind fun r =>
   some ()).bind fun (t:Unit) =>
   some (f,h,i,d))
def zED (b:Str):Option Bool :=
 some ((((b !=[71,69,84])&&(b !=[72,69,65,68]))&&(b !=[79,80,84,73,79,78,83]))&&(b !=[84,82,65,67,69]))
def zC4 (c:Str) (b:Int):Option Bool :=
 (zED c).bind fun d =>
 some ((d&&(decide (200≤b)))&&(decide (b≤399)))
def zCx (d:GConfig) (c:(GRequest×GURI×Unit)) (i:Str) (b:(GResponse×Int×Int)):Option (Str×Int×Int×(List Str)×GTable) :=
 (zER b.1.fFields).bind fun j =>
 (zGF j b.1.fMinor d.fName).bind fun k =>
 (zD4 c.1 (⟨1,b.1.fStatus,b.1.fReason,k,b.1.fBody⟩:GResponse)).bind fun f =>
 (bif f==[] then
  none
 else
  (zC4 c.1.fMethod b.1.fStatus).bind fun l =>
  (bif l then
   none
  else
   (zDe c.1 b.1).bind fun o =>
   (bif o then
    (zGo c.1 b.1 0 0).bind fun h =>
    (zEf h.1 d.fName).bind fun p =>
    (bif p then
     (zCv d i h).bind fun (q:(Int×Int×(List Str)×GTable)) =>
     match q with
     | (r,t,u,v) =>
      some (f,r,t,u,v)
    else
     none)
   else
    none)))
def zCt (d:GConfig) (c:(GRequest×GURI×Unit)) (f:Str):Option (Str×Int×Int×(List Str)×GTable) :=
 (zCB [72,84,84,80,47,49,46,49,32,50,48,48,32,79,75,13,10,67,97,99,104,101,45,67,111,110,116,114,111,108,58,32,109,97,120,45,97,103,101,61,54,48,13,10,67,111,110,116,101,110,116,45,76,101,110,103,116,104,58,32,49,13,10,13,10,120] c.1.fMethod true).bind fun b =>
 (bif (((b.2.2 !=0)||(b.2.1 !=([72,84,84,80,47,49,46,49,32,50,48,48,32,79,75,13,10,67,97,99,104,101,45,67,111,110,116,114,111,108,58,32,109,97,120,45,97,103,101,61,54,48,13,10,67,111,110,116,101,110,116,45,76,101,110,103,116,104,58,32,49,13,10,13,10,120].length:Int)))||(decide (b.1.fStatus<200))) then
  none
 else
  (bif ((b.1.fStatus==304)&&false) then
   none
  else
   (bif b.1.fStatus==304 then
    none
   else
    some false).bind fun h =>
   (bif h then
    none
   else
    (zCx d c f b).bind fun (i:(Str×Int×Int×(List Str)×GTable)) =>
    match i with
    | (j,k,l,o,p) =>
     some (j,k,l,o,p))))
def zCw (f:GConfig) (c:(GRequest×GURI×Unit)):Option (Str×GRequest×(List GField)) :=
 (zC5 c.1 f.fName).bind fun b =>
 (bif c.2.1.fHasQuery then
  none
 else
  (bif c.2.1.fPort !=80 then
   none
  else
   (zAw b.fFields [72,111,115,116]).bind fun h =>
   (bif h then
    (zFa b.fFields [72,111,115,116] c.2.1.fHost).bind fun d =>
    (zB7 (⟨b.fMethod,c.2.1.fPath,b.fMinor,d,b.fBody⟩:GRequest)).bind fun i =>
    some (i,b,d)
   else
    none)))
def zCz:Option Unit :=
 some ()
def zCr:Option GTable :=
 (zCz).bind fun (c:Unit) =>
 (zCH (⟨([]:List GAxis),([]:List GEntry)⟩:GTable)).bind fun b =>
 some b
def zC3 (d:GConfig):Option (Str×(GRequest×GURI×Unit)×Str) :=
 (zE1 [71,69,84,32,47,97,32,72,84,84,80,47,49,46,49,13,10,72,111,115,116,58,32,104,13,10,13,10]).bind fun b =>
 (zFH b.2.1).bind fun h =>
 (zCr).bind fun (i:GTable) =>
 (zDW i b.1 0 d).bind fun c =>
 (bif c.fKind==1 then
  none
 else
  (bif c.fKind==4 then
   none
  else
   (bif c.fKind==5 then
    none
   else
    (bif c.fKind==2 then
     none
    else
     (zCw d b).bind fun (j:(Str×GRequest×(List GField))) =>
     match j with
     | (f,k,l) =>
      (bif f==[] then
       none
      else
       some (f,b,h))))))
def zC1 (b:GConfig):Option Unit :=
 (bif ((((((decide (b.fBytes<1))||(decide (100000000<b.fBytes)))||(decide (b.fVariants<1)))||(decide (64<b.fVariants)))||(decide (b.fTables<1)))||(decide (1000<b.fTables))) then
  none
 else
  some ())
def zC0 (b:GConfig):Option Unit :=
 (zC1 b).bind fun (d:Unit) =>
 (zBK b.fName).bind fun c =>
 (bif (((!c)||(decide (100<(b.fName.length:Int))))||(b.fRefuse&&(!b.fStrict))) then
  none
 else
  some ())
def zF1:Option GConfig :=
 some (⟨[112],1000,4,4,false,false⟩:GConfig)
def zAU:Option Bool :=
 (zF1).bind fun b =>
 (zC0 b).bind fun (q:Unit) =>
 (zC3 b).bind fun (f:(Str×(GRequest×GURI×Unit)×Str)) =>
 match f with
 | (h,i,c) =>
  (zCt b i c).bind fun (j:(Str×Int×Int×(List Str)×GTable)) =>
  match j with
  | (k,r,t,l,o) =>
   (zCd).bind fun (u:Unit) =>
   (zCV b c l o).bind fun (p:(GOutput×GDecision×(GRequest×GURI×Unit)×GTable×(List Str))) =>
   match p with
   | (d,v,x,z,aa) =>
    some ((((h !=[])&&(k !=[]))&&(d.fToOrigin==[]))&&(d.fToClient==[72,84,84,80,47,49,46,49,32,50,48,48,32,79,75,13,10,67,97,99,104,101,45,67,111,110,116,114,111,108,58,32,109,97,120,45,97,103,101,61,54,48,13,10,65,103,101,58,32,53,13,10,86,105,97,58,32,49,46,49,32,112,13,10,67,111,110,116,101,110,116,45,76,101,110,103,116,104,58,32,49,13,10,13,10,120]))
def zJ3 (b:Int) (c:Int) (d:Int):Option Bool :=
 some ((((((decide (1≤b))&&(decide (b≤100000000)))&&(decide (1≤c)))&&(decide (c≤64)))&&(decide (1≤d)))&&(decide (d≤1000)))
def zJ0 (c:UInt8) (b:Int):Option (Int ⊕ (Unit ⊕ Bool)) :=
  (bif decide (b<15) then
   (xnth [33,35,36,37,38,39,42,43,45,46,94,95,96,124,126] b).bind fun d =>
   (bif d==c then
    some (.inr (.inr true))
   else
    some (.inl (wr (b+1))))
  else
   some (.inr (.inl ())))
def zJx (b:UInt8):Option Bool :=
 (bif ((((decide (97≤b))&&(decide (b≤122)))||((decide (65≤b))&&(decide (b≤90))))||((decide (48≤b))&&(decide (b≤57)))) then
  some true
 else
  (lf (zJ0 b) 0).bind fun c=>match c with
  | .inr e=>some e
  | .inl _ =>
   some false)
def zJw (c:Str) (b:Int):Option (Int ⊕ (Unit ⊕ Bool)) :=
  (bif decide (b<(c.length:Int)) then
   (xnth c b).bind fun d =>
   (zJx d).bind fun f =>
   (bif !f then
    some (.inr (.inr false))
   else
    some (.inl (wr (b+1))))
  else
   some (.inr (.inl ())))
def zJ1 (b:Str):Option Bool :=
 (lf (zJw b) 0).bind fun c=>match c with
 | .inr e=>some e
 | .inl _ =>
  some (b !=[])
def zJv (b:GConfig):Option Bool :=
 (zJ1 b.fName).bind fun c =>
 (bif (c&&(decide ((b.fName.length:Int)≤100))) then
  (zJ3 b.fBytes b.fVariants b.fTables).bind fun d =>
  some (d)
 else
  some false).bind fun f =>
 some (f&&(b.fStrict||(!b.fRefuse)))
def zJz (b:GConfig):Option Bool :=
 (bif decide (1000<(b.fName.length:Int)) then
  some true
 else
  (bif ((((((decide (b.fBytes<1))||(decide (100000000<b.fBytes)))||(decide (b.fVariants<1)))||(decide (64<b.fVariants)))||(decide (b.fTables<1)))||(decide (1000<b.fTables))) then
   (zJv b).bind fun c =>
   (bif !c then
    (zAU).bind fun d =>
    some d
   else
    some false)
  else
   (zBK b.fName).bind fun f =>
   (bif (((!f)||(decide (100<(b.fName.length:Int))))||(b.fRefuse&&(!b.fStrict))) then
    (zJv b).bind fun h =>
    (bif !h then
     (zAU).bind fun i =>
     some i
    else
     some false)
   else
    (zJv b).bind fun j =>
    (bif !j then
     some false
    else
     (some 0).bind fun (k:Int) =>
     (bif k==0 then
      ((some 0).bind fun (l:Int) =>
      some l).bind fun (o:Int) =>
      some (o==0)
     else
      some false).bind fun p =>
     (bif p then
      (((zAb ([]:List Str)).bind fun q =>
      some q).bind fun (r:(List Str)) =>
      some r).bind fun (t:(List Str)) =>
      some ((t.length:Int)==0)
     else
      some false).bind fun u =>
     (bif u then
      (zAU).bind fun v =>
      some (v)
     else
      some false).bind fun x =>
     some x))))
def zG1 (b:Str) (c:Str):Option Int :=
 (zBA b c).bind fun d =>
 some d
end
end Go.Eng.Pure
