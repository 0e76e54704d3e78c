/- A part. -/
import Derived.Test.YtljjaiijlaeoeaaGreatDoorPure3
set_option linter.unusedVariables false
namespace Go.Eng.Pure
open Go Go.Eng
set_option linter.unusedVariables false
noncomputable section
def zDd (f:(List GField)):(Int×Int×(List UInt8))→Option ((Int×Int×(List UInt8)) ⊕ (List UInt8))
 | (h,b,c) =>
  (bif decide (b<(f.length:Int)) then
   (xnth f b).bind fun d =>
   (zAp d.fName [67,111,110,116,101,110,116,45,76,101,110,103,116,104]).bind fun j =>
   (bif j then
    some true
   else
    (zAp d.fName [84,114,97,110,115,102,101,114,45,69,110,99,111,100,105,110,103]).bind fun k =>
    some (k)).bind fun l =>
   (bif l then
    none
   else
    (zDl d).bind fun i =>
    (bif ((i==[])||(decide (64≤(wr (h+1))))) then
     some true
    else
     (zAe c).bind fun o =>
     some (decide (16000<o))).bind fun p =>
    (bif p then
     none
    else
     (xcat i [13,10]).bind fun q =>
     (zAG q c).bind fun r =>
     some (.inl (wr (h+1),wr (b+1),r.2.2))))
  else
   some (.inr c))
def zC2 (b:Str) (h:(List GField)) (c:Int) (i:Str):Option Str :=
 (bif b==[] then
  none
 else
  (xcat b [13,10]).bind fun j =>
  (zAG j ([]:List UInt8)).bind fun k =>
  (lf (zDd h) (0,0,k.2.2)).bind fun d =>
  ((bif decide (0≤c) then
   (zCG c).bind fun l =>
   (xcat [67,111,110,116,101,110,116,45,76,101,110,103,116,104,58,32] l).bind fun o =>
   (xcat o [13,10]).bind fun p =>
   (zAG p d).bind fun q =>
   some q.2.2
  else
   some d)).bind fun (r:(List UInt8)) =>
  (zAG [13,10] r).bind fun f =>
  (zAe f.2.2).bind fun t =>
  (bif decide (16000<t) then
   none
  else
   (zA4 f.2.2).bind fun u =>
   (xcat u i).bind fun v =>
   some v))
def zCF (b:Int) (c:Str):Option Bool :=
 some (((((decide (100≤b))&&(decide (b≤199)))||(b==204))||(b==304))||(c==[72,69,65,68]))
def zBE (b:GResponse) (c:Str):Option Str :=
 (bif decide (100000<(b.fBody.length:Int)) then
  none
 else
  (zB0 b.fMinor b.fStatus b.fReason).bind fun d =>
  (zCF b.fStatus c).bind fun f =>
  (bif f then
   none
  else
   (zC2 d b.fFields (b.fBody.length:Int) b.fBody).bind fun h =>
   some h))
def zD4 (c:GRequest) (b:GResponse):Option Str :=
 (bif b.fStatus==200 then
  (zCE c b).bind fun d =>
  some (d)
 else
  some false).bind fun f =>
 (bif f then
  none
 else
  (zBE b c.fMethod).bind fun h =>
  some h)
def zGf (c:GRequest) (d:GResponse):Option GOutput :=
 (zD4 c d).bind fun b =>
 (bif b !=[] then
  some (⟨b,[]⟩:GOutput)
 else
  none)
def zF2 (b:(List Str)):Unit→Option (Unit ⊕ Unit)
 | _ =>
  (bif decide (0<(b.length:Int)) then
   none
  else
   some (.inr ()))
def zF3 (c:(List GField)) (h:(List (Str×Bool))):((List GField)×Int)→Option (((List GField)×Int) ⊕ (List GField))
 | (d,b) =>
  (bif decide (b<(c.length:Int)) then
   (xnth c b).bind fun f =>
   (zA1 f.fName).bind fun i =>
   (some (mget h i false)).bind fun g87 =>
   (bif !g87.1 then
    (xapp d ([f]:List GField)).bind fun j =>
    some (.inl (j,wr (b+1)))
   else
    none)
  else
   some (.inr d))
def zER (b:(List GField)):Option (List GField) :=
 (zEH b [67,111,110,110,101,99,116,105,111,110]).bind fun c =>
 (lf (zF2 c) ()).bind fun i =>
 (some ((zC8 32 [104,111,115,116,32,99,97,99,104,101,45,99,111,110,116,114,111,108,32,118,97,114,121,32,118,97,114,105,97,110,116,115,32,118,97,114,105,97,110,116,45,107,101,121,32,118,105,97]).foldl (fun m k=>mdel m k) ([]:List (Str×Bool)))).bind fun d =>
 (some ((zC8 32 [99,111,110,110,101,99,116,105,111,110,32,107,101,101,112,45,97,108,105,118,101,32,112,114,111,120,121,45,99,111,110,110,101,99,116,105,111,110,32,112,114,111,120,121,45,97,117,116,104,101,110,116,105,99,97,116,101,32,112,114,111,120,121,45,97,117,116,104,111,114,105,122,97,116,105,111,110,32,116,101,32,116,114,97,105,108,101,114,32,116,114,97,110,115,102,101,114,45,101,110,99,111,100,105,110,103,32,99,111,110,116,101,110,116,45,108,101,110,103,116,104,32,117,112,103,114,97,100,101]).foldl (fun m k=>mset m k true) d)).bind fun f =>
 (lf (zF3 b f) (([]:List GField),0)).bind fun h =>
 some h
def zCP (c:(List Str)):((List GField)×Int)→Option (((List GField)×Int) ⊕ (List GField))
 | (d,b) =>
  (bif decide (b<(c.length:Int)) then
   (xnth c b).bind fun f =>
   (zBP d f).bind fun h =>
   some (.inl (h,wr (b+1)))
  else
   some (.inr d))
def zDJ (b:(List GField)) (c:(List Str)):Option (List GField) :=
 (xapp ([]:List GField) b).bind fun d =>
 (lf (zCP c) (d,0)).bind fun f =>
 some f
def zC5 (b:GRequest) (c:Str):Option GRequest :=
 (zER b.fFields).bind fun d =>
 (zGF d b.fMinor c).bind fun f =>
 (zDJ f ([[82,97,110,103,101],[73,102,45,82,97,110,103,101]]:List Str)).bind fun h =>
 some (⟨b.fMethod,b.fTarget,1,h,b.fBody⟩:GRequest)
def zDn (h:(List GField)) (i:Str) (j:(GField→Option Bool)):(Bool×(List GField)×Int)→Option ((Bool×(List GField)×Int) ⊕ (Bool×(List GField)))
 | (c,d,b) =>
  (bif decide (b<(h.length:Int)) then
   (xnth h b).bind fun f =>
   (j f).bind fun k =>
   (bif !k then
    (xapp d ([f]:List GField)).bind fun l =>
    some (.inl (c,l,wr (b+1)))
   else
    (bif !c then
     (xapp d ([(⟨f.fName,i⟩:GField)]:List GField)).bind fun o =>
     some (.inl (true,o,wr (b+1)))
    else
     none))
  else
   some (.inr (c,d)))
def zFa (b:(List GField)) (c:Str) (d:Str):Option (List GField) :=
 (zBD c).bind fun f =>
 (lf (zDn b d f) (false,([]:List GField),0)).bind fun h=>match h with
 | (i,j) =>
  (bif !i then
   none
  else
   some j)
def zBp (c:Str) (d:Str) (f:Int):Option Str :=
 (xcat c [32]).bind fun i =>
 (xcat i d).bind fun j =>
 (xcat j [32,72,84,84,80,47,49,46]).bind fun k =>
 (strconv_Itoa f).bind fun l =>
 (xcat k l).bind fun h =>
 (zBG h).bind fun b =>
 (bif ((((b.2.2.2 !=0)||(b.1 !=c))||(b.2.1 !=d))||(b.2.2.1 !=f)) then
  none
 else
  some h)
def zB7 (b:GRequest):Option Str :=
 (bif decide (100000<(b.fBody.length:Int)) then
  none
 else
  (bif (((((b.fBody.length:Int)==0)&&(b.fMethod !=[80,79,83,84]))&&(b.fMethod !=[80,85,84]))&&(b.fMethod !=[80,65,84,67,72])) then
   (zBp b.fMethod b.fTarget b.fMinor).bind fun c =>
   (zC2 c b.fFields (-1) b.fBody).bind fun d =>
   some d
  else
   none))
def zBh:(Int×Str×Int×(List GField)×(List Str)×(List Str)×Int×Int×Str×(List GField)×Str)→Option ((Int×Str×Int×(List GField)×(List Str)×(List Str)×Int×Int×Str×(List GField)×Str) ⊕ (Int×Str×Int×(List GField)×(List Str)×(List Str)×Int×Int×Str×(List GField)×Str))
 | (k,d,f,h,i,l,o,p,q,r,t) =>
  (xsub d f d.length).bind fun u =>
  (zFA u).bind fun b =>
  (bif b.2.2 !=0 then
   none
  else
   ((bif ((decide (16000<(wr (f+b.2.1))))||((decide (64<k))&&(b.1 !=[]))) then
    none
   else
    (bif k==0 then
     (zBJ b.1).bind fun j =>
     some (.inl (j.2.2.2,h,i,j.1,j.2.1,j.2.2.1))
    else
     (bif b.1==[] then
      some (.inr (.inr (0,d,wr (f+b.2.1),h,i,l,o,p,q,r,t)))
     else
      (zCZ b.1).bind fun c =>
      ((bif c.2 !=0 then
       none
      else
       (zAp c.1.fName [67,111,110,116,101,110,116,45,76,101,110,103,116,104]).bind fun v =>
       (bif v then
        (xapp i ([c.1.fValue]:List Str)).bind fun x =>
        some (h,x)
       else
        (zAp c.1.fName [84,114,97,110,115,102,101,114,45,69,110,99,111,100,105,110,103]).bind fun z =>
        (bif z then
         none
        else
         (xapp h ([c.1]:List GField)).bind fun aa =>
         some (aa,i))))).bind fun (ab:((List GField)×(List Str))) =>
      match ab with
      | (ac,ad) =>
       some (.inl (0,ac,ad,o,p,q)))))).bind fun (ae:((Int×(List GField)×(List Str)×Int×Int×Str) ⊕ ((Int×Str×Int×(List GField)×(List Str)×(List Str)×Int×Int×Str×(List GField)×Str) ⊕ (Int×Str×Int×(List GField)×(List Str)×(List Str)×Int×Int×Str×(List GField)×Str))))=>match ae with
   | .inr e=>some e
   | .inl (af,ah,ai,aj,ak,al) =>
    (bif af !=0 then
     none
    else
     some (.inl (wr (k+1),d,wr (f+b.2.1),ah,ai,l,aj,ak,al,r,t))))
def zBj (c:(List Str)) (b:Int):Option (Int ⊕ Unit) :=
  (bif decide (b<(c.length:Int)) then
   (xnth c b).bind fun d =>
   (zBM d).bind fun f =>
   (bif ((!f.2)||(decide (9<(d.length:Int)))) then
    none
   else
    some (.inl (wr (b+1))))
  else
   some (.inr ()))
def zCB (k:Str) (l:Str) (ae:Bool):Option (GResponse×Int×Int) :=
 ((lf (zBh) (0,k,0,([]:List GField),([]:List Str),([]:List Str),0,0,[],([]:List GField),[])).bind fun o=>some o).bind fun (p:(Int×Str×Int×(List GField)×(List Str)×(List Str)×Int×Int×Str×(List GField)×Str)) =>
 match p with
 | (q,f,h,r,b,c,t,i,u,af,ah) =>
  (bif q !=0 then
   none
  else
   (bif decide (1<(c.length:Int)) then
    some true
   else
    (bif (c.length:Int)==1 then
     (xnth c 0).bind fun v =>
     (zAp v [99,104,117,110,107,101,100]).bind fun x =>
     some (!x)
    else
     some false).bind fun z =>
    some (z)).bind fun aa =>
   (bif aa then
    none
   else
    (bif ((decide (1<(b.length:Int)))||(((b.length:Int)==1)&&((c.length:Int)==1))) then
     none
    else
     (lf (zBj b) 0).bind fun ai =>
     (zCF i l).bind fun ab =>
     (bif ab then
      none
     else
      (bif decide (0<(wr ((c.length:Int)+(b.length:Int)))) then
       (xsub f h f.length).bind fun j =>
       (bif decide (0<(c.length:Int)) then
        none
       else
        (bif decide (0<(b.length:Int)) then
         (xnth b 0).bind fun ac =>
         (zBM ac).bind fun d =>
         (bif decide (100000<d.1) then
          none
         else
          (bif decide ((j.length:Int)<d.1) then
           none
          else
           (xsub j 0 d.1).bind fun ad =>
           some ((⟨t,i,u,r,ad⟩:GResponse),wr (h+d.1),0)))
        else
         none))
      else
       none)))))
def zFb (b:(List Str)):Unit→Option (Unit ⊕ Unit)
 | _ =>
  (bif decide (0<(b.length:Int)) then
   none
  else
   some (.inr ()))
def zFS (c:(List GField)):Option ((List Str)×Bool) :=
 (zEH c [86,97,114,121]).bind fun b =>
 (bif decide (64≤(b.length:Int)) then
  none
 else
  (lf (zFb b) ()).bind fun h =>
  (slices_Sort_string ([]:List Str)).bind fun d =>
  (slices_Compact_string d).bind fun f =>
  some (f,true))
def zDe (c:GRequest) (d:GResponse):Option Bool :=
 (bif ((c.fMethod !=[71,69,84])||(d.fStatus !=200)) then
  none
 else
  (zAW d.fFields).bind fun b =>
  (bif (b.fNoStore||b.fPrivate) then
   some true
  else
   (zAx c.fFields).bind fun f =>
   some (f.fNoStore)).bind fun h =>
  (bif h then
   none
  else
   (zFS d.fFields).bind fun i =>
   (bif !i.2 then
    none
   else
    (zAw c.fFields [82,97,110,103,101]).bind fun j =>
    (bif j then
     none
    else
     (zAw c.fFields [65,117,116,104,111,114,105,122,97,116,105,111,110]).bind fun k =>
     (bif (((k&&(!b.fMustRevalidate))&&(!b.fPublic))&&(b.fSMaxAge==(-1))) then
      none
     else
      (zBn d.fFields).bind fun l =>
      (bif decide (0<l) then
       some true
      else
       none).bind fun o =>
      some o)))))
def zEc (b:(List GField)):Option ((List GAxis)×Int) :=
 (zAw b [86,97,114,105,97,110,116,115]).bind fun c =>
 (bif !c then
  some (([]:List GAxis),12)
 else
  none)
def zCs (b:(List GAxis)):Option Bool :=
 (bif ((decide ((b.length:Int)<1))||(decide (4<(b.length:Int)))) then
  some false
 else
  none)
def zDv (d:(List GField)) (b:(List GAxis)):Option ((List (List Str))×Int) :=
 (zCs b).bind fun c =>
 (bif !c then
  some (([]:List (List Str)),10)
 else
  none)
def zGo (f:GRequest) (b:GResponse) (h:Int) (i:Int):Option (GEntry×(List GAxis)) :=
 (zER b.fFields).bind fun j =>
 (zEc b.fFields).bind fun c =>
 (zDv b.fFields c.1).bind fun k =>
 (bif ((c.2==0)&&(k.2==0)) then
  none
 else
  (zFS b.fFields).bind fun d =>
  (zDO d.1 f.fFields).bind fun l =>
  some ((⟨([]:List (List Str)),d.1,l,b.fReason,j,b.fBody,h,i⟩:GEntry),([]:List GAxis)))
def zEf (b:GEntry) (c:Str):Option Bool :=
 (zDQ b 2147483647 c).bind fun d =>
 (zBE d [71,69,84]).bind fun f =>
 some (f !=[])
def zD0 (b:(List Str)):Unit→Option (Unit ⊕ Unit)
 | _ =>
  (bif decide (0<(b.length:Int)) then
   none
  else
   some (.inr ()))
def zDZ (b:(List Str)):Option Int :=
 (lf (zD0 b) ()).bind fun c =>
 some 0
def zFN (c:GEntry):(Int×Int)→Option ((Int×Int) ⊕ Int)
 | (d,b) =>
  (bif decide (b<(c.fFields.length:Int)) then
   (xnth c.fFields b).bind fun f =>
   some (.inl (wr (d+(wr ((wr (4+(f.fName.length:Int)))+(f.fValue.length:Int)))),wr (b+1)))
  else
   some (.inr d))
def zFV (b:GEntry):Unit→Option (Unit ⊕ Unit)
 | _ =>
  (bif decide (0<(b.fKeys.length:Int)) then
   none
  else
   some (.inr ()))
def zFF (b:GEntry):Option Int :=
 (zDZ b.fVary).bind fun c =>
 (zDZ b.fSnapshot).bind fun d =>
 (lf (zFN b) (wr ((wr ((wr ((wr (100+(b.fReason.length:Int)))+(b.fBody.length:Int)))+c))+d),0)).bind fun f =>
 (lf (zFV b) ()).bind fun h =>
 some f
def zAN (b:(List GAxis)):Unit→Option (Unit ⊕ Unit)
 | _ =>
  (bif decide (0<(b.length:Int)) then
   none
  else
   some (.inr ()))
def zAO (b:(List GAxis)) (c:(List GAxis)) (d:(GAxis→GAxis→Option Bool)):Option Bool :=
 (bif (b.length:Int) !=(c.length:Int) then
  none
 else
  (lf (zAN b) ()).bind fun f =>
  some true)
def zCA (b:GAxis) (c:GAxis):Option Bool :=
 none
def zEW (b:(List GAxis)) (c:(List GAxis)):Option Bool :=
 (zAO b c zCA).bind fun d =>
 some d
def zET (b:GEntry) (c:(List GAxis)) (d:GEntry):Option Bool :=
 none
def zAc (b:(List GEntry)):Unit→Option (Unit ⊕ Unit)
 | _ =>
  (bif decide (0<(b.length:Int)) then
   none
  else
   some (.inr ()))
def zAh (b:(List GEntry)) (c:(GEntry→Option Bool)):Option Int :=
 (lf (zAc b) ()).bind fun d =>
 some (-1)
def zAQ (b:(List GEntry)) (c:(GEntry→Option Bool)):Option (List GEntry) :=
 (zAh b c).bind fun i=>delRF b c i
def zG6 (d:GTable) (f:GEntry) (h:(List GAxis)) (b:Int):Option GTable :=
 (zCH d).bind fun i =>
 (zEW d.fAxes h).bind fun j =>
 (bif !j then
  none
 else
  (zAQ i.fEntries (fun k=>zET k h f)).bind fun l =>
  (zEQ f).bind fun o =>
  (xapp l ([o]:List GEntry)).bind fun c =>
  (xsub c (if (wr ((c.length:Int) - (if b<0 then 0 else b)))<0 then 0 else (wr ((c.length:Int) - (if b<0 then 0 else b)))) c.length).bind fun p =>
  some (⟨i.fAxes,p⟩:GTable))
def zE0 (c:GTable):(Int×Int)→Option ((Int×Int) ⊕ Int)
 | (d,b) =>
  (bif decide (b<(c.fEntries.length:Int)) then
   (xnth c.fEntries b).bind fun f =>
   (zFF f).bind fun h =>
   some (.inl (wr (d+h),wr (b+1)))
  else
   some (.inr d))
def zFD (b:GTable):Option Int :=
 (lf (zE0 b) (0,0)).bind fun c =>
 some c
def zAD (b:Str) (c:Str):Option Bool :=
 some (b==c)
def zCS (c:(List Str)) (b:Str):Option (List Str) :=
 (zAP c (fun d=>zAD d b)).bind fun f =>
 (xapp f ([b]:List Str)).bind fun h =>
 some h
def zCa (b:Str) (c:Str):Option Unit :=
 (bif decide (c=b) then
  some ()
 else
  none)
def zCU (c:Str) (d:(List Str)) (b:Str):Option (List Str) :=
 (zCa c b).bind fun (h:Unit) =>
 (zCS d b).bind fun (f:(List Str)) =>
 some f
def zCe (b:Str) (c:Str):Option Unit :=
 (bif decide (c=b) then
  some ()
 else
  none)
def zCT (b:Str) (c:GTable) (d:Str):Option GTable :=
 (zCe b d).bind fun (h:Unit) =>
 (zCH c).bind fun f =>
 some f
def zCV (f:GConfig) (h:Str) (j:(List Str)) (k:GTable):Option (GOutput×GDecision×(GRequest×GURI×Unit)×GTable×(List Str)) :=
 (zE1 [71,69,84,32,47,97,32,72,84,84,80,47,49,46,49,13,10,72,111,115,116,58,32,104,13,10,13,10]).bind fun b =>
 (zFH b.2.1).bind fun i =>
 (zCT h k i).bind fun (c:GTable) =>
 (zDW c b.1 (wr (0+(if 1099511627776<5 then 1099511627776 else 5))) f).bind fun d =>
 (bif d.fKind==1 then
  (zCU h j i).bind fun (l:(List Str)) =>
  (xnth c.fEntries d.fIndex).bind fun o =>
  (zEi o (wr (0+(if 1099511627776<5 then 1099511627776 else 5))) f.fName).bind fun p =>
  (zGf b.1 p).bind fun q =>
  some (q,d,b,c,l)
 else
  none)
def zCd:Option Unit :=
 some ()
def zCY (b:Str):Option (List Str) :=
 (zAP ([]:List Str) (fun c=>zAD c b)).bind fun d =>
 (xapp d ([b]:List Str)).bind fun f =>
 some f
def zCb (b:GTable):Option (Int×Int) :=
 (zFD b).bind fun c =>
 (zFD (⟨([]:List GAxis),([]:List GEntry)⟩:GTable)).bind fun d =>
 (bif decide (0<(b.fEntries.length:Int)) then
  some (c,d)
 else
  none)
def zEY (b:GConfig) (c:Int) (d:Int) (f:(List Str)):Unit→Option (Unit ⊕ Unit)
 | _ =>
  (bif ((decide (b.fBytes<(wr (0+(wr (c - d))))))||(decide (b.fTables<(f.length:Int)))) then
   none
  else
   some (.inr ()))
def zCv (c:GConfig) (j:Str) (b:(GEntry×(List GAxis))):Option (Int×Int×(List Str)×GTable) :=
 (zFF b.1).bind fun k =>
 (bif decide (c.fBytes<k) then
  some true
 else
  (bif decide (0<(b.2.length:Int)) then
   (zCs b.2).bind fun l =>
   some (!l)
  else
   some false).bind fun o =>
  some (o)).bind fun p =>
 (bif p then
  none
 else
  (zG6 (⟨([]:List GAxis),([]:List GEntry)⟩:GTable) b.1 b.2 c.fVariants).bind fun d =>
  (zCb d).bind fun (q:(Int×Int)) =>
  match q with
  | (f,h) =>
   (zCY j).bind fun (i:(List Str)) =>
   ((lf (zEY c f h i) ()).bind fun r =>
   some ()).bind fun (t:Unit) =>
   some (f,h,i,d))
def zED (b:Str):Option Bool :=
 some ((((b !=[71,69,84])&&(b !=[72,69,65,68]))&&(b !=[79,80,84,73,79,78,83]))&&(b !=[84,82,65,67,69]))
def zC4 (c:Str) (b:Int):Option Bool :=
 (zED c).bind fun d =>
 some ((d&&(decide (200≤b)))&&(decide (b≤399)))
def zCx (d:GConfig) (c:(GRequest×GURI×Unit)) (i:Str) (b:(GResponse×Int×Int)):Option (Str×Int×Int×(List Str)×GTable) :=
 (zER b.1.fFields).bind fun j =>
 (zGF j b.1.fMinor d.fName).bind fun k =>
 (zD4 c.1 (⟨1,b.1.fStatus,b.1.fReason,k,b.1.fBody⟩:GResponse)).bind fun f =>
 (bif f==[] then
  none
 else
  (zC4 c.1.fMethod b.1.fStatus).bind fun l =>
  (bif l then
   none
  else
   (zDe c.1 b.1).bind fun o =>
   (bif o then
    (zGo c.1 b.1 0 0).bind fun h =>
    (zEf h.1 d.fName).bind fun p =>
    (bif p then
     (zCv d i h).bind fun (q:(Int×Int×(List Str)×GTable)) =>
     match q with
     | (r,t,u,v) =>
      some (f,r,t,u,v)
    else
     none)
   else
    none)))
def zCt (d:GConfig) (c:(GRequest×GURI×Unit)) (f:Str):Option (Str×Int×Int×(List Str)×GTable) :=
 (zCB [72,84,84,80,47,49,46,49,32,50,48,48,32,79,75,13,10,67,97,99,104,101,45,67,111,110,116,114,111,108,58,32,109,97,120,45,97,103,101,61,54,48,13,10,67,111,110,116,101,110,116,45,76,101,110,103,116,104,58,32,49,13,10,13,10,120] c.1.fMethod true).bind fun b =>
 (bif (((b.2.2 !=0)||(b.2.1 !=([72,84,84,80,47,49,46,49,32,50,48,48,32,79,75,13,10,67,97,99,104,101,45,67,111,110,116,114,111,108,58,32,109,97,120,45,97,103,101,61,54,48,13,10,67,111,110,116,101,110,116,45,76,101,110,103,116,104,58,32,49,13,10,13,10,120].length:Int)))||(decide (b.1.fStatus<200))) then
  none
 else
  (bif ((b.1.fStatus==304)&&false) then
   none
  else
   (bif b.1.fStatus==304 then
    none
   else
    some false).bind fun h =>
   (bif h then
    none
   else
    (zCx d c f b).bind fun (i:(Str×Int×Int×(List Str)×GTable)) =>
    match i with
    | (j,k,l,o,p) =>
     some (j,k,l,o,p))))
def zCw (f:GConfig) (c:(GRequest×GURI×Unit)):Option (Str×GRequest×(List GField)) :=
 (zC5 c.1 f.fName).bind fun b =>
 (bif c.2.1.fHasQuery then
  none
 else
  (bif c.2.1.fPort !=80 then
   none
  else
   (zAw b.fFields [72,111,115,116]).bind fun h =>
   (bif h then
    (zFa b.fFields [72,111,115,116] c.2.1.fHost).bind fun d =>
    (zB7 (⟨b.fMethod,c.2.1.fPath,b.fMinor,d,b.fBody⟩:GRequest)).bind fun i =>
    some (i,b,d)
   else
    none)))
def zCz:Option Unit :=
 some ()
def zCr:Option GTable :=
 (zCz).bind fun (c:Unit) =>
 (zCH (⟨([]:List GAxis),([]:List GEntry)⟩:GTable)).bind fun b =>
 some b
def zC3 (d:GConfig):Option (Str×(GRequest×GURI×Unit)×Str) :=
 (zE1 [71,69,84,32,47,97,32,72,84,84,80,47,49,46,49,13,10,72,111,115,116,58,32,104,13,10,13,10]).bind fun b =>
 (zFH b.2.1).bind fun h =>
 (zCr).bind fun (i:GTable) =>
 (zDW i b.1 0 d).bind fun c =>
 (bif c.fKind==1 then
  none
 else
  (bif c.fKind==4 then
   none
  else
   (bif c.fKind==5 then
    none
   else
    (bif c.fKind==2 then
     none
    else
     (zCw d b).bind fun (j:(Str×GRequest×(List GField))) =>
     match j with
     | (f,k,l) =>
      (bif f==[] then
       none
      else
       some (f,b,h))))))
def zC1 (b:GConfig):Option Unit :=
 (bif ((((((decide (b.fBytes<1))||(decide (100000000<b.fBytes)))||(decide (b.fVariants<1)))||(decide (64<b.fVariants)))||(decide (b.fTables<1)))||(decide (1000<b.fTables))) then
  none
 else
  some ())
def zC0 (b:GConfig):Option Unit :=
 (zC1 b).bind fun (d:Unit) =>
 (zBK b.fName).bind fun c =>
 (bif (((!c)||(decide (100<(b.fName.length:Int))))||(b.fRefuse&&(!b.fStrict))) then
  none
 else
  some ())
def zF1:Option GConfig :=
 some (⟨[112],1000,4,4,false,false⟩:GConfig)
def zAU:Option Bool :=
 (zF1).bind fun b =>
 (zC0 b).bind fun (q:Unit) =>
 (zC3 b).bind fun (f:(Str×(GRequest×GURI×Unit)×Str)) =>
 match f with
 | (h,i,c) =>
  (zCt b i c).bind fun (j:(Str×Int×Int×(List Str)×GTable)) =>
  match j with
  | (k,r,t,l,o) =>
   (zCd).bind fun (u:Unit) =>
   (zCV b c l o).bind fun (p:(GOutput×GDecision×(GRequest×GURI×Unit)×GTable×(List Str))) =>
   match p with
   | (d,v,x,z,aa) =>
    some ((((h !=[])&&(k !=[]))&&(d.fToOrigin==[]))&&(d.fToClient==[72,84,84,80,47,49,46,49,32,50,48,48,32,79,75,13,10,67,97,99,104,101,45,67,111,110,116,114,111,108,58,32,109,97,120,45,97,103,101,61,54,48,13,10,65,103,101,58,32,53,13,10,86,105,97,58,32,49,46,49,32,112,13,10,67,111,110,116,101,110,116,45,76,101,110,103,116,104,58,32,49,13,10,13,10,120]))
def zCl (c:(List GField)) (h:(List GField)) (b:Int):Option (Int ⊕ (Unit ⊕ Bool)) :=
  (bif decide (b<(c.length:Int)) then
   (xnth c b).bind fun d =>
   (xnth h b).bind fun f =>
   (bif (!((d.fName==f.fName)&&((d.fValue==f.fValue)&&true))) then
    some (.inr (.inr false))
   else
    some (.inl (wr (b+1))))
  else
   some (.inr (.inl ())))
def zDp (b:(List GField)) (c:(List GField)):Option Bool :=
 (bif (b.length:Int) !=(c.length:Int) then
  some false
 else
  (lf (zCl b c) 0).bind fun d=>match d with
  | .inr e=>some e
  | .inl _ =>
   some true)
def zJ0 (c:UInt8) (b:Int):Option (Int ⊕ (Unit ⊕ Bool)) :=
  (bif decide (b<15) then
   (xnth [33,35,36,37,38,39,42,43,45,46,94,95,96,124,126] b).bind fun d =>
   (bif d==c then
    some (.inr (.inr true))
   else
    some (.inl (wr (b+1))))
  else
   some (.inr (.inl ())))
def zJx (b:UInt8):Option Bool :=
 (bif ((((decide (97≤b))&&(decide (b≤122)))||((decide (65≤b))&&(decide (b≤90))))||((decide (48≤b))&&(decide (b≤57)))) then
  some true
 else
  (lf (zJ0 b) 0).bind fun c=>match c with
  | .inr e=>some e
  | .inl _ =>
   some false)
def zJw (c:Str) (b:Int):Option (Int ⊕ (Unit ⊕ Bool)) :=
  (bif decide (b<(c.length:Int)) then
   (xnth c b).bind fun d =>
   (zJx d).bind fun f =>
   (bif !f then
    some (.inr (.inr false))
   else
    some (.inl (wr (b+1))))
  else
   some (.inr (.inl ())))
def zJ1 (b:Str):Option Bool :=
 (lf (zJw b) 0).bind fun c=>match c with
 | .inr e=>some e
 | .inl _ =>
  some (b !=[])
def zKT (b:UInt8):Option Bool :=
 some ((decide (48≤b))&&(decide (b≤57)))
def zLd (b:UInt8):Option Int :=
 (zKT b).bind fun c =>
 (bif c then
  some ((b - 48).toNat:Int)
 else
  (bif ((decide (97≤b))&&(decide (b≤102))) then
   some (wr (((b - 97).toNat:Int)+10))
  else
   (bif ((decide (65≤b))&&(decide (b≤70))) then
    some (wr (((b - 65).toNat:Int)+10))
   else
    some (-1))))
def zLI (b:UInt8):Option Bool :=
 some (((b==9)||((decide (32≤b))&&(decide (b≤126))))||(decide (128≤b)))
def zLL (c:Str) (b:Int):Option (Int ⊕ (Unit ⊕ Bool)) :=
  (bif decide (b<(c.length:Int)) then
   (xnth c b).bind fun d =>
   (zLI d).bind fun f =>
   (bif !f then
    some (.inr (.inr false))
   else
    some (.inl (wr (b+1))))
  else
   some (.inr (.inl ())))
def zKm (b:Str):Option Bool :=
 (lf (zLL b) 0).bind fun c=>match c with
 | .inr e=>some e
 | .inl _ =>
  some true
def zLR (c:Str) (b:Int):Option (Int ⊕ Int) :=
  (bif decide (b<(c.length:Int)) then
   (xnth c b).bind fun d =>
   (zLd d).bind fun f =>
   some (decide (0≤f))
  else
   some false).bind fun h =>
  (bif h then
   some (.inl (wr (b+1)))
  else
   some (.inr b))
def zLO (d:Str) (f:Int):(Int×Int)→Option ((Int×Int) ⊕ Int)
 | (c,b) =>
  (bif decide (b<f) then
   (xnth d b).bind fun h =>
   (zLd h).bind fun i =>
   some (.inl (wr ((wr (c*16))+i),wr (b+1)))
  else
   some (.inr c))
def zLi (b:Str):Option (Int×Bool) :=
 (lf (zLR b) 0).bind fun c =>
 (bif ((decide (c<1))||(decide (8<c))) then
  some true
 else
  (bif decide (c<(b.length:Int)) then
   (xnth b c).bind fun d =>
   some (d !=59)
  else
   some false).bind fun f =>
  some (f)).bind fun h =>
 (bif h then
  some true
 else
  (xsub b c b.length).bind fun i =>
  (zKm i).bind fun j =>
  some (!j)).bind fun k =>
 (bif k then
  some (0,false)
 else
  (lf (zLO b c) (0,0)).bind fun l =>
  some (l,true))
def zLK (c:Str) (d:UInt8) (b:Int):Option (Int ⊕ (Unit ⊕ Int)) :=
  (bif decide (b<(c.length:Int)) then
   (xnth c b).bind fun f =>
   (bif f==d then
    some (.inr (.inr b))
   else
    some (.inl (wr (b+1))))
  else
   some (.inr (.inl ())))
def zKr (b:Str) (c:UInt8) (d:Int):Option Int :=
 (lf (zLK b c) d).bind fun f=>match f with
 | .inr e=>some e
 | .inl _ =>
  some (-1)
def zLS (b:GField):Option Str :=
 (bif b.fValue==[] then
  (xcat b.fName [58]).bind fun c =>
  some c
 else
  (xcat b.fName [58,32]).bind fun d =>
  (xcat d b.fValue).bind fun f =>
  some f)
def zLD (b:UInt8):Option Bool :=
 some ((b==32)||(b==9))
def zLT (b:Str):Option (Str ⊕ Str) :=
  (bif decide (0<(b.length:Int)) then
   (xnth b 0).bind fun c =>
   (zLD c).bind fun d =>
   some (d)
  else
   some false).bind fun f =>
  (bif f then
   (xsub b 1 b.length).bind fun h =>
   some (.inl h)
  else
   some (.inr b))
def zLM (b:Str):Option (Str ⊕ Str) :=
  (bif decide (0<(b.length:Int)) then
   (xnth b (wr ((b.length:Int) - 1))).bind fun c =>
   (zLD c).bind fun d =>
   some (d)
  else
   some false).bind fun f =>
  (bif f then
   (xsub b 0 (wr ((b.length:Int) - 1))).bind fun h =>
   some (.inl h)
  else
   some (.inr b))
def zLP (b:Str):Option Str :=
 (lf (zLT) b).bind fun c =>
 (lf (zLM) c).bind fun d =>
 some d
def zKc (b:GField):Option Bool :=
 (zJ1 b.fName).bind fun c =>
 (bif c then
  (zKm b.fValue).bind fun d =>
  some (d)
 else
  some false).bind fun f =>
 (bif f then
  (zLP b.fValue).bind fun h =>
  some (h==b.fValue)
 else
  some false).bind fun i =>
 (bif i then
  (zLS b).bind fun j =>
  some (decide ((j.length:Int)≤2000))
 else
  some false).bind fun k =>
 some k
def zKh (b:Str):Option (GField×Int) :=
 (bif decide (2000<(b.length:Int)) then
  some ((⟨[],[]⟩:GField),4)
 else
  (zKr b 58 0).bind fun c =>
  (bif decide (c<0) then
   some true
  else
   (xsub b 0 c).bind fun h =>
   (zJ1 h).bind fun i =>
   some (!i)).bind fun j =>
  (bif j then
   some true
  else
   (xsub b (wr (c+1)) b.length).bind fun k =>
   (zKm k).bind fun l =>
   some (!l)).bind fun o =>
  (bif o then
   some ((⟨[],[]⟩:GField),1)
  else
   (xsub b 0 c).bind fun d =>
   (xsub b (wr (c+1)) b.length).bind fun p =>
   (zLP p).bind fun f =>
   (zKc (⟨d,f⟩:GField)).bind fun q =>
   (bif !q then
    some ((⟨[],[]⟩:GField),4)
   else
    some ((⟨d,f⟩:GField),0))))
def zKu (c:Str) (b:Int):Option (Int ⊕ Int) :=
  (bif decide (b<(c.length:Int)) then
   (xnth c b).bind fun d =>
   some (d !=13)
  else
   some false).bind fun f =>
  (bif f then
   (xnth c b).bind fun h =>
   some (h !=10)
  else
   some false).bind fun i =>
  (bif i then
   some (.inl (wr (b+1)))
  else
   some (.inr b))
def zKX (c:Str) (d:Int):Option (Str×Int×Int) :=
 (lf (zKu c) d).bind fun b =>
 (bif decide (2000<(wr (b - d))) then
  some ([],0,4)
 else
  (bif b==(c.length:Int) then
   some ([],0,2)
  else
   (xnth c b).bind fun f =>
   (bif f==10 then
    some ([],0,1)
   else
    (bif (wr (b+1))==(c.length:Int) then
     some ([],0,2)
    else
     (xnth c (wr (b+1))).bind fun h =>
     (bif h !=10 then
      some ([],0,1)
     else
      (xsub c d b).bind fun i =>
      some (i,wr (b+2),0))))))
def zKg (d:Str):(Str×Int)→Option ((Str×Int) ⊕ ((Str×Int) ⊕ (Str×Int×Int)))
 | (h,i) =>
  (zKX d i).bind fun b =>
  (bif b.2.2 !=0 then
   some (.inr (.inr ([],0,b.2.2)))
  else
   (zLi b.1).bind fun c =>
   (bif !c.2 then
    some (.inr (.inr ([],0,1)))
   else
    (bif decide ((wr (100000 - (h.length:Int)))<c.1) then
     some (.inr (.inr ([],0,5)))
    else
     (bif c.1==0 then
      some (.inr (.inl (h,b.2.1)))
     else
      (bif decide ((wr ((d.length:Int) - b.2.1))<c.1) then
       some (.inr (.inr ([],0,2)))
      else
       (xsub d b.2.1 (wr (b.2.1+c.1))).bind fun j =>
       (xcat h j).bind fun k =>
       (xsub d (wr (b.2.1+c.1)) d.length).bind fun f =>
       (bif ((f==[])||(f==[13])) then
        some (.inr (.inr ([],0,2)))
       else
        (bif decide ((f.length:Int)<2) then
         some true
        else
         (xsub f 0 2).bind fun l =>
         some (l !=[13,10])).bind fun o =>
        (bif o then
         some (.inr (.inr ([],0,1)))
        else
         some (.inl (k,wr ((wr (b.2.1+c.1))+2))))))))))
def zKf (f:Str) (h:Str):(Int×Int)→Option ((Int×Int) ⊕ (Str×Int×Int))
 | (i,c) =>
  (zKX f i).bind fun b =>
  (bif b.2.2 !=0 then
   some (.inr ([],0,b.2.2))
  else
   (bif b.1==[] then
    some (.inr (h,b.2.1,0))
   else
    (bif c==64 then
     some (.inr ([],0,4))
    else
     (zKh b.1).bind fun d =>
     (bif d.2 !=0 then
      some (.inr ([],0,d.2))
     else
      some (.inl (b.2.1,wr (c+1)))))))
def zKq (b:Str):Option (Str×Int×Int) :=
 (lf (zKg b) ([],0)).bind fun c=>match c with
 | .inr e=>some e
 | .inl (d,f) =>
  (lf (zKf b d) (f,0)).bind fun h=>some h
def zLj (d:Str) (b:Int) (c:Int):Option (Str×Int×Int) :=
 (bif c==(-1) then
  (xsub d b d.length).bind fun h =>
  (zKq h).bind fun f =>
  (bif f.2.2 !=0 then
   some ([],0,f.2.2)
  else
   some (f.1,wr (b+f.2.1),0))
 else
  (bif decide (100000<c) then
   some ([],0,5)
  else
   (bif decide ((wr ((d.length:Int) - b))<c) then
    some ([],0,2)
   else
    (xsub d b (wr (b+c))).bind fun i =>
    some (i,wr (b+c),0))))
def zLJ (d:Str):(Int×Str)→Option ((Int×Str) ⊕ Str)
 | (b,c) =>
  (bif decide (b<(d.length:Int)) then
   (xnth c b).bind fun k =>
   (xnth c b).bind fun f =>
   (bif decide (65≤f) then
    (xnth c b).bind fun l =>
    (xnth c b).bind fun h =>
    some (decide (h≤90))
   else
    some false).bind fun i =>
   (bif i then
    (xnth c b).bind fun o =>
    (xnth c b).bind fun j =>
    (xnth c b).bind fun p =>
    some (.inl (wr (b+1),(c.set b.toNat (j+32))))
   else
    some (.inl (wr (b+1),c)))
  else
   some (.inr c))
def zLB (b:Str):Option Str :=
 (lf (zLJ b) (0,b)).bind fun c =>
 some c
def zK0 (b:Str) (c:Str):Option Bool :=
 (bif (b.length:Int)==(c.length:Int) then
  (zLB b).bind fun d =>
  (zLB c).bind fun f =>
  some (d==f)
 else
  some false).bind fun h =>
 some h
def zLY (c:(List GField)) (f:Str):((List Str)×Int)→Option (((List Str)×Int) ⊕ (List Str))
 | (d,b) =>
  (bif decide (b<(c.length:Int)) then
   (xnth c b).bind fun h =>
   (zK0 h.fName f).bind fun i =>
   (bif i then
    (xnth c b).bind fun j =>
    (xapp d ([j.fValue]:List Str)).bind fun k =>
    some (.inl (k,wr (b+1)))
   else
    some (.inl (d,wr (b+1))))
  else
   some (.inr d))
def zLb (b:(List GField)) (c:Str):Option (List Str) :=
 (lf (zLY b c) (([]:List Str),0)).bind fun d =>
 some d
def zK7 (c:Str):(Int×Int)→Option ((Int×Int) ⊕ (Int ⊕ (Int×Bool)))
 | (d,b) =>
  (bif decide (b<(c.length:Int)) then
   (xnth c b).bind fun h =>
   (zKT h).bind fun i =>
   (bif !i then
    some (.inr (.inr (0,false)))
   else
    (xnth c b).bind fun f =>
    (bif decide (2147483647<(wr ((wr (d*10))+((f - 48).toNat:Int)))) then
     some (.inl (2147483647,wr (b+1)))
    else
     some (.inl (wr ((wr (d*10))+((f - 48).toNat:Int)),wr (b+1)))))
  else
   some (.inr (.inl d)))
def zK4 (b:Str):Option (Int×Bool) :=
 (lf (zK7 b) (0,0)).bind fun c=>match c with
 | .inr e=>some e
 | .inl d =>
  some (d,b !=[])
def zLa (d:(List GField)):Option (Int×Int) :=
 (zLb d [84,114,97,110,115,102,101,114,45,69,110,99,111,100,105,110,103]).bind fun b =>
 (zLb d [67,111,110,116,101,110,116,45,76,101,110,103,116,104]).bind fun c =>
 (bif decide (1<(b.length:Int)) then
  some true
 else
  (bif (b.length:Int)==1 then
   (xnth b 0).bind fun h =>
   (zK0 h [99,104,117,110,107,101,100]).bind fun i =>
   some (!i)
  else
   some false).bind fun j =>
  some (j)).bind fun k =>
 (bif k then
  some (0,7)
 else
  (bif (((decide (0<(b.length:Int)))&&(decide (0<(c.length:Int))))||(decide (1<(c.length:Int)))) then
   some (0,8)
  else
   (bif decide (0<(b.length:Int)) then
    some ((-1),0)
   else
    (bif (c.length:Int)==0 then
     some ((-2),0)
    else
     (xnth c 0).bind fun l =>
     (zK4 l).bind fun f =>
     (bif !f.2 then
      some true
     else
      (xnth c 0).bind fun o =>
      some (decide (9<(o.length:Int)))).bind fun p =>
     (bif p then
      some (0,8)
     else
      some (f.1,0))))))
def zK3 (c:Str) (b:Int):Option (Int ⊕ (Unit ⊕ Bool)) :=
  (bif decide (b<(c.length:Int)) then
   (xnth c b).bind fun d =>
   (bif decide (d<33) then
    some true
   else
    (xnth c b).bind fun f =>
    some (decide (126<f))).bind fun h =>
   (bif h then
    some (.inr (.inr false))
   else
    some (.inl (wr (b+1))))
  else
   some (.inr (.inl ())))
def zLN (b:Str):Option Bool :=
 (lf (zK3 b) 0).bind fun c=>match c with
 | .inr e=>some e
 | .inl _ =>
  some (b !=[])
def zKx (b:Str):Option (Int×Int) :=
 (bif (b.length:Int) !=8 then
  some true
 else
  (xsub b 0 5).bind fun c =>
  some (c !=[72,84,84,80,47])).bind fun d =>
 (bif d then
  some true
 else
  (xnth b 5).bind fun f =>
  (zKT f).bind fun h =>
  some (!h)).bind fun i =>
 (bif i then
  some true
 else
  (xnth b 6).bind fun j =>
  some (j !=46)).bind fun k =>
 (bif k then
  some true
 else
  (xnth b 7).bind fun l =>
  (zKT l).bind fun o =>
  some (!o)).bind fun p =>
 (bif p then
  some (0,1)
 else
  (xnth b 5).bind fun q =>
  (bif q !=49 then
   some true
  else
   (xnth b 7).bind fun r =>
   some (decide (49<r))).bind fun t =>
  (bif t then
   some (0,3)
  else
   (xnth b 7).bind fun u =>
   some (((u - 48).toNat:Int),0)))
def zKZ (b:Str):Option (Str×Str×Int×Int) :=
 (bif decide (2000<(b.length:Int)) then
  some ([],[],0,4)
 else
  (zKr b 32 0).bind fun c =>
  (bif decide (c<0) then
   some ([],[],0,1)
  else
   (zKr b 32 (wr (c+1))).bind fun d =>
   (bif decide (d<0) then
    some true
   else
    (xsub b 0 c).bind fun h =>
    (zJ1 h).bind fun i =>
    some (!i)).bind fun j =>
   (bif j then
    some true
   else
    (xsub b (wr (c+1)) d).bind fun k =>
    (zLN k).bind fun l =>
    some (!l)).bind fun o =>
   (bif o then
    some ([],[],0,1)
   else
    (xsub b (wr (d+1)) b.length).bind fun p =>
    (zKx p).bind fun f =>
    (bif f.2 !=0 then
     some ([],[],0,f.2)
    else
     (xsub b 0 c).bind fun q =>
     (xsub b (wr (c+1)) d).bind fun r =>
     some (q,r,f.1,0)))))
def zKP (b:Str):Option (Int×Int×Str×Int) :=
 (bif decide (2000<(b.length:Int)) then
  some (0,0,[],4)
 else
  (bif decide ((b.length:Int)<13) then
   some true
  else
   (xnth b 8).bind fun d =>
   some (d !=32)).bind fun f =>
  (bif f then
   some true
  else
   (xnth b 9).bind fun h =>
   some (decide (h<49))).bind fun i =>
  (bif i then
   some true
  else
   (xnth b 9).bind fun j =>
   some (decide (53<j))).bind fun k =>
  (bif k then
   some true
  else
   (xnth b 10).bind fun l =>
   (zKT l).bind fun o =>
   some (!o)).bind fun p =>
  (bif p then
   some true
  else
   (xnth b 11).bind fun q =>
   (zKT q).bind fun r =>
   some (!r)).bind fun t =>
  (bif t then
   some true
  else
   (xnth b 12).bind fun u =>
   some (u !=32)).bind fun v =>
  (bif v then
   some true
  else
   (xsub b 13 b.length).bind fun x =>
   (zKm x).bind fun z =>
   some (!z)).bind fun aa =>
  (bif aa then
   some (0,0,[],1)
  else
   (xsub b 0 8).bind fun ab =>
   (zKx ab).bind fun c =>
   (bif c.2 !=0 then
    some (0,0,[],c.2)
   else
    (xsub b 9 12).bind fun ac =>
    (zK4 ac).bind fun ad =>
    (xsub b 13 b.length).bind fun ae =>
    some (c.1,ad.1,ae,0))))
def zLQ (j:Str) (k:Bool):(Str×(List GField)×Int×Int)→Option ((Str×(List GField)×Int×Int) ⊕ (Str×(List GField)×Int×Int))
 | (h,d,l,c) =>
  (zKX j l).bind fun b =>
  (bif b.2.2 !=0 then
   some (.inr ([],([]:List GField),0,b.2.2))
  else
   (bif ((decide (16000<b.2.1))||((decide (64<c))&&(b.1 !=[]))) then
    some (.inr ([],([]:List GField),0,4))
   else
    (bif c==0 then
     ((bif k then
      (zKZ b.1).bind fun o =>
      some o.2.2.2
     else
      (zKP b.1).bind fun p =>
      some p.2.2.2)).bind fun (i:Int) =>
     (bif i !=0 then
      some (.inr ([],([]:List GField),0,i))
     else
      some (.inl (b.1,d,b.2.1,wr (c+1))))
    else
     (bif b.1==[] then
      some (.inr (h,d,b.2.1,0))
     else
      (zKh b.1).bind fun f =>
      (bif f.2 !=0 then
       some (.inr ([],([]:List GField),0,f.2))
      else
       (xapp d ([f.1]:List GField)).bind fun q =>
       some (.inl (h,q,b.2.1,wr (c+1))))))))
def zLk (b:Str) (c:Bool):Option (Str×(List GField)×Int×Int) :=
 (lf (zLQ b c) ([],([]:List GField),0,0)).bind fun d=>some d
def zK8 (c:(List GField)) (f:Str):((List GField)×Int)→Option (((List GField)×Int) ⊕ (List GField))
 | (d,b) =>
  (bif decide (b<(c.length:Int)) then
   (xnth c b).bind fun h =>
   (zK0 h.fName f).bind fun i =>
   (bif !i then
    (xnth c b).bind fun j =>
    (xapp d ([j]:List GField)).bind fun k =>
    some (.inl (k,wr (b+1)))
   else
    some (.inl (d,wr (b+1))))
  else
   some (.inr d))
def zK5 (b:(List GField)) (c:Str):Option (List GField) :=
 (lf (zK8 b c) (([]:List GField),0)).bind fun d =>
 some d
def zKn (b:(List GField)):Option (List GField) :=
 (zK5 b [67,111,110,116,101,110,116,45,76,101,110,103,116,104]).bind fun c =>
 (zK5 c [84,114,97,110,115,102,101,114,45,69,110,99,111,100,105,110,103]).bind fun d =>
 some d
def zKo (b:Int) (c:Str):Option Bool :=
 some (((((decide (100≤b))&&(decide (b≤199)))||(b==204))||(b==304))||(c==[72,69,65,68]))
def zKk (h:Str) (j:Str) (k:Bool):Option (GResponse×Int×Int) :=
 (zLk h false).bind fun b =>
 (bif b.2.2.2 !=0 then
  some ((⟨0,0,[],([]:List GField),[]⟩:GResponse),0,b.2.2.2)
 else
  (zKP b.1).bind fun c =>
  (zLa b.2.1).bind fun d =>
  (bif d.2 !=0 then
   some ((⟨0,0,[],([]:List GField),[]⟩:GResponse),0,d.2)
  else
   (zKn b.2.1).bind fun i =>
   (zKo c.2.1 j).bind fun l =>
   (bif l then
    some ((⟨c.1,c.2.1,c.2.2.1,i,[]⟩:GResponse),b.2.2.1,0)
   else
    ((bif d.1==(-2) then
     (bif !k then
      some (.inr ((⟨0,0,[],([]:List GField),[]⟩:GResponse),0,2))
     else
      some (.inl (wr ((h.length:Int) - b.2.2.1))))
    else
     some (.inl d.1))).bind fun (o:(Int ⊕ (GResponse×Int×Int)))=>match o with
    | .inr e=>some e
    | .inl p =>
     (zLj h b.2.2.1 p).bind fun f =>
     (bif f.2.2 !=0 then
      some ((⟨0,0,[],([]:List GField),[]⟩:GResponse),0,f.2.2)
     else
      some ((⟨c.1,c.2.1,c.2.2.1,i,f.1⟩:GResponse),f.2.1,0)))))
def zK1:(Int×(List UInt8)×Int)→Option ((Int×(List UInt8)×Int) ⊕ (List UInt8))
 | (b,d,f) =>
  (bif ((b !=0)||(f==0)) then
   (xrem b 10).bind fun c =>
   ((bif decide (c<0) then
    some (wr (-c))
   else
    some c)).bind fun (h:Int) =>
   (xapp ([toU8 (wr (48+h))]:List UInt8) d).bind fun i =>
   (xquo b 10).bind fun j =>
   some (.inl (j,i,wr (f+1)))
  else
   some (.inr d))
def zKd (b:Int):Option Str :=
 (lf (zK1) (b,([]:List UInt8),0)).bind fun c =>
 (bif decide (b<0) then
  (xcat [45] c).bind fun d =>
  some d
 else
  some c)
def zK9 (c:(List GField)):(Str×Int)→Option ((Str×Int) ⊕ (Str ⊕ Str))
 | (d,b) =>
  (bif decide (b<(c.length:Int)) then
   (xnth c b).bind fun f =>
   (zKc f).bind fun h =>
   (bif !h then
    some (.inr (.inr []))
   else
    (xnth c b).bind fun i =>
    (zLS i).bind fun j =>
    (xcat j [13,10]).bind fun k =>
    (xcat d k).bind fun l =>
    some (.inl (l,wr (b+1))))
  else
   some (.inr (.inl d)))
def zLX (d:Str) (i:(List GField)) (b:Str) (j:Bool) (k:Bool):Option Str :=
 (zKn i).bind fun f =>
 (bif (((d==[])||(decide (63<(f.length:Int))))||(decide (100000<(b.length:Int)))) then
  some []
 else
  (xcat d [13,10]).bind fun l =>
  (lf (zK9 f) (l,0)).bind fun o=>match o with
  | .inr e=>some e
  | .inl h =>
   ((bif j then
    (zKd (b.length:Int)).bind fun p =>
    (xcat [67,111,110,116,101,110,116,45,76,101,110,103,116,104,58,32] p).bind fun q =>
    (xcat q [13,10]).bind fun r =>
    (xcat h r).bind fun t =>
    some t
   else
    some h)).bind fun (u:Str) =>
   (xcat u [13,10]).bind fun c =>
   (bif decide (16000<(c.length:Int)) then
    some []
   else
    ((bif k then
     (xcat c b).bind fun v =>
     some v
    else
     some c)).bind fun (x:Str) =>
    some x))
def zKa (b:Int) (c:Int) (d:Str):Option Str :=
 (bif (((((decide (b<0))||(decide (1<b)))||(decide (c<100)))||(decide (599<c)))||(decide (2000<(d.length:Int)))) then
  some []
 else
  (zKd b).bind fun h =>
  (xcat [72,84,84,80,47,49,46] h).bind fun i =>
  (xcat i [32]).bind fun j =>
  (zKd c).bind fun k =>
  (xcat j k).bind fun l =>
  (xcat l [32]).bind fun o =>
  (xcat o d).bind fun f =>
  (zKP f).bind fun p =>
  (bif p.2.2.2 !=0 then
   some []
  else
   some f))
def zKj (b:GResponse) (d:Str):Option Str :=
 (zKo b.fStatus d).bind fun c =>
 (zKa b.fMinor b.fStatus b.fReason).bind fun f =>
 (zLX f b.fFields b.fBody (!c) (!c)).bind fun h =>
 some h
def zKU (b:GResponse) (c:GResponse):Option Bool :=
 (bif (((b.fMinor==c.fMinor)&&(b.fStatus==c.fStatus))&&(b.fReason==c.fReason)) then
  (zDp b.fFields c.fFields).bind fun d =>
  some (d)
 else
  some false).bind fun f =>
 some (f&&(b.fBody==c.fBody))
def zLC (b:Int):Option GResponse :=
 ((bif b==400 then
  some (.inl [66,97,100,32,82,101,113,117,101,115,116])
 else
  (bif b==406 then
   some (.inl [78,111,116,32,65,99,99,101,112,116,97,98,108,101])
  else
   (bif b==413 then
    some (.inl [67,111,110,116,101,110,116,32,84,111,111,32,76,97,114,103,101])
   else
    (bif b==431 then
     some (.inl [82,101,113,117,101,115,116,32,72,101,97,100,101,114,32,70,105,101,108,100,115,32,84,111,111,32,76,97,114,103,101])
    else
     (bif b==501 then
      some (.inl [78,111,116,32,73,109,112,108,101,109,101,110,116,101,100])
     else
      (bif b==502 then
       some (.inl [66,97,100,32,71,97,116,101,119,97,121])
      else
       (bif b==504 then
        some (.inl [71,97,116,101,119,97,121,32,84,105,109,101,111,117,116])
       else
        (bif b==505 then
         some (.inl [72,84,84,80,32,86,101,114,115,105,111,110,32,78,111,116,32,83,117,112,112,111,114,116,101,100])
        else
         some (.inr (⟨0,0,[],([]:List GField),[]⟩:GResponse))))))))))).bind fun (d:(Str ⊕ GResponse))=>match d with
 | .inr e=>some e
 | .inl c =>
  some (⟨1,b,c,([(⟨[67,97,99,104,101,45,67,111,110,116,114,111,108],[110,111,45,115,116,111,114,101]⟩:GField),(⟨[67,111,110,116,101,110,116,45,84,121,112,101],[116,101,120,116,47,112,108,97,105,110]⟩:GField)]:List GField),c⟩:GResponse)
def zLF (b:Int):Option GResponse :=
 ((bif b==400 then
  some (.inl [66,97,100,32,82,101,113,117,101,115,116])
 else
  (bif b==406 then
   some (.inl [78,111,116,32,65,99,99,101,112,116,97,98,108,101])
  else
   (bif b==413 then
    some (.inl [67,111,110,116,101,110,116,32,84,111,111,32,76,97,114,103,101])
   else
    (bif b==431 then
     some (.inl [82,101,113,117,101,115,116,32,72,101,97,100,101,114,32,70,105,101,108,100,115,32,84,111,111,32,76,97,114,103,101])
    else
     (bif b==501 then
      some (.inl [78,111,116,32,73,109,112,108,101,109,101,110,116,101,100])
     else
      (bif b==502 then
       some (.inl [66,97,100,32,71,97,116,101,119,97,121])
      else
       (bif b==504 then
        some (.inl [71,97,116,101,119,97,121,32,84,105,109,101,111,117,116])
       else
        (bif b==505 then
         some (.inl [72,84,84,80,32,86,101,114,115,105,111,110,32,78,111,116,32,83,117,112,112,111,114,116,101,100])
        else
         some (.inr (⟨0,0,[],([]:List GField),[]⟩:GResponse))))))))))).bind fun (d:(Str ⊕ GResponse))=>match d with
 | .inr e=>some e
 | .inl c =>
  some (⟨1,b,c,([(⟨[67,97,99,104,101,45,67,111,110,116,114,111,108],[110,111,45,115,116,111,114,101]⟩:GField),(⟨[67,111,110,116,101,110,116,45,84,121,112,101],[116,101,120,116,47,112,108,97,105,110]⟩:GField)]:List GField),c⟩:GResponse)
def zKO (d:Int):Option Bool :=
 (zLF d).bind fun b =>
 (zLC d).bind fun h =>
 (zKU b h).bind fun i =>
 (bif !i then
  some false
 else
  (bif b.fStatus==0 then
   (zAU).bind fun j =>
   some j
  else
   (zKj b [71,69,84]).bind fun f =>
   (zKk f [71,69,84] false).bind fun c =>
   (bif ((c.2.2==0)&&(c.2.1==(f.length:Int))) then
    (zKU c.1 b).bind fun k =>
    some (k)
   else
    some false).bind fun l =>
   (bif l then
    (zAU).bind fun o =>
    some (o)
   else
    some false).bind fun p =>
   some p))
def zG1 (b:Str) (c:Str):Option Int :=
 (zBA b c).bind fun d =>
 some d
end
end Go.Eng.Pure
