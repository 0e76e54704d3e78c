/- A part of the proof of laws of the seat: written by program over the translation. -/
import Derived.Test.YtljjaiijlaeoeaaGreatDoorPure3
set_option linter.unusedVariables false
namespace Go.Eng.Pure
open Go Go.Eng
set_option linter.unusedVariables false
noncomputable def zCa (f:(List GField)):(Int×Int×(List UInt8))→Option ((Int×Int×(List UInt8)) ⊕ (List UInt8))
 | (h,b,c) =>
  (bif decide (b<(f.length:Int)) then
   (xnth f b).bind fun d =>
   (zNY d.fName [67,111,110,116,101,110,116,45,76,101,110,103,116,104]).bind fun j =>
   (bif j then
    some true
   else
    (zNY d.fName [84,114,97,110,115,102,101,114,45,69,110,99,111,100,105,110,103]).bind fun k =>
    some (k)).bind fun l =>
   (bif l then
    none
   else
    (zCz d).bind fun i =>
    (bif ((i==[])||(decide (64≤(wr (h+1))))) then
     some true
    else
     (zNR c).bind fun o =>
     some (decide (16000<o))).bind fun p =>
    (bif p then
     none
    else
     (xcat i [13,10]).bind fun q =>
     (zAE q c).bind fun r =>
     some (.inl (wr (h+1),wr (b+1),r.2.2))))
  else
   some (.inr c))
noncomputable def zCl (b:Str) (h:(List GField)) (c:Int) (i:Str):Option Str :=
 (bif b==[] then
  none
 else
  (xcat b [13,10]).bind fun j =>
  (zAE j ([]:List UInt8)).bind fun k =>
  (lf (zCa h) (0,0,k.2.2)).bind fun d =>
  ((bif decide (0≤c) then
   (zNt c).bind fun l =>
   (xcat [67,111,110,116,101,110,116,45,76,101,110,103,116,104,58,32] l).bind fun o =>
   (xcat o [13,10]).bind fun p =>
   (zAE p d).bind fun q =>
   some q.2.2
  else
   some d)).bind fun (r:(List UInt8)) =>
  (zAE [13,10] r).bind fun f =>
  (zNR f.2.2).bind fun t =>
  (bif decide (16000<t) then
   none
  else
   (zNc f.2.2).bind fun u =>
   (xcat u i).bind fun v =>
   some v))
noncomputable def zNv (b:Int) (c:Str):Option Bool :=
 some (((((decide (100≤b))&&(decide (b≤199)))||(b==204))||(b==304))||(c==[72,69,65,68]))
noncomputable def zAp (b:GResponse) (c:Str):Option Str :=
 (bif decide (100000<(b.fBody.length:Int)) then
  none
 else
  (zA7 b.fMinor b.fStatus b.fReason).bind fun d =>
  (zNv b.fStatus c).bind fun f =>
  (bif f then
   none
  else
   (zCl d b.fFields (b.fBody.length:Int) b.fBody).bind fun h =>
   some h))
noncomputable def zDq (c:GRequest) (b:GResponse):Option Str :=
 (bif b.fStatus==200 then
  (zBN c b).bind fun d =>
  some (d)
 else
  some false).bind fun f =>
 (bif f then
  none
 else
  (zAp b c.fMethod).bind fun h =>
  some h)
noncomputable def zGp (c:GRequest) (d:GResponse):Option GOutput :=
 (zDq c d).bind fun b =>
 (bif b !=[] then
  some (⟨b,[]⟩:GOutput)
 else
  none)
noncomputable def zG3 (b:(List Str)):Unit→Option (Unit ⊕ Unit)
 | _ =>
  (bif decide (0<(b.length:Int)) then
   none
  else
   some (.inr ()))
noncomputable def zFF (c:(List GField)) (h:(List (Str×Bool))):((List GField)×Int)→Option (((List GField)×Int) ⊕ (List GField))
 | (d,b) =>
  (bif decide (b<(c.length:Int)) then
   (xnth c b).bind fun f =>
   (zNb f.fName).bind fun i =>
   (some (mget h i false)).bind fun g87 =>
   (bif !g87.1 then
    (xapp d ([f]:List GField)).bind fun j =>
    some (.inl (j,wr (b+1)))
   else
    none)
  else
   some (.inr d))
noncomputable def zFB (b:(List GField)):Option (List GField) :=
 (zE8 b [67,111,110,110,101,99,116,105,111,110]).bind fun c =>
 (lf (zG3 c) ()).bind fun i =>
 (some ((zEr 32 [104,111,115,116,32,99,97,99,104,101,45,99,111,110,116,114,111,108,32,118,97,114,121,32,118,97,114,105,97,110,116,115,32,118,97,114,105,97,110,116,45,107,101,121,32,118,105,97]).foldl (fun m k=>mdel m k) ([]:List (Str×Bool)))).bind fun d =>
 (some ((zEr 32 [99,111,110,110,101,99,116,105,111,110,32,107,101,101,112,45,97,108,105,118,101,32,112,114,111,120,121,45,99,111,110,110,101,99,116,105,111,110,32,112,114,111,120,121,45,97,117,116,104,101,110,116,105,99,97,116,101,32,112,114,111,120,121,45,97,117,116,104,111,114,105,122,97,116,105,111,110,32,116,101,32,116,114,97,105,108,101,114,32,116,114,97,110,115,102,101,114,45,101,110,99,111,100,105,110,103,32,99,111,110,116,101,110,116,45,108,101,110,103,116,104,32,117,112,103,114,97,100,101]).foldl (fun m k=>mset m k true) d)).bind fun f =>
 (lf (zFF b f) (([]:List GField),0)).bind fun h =>
 some h
noncomputable def zNx (c:(List Str)):((List GField)×Int)→Option (((List GField)×Int) ⊕ (List GField))
 | (d,b) =>
  (bif decide (b<(c.length:Int)) then
   (xnth c b).bind fun f =>
   (zNk d f).bind fun h =>
   some (.inl (h,wr (b+1)))
  else
   some (.inr d))
noncomputable def zN5 (b:(List GField)) (c:(List Str)):Option (List GField) :=
 (xapp ([]:List GField) b).bind fun d =>
 (lf (zNx c) (d,0)).bind fun f =>
 some f
noncomputable def zB6 (b:GRequest) (c:Str):Option GRequest :=
 (zFB b.fFields).bind fun d =>
 (zOR d b.fMinor c).bind fun f =>
 (zN5 f ([[82,97,110,103,101],[73,102,45,82,97,110,103,101]]:List Str)).bind fun h =>
 some (⟨b.fMethod,b.fTarget,1,h,b.fBody⟩:GRequest)
noncomputable def zC8 (h:(List GField)) (i:Str) (j:(GField→Option Bool)):(Bool×(List GField)×Int)→Option ((Bool×(List GField)×Int) ⊕ (Bool×(List GField)))
 | (c,d,b) =>
  (bif decide (b<(h.length:Int)) then
   (xnth h b).bind fun f =>
   (j f).bind fun k =>
   (bif !k then
    (xapp d ([f]:List GField)).bind fun l =>
    some (.inl (c,l,wr (b+1)))
   else
    (bif !c then
     (xapp d ([(⟨f.fName,i⟩:GField)]:List GField)).bind fun o =>
     some (.inl (true,o,wr (b+1)))
    else
     none))
  else
   some (.inr (c,d)))
noncomputable def zEe (b:(List GField)) (c:Str) (d:Str):Option (List GField) :=
 (zNi c).bind fun f =>
 (lf (zC8 b d f) (false,([]:List GField),0)).bind fun h=>match h with
 | (i,j) =>
  (bif !i then
   none
  else
   some j)
noncomputable def zA1 (c:Str) (d:Str) (f:Int):Option Str :=
 (xcat c [32]).bind fun i =>
 (xcat i d).bind fun j =>
 (xcat j [32,72,84,84,80,47,49,46]).bind fun k =>
 (strconv_Itoa f).bind fun l =>
 (xcat k l).bind fun h =>
 (zAo h).bind fun b =>
 (bif ((((b.2.2.2 !=0)||(b.1 !=c))||(b.2.1 !=d))||(b.2.2.1 !=f)) then
  none
 else
  some h)
noncomputable def zBK (b:GRequest):Option Str :=
 (bif decide (100000<(b.fBody.length:Int)) then
  none
 else
  (bif (((((b.fBody.length:Int)==0)&&(b.fMethod !=[80,79,83,84]))&&(b.fMethod !=[80,85,84]))&&(b.fMethod !=[80,65,84,67,72])) then
   (zA1 b.fMethod b.fTarget b.fMinor).bind fun c =>
   (zCl c b.fFields (-1) b.fBody).bind fun d =>
   some d
  else
   none))
noncomputable def zAy:(Int×Str×Int×(List GField)×(List Str)×(List Str)×Int×Int×Str×(List GField)×Str)→Option ((Int×Str×Int×(List GField)×(List Str)×(List Str)×Int×Int×Str×(List GField)×Str) ⊕ (Int×Str×Int×(List GField)×(List Str)×(List Str)×Int×Int×Str×(List GField)×Str))
 | (k,d,f,h,i,l,o,p,q,r,t) =>
  (xsub d f d.length).bind fun u =>
  (zFS u).bind fun b =>
  (bif b.2.2 !=0 then
   none
  else
   ((bif ((decide (16000<(wr (f+b.2.1))))||((decide (64<k))&&(b.1 !=[]))) then
    none
   else
    (bif k==0 then
     (zAs b.1).bind fun j =>
     some (.inl (j.2.2.2,h,i,j.1,j.2.1,j.2.2.1))
    else
     (bif b.1==[] then
      some (.inr (.inr (0,d,wr (f+b.2.1),h,i,l,o,p,q,r,t)))
     else
      (zCA b.1).bind fun c =>
      ((bif c.2 !=0 then
       none
      else
       (zNY c.1.fName [67,111,110,116,101,110,116,45,76,101,110,103,116,104]).bind fun v =>
       (bif v then
        (xapp i ([c.1.fValue]:List Str)).bind fun x =>
        some (h,x)
       else
        (zNY c.1.fName [84,114,97,110,115,102,101,114,45,69,110,99,111,100,105,110,103]).bind fun z =>
        (bif z then
         none
        else
         (xapp h ([c.1]:List GField)).bind fun aa =>
         some (aa,i))))).bind fun (ab:((List GField)×(List Str))) =>
      match ab with
      | (ac,ad) =>
       some (.inl (0,ac,ad,o,p,q)))))).bind fun (ae:((Int×(List GField)×(List Str)×Int×Int×Str) ⊕ ((Int×Str×Int×(List GField)×(List Str)×(List Str)×Int×Int×Str×(List GField)×Str) ⊕ (Int×Str×Int×(List GField)×(List Str)×(List Str)×Int×Int×Str×(List GField)×Str))))=>match ae with
   | .inr e=>some e
   | .inl (af,ah,ai,aj,ak,al) =>
    (bif af !=0 then
     none
    else
     some (.inl (wr (k+1),d,wr (f+b.2.1),ah,ai,l,aj,ak,al,r,t))))
noncomputable def zAu (c:(List Str)) (b:Int):Option (Int ⊕ Unit) :=
  (bif decide (b<(c.length:Int)) then
   (xnth c b).bind fun d =>
   (zBR d).bind fun f =>
   (bif ((!f.2)||(decide (9<(d.length:Int)))) then
    none
   else
    some (.inl (wr (b+1))))
  else
   some (.inr ()))
noncomputable def zBM (k:Str) (l:Str) (ae:Bool):Option (GResponse×Int×Int) :=
 ((lf (zAy) (0,k,0,([]:List GField),([]:List Str),([]:List Str),0,0,[],([]:List GField),[])).bind fun o=>some o).bind fun (p:(Int×Str×Int×(List GField)×(List Str)×(List Str)×Int×Int×Str×(List GField)×Str)) =>
 match p with
 | (q,f,h,r,b,c,t,i,u,af,ah) =>
  (bif q !=0 then
   none
  else
   (bif decide (1<(c.length:Int)) then
    some true
   else
    (bif (c.length:Int)==1 then
     (xnth c 0).bind fun v =>
     (zNY v [99,104,117,110,107,101,100]).bind fun x =>
     some (!x)
    else
     some false).bind fun z =>
    some (z)).bind fun aa =>
   (bif aa then
    none
   else
    (bif ((decide (1<(b.length:Int)))||(((b.length:Int)==1)&&((c.length:Int)==1))) then
     none
    else
     (lf (zAu b) 0).bind fun ai =>
     (zNv i l).bind fun ab =>
     (bif ab then
      none
     else
      (bif decide (0<(wr ((c.length:Int)+(b.length:Int)))) then
       (xsub f h f.length).bind fun j =>
       (bif decide (0<(c.length:Int)) then
        none
       else
        (bif decide (0<(b.length:Int)) then
         (xnth b 0).bind fun ac =>
         (zBR ac).bind fun d =>
         (bif decide (100000<d.1) then
          none
         else
          (bif decide ((j.length:Int)<d.1) then
           none
          else
           (xsub j 0 d.1).bind fun ad =>
           some ((⟨t,i,u,r,ad⟩:GResponse),wr (h+d.1),0)))
        else
         none))
      else
       none)))))
noncomputable def zGN (b:(List Str)):Unit→Option (Unit ⊕ Unit)
 | _ =>
  (bif decide (0<(b.length:Int)) then
   none
  else
   some (.inr ()))
noncomputable def zFL (c:(List GField)):Option ((List Str)×Bool) :=
 (zE8 c [86,97,114,121]).bind fun b =>
 (bif decide (64≤(b.length:Int)) then
  none
 else
  (lf (zGN b) ()).bind fun h =>
  (slices_Sort_string ([]:List Str)).bind fun d =>
  (slices_Compact_string d).bind fun f =>
  some (f,true))
noncomputable def zCZ (c:GRequest) (d:GResponse):Option Bool :=
 (bif ((c.fMethod !=[71,69,84])||(d.fStatus !=200)) then
  none
 else
  (zAV d.fFields).bind fun b =>
  (bif (b.fNoStore||b.fPrivate) then
   some true
  else
   (zAh c.fFields).bind fun f =>
   some (f.fNoStore)).bind fun h =>
  (bif h then
   none
  else
   (zFL d.fFields).bind fun i =>
   (bif !i.2 then
    none
   else
    (zNZ c.fFields [82,97,110,103,101]).bind fun j =>
    (bif j then
     none
    else
     (zNZ c.fFields [65,117,116,104,111,114,105,122,97,116,105,111,110]).bind fun k =>
     (bif (((k&&(!b.fMustRevalidate))&&(!b.fPublic))&&(b.fSMaxAge==(-1))) then
      none
     else
      (zBG d.fFields).bind fun l =>
      (bif decide (0<l) then
       some true
      else
       none).bind fun o =>
      some o)))))
noncomputable def zD6 (b:(List GField)):Option ((List GAxis)×Int) :=
 (zNZ b [86,97,114,105,97,110,116,115]).bind fun c =>
 (bif !c then
  some (([]:List GAxis),12)
 else
  none)
noncomputable def zDz (b:(List GAxis)):Option Bool :=
 (bif ((decide ((b.length:Int)<1))||(decide (4<(b.length:Int)))) then
  some false
 else
  none)
noncomputable def zES (d:(List GField)) (b:(List GAxis)):Option ((List (List Str))×Int) :=
 (zDz b).bind fun c =>
 (bif !c then
  some (([]:List (List Str)),10)
 else
  none)
noncomputable def zGo (f:GRequest) (b:GResponse) (h:Int) (i:Int):Option (GEntry×(List GAxis)) :=
 (zFB b.fFields).bind fun j =>
 (zD6 b.fFields).bind fun c =>
 (zES b.fFields c.1).bind fun k =>
 (bif ((c.2==0)&&(k.2==0)) then
  none
 else
  (zFL b.fFields).bind fun d =>
  (zDO d.1 f.fFields).bind fun l =>
  some ((⟨([]:List (List Str)),d.1,l,b.fReason,j,b.fBody,h,i⟩:GEntry),([]:List GAxis)))
noncomputable def zD4 (b:GEntry) (c:Str):Option Bool :=
 (zN3 b 2147483647 c).bind fun d =>
 (zAp d [71,69,84]).bind fun f =>
 some (f !=[])
noncomputable def zEo (b:(List Str)):Unit→Option (Unit ⊕ Unit)
 | _ =>
  (bif decide (0<(b.length:Int)) then
   none
  else
   some (.inr ()))
noncomputable def zDL (b:(List Str)):Option Int :=
 (lf (zEo b) ()).bind fun c =>
 some 0
noncomputable def zGa (c:GEntry):(Int×Int)→Option ((Int×Int) ⊕ Int)
 | (d,b) =>
  (bif decide (b<(c.fFields.length:Int)) then
   (xnth c.fFields b).bind fun f =>
   some (.inl (wr (d+(wr ((wr (4+(f.fName.length:Int)))+(f.fValue.length:Int)))),wr (b+1)))
  else
   some (.inr d))
noncomputable def zGX (b:GEntry):Unit→Option (Unit ⊕ Unit)
 | _ =>
  (bif decide (0<(b.fKeys.length:Int)) then
   none
  else
   some (.inr ()))
noncomputable def zFN (b:GEntry):Option Int :=
 (zDL b.fVary).bind fun c =>
 (zDL b.fSnapshot).bind fun d =>
 (lf (zGa b) (wr ((wr ((wr ((wr (100+(b.fReason.length:Int)))+(b.fBody.length:Int)))+c))+d),0)).bind fun f =>
 (lf (zGX b) ()).bind fun h =>
 some f
noncomputable def zAI (b:(List GAxis)):Unit→Option (Unit ⊕ Unit)
 | _ =>
  (bif decide (0<(b.length:Int)) then
   none
  else
   some (.inr ()))
noncomputable def zAH (b:(List GAxis)) (c:(List GAxis)) (d:(GAxis→GAxis→Option Bool)):Option Bool :=
 (bif (b.length:Int) !=(c.length:Int) then
  none
 else
  (lf (zAI b) ()).bind fun f =>
  some true)
noncomputable def zC6 (b:GAxis) (c:GAxis):Option Bool :=
 none
noncomputable def zD5 (b:(List GAxis)) (c:(List GAxis)):Option Bool :=
 (zAH b c zC6).bind fun d =>
 some d
noncomputable def zF5 (b:GEntry) (c:(List GAxis)) (d:GEntry):Option Bool :=
 none
noncomputable def zAX (b:(List GEntry)):Unit→Option (Unit ⊕ Unit)
 | _ =>
  (bif decide (0<(b.length:Int)) then
   none
  else
   some (.inr ()))
noncomputable def zAO (b:(List GEntry)) (c:(GEntry→Option Bool)):Option Int :=
 (lf (zAX b) ()).bind fun d =>
 some (-1)
noncomputable def zAJ (b:(List GEntry)) (c:(GEntry→Option Bool)):Option (List GEntry) :=
 (zAO b c).bind fun i=>delRF b c i
noncomputable def zHP (d:GTable) (f:GEntry) (h:(List GAxis)) (b:Int):Option GTable :=
 (zCT d).bind fun i =>
 (zD5 d.fAxes h).bind fun j =>
 (bif !j then
  none
 else
  (zAJ i.fEntries (fun k=>zF5 k h f)).bind fun l =>
  (zEK f).bind fun o =>
  (xapp l ([o]:List GEntry)).bind fun c =>
  (xsub c (if (wr ((c.length:Int) - (if b<0 then 0 else b)))<0 then 0 else (wr ((c.length:Int) - (if b<0 then 0 else b)))) c.length).bind fun p =>
  some (⟨i.fAxes,p⟩:GTable))
noncomputable def zEO (c:GTable):(Int×Int)→Option ((Int×Int) ⊕ Int)
 | (d,b) =>
  (bif decide (b<(c.fEntries.length:Int)) then
   (xnth c.fEntries b).bind fun f =>
   (zFN f).bind fun h =>
   some (.inl (wr (d+h),wr (b+1)))
  else
   some (.inr d))
noncomputable def zFM (b:GTable):Option Int :=
 (lf (zEO b) (0,0)).bind fun c =>
 some c
noncomputable def zNL (b:Str) (c:Str):Option Bool :=
 some (b==c)
noncomputable def zCG (c:(List Str)) (b:Str):Option (List Str) :=
 (zAK c (fun d=>zNL d b)).bind fun f =>
 (xapp f ([b]:List Str)).bind fun h =>
 some h
noncomputable def zDW (b:Str) (c:Str):Option Unit :=
 (bif decide (c=b) then
  some ()
 else
  none)
noncomputable def zCM (c:Str) (d:(List Str)) (b:Str):Option (List Str) :=
 (zDW c b).bind fun (h:Unit) =>
 (zCG d b).bind fun (f:(List Str)) =>
 some f
noncomputable def zDS (b:Str) (c:Str):Option Unit :=
 (bif decide (c=b) then
  some ()
 else
  none)
noncomputable def zCL (b:Str) (c:GTable) (d:Str):Option GTable :=
 (zDS b d).bind fun (h:Unit) =>
 (zCT c).bind fun f =>
 some f
noncomputable def zCO (f:GConfig) (h:Str) (j:(List Str)) (k:GTable):Option (GOutput×GDecision×(GRequest×GURI×Unit)×GTable×(List Str)) :=
 (zFO [71,69,84,32,47,97,32,72,84,84,80,47,49,46,49,13,10,72,111,115,116,58,32,104,13,10,13,10]).bind fun b =>
 (zFP b.2.1).bind fun i =>
 (zCL h k i).bind fun (c:GTable) =>
 (zDC c b.1 (wr (0+(if 1099511627776<5 then 1099511627776 else 5))) f).bind fun d =>
 (bif d.fKind==1 then
  (zCM h j i).bind fun (l:(List Str)) =>
  (xnth c.fEntries d.fIndex).bind fun o =>
  (zD1 o (wr (0+(if 1099511627776<5 then 1099511627776 else 5))) f.fName).bind fun p =>
  (zGp b.1 p).bind fun q =>
  some (q,d,b,c,l)
 else
  none)
noncomputable def zDX:Option Unit :=
 some ()
noncomputable def zCN (b:Str):Option (List Str) :=
 (zAK ([]:List Str) (fun c=>zNL c b)).bind fun d =>
 (xapp d ([b]:List Str)).bind fun f =>
 some f
noncomputable def zCK (b:GTable):Option (Int×Int) :=
 (zFM b).bind fun c =>
 (zFM (⟨([]:List GAxis),([]:List GEntry)⟩:GTable)).bind fun d =>
 (bif decide (0<(b.fEntries.length:Int)) then
  some (c,d)
 else
  none)
noncomputable def zFa (b:GConfig) (c:Int) (d:Int) (f:(List Str)):Unit→Option (Unit ⊕ Unit)
 | _ =>
  (bif ((decide (b.fBytes<(wr (0+(wr (c - d))))))||(decide (b.fTables<(f.length:Int)))) then
   none
  else
   some (.inr ()))
noncomputable def zCb (c:GConfig) (j:Str) (b:(GEntry×(List GAxis))):Option (Int×Int×(List Str)×GTable) :=
 (zFN b.1).bind fun k =>
 (bif decide (c.fBytes<k) then
  some true
 else
  (bif decide (0<(b.2.length:Int)) then
   (zDz b.2).bind fun l =>
   some (!l)
  else
   some false).bind fun o =>
  some (o)).bind fun p =>
 (bif p then
  none
 else
  (zHP (⟨([]:List GAxis),([]:List GEntry)⟩:GTable) b.1 b.2 c.fVariants).bind fun d =>
  (zCK d).bind fun (q:(Int×Int)) =>
  match q with
  | (f,h) =>
   (zCN j).bind fun (i:(List Str)) =>
   ((lf (zFa c f h i) ()).bind fun r =>
   some ()).bind fun (t:Unit) =>
   some (f,h,i,d))
noncomputable def zOB (b:Str):Option Bool :=
 some ((((b !=[71,69,84])&&(b !=[72,69,65,68]))&&(b !=[79,80,84,73,79,78,83]))&&(b !=[84,82,65,67,69]))
noncomputable def zN1 (c:Str) (b:Int):Option Bool :=
 (zOB c).bind fun d =>
 some ((d&&(decide (200≤b)))&&(decide (b≤399)))
noncomputable def zCf (d:GConfig) (c:(GRequest×GURI×Unit)) (i:Str) (b:(GResponse×Int×Int)):Option (Str×Int×Int×(List Str)×GTable) :=
 (zFB b.1.fFields).bind fun j =>
 (zOR j b.1.fMinor d.fName).bind fun k =>
 (zDq c.1 (⟨1,b.1.fStatus,b.1.fReason,k,b.1.fBody⟩:GResponse)).bind fun f =>
 (bif f==[] then
  none
 else
  (zN1 c.1.fMethod b.1.fStatus).bind fun l =>
  (bif l then
   none
  else
   (zCZ c.1 b.1).bind fun o =>
   (bif o then
    (zGo c.1 b.1 0 0).bind fun h =>
    (zD4 h.1 d.fName).bind fun p =>
    (bif p then
     (zCb d i h).bind fun (q:(Int×Int×(List Str)×GTable)) =>
     match q with
     | (r,t,u,v) =>
      some (f,r,t,u,v)
    else
     none)
   else
    none)))
noncomputable def zCd (d:GConfig) (c:(GRequest×GURI×Unit)) (f:Str):Option (Str×Int×Int×(List Str)×GTable) :=
 (zBM [72,84,84,80,47,49,46,49,32,50,48,48,32,79,75,13,10,67,97,99,104,101,45,67,111,110,116,114,111,108,58,32,109,97,120,45,97,103,101,61,54,48,13,10,67,111,110,116,101,110,116,45,76,101,110,103,116,104,58,32,49,13,10,13,10,120] c.1.fMethod true).bind fun b =>
 (bif (((b.2.2 !=0)||(b.2.1 !=([72,84,84,80,47,49,46,49,32,50,48,48,32,79,75,13,10,67,97,99,104,101,45,67,111,110,116,114,111,108,58,32,109,97,120,45,97,103,101,61,54,48,13,10,67,111,110,116,101,110,116,45,76,101,110,103,116,104,58,32,49,13,10,13,10,120].length:Int)))||(decide (b.1.fStatus<200))) then
  none
 else
  (bif ((b.1.fStatus==304)&&false) then
   none
  else
   (bif b.1.fStatus==304 then
    none
   else
    some false).bind fun h =>
   (bif h then
    none
   else
    (zCf d c f b).bind fun (i:(Str×Int×Int×(List Str)×GTable)) =>
    match i with
    | (j,k,l,o,p) =>
     some (j,k,l,o,p))))
noncomputable def zCn (f:GConfig) (c:(GRequest×GURI×Unit)):Option (Str×GRequest×(List GField)) :=
 (zB6 c.1 f.fName).bind fun b =>
 (bif c.2.1.fHasQuery then
  none
 else
  (bif c.2.1.fPort !=80 then
   none
  else
   (zNZ b.fFields [72,111,115,116]).bind fun h =>
   (bif h then
    (zEe b.fFields [72,111,115,116] c.2.1.fHost).bind fun d =>
    (zBK (⟨b.fMethod,c.2.1.fPath,b.fMinor,d,b.fBody⟩:GRequest)).bind fun i =>
    some (i,b,d)
   else
    none)))
noncomputable def zD3:Option Unit :=
 some ()
noncomputable def zCj:Option GTable :=
 (zD3).bind fun (c:Unit) =>
 (zCT (⟨([]:List GAxis),([]:List GEntry)⟩:GTable)).bind fun b =>
 some b
noncomputable def zCg (d:GConfig):Option (Str×(GRequest×GURI×Unit)×Str) :=
 (zFO [71,69,84,32,47,97,32,72,84,84,80,47,49,46,49,13,10,72,111,115,116,58,32,104,13,10,13,10]).bind fun b =>
 (zFP b.2.1).bind fun h =>
 (zCj).bind fun (i:GTable) =>
 (zDC i b.1 0 d).bind fun c =>
 (bif c.fKind==1 then
  none
 else
  (bif c.fKind==4 then
   none
  else
   (bif c.fKind==5 then
    none
   else
    (bif c.fKind==2 then
     none
    else
     (zCn d b).bind fun (j:(Str×GRequest×(List GField))) =>
     match j with
     | (f,k,l) =>
      (bif f==[] then
       none
      else
       some (f,b,h))))))
noncomputable def zDx (b:GConfig):Option Unit :=
 (bif ((((((decide (b.fBytes<1))||(decide (100000000<b.fBytes)))||(decide (b.fVariants<1)))||(decide (64<b.fVariants)))||(decide (b.fTables<1)))||(decide (1000<b.fTables))) then
  none
 else
  some ())
noncomputable def zCi (b:GConfig):Option Unit :=
 (zDx b).bind fun (d:Unit) =>
 (zNW b.fName).bind fun c =>
 (bif (((!c)||(decide (100<(b.fName.length:Int))))||(b.fRefuse&&(!b.fStrict))) then
  none
 else
  some ())
noncomputable def zNy:Option GConfig :=
 some (⟨[112],1000,4,4,false,false⟩:GConfig)
noncomputable def law32_awake_q:Option Bool :=
 (zNy).bind fun b =>
 (zCi b).bind fun (q:Unit) =>
 (zCg b).bind fun (f:(Str×(GRequest×GURI×Unit)×Str)) =>
 match f with
 | (h,i,c) =>
  (zCd b i c).bind fun (j:(Str×Int×Int×(List Str)×GTable)) =>
  match j with
  | (k,r,t,l,o) =>
   (zDX).bind fun (u:Unit) =>
   (zCO b c l o).bind fun (p:(GOutput×GDecision×(GRequest×GURI×Unit)×GTable×(List Str))) =>
   match p with
   | (d,v,x,z,aa) =>
    some ((((h !=[])&&(k !=[]))&&(d.fToOrigin==[]))&&(d.fToClient==[72,84,84,80,47,49,46,49,32,50,48,48,32,79,75,13,10,67,97,99,104,101,45,67,111,110,116,114,111,108,58,32,109,97,120,45,97,103,101,61,54,48,13,10,65,103,101,58,32,53,13,10,86,105,97,58,32,49,46,49,32,112,13,10,67,111,110,116,101,110,116,45,76,101,110,103,116,104,58,32,49,13,10,13,10,120]))
noncomputable def zAm (c:(List Int)):(Int×Int×Str×Int×Int×Int×Bool×Bool×Int×Int×Int×Int×Int×(List Str))→Option ((Int×Int×Str×Int×Int×Int×Bool×Bool×Int×Int×Int×Int×Int×(List Str)) ⊕ (Unit ⊕ Bool))
 | (d,b,o,p,q,r,t,u,f,v,x,z,aa,ab) =>
  (bif decide (b<(c.length:Int)) then
   (xnth c b).bind fun h =>
   ((bif decide (h<0) then
    some (10,f)
   else
    some (0,wr (f+(if (wr (1099511627776 - f))<h then (wr (1099511627776 - f)) else h))))).bind fun (ac:(Int×Int)) =>
   match ac with
   | (i,j) =>
    (xnth c b).bind fun ad =>
    (bif (((i==10) !=(decide (ad<0)))||((i !=0)&&(i !=10))) then
     some (.inr (.inr false))
    else
     (xnth c b).bind fun ae =>
     ((bif decide (0<ae) then
      (xnth c b).bind fun k =>
      some (wr (d+(if (wr (1099511627776 - d))<k then (wr (1099511627776 - d)) else k)))
     else
      some d)).bind fun (l:Int) =>
     (some j).bind fun (af:Int) =>
     (bif af !=l then
      some (.inr (.inr false))
     else
      some (.inl (l,wr (b+1),o,p,q,r,t,u,j,v,x,z,aa,ab))))
  else
   some (.inr (.inl ())))
noncomputable def zFe (c:(List Int)):Option Bool :=
 (bif decide (50<(c.length:Int)) then
  some true
 else
  (zNy).bind fun b =>
  (bif ((((((decide (b.fBytes<1))||(decide (100000000<b.fBytes)))||(decide (b.fVariants<1)))||(decide (64<b.fVariants)))||(decide (b.fTables<1)))||(decide (1000<b.fTables))) then
   none
  else
   (zNW b.fName).bind fun d =>
   (bif (((!d)||(decide (100<(b.fName.length:Int))))||(b.fRefuse&&(!b.fStrict))) then
    none
   else
    (zAN (zAm c) (0,0,b.fName,b.fBytes,b.fVariants,b.fTables,b.fStrict,b.fRefuse,0,b.fBytes,b.fVariants,b.fTables,0,([]:List Str))).bind fun f=>match f with
    | .inr e=>some e
    | .inl _ =>
     (law32_awake_q).bind fun h =>
     some h)))
noncomputable def zOU (b:Str) (c:Str):Option Int :=
 (zCC b c).bind fun d =>
 some d
end Go.Eng.Pure
