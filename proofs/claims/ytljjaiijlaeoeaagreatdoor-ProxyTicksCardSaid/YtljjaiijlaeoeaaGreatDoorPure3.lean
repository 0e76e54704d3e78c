/- A part of the proof of laws of the seat: written by program over the translation. -/
import Derived.Test.YtljjaiijlaeoeaaGreatDoorPure1
set_option linter.unusedVariables false
namespace Go.Eng.Pure
open Go Go.Eng
set_option linter.unusedVariables false
noncomputable def zAS (b:(List Str)):Option (List Str) :=
 xapp [] b
noncomputable def zAc (b:(List GField)):Option (List GField) :=
 xapp [] b
noncomputable def zCr (c:Str) (b:Int):Option (Int ⊕ Unit) :=
  (bif decide (b<(c.length:Int)) then
   (xnth c b).bind fun d =>
   (bif decide (d<33) then
    some true
   else
    (xnth c b).bind fun f =>
    some (decide (126<f))).bind fun h =>
   (bif h then
    none
   else
    some (.inl (wr (b+1))))
  else
   some (.inr ()))
noncomputable def zCU (b:Str):Option Bool :=
 (lf (zCr b) 0).bind fun c =>
 some (b !=[])
noncomputable def zNh (b:UInt8):Option Bool :=
 some ((decide (48≤b))&&(decide (b≤57)))
noncomputable def zBV (b:Str):Option (Int×Unit) :=
 (bif (b.length:Int) !=8 then
  some true
 else
  (xsub b 0 5).bind fun c =>
  some (c !=[72,84,84,80,47])).bind fun d =>
 (bif d then
  some true
 else
  (xnth b 5).bind fun f =>
  (zNh f).bind fun h =>
  some (!h)).bind fun i =>
 (bif i then
  some true
 else
  (xnth b 6).bind fun j =>
  some (j !=46)).bind fun k =>
 (bif k then
  some true
 else
  (xnth b 7).bind fun l =>
  (zNh l).bind fun o =>
  some (!o)).bind fun p =>
 (bif p then
  none
 else
  (xnth b 5).bind fun q =>
  (bif q !=49 then
   some true
  else
   (xnth b 7).bind fun r =>
   some (decide (49<r))).bind fun t =>
  (bif t then
   none
  else
   (xnth b 7).bind fun u =>
   some (((u - 48).toNat:Int),())))
noncomputable def zN9 (b:Str) (d:Str):Option (Str×Str×Bool) :=
 (zCC b d).bind fun c =>
 (bif decide (0≤c) then
  (xsub b 0 c).bind fun f =>
  (xsub b (wr (c+(d.length:Int))) b.length).bind fun h =>
  some (f,h,true)
 else
  some (b,[],false))
noncomputable def zNX (c:Str) (d:Str):Option (Str×Str×Bool) :=
 (zN9 c d).bind fun b =>
 some (b.1,b.2.1,b.2.2)
noncomputable def zOT (b:UInt8):Option Bool :=
 (((bif b==33 then
  some (b==33)
 else
  (bif b==35 then
   some (b==35)
  else
   (bif b==36 then
    some (b==36)
   else
    (bif b==37 then
     some (b==37)
    else
     (bif b==38 then
      some (b==38)
     else
      (bif b==39 then
       some (b==39)
      else
       (bif b==42 then
        some (b==42)
       else
        (bif b==43 then
         some (b==43)
        else
         (bif b==45 then
          some (b==45)
         else
          (bif b==46 then
           some (b==46)
          else
           (bif b==94 then
            some (b==94)
           else
            (bif b==95 then
             some (b==95)
            else
             (bif b==96 then
              some (b==96)
             else
              (bif b==124 then
               some (b==124)
              else
               some (b==126)))))))))))))))).bind fun (c:Bool) =>
 (bif c then
  some (.inr true)
 else
  some (.inl ()))).bind fun (d:(Unit ⊕ Bool))=>match d with
 | .inr e=>some e
 | .inl _ =>
  some ((((decide (48≤b))&&(decide (b≤57)))||((decide (65≤b))&&(decide (b≤90))))||((decide (97≤b))&&(decide (b≤122))))
noncomputable def zOI (c:Str) (b:Int):Option (Int ⊕ (Unit ⊕ Bool)) :=
  (bif decide (b<(c.length:Int)) then
   (xnth c b).bind fun d =>
   (zOT d).bind fun f =>
   (bif !f then
    some (.inr (.inr false))
   else
    some (.inl (wr (b+1))))
  else
   some (.inr (.inl ())))
noncomputable def zNW (b:Str):Option Bool :=
 (lf (zOI b) 0).bind fun c=>match c with
 | .inr e=>some e
 | .inl _ =>
  some (b !=[])
noncomputable def zAo (d:Str):Option (Str×Str×Int×Int) :=
 (bif decide (2000<(d.length:Int)) then
  none
 else
  (zNX d [32]).bind fun b =>
  (zNX b.2.1 [32]).bind fun c =>
  (zNW b.1).bind fun f =>
  (bif !f then
   some true
  else
   (zCU c.1).bind fun h =>
   some (!h)).bind fun i =>
  (bif i then
   none
  else
   (zBV c.2.1).bind fun j =>
   some (b.1,c.1,j.1,0)))
noncomputable def zFS (c:Str):Option (Str×Int×Int) :=
 (zDw c [13,10]).bind fun b =>
 (bif ((decide (2000<b))||((decide (b<0))&&(decide (2000<(c.length:Int))))) then
  none
 else
  (bif decide (b<0) then
   some true
  else
   (xnth c b).bind fun d =>
   some (((d==13)&&(b==(wr ((c.length:Int) - 1)))))).bind fun f =>
  (bif f then
   none
  else
   (xnth c b).bind fun h =>
   (bif h==10 then
    some true
   else
    (xnth c (wr (b+1))).bind fun i =>
    some (i !=10)).bind fun j =>
   (bif j then
    none
   else
    (xsub c 0 b).bind fun k =>
    some (k,wr (b+2),0))))
noncomputable def zGG (c:Str) (b:Int):Option (Int ⊕ Unit) :=
  (bif decide (b<(c.length:Int)) then
   (xnth c b).bind fun d =>
   (bif decide (d<32) then
    (xnth c b).bind fun f =>
    some (f !=9)
   else
    some false).bind fun h =>
   (bif h then
    some true
   else
    (xnth c b).bind fun i =>
    some (i==127)).bind fun j =>
   (bif j then
    none
   else
    some (.inl (wr (b+1))))
  else
   some (.inr ()))
noncomputable def zEH (b:Str):Option Bool :=
 (lf (zGG b) 0).bind fun c =>
 some true
noncomputable def zBZ (b:Str) (c:Str):Unit→Option (Unit ⊕ Unit)
 | _ =>
  (bif decide (0<(b.length:Int)) then
   (xnth b (wr ((b.length:Int) - 1))).bind fun d =>
   (zAi c d).bind fun f =>
   (bif !f then
    some (.inr ())
   else
    none)
  else
   none)
noncomputable def zBC (b:Str) (c:Str):Option Str :=
 (lf (zBZ b c) ()).bind fun d =>
 some b
noncomputable def zBl (c:Str) (b:Str):Option (Str ⊕ Str) :=
  (bif decide (0<(b.length:Int)) then
   (xnth b 0).bind fun d =>
   (zAi c d).bind fun f =>
   (bif !f then
    some (.inr b)
   else
    (xsub b 1 b.length).bind fun h =>
    some (.inl h))
  else
   none)
noncomputable def zBO (b:Str) (c:Str):Option Str :=
 (lf (zBl c) b).bind fun d =>
 some d
noncomputable def zFE (c:Str) (b:Str):Option Str :=
 (bif ((c==[])||(b==[])) then
  none
 else
  (bif (b.length:Int)==1 then
   (xnth b 0).bind fun d =>
   some (decide (d<128))
  else
   some false).bind fun f =>
  (bif f then
   none
  else
   (strings_makeASCIISet b).bind fun j =>
   (zBC c b).bind fun h =>
   (zBO h b).bind fun i =>
   some i))
noncomputable def zEI (b:Str):Option Str :=
 (zFE b [32,9]).bind fun c =>
 some c
noncomputable def zCm (b:GField):Option Str :=
 (bif b.fValue==[] then
  none
 else
  (xcat b.fName [58,32]).bind fun c =>
  (xcat c b.fValue).bind fun d =>
  some d)
noncomputable def zB8 (b:GField):Option Bool :=
 (zNW b.fName).bind fun c =>
 (bif c then
  (zEH b.fValue).bind fun d =>
  some (d)
 else
  some false).bind fun f =>
 (bif f then
  (zEI b.fValue).bind fun h =>
  some (h==b.fValue)
 else
  some false).bind fun i =>
 (bif i then
  (zCm b).bind fun j =>
  some (decide ((j.length:Int)≤2000))
 else
  some false).bind fun k =>
 some k
noncomputable def zCA (c:Str):Option (GField×Int) :=
 (bif decide (2000<(c.length:Int)) then
  none
 else
  (zNX c [58]).bind fun b =>
  (bif !b.2.2 then
   some true
  else
   (zNW b.1).bind fun f =>
   some (!f)).bind fun h =>
  (bif h then
   some true
  else
   (zEH b.2.1).bind fun i =>
   some (!i)).bind fun j =>
  (bif j then
   none
  else
   (zEI b.2.1).bind fun d =>
   (zB8 (⟨b.1,d⟩:GField)).bind fun k =>
   (bif !k then
    none
   else
    some ((⟨b.1,d⟩:GField),0))))
noncomputable def zE9 (c:Str):(Int×Int)→Option ((Int×Int) ⊕ Int)
 | (d,b) =>
  (bif decide (b<(c.length:Int)) then
   (xnth c b).bind fun h =>
   (bif decide (h<48) then
    some true
   else
    (xnth c b).bind fun i =>
    some (decide (57<i))).bind fun j =>
   (bif j then
    none
   else
    (xnth c b).bind fun f =>
    some (.inl ((if 2147483647<(wr ((wr (10*d))+((f - 48).toNat:Int))) then 2147483647 else (wr ((wr (10*d))+((f - 48).toNat:Int)))),wr (b+1))))
  else
   some (.inr d))
noncomputable def zBR (b:Str):Option (Int×Bool) :=
 (lf (zE9 b) (0,0)).bind fun c =>
 some (c,b !=[])
noncomputable def zNm (d:(List GField)) (h:(GField→Option Bool)):((List GField)×Int)→Option (((List GField)×Int) ⊕ (List GField))
 | (c,b) =>
  (bif decide (b<(d.length:Int)) then
   (xnth d b).bind fun f =>
   (h f).bind fun i =>
   (bif i then
    (xapp c ([f]:List GField)).bind fun j =>
    some (.inl (j,wr (b+1)))
   else
    some (.inl (c,wr (b+1))))
  else
   some (.inr c))
noncomputable def zNd (b:(List GField)) (c:(GField→Option Bool)):Option (List GField) :=
 (lf (zNm b c) (([]:List GField),0)).bind fun d =>
 some d
noncomputable def zOH (f:Str):(Int×Str)→Option ((Int×Str) ⊕ Str)
 | (b,c) =>
  (bif decide (b<(f.length:Int)) then
   (xnth c b).bind fun h =>
   (xnth c b).bind fun d =>
   (bif ((decide (65≤d))&&(decide (d≤90))) then
    (xnth c b).bind fun i =>
    some (.inl (wr (b+1),(c.set b.toNat ((d+97) - 65))))
   else
    some (.inl (wr (b+1),c)))
  else
   some (.inr c))
noncomputable def zNb (b:Str):Option Str :=
 (lf (zOH b) (0,b)).bind fun c =>
 some c
noncomputable def zN4 (b:GField) (c:Str):Option Bool :=
 (bif (b.fName.length:Int)==(c.length:Int) then
  (zNb b.fName).bind fun d =>
  some (d==c)
 else
  some false).bind fun f =>
 some f
noncomputable def zNi (b:Str):Option (GField→Option Bool) :=
 (zNb b).bind fun c =>
 some (fun d=>zN4 d c)
noncomputable def zN8 (c:(List GField)):((List Str)×Int)→Option (((List Str)×Int) ⊕ (List Str))
 | (d,b) =>
  (bif decide (b<(c.length:Int)) then
   (xnth c b).bind fun f =>
   (xapp d ([f.fValue]:List Str)).bind fun h =>
   some (.inl (h,wr (b+1)))
  else
   some (.inr d))
noncomputable def zNp (b:(List GField)) (c:Str):Option (List Str) :=
 (zNi c).bind fun d =>
 (zNd b d).bind fun f =>
 (lf (zN8 f) (([]:List Str),0)).bind fun h =>
 some h
noncomputable def zNY (b:Str) (c:Str):Option Bool :=
 (bif (b.length:Int)==(c.length:Int) then
  (zNb b).bind fun d =>
  (zNb c).bind fun f =>
  some (d==f)
 else
  some false).bind fun h =>
 some h
noncomputable def zA4:(Int×Str×Int×(List GField)×(List Str)×(List Str)×Str×Str×Int×(List GField)×Str)→Option ((Int×Str×Int×(List GField)×(List Str)×(List Str)×Str×Str×Int×(List GField)×Str) ⊕ (Int×Str×Int×(List GField)×(List Str)×(List Str)×Str×Str×Int×(List GField)×Str))
 | (i,c,d,j,k,l,o,p,q,r,t) =>
  (xsub c d c.length).bind fun u =>
  (zFS u).bind fun b =>
  (bif b.2.2 !=0 then
   none
  else
   ((bif ((decide (16000<(wr (d+b.2.1))))||((decide (64<i))&&(b.1 !=[]))) then
    none
   else
    (bif i==0 then
     (zAo b.1).bind fun f =>
     some (.inl (f.2.2.2,j,f.1,f.2.1,f.2.2.1))
    else
     (bif b.1==[] then
      some (.inr (.inr (0,c,wr (d+b.2.1),j,k,l,o,p,q,r,t)))
     else
      (zCA b.1).bind fun h =>
      (bif h.2 !=0 then
       none
      else
       (zNY h.1.fName [67,111,110,116,101,110,116,45,76,101,110,103,116,104]).bind fun v =>
       (bif v then
        none
       else
        (zNY h.1.fName [84,114,97,110,115,102,101,114,45,69,110,99,111,100,105,110,103]).bind fun x =>
        (bif x then
         none
        else
         (xapp j ([h.1]:List GField)).bind fun z =>
         some (.inl (0,z,o,p,q))))))))).bind fun (aa:((Int×(List GField)×Str×Str×Int) ⊕ ((Int×Str×Int×(List GField)×(List Str)×(List Str)×Str×Str×Int×(List GField)×Str) ⊕ (Int×Str×Int×(List GField)×(List Str)×(List Str)×Str×Str×Int×(List GField)×Str))))=>match aa with
   | .inr e=>some e
   | .inl (ab,ac,ad,ae,af) =>
    (bif ab !=0 then
     none
    else
     some (.inl (wr (i+1),c,wr (d+b.2.1),ac,k,l,ad,ae,af,r,t))))
noncomputable def zB4 (b:(List Str)):Unit→Option (Unit ⊕ Unit)
 | _ =>
  (bif decide (0<(b.length:Int)) then
   none
  else
   some (.inr ()))
noncomputable def zBj (k:Str):Option (GRequest×Int×Int) :=
 ((lf (zA4) (0,k,0,([]:List GField),([]:List Str),([]:List Str),[],[],0,([]:List GField),[])).bind fun l=>some l).bind fun (o:(Int×Str×Int×(List GField)×(List Str)×(List Str)×Str×Str×Int×(List GField)×Str)) =>
 match o with
 | (p,d,f,h,c,b,q,r,i,z,aa) =>
  (bif p !=0 then
   none
  else
   (bif decide (1<(b.length:Int)) then
    some true
   else
    (bif (b.length:Int)==1 then
     (xnth b 0).bind fun t =>
     (zNY t [99,104,117,110,107,101,100]).bind fun u =>
     some (!u)
    else
     some false).bind fun v =>
    some (v)).bind fun x =>
   (bif x then
    none
   else
    (bif ((decide (1<(c.length:Int)))||(((c.length:Int)==1)&&((b.length:Int)==1))) then
     none
    else
     (lf (zB4 c) ()).bind fun ab =>
     (zNp h [72,111,115,116]).bind fun j =>
     (bif ((decide (1<(j.length:Int)))||(((j.length:Int)==0)&&(i==1))) then
      none
     else
      (xsub d f d.length).bind fun ac =>
      (bif decide (0<(b.length:Int)) then
       none
      else
       (bif decide (0<(c.length:Int)) then
        none
       else
        some ((⟨q,r,i,h,[]⟩:GRequest),f,0)))))))
noncomputable def zDN (c:Str):((List UInt8)×Int)→Option (((List UInt8)×Int) ⊕ (List UInt8))
 | (d,b) =>
  (bif decide (b<(c.length:Int)) then
   (xnth c b).bind fun f =>
   (bif decide (f<33) then
    some true
   else
    (xnth c b).bind fun h =>
    some (decide (126<h))).bind fun i =>
   (bif i then
    some true
   else
    (xnth c b).bind fun j =>
    some (j==35)).bind fun k =>
   (bif k then
    none
   else
    (xnth c b).bind fun l =>
    (bif l !=37 then
     (xnth c b).bind fun o =>
     (xapp d ([o]:List UInt8)).bind fun p =>
     some (.inl (p,wr (b+1)))
    else
     none))
  else
   some (.inr d))
noncomputable def zBu (b:Str):Option (Str×Bool) :=
 (xroom (b.length:Int)).bind fun d =>
 (lf (zDN b) (([]:List UInt8),0)).bind fun c =>
 some (c,true)
noncomputable def zNz (b:UInt8):Option Bool :=
 some ((((decide (48≤b))&&(decide (b≤57)))||((decide (65≤b))&&(decide (b≤90))))||((decide (97≤b))&&(decide (b≤122))))
noncomputable def zOC (b:UInt8):Option Bool :=
 (zNz b).bind fun c =>
 some ((c||(b==45))||(b==46))
noncomputable def zDB (c:(Str×Str×Bool)) (b:Int):Option (Int ⊕ Unit) :=
  (bif decide (b<(c.1.length:Int)) then
   (xnth c.1 b).bind fun d =>
   (zOC d).bind fun f =>
   (bif !f then
    none
   else
    some (.inl (wr (b+1))))
  else
   some (.inr ()))
noncomputable def zC0 (c:Str):Option (Str×Int×Bool) :=
 (zNX c [58]).bind fun b =>
 (lf (zDB b) 0).bind fun f =>
 (bif b.1==[] then
  none
 else
  (bif b.2.1 !=[] then
   none
  else
   (zNb b.1).bind fun d =>
   some (d,80,true)))
noncomputable def zNs (c:Str) (b:Str):Option Bool :=
 (bif decide ((b.length:Int)≤(c.length:Int)) then
  (xsub c 0 (b.length:Int)).bind fun d =>
  some (d==b)
 else
  some false).bind fun f =>
 some f
noncomputable def zNo (b:Str) (c:Str):Option Bool :=
 (zNs b c).bind fun d =>
 some d
noncomputable def zDk:((List Str)×Str×Bool)→Option (((List Str)×Str×Bool) ⊕ (List Str))
 | (c,d,f) =>
  (bif f then
   (zNX d [47]).bind fun b =>
   (bif ((b.1==[46])&&b.2.2) then
    none
   else
    (bif b.1==[46,46] then
     none
    else
     (bif b.1==[46] then
      none
     else
      (xapp c ([b.1]:List Str)).bind fun h =>
      some (.inl (h,b.2.1,b.2.2)))))
  else
   some (.inr c))
noncomputable def zDa (b:Str):Option Str :=
 (zNo b [47]).bind fun c =>
 (bif !c then
  none
 else
  (xsub b 1 b.length).bind fun d =>
  (lf (zDk) (([]:List Str),d,true)).bind fun f =>
  (strings_Join f [47]).bind fun h =>
  (xcat [47] h).bind fun i =>
  some i)
noncomputable def zOE (b:Str):Option Bool :=
 (bif decide (7≤(b.length:Int)) then
  (xsub b 0 7).bind fun c =>
  (zNY c [104,116,116,112,58,47,47]).bind fun d =>
  some (d)
 else
  some false).bind fun f =>
 some f
noncomputable def zFI (b:Str) (i:Str):Option (GURI×Int) :=
 (zOE b).bind fun j =>
 (bif j then
  none
 else
  (zNo b [47]).bind fun k =>
  (bif !k then
   none
  else
   (zNX b [63]).bind fun c =>
   (zBu c.1).bind fun d =>
   (zBu c.2.1).bind fun h =>
   (bif ((!d.2)||(!h.2)) then
    none
   else
    (bif d.1==[] then
     none
    else
     (zC0 i).bind fun f =>
     (bif !f.2.2 then
      none
     else
      (zDa d.1).bind fun l =>
      some ((⟨f.1,f.2.1,l,h.1,c.2.2⟩:GURI),0))))))
noncomputable def zNj (c:(List GField)) (d:Str):Option (Str×Bool) :=
 (zNp c d).bind fun b =>
 (bif (b.length:Int)==0 then
  some ([],false)
 else
  (xnth b 0).bind fun f =>
  some (f,true))
noncomputable def zFO (c:Str):Option (GRequest×GURI×Unit) :=
 (zBj c).bind fun b =>
 (bif ((b.2.2 !=0)||(b.2.1 !=(c.length:Int))) then
  none
 else
  (zNj b.1.fFields [72,111,115,116]).bind fun f =>
  (zFI b.1.fTarget f.1).bind fun d =>
  (bif ((d.2 !=0)||(b.1.fMethod==[67,79,78,78,69,67,84])) then
   none
  else
   some (b.1,d.1,())))
noncomputable def zGq (b:GURI):Option Str :=
 (bif b.fPort==80 then
  some b.fHost
 else
  none)
noncomputable def zFP (b:GURI):Option Str :=
 (zGq b).bind fun c =>
 (xcat [104,116,116,112,58,47,47] c).bind fun d =>
 (xcat d b.fPath).bind fun f =>
 (bif b.fHasQuery then
  none
 else
  some f)
noncomputable def zGM (b:(List GAxis)):Unit→Option (Unit ⊕ Unit)
 | _ =>
  (bif decide (0<(b.length:Int)) then
   none
  else
   some (.inr ()))
noncomputable def zG0 (b:(List GAxis)):Option (List GAxis) :=
 (lf (zGM b) ()).bind fun c =>
 some ([]:List GAxis)
noncomputable def zFi (b:GEntry):Unit→Option (Unit ⊕ Unit)
 | _ =>
  (bif decide (0<(b.fKeys.length:Int)) then
   none
  else
   some (.inr ()))
noncomputable def zEK (b:GEntry):Option GEntry :=
 (lf (zFi b) ()).bind fun h =>
 (zAS b.fVary).bind fun c =>
 (zAS b.fSnapshot).bind fun d =>
 (zAc b.fFields).bind fun f =>
 some (⟨([]:List (List Str)),c,d,b.fReason,f,b.fBody,b.fRequested,b.fReceived⟩:GEntry)
noncomputable def zCh (c:GTable):(Int×(List GAxis)×(List GEntry))→Option ((Int×(List GAxis)×(List GEntry)) ⊕ ((List GAxis)×(List GEntry)))
 | (b,d,f) =>
  (bif decide (b<(c.fEntries.length:Int)) then
   (xnth c.fEntries b).bind fun h =>
   (zEK h).bind fun i =>
   (xapp f ([i]:List GEntry)).bind fun j =>
   some (.inl (wr (b+1),d,j))
  else
   some (.inr (d,f)))
noncomputable def zCT (b:GTable):Option GTable :=
 (zG0 b.fAxes).bind fun c =>
 (lf (zCh b) (0,c,([]:List GEntry))).bind fun d=>match d with
 | (f,h) =>
  some (⟨f,h⟩:GTable)
noncomputable def zEc (b:(List Str)):Unit→Option (Unit ⊕ Unit)
 | _ =>
  (bif decide (0<(b.length:Int)) then
   none
  else
   some (.inr ()))
noncomputable def zDO (b:(List Str)) (c:(List GField)):Option (List Str) :=
 (lf (zEc b) ()).bind fun d =>
 some ([]:List Str)
noncomputable def zAz (b:(List Str)):Unit→Option (Unit ⊕ Unit)
 | _ =>
  (bif decide (0<(b.length:Int)) then
   none
  else
   some (.inr ()))
noncomputable def zAq (b:(List Str)) (c:(List Str)):Option Bool :=
 (bif (b.length:Int) !=(c.length:Int) then
  none
 else
  (lf (zAz b) ()).bind fun d =>
  some true)
noncomputable def zGz (b:(List Str)) (c:(List Str)) (d:(List GField)):Option Bool :=
 (bif (b.length:Int)==(c.length:Int) then
  (zDO b d).bind fun f =>
  (zAq f c).bind fun h =>
  some (h)
 else
  some false).bind fun i =>
 some i
noncomputable def zDt (b:GEntry) (c:(List GField)):Option Bool :=
 (zGz b.fVary b.fSnapshot c).bind fun d =>
 some d
noncomputable def zEd (b:(List GEntry)) (c:(GEntry→Option Bool)):Unit→Option (Unit ⊕ (Unit ⊕ Int))
 | _ =>
  (bif decide (0≤(wr ((b.length:Int) - 1))) then
   (xnth b (wr ((b.length:Int) - 1))).bind fun d =>
   (c d).bind fun f =>
   (bif f then
    some (.inr (.inr (wr ((b.length:Int) - 1))))
   else
    none)
  else
   some (.inr (.inl ())))
noncomputable def zGu (b:(List GEntry)) (c:(GEntry→Option Bool)):Option Int :=
 (lf (zEd b c) ()).bind fun d=>match d with
 | .inr e=>some e
 | .inl _ =>
  some (-1)
noncomputable def zGv (b:GTable) (c:(List GField)) (h:Bool):Option (Int×Bool) :=
 (bif (b.fAxes.length:Int)==0 then
  (zGu b.fEntries (fun d=>zDt d c)).bind fun f =>
  some (f,true)
 else
  none)
noncomputable def zJC (b:Int) (c:UInt8):Option Int :=
 (bif b==2 then
  none
 else
  (bif ((b==1)&&(c==92)) then
   none
  else
   (bif c==34 then
    none
   else
    some b)))
noncomputable def zEi (c:Str):((List Str)×Int×Int×Int)→Option (((List Str)×Int×Int×Int) ⊕ (List Str))
 | (d,f,h,b) =>
  (bif ((decide (b≤(c.length:Int)))&&(decide ((d.length:Int)<64))) then
   (bif decide (b<(c.length:Int)) then
    (bif f !=0 then
     some true
    else
     (xnth c b).bind fun j =>
     some (j !=44)).bind fun k =>
    some (k)
   else
    some false).bind fun l =>
   (bif l then
    (xnth c b).bind fun o =>
    (zJC f o).bind fun p =>
    some (.inl (d,p,h,wr (b+1)))
   else
    (xsub c h b).bind fun q =>
    (zEI q).bind fun i =>
    (bif i !=[] then
     (xapp d ([i]:List Str)).bind fun r =>
     some (.inl (r,f,wr (b+1),wr (b+1)))
    else
     none))
  else
   some (.inr d))
noncomputable def zGt (b:Str):Option (List Str) :=
 (lf (zEi b) (([]:List Str),0,0,0)).bind fun c =>
 some c
noncomputable def zF4 (c:(List Str)):((List Str)×Int)→Option (((List Str)×Int) ⊕ (List Str))
 | (d,b) =>
  (bif decide (b<(c.length:Int)) then
   (xnth c b).bind fun f =>
   (zGt f).bind fun h =>
   (xapp d h).bind fun i =>
   some (.inl (i,wr (b+1)))
  else
   some (.inr d))
noncomputable def zE8 (c:(List GField)) (d:Str):Option (List Str) :=
 (zNp c d).bind fun f =>
 (lf (zF4 f) (([]:List Str),0)).bind fun b =>
 (xsub b 0 (if 64<(b.length:Int) then 64 else (b.length:Int))).bind fun h =>
 some h
noncomputable def zBi (c:Str) (b:Int):Option (Int ⊕ Int) :=
  (bif decide (b<(c.length:Int)) then
   (xsub c b (wr (b+1))).bind fun d =>
   (zNW d).bind fun f =>
   some (f)
  else
   some false).bind fun h =>
  (bif h then
   some (.inl (wr (b+1)))
  else
   some (.inr b))
noncomputable def zCS (b:Str):Option (Str×Gcachecontrol_directive) :=
 (lf (zBi b) 0).bind fun d =>
 (xsub b 0 d).bind fun h =>
 (zNb h).bind fun i =>
 (xsub b d b.length).bind fun c =>
 (bif c==[] then
  none
 else
  (xsub c 1 c.length).bind fun f =>
  (xnth c 0).bind fun j =>
  (bif j==61 then
   (zNW f).bind fun k =>
   some (k)
  else
   some false).bind fun l =>
  (bif l then
   some (i,(⟨1,f⟩:Gcachecontrol_directive))
  else
   none))
noncomputable def zAe (b:Gcachecontrol_directive) (d:Int) (f:Int):Option Int :=
 (zBR b.fvalue).bind fun c =>
 (bif b.fform==0 then
  none
 else
  (bif ((b.fform==2)||(!c.2)) then
   none
  else
   some c.1))
noncomputable def zAx (f:(List Str)):(Int×(List (Str×Gcachecontrol_directive)))→Option ((Int×(List (Str×Gcachecontrol_directive))) ⊕ (List (Str×Gcachecontrol_directive)))
 | (c,d) =>
  (bif decide (c<(f.length:Int)) then
   (xnth f c).bind fun h =>
   (zCS h).bind fun b =>
   (some (mget d b.1 (⟨0,[]⟩:Gcachecontrol_directive))).bind fun g42 =>
   (bif ((!g42.2)&&(b.1 !=[])) then
    some (.inl (wr (c+1),(mset d b.1 b.2)))
   else
    none)
  else
   some (.inr d))
noncomputable def zAV (d:(List GField)):Option GControl :=
 (zE8 d [67,97,99,104,101,45,67,111,110,116,114,111,108]).bind fun c =>
 (lf (zAx c) (0,([]:List (Str×Gcachecontrol_directive)))).bind fun b =>
 (some (mget b [110,111,45,115,116,111,114,101] (⟨0,[]⟩:Gcachecontrol_directive))).bind fun g50 =>
 (some (mget b [110,111,45,99,97,99,104,101] (⟨0,[]⟩:Gcachecontrol_directive))).bind fun g54 =>
 (some (mget b [109,117,115,116,45,114,101,118,97,108,105,100,97,116,101] (⟨0,[]⟩:Gcachecontrol_directive))).bind fun g58 =>
 (some (mget b [112,114,111,120,121,45,114,101,118,97,108,105,100,97,116,101] (⟨0,[]⟩:Gcachecontrol_directive))).bind fun g62 =>
 (some (mget b [112,114,105,118,97,116,101] (⟨0,[]⟩:Gcachecontrol_directive))).bind fun g66 =>
 (some (mget b [112,117,98,108,105,99] (⟨0,[]⟩:Gcachecontrol_directive))).bind fun g70 =>
 (some (mget b [111,110,108,121,45,105,102,45,99,97,99,104,101,100] (⟨0,[]⟩:Gcachecontrol_directive))).bind fun g74 =>
 ((some (mget b [109,97,120,45,97,103,101] (⟨0,[]⟩:Gcachecontrol_directive))).bind fun g103 =>
 (bif g103.2 then
  (zAe g103.1 0 0).bind fun f =>
  some f
 else
  some (-1))).bind fun (h:Int) =>
 ((some (mget b [115,45,109,97,120,97,103,101] (⟨0,[]⟩:Gcachecontrol_directive))).bind fun g132 =>
 (bif g132.2 then
  (zAe g132.1 0 0).bind fun i =>
  some i
 else
  some (-1))).bind fun (j:Int) =>
 ((some (mget b [109,105,110,45,102,114,101,115,104] (⟨0,[]⟩:Gcachecontrol_directive))).bind fun g161 =>
 (bif g161.2 then
  (zAe g161.1 2147483647 2147483647).bind fun k =>
  some k
 else
  some (-1))).bind fun (l:Int) =>
 ((some (mget b [109,97,120,45,115,116,97,108,101] (⟨0,[]⟩:Gcachecontrol_directive))).bind fun g190 =>
 (bif g190.2 then
  (zAe g190.1 2147483647 0).bind fun o =>
  some o
 else
  some (-1))).bind fun (p:Int) =>
 some (⟨(g50.2||(decide (64≤(c.length:Int)))),g54.2,g58.2,g62.2,g66.2,g70.2,g74.2,h,j,l,p⟩:GControl)
noncomputable def zAU (b:(List Str)) (c:(Str→Option Bool)):Unit→Option (Unit ⊕ (Unit ⊕ Int))
 | _ =>
  (bif decide (0<(b.length:Int)) then
   (xnth b 0).bind fun d =>
   (c d).bind fun f =>
   (bif f then
    some (.inr (.inr 0))
   else
    none)
  else
   some (.inr (.inl ())))
noncomputable def zAP (b:(List Str)) (c:(Str→Option Bool)):Option Int :=
 (lf (zAU b c) ()).bind fun d=>match d with
 | .inr e=>some e
 | .inl _ =>
  some (-1)
noncomputable def zAT (b:(List Str)) (c:(Str→Option Bool)):Option Bool :=
 (zAP b c).bind fun d =>
 some (decide (0≤d))
noncomputable def zBA (b:Str):Option Bool :=
 none
noncomputable def zNZ (b:(List GField)) (c:Str):Option Bool :=
 (zNi c).bind fun d =>
 (zNd b d).bind fun f =>
 some (decide (0<(f.length:Int)))
noncomputable def zAh (b:(List GField)):Option GControl :=
 (zAV b).bind fun c =>
 (zNZ b [67,97,99,104,101,45,67,111,110,116,114,111,108]).bind fun d =>
 (bif !d then
  (zE8 b [80,114,97,103,109,97]).bind fun f =>
  (zAT f zBA).bind fun h =>
  some (h)
 else
  some false).bind fun i =>
 (bif i then
  none
 else
  some c)
noncomputable def zBG (c:(List GField)):Option Int :=
 (zAV c).bind fun b =>
 (bif decide (0≤b.fSMaxAge) then
  none
 else
  (bif decide (0≤b.fMaxAge) then
   some b.fMaxAge
  else
   none))
noncomputable def zFT (b:Str):Option (Int×Bool) :=
 (bif (b.length:Int) !=29 then
  some true
 else
  (xsub b 3 5).bind fun c =>
  some (c !=[44,32])).bind fun d =>
 (bif d then
  some true
 else
  (xnth b 7).bind fun f =>
  some (f !=32)).bind fun h =>
 (bif h then
  some true
 else
  (xnth b 11).bind fun i =>
  some (i !=32)).bind fun j =>
 (bif j then
  some true
 else
  (xnth b 16).bind fun k =>
  some (k !=32)).bind fun l =>
 (bif l then
  some true
 else
  (xnth b 19).bind fun o =>
  some (o !=58)).bind fun p =>
 (bif p then
  some true
 else
  (xnth b 22).bind fun q =>
  some (q !=58)).bind fun r =>
 (bif r then
  some true
 else
  (xsub b 25 b.length).bind fun t =>
  some (t !=[32,71,77,84])).bind fun u =>
 (bif u then
  some (0,false)
 else
  none)
noncomputable def zDf (c:(List GField)) (d:Str):Option (Int×Bool) :=
 (zNj c d).bind fun f =>
 (zFT f.1).bind fun b =>
 some (b.1,b.2)
noncomputable def zDy (b:(List GField)) (c:Int):Option Int :=
 (zDf b [68,97,116,101]).bind fun d =>
 (bif d.2 then
  none
 else
  some c)
noncomputable def zN2 (b:Int) (c:Int):Option Int :=
 some (if 2147483647<(if (wr (b - c))<0 then 0 else (wr (b - c))) then 2147483647 else (if (wr (b - c))<0 then 0 else (wr (b - c))))
noncomputable def zEl (h:(List GField)) (c:Int) (b:Int) (f:Int):Option Int :=
 (bif ((((decide (c<0))||(decide (b<c)))||(decide (f<b)))||(decide (1099511627776<f))) then
  none
 else
  (zNj h [65,103,101]).bind fun j =>
  (zBR j.1).bind fun i =>
  (zDy h b).bind fun d =>
  (zN2 (wr ((wr ((if (if 0<(wr (b - d)) then (wr (b - d)) else 0)<(wr ((wr (i.1+b)) - c)) then (wr ((wr (i.1+b)) - c)) else (if 0<(wr (b - d)) then (wr (b - d)) else 0))+f)) - b)) 0).bind fun k =>
  some k)
noncomputable def zGR (b:GEntry) (c:Int):Option Int :=
 (zEl b.fFields b.fRequested b.fReceived c).bind fun d =>
 some d
noncomputable def zEz (d:Int) (b:Int) (c:GControl) (f:GControl):Option Bool :=
 (bif ((((decide (d<0))||(decide (2147483647<d)))||(decide (b<0)))||(decide (2147483647<b))) then
  none
 else
  (bif (c.fNoCache||f.fNoCache) then
   none
  else
   (bif ((c.fMaxAge !=(-1))&&(decide (c.fMaxAge<b))) then
    none
   else
    (bif decide (b<d) then
     some ((c.fMinFresh==(-1))||(decide (c.fMinFresh≤(wr (d - b)))))
    else
     none))))
noncomputable def zEn (b:GEntry) (c:GRequest) (d:Int):Option Bool :=
 (zBG b.fFields).bind fun f =>
 (zGR b d).bind fun h =>
 (zAh c.fFields).bind fun i =>
 (zAV b.fFields).bind fun j =>
 (zEz f h i j).bind fun k =>
 some k
noncomputable def zDC (d:GTable) (b:GRequest) (j:Int) (f:GConfig):Option GDecision :=
 (bif ((b.fMethod !=[71,69,84])&&(b.fMethod !=[72,69,65,68])) then
  none
 else
  (zGv d b.fFields f.fStrict).bind fun c =>
  (bif (((decide (0<(d.fAxes.length:Int)))&&(!c.2))&&f.fRefuse) then
   none
  else
   (zAh b.fFields).bind fun h =>
   (bif h.fNoStore then
    none
   else
    ((bif decide (0≤c.1) then
     (xnth d.fEntries c.1).bind fun k =>
     (zEn k b j).bind fun l =>
     (bif l then
      some 2
     else
      none)
    else
     some 0)).bind fun (i:Int) =>
    ((bif i==2 then
     some (.inr (⟨1,c.1⟩:GDecision))
    else
     (bif i==1 then
      none
     else
      (bif h.fOnlyIfCached then
       none
      else
       some (.inl ()))))).bind fun (o:(Unit ⊕ GDecision))=>match o with
    | .inr e=>some e
    | .inl _ =>
     some (⟨3,(-1)⟩:GDecision))))
noncomputable def zAK (b:(List Str)) (c:(Str→Option Bool)):Option (List Str) :=
 (zAP b c).bind fun i=>delRF b c i
noncomputable def zNt (b:Int):Option Str :=
 (strconv_Itoa b).bind fun c =>
 some c
noncomputable def zOR (b:(List GField)) (c:Int) (d:Str):Option (List GField) :=
 (xapp ([]:List GField) b).bind fun f =>
 (zNt c).bind fun h =>
 (xcat [49,46] h).bind fun i =>
 (xcat i [32]).bind fun j =>
 (xcat j d).bind fun k =>
 (xapp f ([(⟨[86,105,97],k⟩:GField)]:List GField)).bind fun l =>
 some l
noncomputable def zNg (b:GField) (c:(GField→Option Bool)):Option Bool :=
 (c b).bind fun d =>
 some (!d)
noncomputable def zNk (b:(List GField)) (c:Str):Option (List GField) :=
 (zNi c).bind fun d =>
 (zNd b (fun f=>zNg f d)).bind fun h =>
 some h
noncomputable def zN3 (b:GEntry) (c:Int) (d:Str):Option GResponse :=
 (zNk b.fFields [65,103,101]).bind fun f =>
 (zNt c).bind fun h =>
 (xapp f ([(⟨[65,103,101],h⟩:GField)]:List GField)).bind fun i =>
 (zOR i 1 d).bind fun j =>
 some (⟨1,200,b.fReason,j,b.fBody⟩:GResponse)
noncomputable def zD1 (b:GEntry) (c:Int) (d:Str):Option GResponse :=
 (zGR b c).bind fun f =>
 (zN3 b f d).bind fun h =>
 some h
noncomputable def zCE (d:(List GField)) (f:Str):Option (Str×Int×Bool) :=
 (zNj d f).bind fun b =>
 (zFT b.1).bind fun c =>
 some (b.1,c.1,c.2)
noncomputable def zBN (b:GRequest) (c:GResponse):Option Bool :=
 (bif (((b.fMethod !=[71,69,84])&&(b.fMethod !=[72,69,65,68]))||(c.fStatus !=200)) then
  none
 else
  (zNZ b.fFields [73,102,45,78,111,110,101,45,77,97,116,99,104]).bind fun h =>
  (bif h then
   none
  else
   (zCE b.fFields [73,102,45,77,111,100,105,102,105,101,100,45,83,105,110,99,101]).bind fun d =>
   (zCE c.fFields [76,97,115,116,45,77,111,100,105,102,105,101,100]).bind fun f =>
   some ((d.2.2&&f.2.2)&&(decide (f.2.1≤d.2.1)))))
noncomputable def zCx (b:Str):Option (Int×Bool) :=
 (bif (b.length:Int) !=3 then
  some true
 else
  (xnth b 0).bind fun c =>
  some (decide (c<49))).bind fun d =>
 (bif d then
  some true
 else
  (xnth b 0).bind fun f =>
  some (decide (53<f))).bind fun h =>
 (bif h then
  some true
 else
  (xnth b 1).bind fun i =>
  (zNh i).bind fun j =>
  some (!j)).bind fun k =>
 (bif k then
  some true
 else
  (xnth b 2).bind fun l =>
  (zNh l).bind fun o =>
  some (!o)).bind fun p =>
 (bif p then
  none
 else
  (zBR b).bind fun q =>
  some (q.1,true))
noncomputable def zAs (c:Str):Option (Int×Int×Str×Int) :=
 (bif decide (2000<(c.length:Int)) then
  none
 else
  (zNX c [32]).bind fun d =>
  (zNX d.2.1 [32]).bind fun b =>
  (zCx b.1).bind fun f =>
  (bif ((!b.2.2)||(!f.2)) then
   some true
  else
   (zEH b.2.1).bind fun h =>
   some (!h)).bind fun i =>
  (bif i then
   none
  else
   (zBV d.1).bind fun j =>
   some (j.1,f.1,b.2.1,0)))
noncomputable def zA7 (c:Int) (d:Int) (f:Str):Option Str :=
 (strconv_Itoa c).bind fun i =>
 (xcat [72,84,84,80,47,49,46] i).bind fun j =>
 (xcat j [32]).bind fun k =>
 (strconv_Itoa d).bind fun l =>
 (xcat k l).bind fun o =>
 (xcat o [32]).bind fun p =>
 (xcat p f).bind fun h =>
 (zAs h).bind fun b =>
 (bif ((((b.2.2.2 !=0)||(b.1 !=c))||(b.2.1 !=d))||(b.2.2.1 !=f)) then
  none
 else
  some h)
noncomputable def zCz (b:GField):Option Str :=
 (zB8 b).bind fun c =>
 (bif !c then
  none
 else
  (zCm b).bind fun d =>
  some d)
noncomputable def zEp (s0_buf:(List UInt8)):Option Unit :=
 some ()
noncomputable def zEW (s0_buf:(List UInt8)):Option Unit :=
 some ()
noncomputable def zBQ (s0_buf:List UInt8):Option Unit :=
 some ()
noncomputable def zAE (b:Str) (s0_buf:(List UInt8)):Option (Int×Unit×(List UInt8)) :=
 (zBQ s0_buf).bind fun d =>
 (xapp s0_buf b).bind fun c =>
 some ((b.length:Int),(),c)
noncomputable def zNc (s0_buf:(List UInt8)):Option Str :=
 some s0_buf
noncomputable def zNR (s0_buf:(List UInt8)):Option Int :=
 some (s0_buf.length:Int)
end Go.Eng.Pure
