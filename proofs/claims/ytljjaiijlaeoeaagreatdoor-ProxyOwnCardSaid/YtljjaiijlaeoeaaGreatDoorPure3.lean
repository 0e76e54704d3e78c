/- A part. -/
import Derived.Test.YtljjaiijlaeoeaaGreatDoorPure1
set_option linter.unusedVariables false
namespace Go.Eng.Pure
open Go Go.Eng
set_option linter.unusedVariables false
noncomputable section
def zAb (b:(List Str)):Option (List Str) :=
 xapp [] b
def zAZ (b:(List GField)):Option (List GField) :=
 xapp [] b
def zCR (c:Str) (b:Int):Option (Int ⊕ Unit) :=
  (bif decide (b<(c.length:Int)) then
   (xnth c b).bind fun d =>
   (bif decide (d<33) then
    some true
   else
    (xnth c b).bind fun f =>
    some (decide (126<f))).bind fun h =>
   (bif h then
    none
   else
    some (.inl (wr (b+1))))
  else
   some (.inr ()))
def zDb (b:Str):Option Bool :=
 (lf (zCR b) 0).bind fun c =>
 some (b !=[])
def zBC (b:UInt8):Option Bool :=
 some ((decide (48≤b))&&(decide (b≤57)))
def zBw (b:Str):Option (Int×Unit) :=
 (bif (b.length:Int) !=8 then
  some true
 else
  (xsub b 0 5).bind fun c =>
  some (c !=[72,84,84,80,47])).bind fun d =>
 (bif d then
  some true
 else
  (xnth b 5).bind fun f =>
  (zBC f).bind fun h =>
  some (!h)).bind fun i =>
 (bif i then
  some true
 else
  (xnth b 6).bind fun j =>
  some (j !=46)).bind fun k =>
 (bif k then
  some true
 else
  (xnth b 7).bind fun l =>
  (zBC l).bind fun o =>
  some (!o)).bind fun p =>
 (bif p then
  none
 else
  (xnth b 5).bind fun q =>
  (bif q !=49 then
   some true
  else
   (xnth b 7).bind fun r =>
   some (decide (49<r))).bind fun t =>
  (bif t then
   none
  else
   (xnth b 7).bind fun u =>
   some (((u - 48).toNat:Int),())))
def zEE (b:Str) (d:Str):Option (Str×Str×Bool) :=
 (zBA b d).bind fun c =>
 (bif decide (0≤c) then
  (xsub b 0 c).bind fun f =>
  (xsub b (wr (c+(d.length:Int))) b.length).bind fun h =>
  some (f,h,true)
 else
  some (b,[],false))
def zAn (c:Str) (d:Str):Option (Str×Str×Bool) :=
 (zEE c d).bind fun b =>
 some (b.1,b.2.1,b.2.2)
def zGn (b:UInt8):Option Bool :=
 (((bif b==33 then
  some (b==33)
 else
  (bif b==35 then
   some (b==35)
  else
   (bif b==36 then
    some (b==36)
   else
    (bif b==37 then
     some (b==37)
    else
     (bif b==38 then
      some (b==38)
     else
      (bif b==39 then
       some (b==39)
      else
       (bif b==42 then
        some (b==42)
       else
        (bif b==43 then
         some (b==43)
        else
         (bif b==45 then
          some (b==45)
         else
          (bif b==46 then
           some (b==46)
          else
           (bif b==94 then
            some (b==94)
           else
            (bif b==95 then
             some (b==95)
            else
             (bif b==96 then
              some (b==96)
             else
              (bif b==124 then
               some (b==124)
              else
               some (b==126)))))))))))))))).bind fun (c:Bool) =>
 (bif c then
  some (.inr true)
 else
  some (.inl ()))).bind fun (d:(Unit ⊕ Bool))=>match d with
 | .inr e=>some e
 | .inl _ =>
  some ((((decide (48≤b))&&(decide (b≤57)))||((decide (65≤b))&&(decide (b≤90))))||((decide (97≤b))&&(decide (b≤122))))
def zEZ (c:Str) (b:Int):Option (Int ⊕ (Unit ⊕ Bool)) :=
  (bif decide (b<(c.length:Int)) then
   (xnth c b).bind fun d =>
   (zGn d).bind fun f =>
   (bif !f then
    some (.inr (.inr false))
   else
    some (.inl (wr (b+1))))
  else
   some (.inr (.inl ())))
def zBK (b:Str):Option Bool :=
 (lf (zEZ b) 0).bind fun c=>match c with
 | .inr e=>some e
 | .inl _ =>
  some (b !=[])
def zBG (d:Str):Option (Str×Str×Int×Int) :=
 (bif decide (2000<(d.length:Int)) then
  none
 else
  (zAn d [32]).bind fun b =>
  (zAn b.2.1 [32]).bind fun c =>
  (zBK b.1).bind fun f =>
  (bif !f then
   some true
  else
   (zDb c.1).bind fun h =>
   some (!h)).bind fun i =>
  (bif i then
   none
  else
   (zBw c.2.1).bind fun j =>
   some (b.1,c.1,j.1,0)))
def zFA (c:Str):Option (Str×Int×Int) :=
 (zBv c [13,10]).bind fun b =>
 (bif ((decide (2000<b))||((decide (b<0))&&(decide (2000<(c.length:Int))))) then
  none
 else
  (bif decide (b<0) then
   some true
  else
   (xnth c b).bind fun d =>
   some (((d==13)&&(b==(wr ((c.length:Int) - 1)))))).bind fun f =>
  (bif f then
   none
  else
   (xnth c b).bind fun h =>
   (bif h==10 then
    some true
   else
    (xnth c (wr (b+1))).bind fun i =>
    some (i !=10)).bind fun j =>
   (bif j then
    none
   else
    (xsub c 0 b).bind fun k =>
    some (k,wr (b+2),0))))
def zEw (c:Str) (b:Int):Option (Int ⊕ Unit) :=
  (bif decide (b<(c.length:Int)) then
   (xnth c b).bind fun d =>
   (bif decide (d<32) then
    (xnth c b).bind fun f =>
    some (f !=9)
   else
    some false).bind fun h =>
   (bif h then
    some true
   else
    (xnth c b).bind fun i =>
    some (i==127)).bind fun j =>
   (bif j then
    none
   else
    some (.inl (wr (b+1))))
  else
   some (.inr ()))
def zDx (b:Str):Option Bool :=
 (lf (zEw b) 0).bind fun c =>
 some true
def zBZ (b:Str) (c:Str):Unit→Option (Unit ⊕ Unit)
 | _ =>
  (bif decide (0<(b.length:Int)) then
   (xnth b (wr ((b.length:Int) - 1))).bind fun d =>
   (zAS c d).bind fun f =>
   (bif !f then
    some (.inr ())
   else
    none)
  else
   none)
def zBz (b:Str) (c:Str):Option Str :=
 (lf (zBZ b c) ()).bind fun d =>
 some b
def zBi (c:Str) (b:Str):Option (Str ⊕ Str) :=
  (bif decide (0<(b.length:Int)) then
   (xnth b 0).bind fun d =>
   (zAS c d).bind fun f =>
   (bif !f then
    some (.inr b)
   else
    (xsub b 1 b.length).bind fun h =>
    some (.inl h))
  else
   none)
def zCC (b:Str) (c:Str):Option Str :=
 (lf (zBi c) b).bind fun d =>
 some d
def zFz (c:Str) (b:Str):Option Str :=
 (bif ((c==[])||(b==[])) then
  none
 else
  (bif (b.length:Int)==1 then
   (xnth b 0).bind fun d =>
   some (decide (d<128))
  else
   some false).bind fun f =>
  (bif f then
   none
  else
   (strings_makeASCIISet b).bind fun j =>
   (zBz c b).bind fun h =>
   (zCC h b).bind fun i =>
   some i))
def zDt (b:Str):Option Str :=
 (zFz b [32,9]).bind fun c =>
 some c
def zCy (b:GField):Option Str :=
 (bif b.fValue==[] then
  none
 else
  (xcat b.fName [58,32]).bind fun c =>
  (xcat c b.fValue).bind fun d =>
  some d)
def zCf (b:GField):Option Bool :=
 (zBK b.fName).bind fun c =>
 (bif c then
  (zDx b.fValue).bind fun d =>
  some (d)
 else
  some false).bind fun f =>
 (bif f then
  (zDt b.fValue).bind fun h =>
  some (h==b.fValue)
 else
  some false).bind fun i =>
 (bif i then
  (zCy b).bind fun j =>
  some (decide ((j.length:Int)≤2000))
 else
  some false).bind fun k =>
 some k
def zCZ (c:Str):Option (GField×Int) :=
 (bif decide (2000<(c.length:Int)) then
  none
 else
  (zAn c [58]).bind fun b =>
  (bif !b.2.2 then
   some true
  else
   (zBK b.1).bind fun f =>
   some (!f)).bind fun h =>
  (bif h then
   some true
  else
   (zDx b.2.1).bind fun i =>
   some (!i)).bind fun j =>
  (bif j then
   none
  else
   (zDt b.2.1).bind fun d =>
   (zCf (⟨b.1,d⟩:GField)).bind fun k =>
   (bif !k then
    none
   else
    some ((⟨b.1,d⟩:GField),0))))
def zEG (c:Str):(Int×Int)→Option ((Int×Int) ⊕ Int)
 | (d,b) =>
  (bif decide (b<(c.length:Int)) then
   (xnth c b).bind fun h =>
   (bif decide (h<48) then
    some true
   else
    (xnth c b).bind fun i =>
    some (decide (57<i))).bind fun j =>
   (bif j then
    none
   else
    (xnth c b).bind fun f =>
    some (.inl ((if 2147483647<(wr ((wr (10*d))+((f - 48).toNat:Int))) then 2147483647 else (wr ((wr (10*d))+((f - 48).toNat:Int)))),wr (b+1))))
  else
   some (.inr d))
def zBM (b:Str):Option (Int×Bool) :=
 (lf (zEG b) (0,0)).bind fun c =>
 some (c,b !=[])
def zBY (d:(List GField)) (h:(GField→Option Bool)):((List GField)×Int)→Option (((List GField)×Int) ⊕ (List GField))
 | (c,b) =>
  (bif decide (b<(d.length:Int)) then
   (xnth d b).bind fun f =>
   (h f).bind fun i =>
   (bif i then
    (xapp c ([f]:List GField)).bind fun j =>
    some (.inl (j,wr (b+1)))
   else
    some (.inl (c,wr (b+1))))
  else
   some (.inr c))
def zA3 (b:(List GField)) (c:(GField→Option Bool)):Option (List GField) :=
 (lf (zBY b c) (([]:List GField),0)).bind fun d =>
 some d
def zEX (f:Str):(Int×Str)→Option ((Int×Str) ⊕ Str)
 | (b,c) =>
  (bif decide (b<(f.length:Int)) then
   (xnth c b).bind fun h =>
   (xnth c b).bind fun d =>
   (bif ((decide (65≤d))&&(decide (d≤90))) then
    (xnth c b).bind fun i =>
    some (.inl (wr (b+1),(c.set b.toNat ((d+97) - 65))))
   else
    some (.inl (wr (b+1),c)))
  else
   some (.inr c))
def zA1 (b:Str):Option Str :=
 (lf (zEX b) (0,b)).bind fun c =>
 some c
def zDU (b:GField) (c:Str):Option Bool :=
 (bif (b.fName.length:Int)==(c.length:Int) then
  (zA1 b.fName).bind fun d =>
  some (d==c)
 else
  some false).bind fun f =>
 some f
def zBD (b:Str):Option (GField→Option Bool) :=
 (zA1 b).bind fun c =>
 some (fun d=>zDU d c)
def zDs (c:(List GField)):((List Str)×Int)→Option (((List Str)×Int) ⊕ (List Str))
 | (d,b) =>
  (bif decide (b<(c.length:Int)) then
   (xnth c b).bind fun f =>
   (xapp d ([f.fValue]:List Str)).bind fun h =>
   some (.inl (h,wr (b+1)))
  else
   some (.inr d))
def zB5 (b:(List GField)) (c:Str):Option (List Str) :=
 (zBD c).bind fun d =>
 (zA3 b d).bind fun f =>
 (lf (zDs f) (([]:List Str),0)).bind fun h =>
 some h
def zAp (b:Str) (c:Str):Option Bool :=
 (bif (b.length:Int)==(c.length:Int) then
  (zA1 b).bind fun d =>
  (zA1 c).bind fun f =>
  some (d==f)
 else
  some false).bind fun h =>
 some h
def zBq:(Int×Str×Int×(List GField)×(List Str)×(List Str)×Str×Str×Int×(List GField)×Str)→Option ((Int×Str×Int×(List GField)×(List Str)×(List Str)×Str×Str×Int×(List GField)×Str) ⊕ (Int×Str×Int×(List GField)×(List Str)×(List Str)×Str×Str×Int×(List GField)×Str))
 | (i,c,d,j,k,l,o,p,q,r,t) =>
  (xsub c d c.length).bind fun u =>
  (zFA u).bind fun b =>
  (bif b.2.2 !=0 then
   none
  else
   ((bif ((decide (16000<(wr (d+b.2.1))))||((decide (64<i))&&(b.1 !=[]))) then
    none
   else
    (bif i==0 then
     (zBG b.1).bind fun f =>
     some (.inl (f.2.2.2,j,f.1,f.2.1,f.2.2.1))
    else
     (bif b.1==[] then
      some (.inr (.inr (0,c,wr (d+b.2.1),j,k,l,o,p,q,r,t)))
     else
      (zCZ b.1).bind fun h =>
      (bif h.2 !=0 then
       none
      else
       (zAp h.1.fName [67,111,110,116,101,110,116,45,76,101,110,103,116,104]).bind fun v =>
       (bif v then
        none
       else
        (zAp h.1.fName [84,114,97,110,115,102,101,114,45,69,110,99,111,100,105,110,103]).bind fun x =>
        (bif x then
         none
        else
         (xapp j ([h.1]:List GField)).bind fun z =>
         some (.inl (0,z,o,p,q))))))))).bind fun (aa:((Int×(List GField)×Str×Str×Int) ⊕ ((Int×Str×Int×(List GField)×(List Str)×(List Str)×Str×Str×Int×(List GField)×Str) ⊕ (Int×Str×Int×(List GField)×(List Str)×(List Str)×Str×Str×Int×(List GField)×Str))))=>match aa with
   | .inr e=>some e
   | .inl (ab,ac,ad,ae,af) =>
    (bif ab !=0 then
     none
    else
     some (.inl (wr (i+1),c,wr (d+b.2.1),ac,k,l,ad,ae,af,r,t))))
def zBu (b:(List Str)):Unit→Option (Unit ⊕ Unit)
 | _ =>
  (bif decide (0<(b.length:Int)) then
   none
  else
   some (.inr ()))
def zCN (k:Str):Option (GRequest×Int×Int) :=
 ((lf (zBq) (0,k,0,([]:List GField),([]:List Str),([]:List Str),[],[],0,([]:List GField),[])).bind fun l=>some l).bind fun (o:(Int×Str×Int×(List GField)×(List Str)×(List Str)×Str×Str×Int×(List GField)×Str)) =>
 match o with
 | (p,d,f,h,c,b,q,r,i,z,aa) =>
  (bif p !=0 then
   none
  else
   (bif decide (1<(b.length:Int)) then
    some true
   else
    (bif (b.length:Int)==1 then
     (xnth b 0).bind fun t =>
     (zAp t [99,104,117,110,107,101,100]).bind fun u =>
     some (!u)
    else
     some false).bind fun v =>
    some (v)).bind fun x =>
   (bif x then
    none
   else
    (bif ((decide (1<(c.length:Int)))||(((c.length:Int)==1)&&((b.length:Int)==1))) then
     none
    else
     (lf (zBu c) ()).bind fun ab =>
     (zB5 h [72,111,115,116]).bind fun j =>
     (bif ((decide (1<(j.length:Int)))||(((j.length:Int)==0)&&(i==1))) then
      none
     else
      (xsub d f d.length).bind fun ac =>
      (bif decide (0<(b.length:Int)) then
       none
      else
       (bif decide (0<(c.length:Int)) then
        none
       else
        some ((⟨q,r,i,h,[]⟩:GRequest),f,0)))))))
def zCk (c:Str):((List UInt8)×Int)→Option (((List UInt8)×Int) ⊕ (List UInt8))
 | (d,b) =>
  (bif decide (b<(c.length:Int)) then
   (xnth c b).bind fun f =>
   (bif decide (f<33) then
    some true
   else
    (xnth c b).bind fun h =>
    some (decide (126<h))).bind fun i =>
   (bif i then
    some true
   else
    (xnth c b).bind fun j =>
    some (j==35)).bind fun k =>
   (bif k then
    none
   else
    (xnth c b).bind fun l =>
    (bif l !=37 then
     (xnth c b).bind fun o =>
     (xapp d ([o]:List UInt8)).bind fun p =>
     some (.inl (p,wr (b+1)))
    else
     none))
  else
   some (.inr d))
def zB6 (b:Str):Option (Str×Bool) :=
 (xroom (b.length:Int)).bind fun d =>
 (lf (zCk b) (([]:List UInt8),0)).bind fun c =>
 some (c,true)
def zCp (b:UInt8):Option Bool :=
 some ((((decide (48≤b))&&(decide (b≤57)))||((decide (65≤b))&&(decide (b≤90))))||((decide (97≤b))&&(decide (b≤122))))
def zEJ (b:UInt8):Option Bool :=
 (zCp b).bind fun c =>
 some ((c||(b==45))||(b==46))
def zCm (c:(Str×Str×Bool)) (b:Int):Option (Int ⊕ Unit) :=
  (bif decide (b<(c.1.length:Int)) then
   (xnth c.1 b).bind fun d =>
   (zEJ d).bind fun f =>
   (bif !f then
    none
   else
    some (.inl (wr (b+1))))
  else
   some (.inr ()))
def zDy (c:Str):Option (Str×Int×Bool) :=
 (zAn c [58]).bind fun b =>
 (lf (zCm b) 0).bind fun f =>
 (bif b.1==[] then
  none
 else
  (bif b.2.1 !=[] then
   none
  else
   (zA1 b.1).bind fun d =>
   some (d,80,true)))
def zCI (c:Str) (b:Str):Option Bool :=
 (bif decide ((b.length:Int)≤(c.length:Int)) then
  (xsub c 0 (b.length:Int)).bind fun d =>
  some (d==b)
 else
  some false).bind fun f =>
 some f
def zBx (b:Str) (c:Str):Option Bool :=
 (zCI b c).bind fun d =>
 some d
def zDD:((List Str)×Str×Bool)→Option (((List Str)×Str×Bool) ⊕ (List Str))
 | (c,d,f) =>
  (bif f then
   (zAn d [47]).bind fun b =>
   (bif ((b.1==[46])&&b.2.2) then
    none
   else
    (bif b.1==[46,46] then
     none
    else
     (bif b.1==[46] then
      none
     else
      (xapp c ([b.1]:List Str)).bind fun h =>
      some (.inl (h,b.2.1,b.2.2)))))
  else
   some (.inr c))
def zD9 (b:Str):Option Str :=
 (zBx b [47]).bind fun c =>
 (bif !c then
  none
 else
  (xsub b 1 b.length).bind fun d =>
  (lf (zDD) (([]:List Str),d,true)).bind fun f =>
  (strings_Join f [47]).bind fun h =>
  (xcat [47] h).bind fun i =>
  some i)
def zEA (b:Str):Option Bool :=
 (bif decide (7≤(b.length:Int)) then
  (xsub b 0 7).bind fun c =>
  (zAp c [104,116,116,112,58,47,47]).bind fun d =>
  some (d)
 else
  some false).bind fun f =>
 some f
def zFx (b:Str) (i:Str):Option (GURI×Int) :=
 (zEA b).bind fun j =>
 (bif j then
  none
 else
  (zBx b [47]).bind fun k =>
  (bif !k then
   none
  else
   (zAn b [63]).bind fun c =>
   (zB6 c.1).bind fun d =>
   (zB6 c.2.1).bind fun h =>
   (bif ((!d.2)||(!h.2)) then
    none
   else
    (bif d.1==[] then
     none
    else
     (zDy i).bind fun f =>
     (bif !f.2.2 then
      none
     else
      (zD9 d.1).bind fun l =>
      some ((⟨f.1,f.2.1,l,h.1,c.2.2⟩:GURI),0))))))
def zBF (c:(List GField)) (d:Str):Option (Str×Bool) :=
 (zB5 c d).bind fun b =>
 (bif (b.length:Int)==0 then
  some ([],false)
 else
  (xnth b 0).bind fun f =>
  some (f,true))
def zE1 (c:Str):Option (GRequest×GURI×Unit) :=
 (zCN c).bind fun b =>
 (bif ((b.2.2 !=0)||(b.2.1 !=(c.length:Int))) then
  none
 else
  (zBF b.1.fFields [72,111,115,116]).bind fun f =>
  (zFx b.1.fTarget f.1).bind fun d =>
  (bif ((d.2 !=0)||(b.1.fMethod==[67,79,78,78,69,67,84])) then
   none
  else
   some (b.1,d.1,())))
def zDq (b:GURI):Option Str :=
 (bif b.fPort==80 then
  some b.fHost
 else
  none)
def zFH (b:GURI):Option Str :=
 (zDq b).bind fun c =>
 (xcat [104,116,116,112,58,47,47] c).bind fun d =>
 (xcat d b.fPath).bind fun f =>
 (bif b.fHasQuery then
  none
 else
  some f)
def zE8 (b:(List GAxis)):Unit→Option (Unit ⊕ Unit)
 | _ =>
  (bif decide (0<(b.length:Int)) then
   none
  else
   some (.inr ()))
def zGe (b:(List GAxis)):Option (List GAxis) :=
 (lf (zE8 b) ()).bind fun c =>
 some ([]:List GAxis)
def zEa (b:GEntry):Unit→Option (Unit ⊕ Unit)
 | _ =>
  (bif decide (0<(b.fKeys.length:Int)) then
   none
  else
   some (.inr ()))
def zEQ (b:GEntry):Option GEntry :=
 (lf (zEa b) ()).bind fun h =>
 (zAb b.fVary).bind fun c =>
 (zAb b.fSnapshot).bind fun d =>
 (zAZ b.fFields).bind fun f =>
 some (⟨([]:List (List Str)),c,d,b.fReason,f,b.fBody,b.fRequested,b.fReceived⟩:GEntry)
def zCu (c:GTable):(Int×(List GAxis)×(List GEntry))→Option ((Int×(List GAxis)×(List GEntry)) ⊕ ((List GAxis)×(List GEntry)))
 | (b,d,f) =>
  (bif decide (b<(c.fEntries.length:Int)) then
   (xnth c.fEntries b).bind fun h =>
   (zEQ h).bind fun i =>
   (xapp f ([i]:List GEntry)).bind fun j =>
   some (.inl (wr (b+1),d,j))
  else
   some (.inr (d,f)))
def zCH (b:GTable):Option GTable :=
 (zGe b.fAxes).bind fun c =>
 (lf (zCu b) (0,c,([]:List GEntry))).bind fun d=>match d with
 | (f,h) =>
  some (⟨f,h⟩:GTable)
def zDk (b:(List Str)):Unit→Option (Unit ⊕ Unit)
 | _ =>
  (bif decide (0<(b.length:Int)) then
   none
  else
   some (.inr ()))
def zDO (b:(List Str)) (c:(List GField)):Option (List Str) :=
 (lf (zDk b) ()).bind fun d =>
 some ([]:List Str)
def zBB (b:(List Str)):Unit→Option (Unit ⊕ Unit)
 | _ =>
  (bif decide (0<(b.length:Int)) then
   none
  else
   some (.inr ()))
def zBS (b:(List Str)) (c:(List Str)):Option Bool :=
 (bif (b.length:Int) !=(c.length:Int) then
  none
 else
  (lf (zBB b) ()).bind fun d =>
  some true)
def zGg (b:(List Str)) (c:(List Str)) (d:(List GField)):Option Bool :=
 (bif (b.length:Int)==(c.length:Int) then
  (zDO b d).bind fun f =>
  (zBS f c).bind fun h =>
  some (h)
 else
  some false).bind fun i =>
 some i
def zD2 (b:GEntry) (c:(List GField)):Option Bool :=
 (zGg b.fVary b.fSnapshot c).bind fun d =>
 some d
def zFQ (b:(List GEntry)) (c:(GEntry→Option Bool)):Unit→Option (Unit ⊕ (Unit ⊕ Int))
 | _ =>
  (bif decide (0≤(wr ((b.length:Int) - 1))) then
   (xnth b (wr ((b.length:Int) - 1))).bind fun d =>
   (c d).bind fun f =>
   (bif f then
    some (.inr (.inr (wr ((b.length:Int) - 1))))
   else
    none)
  else
   some (.inr (.inl ())))
def zGi (b:(List GEntry)) (c:(GEntry→Option Bool)):Option Int :=
 (lf (zFQ b c) ()).bind fun d=>match d with
 | .inr e=>some e
 | .inl _ =>
  some (-1)
def zGc (b:GTable) (c:(List GField)) (h:Bool):Option (Int×Bool) :=
 (bif (b.fAxes.length:Int)==0 then
  (zGi b.fEntries (fun d=>zD2 d c)).bind fun f =>
  some (f,true)
 else
  none)
def zGz (b:Int) (c:UInt8):Option Int :=
 (bif b==2 then
  none
 else
  (bif ((b==1)&&(c==92)) then
   none
  else
   (bif c==34 then
    none
   else
    some b)))
def zFC (c:Str):((List Str)×Int×Int×Int)→Option (((List Str)×Int×Int×Int) ⊕ (List Str))
 | (d,f,h,b) =>
  (bif ((decide (b≤(c.length:Int)))&&(decide ((d.length:Int)<64))) then
   (bif decide (b<(c.length:Int)) then
    (bif f !=0 then
     some true
    else
     (xnth c b).bind fun j =>
     some (j !=44)).bind fun k =>
    some (k)
   else
    some false).bind fun l =>
   (bif l then
    (xnth c b).bind fun o =>
    (zGz f o).bind fun p =>
    some (.inl (d,p,h,wr (b+1)))
   else
    (xsub c h b).bind fun q =>
    (zDt q).bind fun i =>
    (bif i !=[] then
     (xapp d ([i]:List Str)).bind fun r =>
     some (.inl (r,f,wr (b+1),wr (b+1)))
    else
     none))
  else
   some (.inr d))
def zGd (b:Str):Option (List Str) :=
 (lf (zFC b) (([]:List Str),0,0,0)).bind fun c =>
 some c
def zGG (c:(List Str)):((List Str)×Int)→Option (((List Str)×Int) ⊕ (List Str))
 | (d,b) =>
  (bif decide (b<(c.length:Int)) then
   (xnth c b).bind fun f =>
   (zGd f).bind fun h =>
   (xapp d h).bind fun i =>
   some (.inl (i,wr (b+1)))
  else
   some (.inr d))
def zEH (c:(List GField)) (d:Str):Option (List Str) :=
 (zB5 c d).bind fun f =>
 (lf (zGG f) (([]:List Str),0)).bind fun b =>
 (xsub b 0 (if 64<(b.length:Int) then 64 else (b.length:Int))).bind fun h =>
 some h
def zCL (c:Str) (b:Int):Option (Int ⊕ Int) :=
  (bif decide (b<(c.length:Int)) then
   (xsub c b (wr (b+1))).bind fun d =>
   (zBK d).bind fun f =>
   some (f)
  else
   some false).bind fun h =>
  (bif h then
   some (.inl (wr (b+1)))
  else
   some (.inr b))
def zDX (b:Str):Option (Str×Gcachecontrol_directive) :=
 (lf (zCL b) 0).bind fun d =>
 (xsub b 0 d).bind fun h =>
 (zA1 h).bind fun i =>
 (xsub b d b.length).bind fun c =>
 (bif c==[] then
  none
 else
  (xsub c 1 c.length).bind fun f =>
  (xnth c 0).bind fun j =>
  (bif j==61 then
   (zBK f).bind fun k =>
   some (k)
  else
   some false).bind fun l =>
  (bif l then
   some (i,(⟨1,f⟩:Gcachecontrol_directive))
  else
   none))
def zAd (b:Gcachecontrol_directive) (d:Int) (f:Int):Option Int :=
 (zBM b.fvalue).bind fun c =>
 (bif b.fform==0 then
  none
 else
  (bif ((b.fform==2)||(!c.2)) then
   none
  else
   some c.1))
def zBl (f:(List Str)):(Int×(List (Str×Gcachecontrol_directive)))→Option ((Int×(List (Str×Gcachecontrol_directive))) ⊕ (List (Str×Gcachecontrol_directive)))
 | (c,d) =>
  (bif decide (c<(f.length:Int)) then
   (xnth f c).bind fun h =>
   (zDX h).bind fun b =>
   (some (mget d b.1 (⟨0,[]⟩:Gcachecontrol_directive))).bind fun g42 =>
   (bif ((!g42.2)&&(b.1 !=[])) then
    some (.inl (wr (c+1),(mset d b.1 b.2)))
   else
    none)
  else
   some (.inr d))
def zAW (d:(List GField)):Option GControl :=
 (zEH d [67,97,99,104,101,45,67,111,110,116,114,111,108]).bind fun c =>
 (lf (zBl c) (0,([]:List (Str×Gcachecontrol_directive)))).bind fun b =>
 (some (mget b [110,111,45,115,116,111,114,101] (⟨0,[]⟩:Gcachecontrol_directive))).bind fun g50 =>
 (some (mget b [110,111,45,99,97,99,104,101] (⟨0,[]⟩:Gcachecontrol_directive))).bind fun g54 =>
 (some (mget b [109,117,115,116,45,114,101,118,97,108,105,100,97,116,101] (⟨0,[]⟩:Gcachecontrol_directive))).bind fun g58 =>
 (some (mget b [112,114,111,120,121,45,114,101,118,97,108,105,100,97,116,101] (⟨0,[]⟩:Gcachecontrol_directive))).bind fun g62 =>
 (some (mget b [112,114,105,118,97,116,101] (⟨0,[]⟩:Gcachecontrol_directive))).bind fun g66 =>
 (some (mget b [112,117,98,108,105,99] (⟨0,[]⟩:Gcachecontrol_directive))).bind fun g70 =>
 (some (mget b [111,110,108,121,45,105,102,45,99,97,99,104,101,100] (⟨0,[]⟩:Gcachecontrol_directive))).bind fun g74 =>
 ((some (mget b [109,97,120,45,97,103,101] (⟨0,[]⟩:Gcachecontrol_directive))).bind fun g103 =>
 (bif g103.2 then
  (zAd g103.1 0 0).bind fun f =>
  some f
 else
  some (-1))).bind fun (h:Int) =>
 ((some (mget b [115,45,109,97,120,97,103,101] (⟨0,[]⟩:Gcachecontrol_directive))).bind fun g132 =>
 (bif g132.2 then
  (zAd g132.1 0 0).bind fun i =>
  some i
 else
  some (-1))).bind fun (j:Int) =>
 ((some (mget b [109,105,110,45,102,114,101,115,104] (⟨0,[]⟩:Gcachecontrol_directive))).bind fun g161 =>
 (bif g161.2 then
  (zAd g161.1 2147483647 2147483647).bind fun k =>
  some k
 else
  some (-1))).bind fun (l:Int) =>
 ((some (mget b [109,97,120,45,115,116,97,108,101] (⟨0,[]⟩:Gcachecontrol_directive))).bind fun g190 =>
 (bif g190.2 then
  (zAd g190.1 2147483647 0).bind fun o =>
  some o
 else
  some (-1))).bind fun (p:Int) =>
 some (⟨(g50.2||(decide (64≤(c.length:Int)))),g54.2,g58.2,g62.2,g66.2,g70.2,g74.2,h,j,l,p⟩:GControl)
def zAr (b:(List Str)) (c:(Str→Option Bool)):Unit→Option (Unit ⊕ (Unit ⊕ Int))
 | _ =>
  (bif decide (0<(b.length:Int)) then
   (xnth b 0).bind fun d =>
   (c d).bind fun f =>
   (bif f then
    some (.inr (.inr 0))
   else
    none)
  else
   some (.inr (.inl ())))
def zAY (b:(List Str)) (c:(Str→Option Bool)):Option Int :=
 (lf (zAr b c) ()).bind fun d=>match d with
 | .inr e=>some e
 | .inl _ =>
  some (-1)
def zAt (b:(List Str)) (c:(Str→Option Bool)):Option Bool :=
 (zAY b c).bind fun d =>
 some (decide (0≤d))
def zBH (b:Str):Option Bool :=
 none
def zAw (b:(List GField)) (c:Str):Option Bool :=
 (zBD c).bind fun d =>
 (zA3 b d).bind fun f =>
 some (decide (0<(f.length:Int)))
def zAx (b:(List GField)):Option GControl :=
 (zAW b).bind fun c =>
 (zAw b [67,97,99,104,101,45,67,111,110,116,114,111,108]).bind fun d =>
 (bif !d then
  (zEH b [80,114,97,103,109,97]).bind fun f =>
  (zAt f zBH).bind fun h =>
  some (h)
 else
  some false).bind fun i =>
 (bif i then
  none
 else
  some c)
def zBn (c:(List GField)):Option Int :=
 (zAW c).bind fun b =>
 (bif decide (0≤b.fSMaxAge) then
  none
 else
  (bif decide (0≤b.fMaxAge) then
   some b.fMaxAge
  else
   none))
def zE4 (b:Str):Option (Int×Bool) :=
 (bif (b.length:Int) !=29 then
  some true
 else
  (xsub b 3 5).bind fun c =>
  some (c !=[44,32])).bind fun d =>
 (bif d then
  some true
 else
  (xnth b 7).bind fun f =>
  some (f !=32)).bind fun h =>
 (bif h then
  some true
 else
  (xnth b 11).bind fun i =>
  some (i !=32)).bind fun j =>
 (bif j then
  some true
 else
  (xnth b 16).bind fun k =>
  some (k !=32)).bind fun l =>
 (bif l then
  some true
 else
  (xnth b 19).bind fun o =>
  some (o !=58)).bind fun p =>
 (bif p then
  some true
 else
  (xnth b 22).bind fun q =>
  some (q !=58)).bind fun r =>
 (bif r then
  some true
 else
  (xsub b 25 b.length).bind fun t =>
  some (t !=[32,71,77,84])).bind fun u =>
 (bif u then
  some (0,false)
 else
  none)
def zEI (c:(List GField)) (d:Str):Option (Int×Bool) :=
 (zBF c d).bind fun f =>
 (zE4 f.1).bind fun b =>
 some (b.1,b.2)
def zEh (b:(List GField)) (c:Int):Option Int :=
 (zEI b [68,97,116,101]).bind fun d =>
 (bif d.2 then
  none
 else
  some c)
def zDA (b:Int) (c:Int):Option Int :=
 some (if 2147483647<(if (wr (b - c))<0 then 0 else (wr (b - c))) then 2147483647 else (if (wr (b - c))<0 then 0 else (wr (b - c))))
def zEv (h:(List GField)) (c:Int) (b:Int) (f:Int):Option Int :=
 (bif ((((decide (c<0))||(decide (b<c)))||(decide (f<b)))||(decide (1099511627776<f))) then
  none
 else
  (zBF h [65,103,101]).bind fun j =>
  (zBM j.1).bind fun i =>
  (zEh h b).bind fun d =>
  (zDA (wr ((wr ((if (if 0<(wr (b - d)) then (wr (b - d)) else 0)<(wr ((wr (i.1+b)) - c)) then (wr ((wr (i.1+b)) - c)) else (if 0<(wr (b - d)) then (wr (b - d)) else 0))+f)) - b)) 0).bind fun k =>
  some k)
def zF5 (b:GEntry) (c:Int):Option Int :=
 (zEv b.fFields b.fRequested b.fReceived c).bind fun d =>
 some d
def zD7 (d:Int) (b:Int) (c:GControl) (f:GControl):Option Bool :=
 (bif ((((decide (d<0))||(decide (2147483647<d)))||(decide (b<0)))||(decide (2147483647<b))) then
  none
 else
  (bif (c.fNoCache||f.fNoCache) then
   none
  else
   (bif ((c.fMaxAge !=(-1))&&(decide (c.fMaxAge<b))) then
    none
   else
    (bif decide (b<d) then
     some ((c.fMinFresh==(-1))||(decide (c.fMinFresh≤(wr (d - b)))))
    else
     none))))
def zEt (b:GEntry) (c:GRequest) (d:Int):Option Bool :=
 (zBn b.fFields).bind fun f =>
 (zF5 b d).bind fun h =>
 (zAx c.fFields).bind fun i =>
 (zAW b.fFields).bind fun j =>
 (zD7 f h i j).bind fun k =>
 some k
def zDW (d:GTable) (b:GRequest) (j:Int) (f:GConfig):Option GDecision :=
 (bif ((b.fMethod !=[71,69,84])&&(b.fMethod !=[72,69,65,68])) then
  none
 else
  (zGc d b.fFields f.fStrict).bind fun c =>
  (bif (((decide (0<(d.fAxes.length:Int)))&&(!c.2))&&f.fRefuse) then
   none
  else
   (zAx b.fFields).bind fun h =>
   (bif h.fNoStore then
    none
   else
    ((bif decide (0≤c.1) then
     (xnth d.fEntries c.1).bind fun k =>
     (zEt k b j).bind fun l =>
     (bif l then
      some 2
     else
      none)
    else
     some 0)).bind fun (i:Int) =>
    ((bif i==2 then
     some (.inr (⟨1,c.1⟩:GDecision))
    else
     (bif i==1 then
      none
     else
      (bif h.fOnlyIfCached then
       none
      else
       some (.inl ()))))).bind fun (o:(Unit ⊕ GDecision))=>match o with
    | .inr e=>some e
    | .inl _ =>
     some (⟨3,(-1)⟩:GDecision))))
def zAP (b:(List Str)) (c:(Str→Option Bool)):Option (List Str) :=
 (zAY b c).bind fun i=>delRF b c i
def zCG (b:Int):Option Str :=
 (strconv_Itoa b).bind fun c =>
 some c
def zGF (b:(List GField)) (c:Int) (d:Str):Option (List GField) :=
 (xapp ([]:List GField) b).bind fun f =>
 (zCG c).bind fun h =>
 (xcat [49,46] h).bind fun i =>
 (xcat i [32]).bind fun j =>
 (xcat j d).bind fun k =>
 (xapp f ([(⟨[86,105,97],k⟩:GField)]:List GField)).bind fun l =>
 some l
def zA8 (b:GField) (c:(GField→Option Bool)):Option Bool :=
 (c b).bind fun d =>
 some (!d)
def zBP (b:(List GField)) (c:Str):Option (List GField) :=
 (zBD c).bind fun d =>
 (zA3 b (fun f=>zA8 f d)).bind fun h =>
 some h
def zDQ (b:GEntry) (c:Int) (d:Str):Option GResponse :=
 (zBP b.fFields [65,103,101]).bind fun f =>
 (zCG c).bind fun h =>
 (xapp f ([(⟨[65,103,101],h⟩:GField)]:List GField)).bind fun i =>
 (zGF i 1 d).bind fun j =>
 some (⟨1,200,b.fReason,j,b.fBody⟩:GResponse)
def zEi (b:GEntry) (c:Int) (d:Str):Option GResponse :=
 (zF5 b c).bind fun f =>
 (zDQ b f d).bind fun h =>
 some h
def zCW (d:(List GField)) (f:Str):Option (Str×Int×Bool) :=
 (zBF d f).bind fun b =>
 (zE4 b.1).bind fun c =>
 some (b.1,c.1,c.2)
def zCE (b:GRequest) (c:GResponse):Option Bool :=
 (bif (((b.fMethod !=[71,69,84])&&(b.fMethod !=[72,69,65,68]))||(c.fStatus !=200)) then
  none
 else
  (zAw b.fFields [73,102,45,78,111,110,101,45,77,97,116,99,104]).bind fun h =>
  (bif h then
   none
  else
   (zCW b.fFields [73,102,45,77,111,100,105,102,105,101,100,45,83,105,110,99,101]).bind fun d =>
   (zCW c.fFields [76,97,115,116,45,77,111,100,105,102,105,101,100]).bind fun f =>
   some ((d.2.2&&f.2.2)&&(decide (f.2.1≤d.2.1)))))
def zDu (b:Str):Option (Int×Bool) :=
 (bif (b.length:Int) !=3 then
  some true
 else
  (xnth b 0).bind fun c =>
  some (decide (c<49))).bind fun d =>
 (bif d then
  some true
 else
  (xnth b 0).bind fun f =>
  some (decide (53<f))).bind fun h =>
 (bif h then
  some true
 else
  (xnth b 1).bind fun i =>
  (zBC i).bind fun j =>
  some (!j)).bind fun k =>
 (bif k then
  some true
 else
  (xnth b 2).bind fun l =>
  (zBC l).bind fun o =>
  some (!o)).bind fun p =>
 (bif p then
  none
 else
  (zBM b).bind fun q =>
  some (q.1,true))
def zBJ (c:Str):Option (Int×Int×Str×Int) :=
 (bif decide (2000<(c.length:Int)) then
  none
 else
  (zAn c [32]).bind fun d =>
  (zAn d.2.1 [32]).bind fun b =>
  (zDu b.1).bind fun f =>
  (bif ((!b.2.2)||(!f.2)) then
   some true
  else
   (zDx b.2.1).bind fun h =>
   some (!h)).bind fun i =>
  (bif i then
   none
  else
   (zBw d.1).bind fun j =>
   some (j.1,f.1,b.2.1,0)))
def zB0 (c:Int) (d:Int) (f:Str):Option Str :=
 (strconv_Itoa c).bind fun i =>
 (xcat [72,84,84,80,47,49,46] i).bind fun j =>
 (xcat j [32]).bind fun k =>
 (strconv_Itoa d).bind fun l =>
 (xcat k l).bind fun o =>
 (xcat o [32]).bind fun p =>
 (xcat p f).bind fun h =>
 (zBJ h).bind fun b =>
 (bif ((((b.2.2.2 !=0)||(b.1 !=c))||(b.2.1 !=d))||(b.2.2.1 !=f)) then
  none
 else
  some h)
def zDl (b:GField):Option Str :=
 (zCf b).bind fun c =>
 (bif !c then
  none
 else
  (zCy b).bind fun d =>
  some d)
def zCJ (s0_buf:(List UInt8)):Option Unit :=
 some ()
def zB4 (s0_buf:(List UInt8)):Option Unit :=
 some ()
def zAq (s0_buf:List UInt8):Option Unit :=
 some ()
def zAG (b:Str) (s0_buf:(List UInt8)):Option (Int×Unit×(List UInt8)) :=
 (zAq s0_buf).bind fun d =>
 (xapp s0_buf b).bind fun c =>
 some ((b.length:Int),(),c)
def zA4 (s0_buf:(List UInt8)):Option Str :=
 some s0_buf
def zAe (s0_buf:(List UInt8)):Option Int :=
 some (s0_buf.length:Int)
end
end Go.Eng.Pure
