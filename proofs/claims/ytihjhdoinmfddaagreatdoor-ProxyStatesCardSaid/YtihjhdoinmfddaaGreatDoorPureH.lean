/- A part. -/
import Derived.Test.YtihjhdoinmfddaaGreatDoorPure5
set_option linter.unusedVariables false
set_option linter.unusedSimpArgs false
namespace Go.Eng.Pure
open Go Go.Eng
noncomputable section
def zH5 (f:Str):(Int×Int×List GField×List Str×List Str×Str×Str×Int)→Option ((Int×Int×List GField×List Str×List Str×Str×Str×Int) ⊕ (Int×Int×List GField×List Str×List Str×Str×Str×Int))
 | (n,at_,fs,ls,cs,m,t,v) =>
  (xsub f at_ f.length).bind fun h =>
  (zEw h).bind fun b =>
  (bif b.2.2 !=0 then
   some (.inr (b.2.2,at_,fs,ls,cs,m,t,v))
  else
   (bif ((decide (16000<(wr (at_+b.2.1))))||((decide (64<n))&&(b.1 !=[]))) then
    some (.inr (4,wr (at_+b.2.1),fs,ls,cs,m,t,v))
   else
    (bif n==0 then
     (zAf b.1).bind fun c =>
     (bif c.2.2.2 !=0 then
      some (.inr (c.2.2.2,wr (at_+b.2.1),fs,ls,cs,c.1,c.2.1,c.2.2.1))
     else
      some (.inl (wr (n+1),wr (at_+b.2.1),fs,ls,cs,c.1,c.2.1,c.2.2.1)))
    else
     (bif b.1==[] then
      some (.inr (0,wr (at_+b.2.1),fs,ls,cs,m,t,v))
     else
      (zBv b.1).bind fun d =>
      (bif d.2 !=0 then
       (bif d.2 !=0 then
        some (.inr (d.2,wr (at_+b.2.1),fs,ls,cs,m,t,v))
       else
        some (.inl (wr (n+1),wr (at_+b.2.1),fs,ls,cs,m,t,v)))
      else
       (zAe d.1.fName [67,111,110,116,101,110,116,45,76,101,110,103,116,104]).bind fun i =>
       (bif i then
        (xapp ls ([d.1.fValue]:List Str)).bind fun j =>
        some (.inl (wr (n+1),wr (at_+b.2.1),fs,j,cs,m,t,v))
       else
        (zAe d.1.fName [84,114,97,110,115,102,101,114,45,69,110,99,111,100,105,110,103]).bind fun k =>
        (bif k then
         (xapp cs ([d.1.fValue]:List Str)).bind fun l =>
         some (.inl (wr (n+1),wr (at_+b.2.1),fs,ls,l,m,t,v))
        else
         (xapp fs ([d.1]:List GField)).bind fun o =>
         some (.inl (wr (n+1),wr (at_+b.2.1),o,ls,cs,m,t,v)))))))))
def zH1 (f:Str):(Int×Int×List GField×List Str×List Str×Int×Int×Str)→Option ((Int×Int×List GField×List Str×List Str×Int×Int×Str) ⊕ (Int×Int×List GField×List Str×List Str×Int×Int×Str))
 | (n,at_,fs,ls,cs,v,st,re) =>
  (xsub f at_ f.length).bind fun h =>
  (zEw h).bind fun b =>
  (bif b.2.2 !=0 then
   some (.inr (b.2.2,at_,fs,ls,cs,v,st,re))
  else
   (bif ((decide (16000<(wr (at_+b.2.1))))||((decide (64<n))&&(b.1 !=[]))) then
    some (.inr (4,wr (at_+b.2.1),fs,ls,cs,v,st,re))
   else
    (bif n==0 then
     (zAY b.1).bind fun c =>
     (bif c.2.2.2 !=0 then
      some (.inr (c.2.2.2,wr (at_+b.2.1),fs,ls,cs,c.1,c.2.1,c.2.2.1))
     else
      some (.inl (wr (n+1),wr (at_+b.2.1),fs,ls,cs,c.1,c.2.1,c.2.2.1)))
    else
     (bif b.1==[] then
      some (.inr (0,wr (at_+b.2.1),fs,ls,cs,v,st,re))
     else
      (zBv b.1).bind fun d =>
      (bif d.2 !=0 then
       (bif d.2 !=0 then
        some (.inr (d.2,wr (at_+b.2.1),fs,ls,cs,v,st,re))
       else
        some (.inl (wr (n+1),wr (at_+b.2.1),fs,ls,cs,v,st,re)))
      else
       (zAe d.1.fName [67,111,110,116,101,110,116,45,76,101,110,103,116,104]).bind fun i =>
       (bif i then
        (xapp ls ([d.1.fValue]:List Str)).bind fun j =>
        some (.inl (wr (n+1),wr (at_+b.2.1),fs,j,cs,v,st,re))
       else
        (zAe d.1.fName [84,114,97,110,115,102,101,114,45,69,110,99,111,100,105,110,103]).bind fun k =>
        (bif k then
         (xapp cs ([d.1.fValue]:List Str)).bind fun l =>
         some (.inl (wr (n+1),wr (at_+b.2.1),fs,ls,l,v,st,re))
        else
         (xapp fs ([d.1]:List GField)).bind fun o =>
         some (.inl (wr (n+1),wr (at_+b.2.1),o,ls,cs,v,st,re)))))))))
def zHf (b:Str):Option (Int×Int×List GField×List Str×List Str×Str×Str×Int) :=
 (zAB (zH5 b) (0,0,([]:List GField),([]:List Str),([]:List Str),[],[],0)).bind fun r=>some r
def zHs (b:Str):Option (Int×Int×List GField×List Str×List Str×Int×Int×Str) :=
 (zAB (zH1 b) (0,0,([]:List GField),([]:List Str),([]:List Str),0,0,[])).bind fun r=>some r
def zGt (ls:List Str) (y:Int):Option (Int ⊕ (Unit ⊕ Int)) :=
  (bif decide (y<(ls.length:Int)) then
   (xnth ls y).bind fun b =>
   (zA5 b).bind fun c =>
   (bif ((!c.2)||(decide (9<(b.length:Int)))) then
    some (.inr (.inr 8))
   else
    some (.inl (wr (y+1))))
  else
   some (.inr (.inl ())))
def zEi (ls cs : List Str) : Option Int :=
   (bif decide (1<(cs.length:Int)) then
    some true
   else
    (bif (cs.length:Int)==1 then
     (xnth cs 0).bind fun b =>
     (zAe b [99,104,117,110,107,101,100]).bind fun c =>
     some (!c)
    else
     some false).bind fun d =>
    some (d)).bind fun f =>
   (bif f then
    some 7
   else
    (bif ((decide (1<(ls.length:Int)))||(((ls.length:Int)==1)&&((cs.length:Int)==1))) then
     some 8
    else
     (zAB (zGt ls) 0).bind fun h=>match h with
     | .inr e=>some e
     | .inl _ =>
      some 0))
def zGc (f : Str) (at_ : Int) (ls cs : List Str) : Option (Str × Int × Int) :=
     (xsub f at_ f.length).bind fun c =>
     (bif decide (0<(cs.length:Int)) then
      (zFP c).bind fun d =>
      some (d.1,d.2.2,wr (at_+d.2.1))
     else
      (bif decide (0<(ls.length:Int)) then
       (xnth ls 0).bind fun h =>
       (zA5 h).bind fun b =>
       (bif decide (100000<b.1) then
        some ([],5,at_)
       else
        (bif decide ((c.length:Int)<b.1) then
         some ([],2,at_)
        else
         (xsub c 0 b.1).bind fun i =>
         some (i,0,wr (at_+b.1))))
      else
       some ([],0,at_)))
def zCI (c:Str):Option (GRequest×Int×Int) :=
 (zHf c).bind fun h =>
 (bif h.1 !=0 then
  some ((⟨[],[],0,([]:List GField),[]⟩:GRequest),0,h.1)
 else
  (zEi h.2.2.2.1 h.2.2.2.2.1).bind fun e =>
  (bif e !=0 then
   some ((⟨[],[],0,([]:List GField),[]⟩:GRequest),0,e)
  else
   (zCd h.2.2.1 [72,111,115,116]).bind fun d =>
   (bif ((decide (1<(d.length:Int)))||(((d.length:Int)==0)&&(h.2.2.2.2.2.2.2==1))) then
    some ((⟨[],[],0,([]:List GField),[]⟩:GRequest),0,6)
   else
    (zGc c h.2.1 h.2.2.2.1 h.2.2.2.2.1).bind fun b =>
    (bif b.2.1 !=0 then
     some ((⟨[],[],0,([]:List GField),[]⟩:GRequest),0,b.2.1)
    else
     some ((⟨h.2.2.2.2.2.1,h.2.2.2.2.2.2.1,h.2.2.2.2.2.2.2,h.2.2.1,b.1⟩:GRequest),b.2.2,0)))))
def zBz (c d:Str) (f:Bool):Option (GResponse×Int×Int) :=
 (zHs c).bind fun h =>
 (bif h.1 !=0 then
  some ((⟨0,0,[],([]:List GField),[]⟩:GResponse),0,h.1)
 else
  (zEi h.2.2.2.1 h.2.2.2.2.1).bind fun e =>
  (bif e !=0 then
   some ((⟨0,0,[],([]:List GField),[]⟩:GResponse),0,e)
  else
   ((zBj h.2.2.2.2.2.2.1 d).bind fun i =>
    (bif i then
     some (0,h.2.1,[])
    else
     (bif decide (0<(wr ((h.2.2.2.2.1.length:Int)+(h.2.2.2.1.length:Int)))) then
      (zGc c h.2.1 h.2.2.2.1 h.2.2.2.2.1).bind fun b =>
      some (b.2.1,b.2.2,b.1)
     else
      (bif !f then
       some (2,h.2.1,[])
      else
       (bif decide (100000<(wr ((c.length:Int) - h.2.1))) then
        some (5,h.2.1,[])
       else
        (xsub c h.2.1 c.length).bind fun k =>
        some (0,(c.length:Int),k)))))).bind fun (j:(Int×Int×Str)) =>
   (bif j.1 !=0 then
    some ((⟨0,0,[],([]:List GField),[]⟩:GResponse),0,j.1)
   else
    some ((⟨h.2.2.2.2.2.1,h.2.2.2.2.2.2.1,h.2.2.2.2.2.2.2,h.2.2.1,j.2.2⟩:GResponse),j.2.1,0))))
def zGi:(List Str×Str×Bool)→Option ((List Str×Str×Bool) ⊕ List Str)
 | (out,rest,more) =>
  (bif more then
   (zAW rest [47]).bind fun r =>
   (bif (bif r.1==[46] then r.2.2 else false) then
    some (.inl (out,r.2.1,r.2.2))
   else
    (bif r.1==[46,46] then
     (xsub out 0 (if wr ((out.length:Int) - 1)<0 then 0 else wr ((out.length:Int) - 1))).bind fun o =>
     (bif r.2.2 then
      some (.inl (o,r.2.1,r.2.2))
     else
      (xapp o ([[]]:List Str)).bind fun l =>
      some (.inl (l,r.2.1,r.2.2)))
    else
     (bif r.1==[46] then
      (xapp out ([[]]:List Str)).bind fun l =>
      some (.inl (l,r.2.1,r.2.2))
     else
      (xapp out ([r.1]:List Str)).bind fun l =>
      some (.inl (l,r.2.1,r.2.2)))))
  else
   some (.inr out))
def zEQ (b:Str):Option Str :=
 (zAj b [47]).bind fun c =>
 (bif !c then
  some b
 else
  (xsub b 1 b.length).bind fun d =>
  (zAB zGi (([]:List Str),d,true)).bind fun out =>
  (strings_Join out [47]).bind fun f =>
  (xcat [47] f).bind fun c45 =>
  some c45)
end
end Go.Eng.Pure
