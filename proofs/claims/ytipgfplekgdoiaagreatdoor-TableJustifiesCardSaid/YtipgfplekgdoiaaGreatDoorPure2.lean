/- A part of the proof of laws of the seat: written by program over the translation. -/
import Derived.Test.YtipgfplekgdoiaaGreatDoorPure1
set_option linter.unusedVariables false
namespace Go.Eng.Pure
open Go Go.Eng
set_option linter.unusedVariables false
noncomputable def zFF (p_s:Str) (p_sep:Str):Option (Str×Str×Bool) :=
 (zA9 p_s p_sep).bind fun r1 =>
 (bif decide (0≤r1) then
  (xsub p_s 0 r1).bind fun s10 =>
  (xsub p_s (wr (r1+(p_sep.length:Int))) p_s.length).bind fun s11 =>
  some (s10,s11,true)
 else
  some (p_s,[],false))
noncomputable def zFI (p_s:Str) (p_sep:Str):Option (Str×Str×Bool) :=
 (zFF p_s p_sep).bind fun r1 =>
 some (r1.1,r1.2.1,r1.2.2)
noncomputable def zEY (s0_buf:(List UInt8)):Option Unit :=
 some ()
noncomputable def zEC (s0_buf:(List UInt8)):Option Unit :=
 some ()
noncomputable def zAt (s0_buf:List UInt8):Option Unit :=
 some ()
noncomputable def zAN (p_s:Str) (s0_buf:(List UInt8)):Option (Int×Unit×(List UInt8)) :=
 (zAt s0_buf).bind fun r1 =>
 (xapp s0_buf p_s).bind fun l11 =>
 some ((p_s.length:Int),(),l11)
noncomputable def zA7 (s0_buf:(List UInt8)):Option Str :=
 some s0_buf
noncomputable def zB0 (p_axis:Str):Option Gvariants_domain :=
 (zEA p_axis).bind fun r1 =>
 ((bif r1==1 then
  some (.inr (.media:Gvariants_domain))
 else
  (bif r1==2 then
   some (.inr (.tags:Gvariants_domain))
  else
   ((bif r1==3 then
    some (r1==3)
   else
    some (r1==4))).bind fun (y_13:Bool) =>
   (bif y_13 then
    some (.inr (.words r1:Gvariants_domain))
   else
    some (.inl ()))))).bind fun (j8:(Unit ⊕ Gvariants_domain))=>match j8 with
 | .inr e=>some e
 | .inl _ =>
  some (.texts:Gvariants_domain)
noncomputable def zDg (p_s:Str):((List Str)×Bool×Int×Int)→Option (((List Str)×Bool×Int×Int) ⊕ ((List Str)×Int))
 | (out_3,quoted_7,from_9,i_11) =>
  (bif decide (i_11<(p_s.length:Int)) then
   (bif quoted_7 then
    (xnth p_s i_11).bind fun c29 =>
    some (c29==92)
   else
    some false).bind fun b30 =>
   (bif b30 then
    some (.inl (out_3,quoted_7,from_9,wr ((wr (i_11+1))+1)))
   else
    (xnth p_s i_11).bind fun c32 =>
    (bif c32==34 then
     some (.inl (out_3,!quoted_7,from_9,wr (i_11+1)))
    else
     (xnth p_s i_11).bind fun c34 =>
     (bif ((c34==59)&&(!quoted_7)) then
      (xsub p_s from_9 i_11).bind fun s38 =>
      (xapp out_3 ([s38]:List Str)).bind fun l44 =>
      some (.inl (l44,quoted_7,wr (i_11+1),wr (i_11+1)))
     else
      some (.inl (out_3,quoted_7,from_9,wr (i_11+1))))))
  else
   some (.inr (out_3,from_9)))
noncomputable def zH6 (p_s:Str):Option (List Str) :=
 (zAF (zDg p_s) (([]:List Str),false,0,0)).bind fun r24=>match r24 with
 | (out_15,from_19) =>
  (xsub p_s from_19 p_s.length).bind fun s50 =>
  (xapp out_15 ([s50]:List Str)).bind fun l56 =>
  some l56
noncomputable def zHp (p_s:Str):Option (Str×Str×Bool) :=
 (zFI p_s [61]).bind fun r1 =>
 (bif !r1.2.2 then
  some true
 else
  (zA1 r1.1).bind fun r8 =>
  some (!r8)).bind fun b13 =>
 (bif b13 then
  some ([],[],false)
 else
  (zA1 r1.2.1).bind fun r18 =>
  ((bif !r18 then
   (zDv r1.2.1).bind fun r32 =>
   some (r32.1,r32.2)
  else
   some (r1.2.1,r1.2.2))).bind fun (j30:(Str×Bool)) =>
  match j30 with
  | (value_25,ok_27) =>
   (zAp r1.1).bind fun r37 =>
   some (r37,value_25,ok_27))
noncomputable def zDN (l16:(List Str)):((List GParam)×Int)→Option (((List GParam)×Int) ⊕ ((List GParam) ⊕ (Str×(List GParam)×Bool)))
 | (l_21,y_27) =>
  (bif decide (y_27<(l16.length:Int)) then
   (xnth l16 y_27).bind fun x41 =>
   (zEF x41).bind fun r44 =>
   (bif r44==[] then
    some (.inl (l_21,wr (y_27+1)))
   else
    (zHp r44).bind fun r50 =>
    (bif !r50.2.2 then
     some (.inr (.inr ([],([]:List GParam),false)))
    else
     (xapp l_21 ([(⟨r50.1,r50.2.1⟩:GParam)]:List GParam)).bind fun l61 =>
     some (.inl (l61,wr (y_27+1)))))
  else
   some (.inr (.inl l_21)))
noncomputable def zFL (p_s:Str):Option (Str×(List GParam)×Bool) :=
 (zH6 p_s).bind fun r1 =>
 (xnth r1 0).bind fun x7 =>
 (zEF x7).bind fun r10 =>
 (bif r10==[] then
  some ([],([]:List GParam),false)
 else
  (xsub r1 1 r1.length).bind fun l16 =>
  (zAF (zDN l16) (([]:List GParam),0)).bind fun r38=>match r38 with
  | .inr e=>some e
  | .inl l_31 =>
   some (r10,l_31,true))
noncomputable def zA3 (p_s:Str):Option (GMediaType×Bool) :=
 (zFL p_s).bind fun r3 =>
 (bif !r3.2.2 then
  some ((⟨[],[],([]:List GParam)⟩:GMediaType),false)
 else
  (zFI r3.1 [47]).bind fun r12 =>
  (zA1 r12.1).bind fun r17 =>
  (bif !r17 then
   some true
  else
   (zA1 r12.2.1).bind fun r24 =>
   some (!r24)).bind fun b29 =>
  (bif (b29||((r12.1==[42])&&(r12.2.1 !=[42]))) then
   some ((⟨[],[],([]:List GParam)⟩:GMediaType),false)
  else
   (zAp r12.1).bind fun r39 =>
   (zAp r12.2.1).bind fun r44 =>
   some ((⟨r39,r44,r3.2.1⟩:GMediaType),true)))
noncomputable def zCa (p_s:Str):Option (GMediaType×Bool) :=
 (zA3 p_s).bind fun r3 =>
 (bif (((!r3.2)||(r3.1.fType==[42]))||(r3.1.fSub==[42])) then
  some ((⟨[],[],([]:List GParam)⟩:GMediaType),false)
 else
  some (r3.1,true))
noncomputable def zBr (p_x:GParam) (c_x0:GParam):Option Bool :=
 some (p_x.fName==c_x0.fName)
noncomputable def zAL (p_s:(List GParam)) (p_f:(GParam→Option Bool)) (y_5:Int):Option (Int ⊕ (Unit ⊕ Int)) :=
  (bif decide (y_5<(p_s.length:Int)) then
   (xnth p_s y_5).bind fun x14 =>
   (p_f x14).bind fun r17 =>
   (bif r17 then
    some (.inr (.inr y_5))
   else
    some (.inl (wr (y_5+1))))
  else
   some (.inr (.inl ())))
noncomputable def zAS (p_s:(List GParam)) (p_f:(GParam→Option Bool)):Option Int :=
 (zAF (zAL p_s p_f) 0).bind fun r11=>match r11 with
 | .inr e=>some e
 | .inl _ =>
  some (-1)
noncomputable def zAU (p_s:(List GParam)) (p_f:(GParam→Option Bool)):Option Bool :=
 (zAS p_s p_f).bind fun r1 =>
 some (decide (0≤r1))
noncomputable def zA6 (r3:(GMediaType×Bool)):(Bool×Int)→Option ((Bool×Int) ⊕ Bool)
 | (ok_16,y_20) =>
  (bif decide (y_20<(r3.1.fParams.length:Int)) then
   (xnth r3.1.fParams y_20).bind fun x32 =>
   (bif (ok_16&&(x32.fName !=[113])) then
    (xsub r3.1.fParams 0 y_20).bind fun l46 =>
    (zAU l46 (fun x0=>zBr x0 x32)).bind fun r49 =>
    some (!r49)
   else
    some false).bind fun b54 =>
   some (.inl (b54,wr (y_20+1)))
  else
   some (.inr ok_16))
noncomputable def zCE (p_x0:Unit) (p_s:Str):Option (Str×Bool) :=
 (zCa p_s).bind fun r3 =>
 (zAF (zA6 r3) (r3.2,0)).bind fun ok_24 =>
 (zAp p_s).bind fun r58 =>
 some (r58,ok_24)
noncomputable def zDj (p_s:Str) (p_substr:Str):Option Int :=
 (zA9 p_s p_substr).bind fun r1 =>
 some r1
noncomputable def zGX (p_substr:Str):(Str×Int)→Option ((Str×Int) ⊕ Int)
 | (s_5,n_8) =>
  (zDj s_5 p_substr).bind fun r15 =>
  (bif r15==(-1) then
   some (.inr n_8)
  else
   (xsub s_5 (wr (r15+(p_substr.length:Int))) s_5.length).bind fun s21 =>
   some (.inl (s21,wr (n_8+1))))
noncomputable def zCr (p_s:Str) (p_substr:Str):Option Int :=
 (bif (p_substr.length:Int)==0 then
  none
 else
  (bif (p_substr.length:Int)==1 then
   (xnth p_substr 0).bind fun c3 =>
   some (p_s.count c3:Nat)
  else
   (zAF (zGX p_substr) (p_s,0)).bind fun r13=>some r13))
noncomputable def zAs (p_ppend:Str) (p_x1:Str) (p_x2:Int) (y_7:Int):(Str×Int×(List Str))→Option ((Str×Int×(List Str)) ⊕ (Str×Int×(List Str)))
 | (ppend_25,y_31,m33) =>
  (bif decide (y_31<(wr ((if (wr ((p_ppend.length:Int)+1))<y_7 then (wr ((p_ppend.length:Int)+1)) else y_7) - 1))) then
   (zDj ppend_25 p_x1).bind fun r53 =>
   (bif decide (r53<0) then
    some (.inr (ppend_25,y_31,m33))
   else
    (xsub ppend_25 0 (wr (r53+p_x2))).bind fun s59 =>
    (xnth m33 y_31).bind fun x60 =>
    (xput m33 y_31 s59).bind fun l61 =>
    (xsub ppend_25 (wr (r53+(p_x1.length:Int))) ppend_25.length).bind fun s66 =>
    some (.inl (s66,wr (y_31+1),l61)))
  else
   some (.inr (ppend_25,y_31,m33)))
noncomputable def zEb (p_ppend:Str) (p_x1:Str) (p_x2:Int) (p_x3:Int):Option (List Str) :=
 (bif p_x3==0 then
  some ([]:List Str)
 else
  (bif p_x1==[] then
   none
  else
   ((bif decide (p_x3<0) then
    (zCr p_ppend p_x1).bind fun r12 =>
    some (wr (r12+1))
   else
    some p_x3)).bind fun (y_7:Int) =>
   (xmake (if (wr ((p_ppend.length:Int)+1))<y_7 then (wr ((p_ppend.length:Int)+1)) else y_7) ([]:Str)).bind fun l17 =>
   (zAF (zAs p_ppend p_x1 p_x2 y_7) (p_ppend,0,l17)).bind fun r50=>match r50 with
   | (ppend_38,y_41,m43) =>
    (xnth m43 y_41).bind fun x67 =>
    (xput m43 y_41 ppend_38).bind fun l68 =>
    (xsub l68 0 (wr (y_41+1))).bind fun l78 =>
    some l78))
noncomputable def zE1 (p_s:Str) (p_sep:Str):Option (List Str) :=
 (zEb p_s p_sep 0 (-1)).bind fun r1 =>
 some r1
noncomputable def zBo (p_digits:Bool) (r1:Str) (y_14:Int):Option (Int ⊕ (Unit ⊕ Bool)) :=
  (bif decide (y_14<(r1.length:Int)) then
   (xnth r1 y_14).bind fun c24 =>
   (xnth r1 y_14).bind fun c26 =>
   (bif (((decide (c26<97))||(decide (122<c26)))&&(((!p_digits)||(decide (c26<48)))||(decide (57<c26)))) then
    some (.inr (.inr false))
   else
    some (.inl (wr (y_14+1))))
  else
   some (.inr (.inl ())))
noncomputable def zDn (p_s:Str) (p_digits:Bool):Option Bool :=
 (zAp p_s).bind fun r1 =>
 (zAF (zBo p_digits r1) 0).bind fun r21=>match r21 with
 | .inr e=>some e
 | .inl _ =>
  some ((p_s !=[])&&(decide ((p_s.length:Int)≤8)))
noncomputable def zCo (r1:(List Str)) (y_10:Int):Option (Int ⊕ (Unit ⊕ Bool)) :=
  (bif decide (y_10<(r1.length:Int)) then
   (xnth r1 y_10).bind fun x19 =>
   (zDn x19 (decide (0<y_10))).bind fun r22 =>
   (bif !r22 then
    some (.inr (.inr false))
   else
    some (.inl (wr (y_10+1))))
  else
   some (.inr (.inl ())))
noncomputable def zDd (p_s:Str):Option Bool :=
 (zE1 p_s [45]).bind fun r1 =>
 (zAF (zCo r1) 0).bind fun r16=>match r16 with
 | .inr e=>some e
 | .inl _ =>
  some true
noncomputable def zCX (p_x0:Unit) (p_s:Str):Option (Str×Bool) :=
 (zAp p_s).bind fun r3 =>
 (zDd p_s).bind fun r8 =>
 some (r3,r8)
noncomputable def zA4 (p_kind:Int) (p_s:Str):Option Str :=
 (zAp p_s).bind fun r1 =>
 (bif p_kind !=4 then
  some r1
 else
  (((bif r1==[103,122,105,112] then
   some (r1==[103,122,105,112])
  else
   some (r1==[120,45,103,122,105,112]))).bind fun (y_14:Bool) =>
  (bif y_14 then
   some (.inr [103,122,105,112])
  else
   ((bif r1==[99,111,109,112,114,101,115,115] then
    some (r1==[99,111,109,112,114,101,115,115])
   else
    some (r1==[120,45,99,111,109,112,114,101,115,115]))).bind fun (y_22:Bool) =>
   (bif y_22 then
    some (.inr [99,111,109,112,114,101,115,115])
   else
    some (.inl ())))).bind fun (j10:(Unit ⊕ Str))=>match j10 with
  | .inr e=>some e
  | .inl _ =>
   some r1)
noncomputable def zCD (p_kind:Int) (p_s:Str):Option (Str×Bool) :=
 (zA4 p_kind p_s).bind fun r1 =>
 (zA1 p_s).bind fun r6 =>
 some (r1,(r6&&(p_s !=[42])))
noncomputable def zCB (p_x0:Unit) (p_s:Str):Option (Str×Bool) :=
 (bif ((decide (1≤(p_s.length:Int)))&&(decide ((p_s.length:Int)≤100))) then
  (zF6 p_s).bind fun r7 =>
  some (r7)
 else
  some false).bind fun b12 =>
 (bif b12 then
  (zEF p_s).bind fun r18 =>
  some (r18==p_s)
 else
  some false).bind fun b23 =>
 some (p_s,b23)
noncomputable def zBP (x:Gvariants_domain) (p0:Str):Option (Str×Bool) :=
 match x with
 | .media=>zCE () p0
 | .tags=>zCX () p0
 | .words n=>zCD n p0
 | .texts=>zCB () p0
noncomputable def zEs (p_axis:Str) (p_a:Str) (p_b:Str):Option Bool :=
 (zB0 p_axis).bind fun r1 =>
 (zBP r1 p_a).bind fun r6 =>
 (zBP r1 p_b).bind fun r11 =>
 some (r6.1==r11.1)
noncomputable def zBB (p_a:GAxis) (r6:Gvariants_domain):(Int×(List (Str×Bool)))→Option ((Int×(List (Str×Bool))) ⊕ (Unit ⊕ Bool))
 | (y_18,m20) =>
  (bif decide (y_18<(p_a.fValues.length:Int)) then
   (xnth p_a.fValues y_18).bind fun x28 =>
   (zBP r6 x28).bind fun r31 =>
   (bif !r31.2 then
    some true
   else
    (some (mget m20 r31.1 false)).bind fun g38 =>
    some (g38.1)).bind fun b39 =>
   (bif b39 then
    some (.inr (.inr false))
   else
    some (.inl (wr (y_18+1),(mset m20 r31.1 true))))
  else
   some (.inr (.inl ())))
noncomputable def zEL (p_a:GAxis):Option Bool :=
 (bif ((decide ((p_a.fValues.length:Int)<1))||(decide (16<(p_a.fValues.length:Int)))) then
  some false
 else
  (zB0 p_a.fName).bind fun r6 =>
  (zAF (zBB p_a r6) (0,([]:List (Str×Bool)))).bind fun r25=>match r25 with
  | .inr e=>some e
  | .inl _ =>
   some true)
noncomputable def zB4 (x17:GAxis) (l50:(List GAxis)) (y_61:Int):Option (Int ⊕ (Unit ⊕ (Int ⊕ (Unit ⊕ Bool)))) :=
  (bif decide (y_61<(l50.length:Int)) then
   (xnth l50 y_61).bind fun x74 =>
   (bif x17.fName==x74.fName then
    some (.inr (.inr (.inr (.inr false))))
   else
    some (.inl (wr (y_61+1))))
  else
   some (.inr (.inl ())))
noncomputable def zB1 (p_l:(List GAxis)) (y_8:Int):Option (Int ⊕ (Unit ⊕ Bool)) :=
  (bif decide (y_8<(p_l.length:Int)) then
   (xnth p_l y_8).bind fun x17 =>
   (zA1 x17.fName).bind fun r28 =>
   (bif !r28 then
    some true
   else
    (zAp x17.fName).bind fun r35 =>
    some (r35 !=x17.fName)).bind fun b40 =>
   (bif b40 then
    some true
   else
    (zEL x17).bind fun r43 =>
    some (!r43)).bind fun b48 =>
   (bif b48 then
    some (.inr (.inr false))
   else
    (xsub p_l 0 y_8).bind fun l50 =>
    (zAF (zB4 x17 l50) 0).bind fun r71=>match r71 with
    | .inr e=>some e
    | .inl _ =>
     some (.inl (wr (y_8+1))))
  else
   some (.inr (.inl ())))
noncomputable def zCR (p_l:(List GAxis)):Option Bool :=
 (bif ((decide ((p_l.length:Int)<1))||(decide (4<(p_l.length:Int)))) then
  some false
 else
  (zAF (zB1 p_l) 0).bind fun r14=>match r14 with
  | .inr e=>some e
  | .inl _ =>
   some true)
noncomputable def zAR (p_s:(List (List Str))) (p_f:((List Str)→Option Bool)) (y_5:Int):Option (Int ⊕ (Unit ⊕ Int)) :=
  (bif decide (y_5<(p_s.length:Int)) then
   (xnth p_s y_5).bind fun x14 =>
   (p_f x14).bind fun r19 =>
   (bif r19 then
    some (.inr (.inr y_5))
   else
    some (.inl (wr (y_5+1))))
  else
   some (.inr (.inl ())))
noncomputable def zA2 (p_s:(List (List Str))) (p_f:((List Str)→Option Bool)):Option Int :=
 (zAF (zAR p_s p_f) 0).bind fun r11=>match r11 with
 | .inr e=>some e
 | .inl _ =>
  some (-1)
noncomputable def zAX (p_s:(List (List Str))) (p_f:((List Str)→Option Bool)):Option Bool :=
 (zA2 p_s p_f).bind fun r1 =>
 some (decide (0≤r1))
noncomputable def zBQ (r1:(List Str)):((List GParam)×Int)→Option (((List GParam)×Int) ⊕ ((List GParam) ⊕ (Str×(List GParam)×Bool)))
 | (y_19,y_23) =>
  (bif decide (y_23<(r1.length:Int)) then
   (xnth r1 y_23).bind fun x37 =>
   (zD7 x37).bind fun r40 =>
   (bif r40==[] then
    some (.inl (y_19,wr (y_23+1)))
   else
    (zDZ r40 61 0).bind fun r46 =>
    (bif decide (r46<0) then
     some true
    else
     (xsub r40 0 r46).bind fun s53 =>
     (zA0 s53).bind fun r54 =>
     some (!r54)).bind fun b59 =>
    (bif b59 then
     some (.inr (.inr ([],([]:List GParam),false)))
    else
     (xsub r40 (wr (r46+1)) r40.length).bind fun s64 =>
     (zA0 s64).bind fun r65 =>
     ((bif !r65 then
      (zDu s64).bind fun r82 =>
      (bif !r82.2 then
       some (.inr (.inr (.inr ([],([]:List GParam),false))))
      else
       some (.inl r82.1))
     else
      some (.inl s64))).bind fun (j80:(Str ⊕ (((List GParam)×Int) ⊕ ((List GParam) ⊕ (Str×(List GParam)×Bool)))))=>match j80 with
     | .inr e=>some e
     | .inl y_77 =>
      (xsub r40 0 r46).bind fun s88 =>
      (zBN s88).bind fun r89 =>
      (xapp y_19 ([(⟨r89,y_77⟩:GParam)]:List GParam)).bind fun l99 =>
      some (.inl (l99,wr (y_23+1)))))
  else
   some (.inr (.inl y_19)))
noncomputable def zB2 (p_ppend:Str):Option (Str×(List GParam)×Bool) :=
 (zFr p_ppend 59).bind fun r1 =>
 (xnth r1 0).bind fun x7 =>
 (zD7 x7).bind fun r10 =>
 (bif r10==[] then
  some ([],([]:List GParam),false)
 else
  (zAF (zBQ r1) (([]:List GParam),1)).bind fun r34=>match r34 with
  | .inr e=>some e
  | .inl y_27 =>
   some (r10,y_27,true))
noncomputable def zBL (p_s:Str):Option (GMediaType×Bool) :=
 (zB2 p_s).bind fun r3 =>
 (bif !r3.2.2 then
  some ((⟨[],[],([]:List GParam)⟩:GMediaType),false)
 else
  (zDZ r3.1 47 0).bind fun r12 =>
  (bif decide (r12<0) then
   some true
  else
   (xsub r3.1 0 r12).bind fun s19 =>
   (zA0 s19).bind fun r20 =>
   some (!r20)).bind fun b25 =>
  (bif b25 then
   some true
  else
   (xsub r3.1 (wr (r12+1)) r3.1.length).bind fun s31 =>
   (zA0 s31).bind fun r32 =>
   some (!r32)).bind fun b37 =>
  (bif b37 then
   some true
  else
   (xsub r3.1 0 r12).bind fun s43 =>
   (bif s43==[42] then
    (xsub r3.1 (wr (r12+1)) r3.1.length).bind fun s46 =>
    some (s46 !=[42])
   else
    some false).bind fun b47 =>
   some (b47)).bind fun b48 =>
  (bif b48 then
   some ((⟨[],[],([]:List GParam)⟩:GMediaType),false)
  else
   (xsub r3.1 0 r12).bind fun s54 =>
   (zBN s54).bind fun r55 =>
   (xsub r3.1 (wr (r12+1)) r3.1.length).bind fun s60 =>
   (zBN s60).bind fun r61 =>
   some ((⟨r55,r61,r3.2.1⟩:GMediaType),true)))
noncomputable def zCg (p_s:Str):Option (GMediaType×Bool) :=
 (zBL p_s).bind fun r3 =>
 (bif (((!r3.2)||(r3.1.fType==[42]))||(r3.1.fSub==[42])) then
  some ((⟨[],[],([]:List GParam)⟩:GMediaType),false)
 else
  some (r3.1,true))
noncomputable def zBJ:(Str×(List Str))→Option ((Str×(List Str)) ⊕ (List Str))
 | (s_2,out_4) =>
  (zDZ s_2 45 0).bind fun r13 =>
  (bif decide (r13<0) then
   (xapp out_4 ([s_2]:List Str)).bind fun l24 =>
   some (.inr l24)
  else
   (xsub s_2 0 r13).bind fun s30 =>
   (xsub s_2 (wr (r13+1)) s_2.length).bind fun s31 =>
   (xapp out_4 ([s30]:List Str)).bind fun l37 =>
   some (.inl (s31,l37)))
noncomputable def zC6 (p_s:Str):Option (List Str) :=
 (zAF (zBJ) (p_s,([]:List Str))).bind fun r11=>some r11
noncomputable def zEU (r1:(List Str)) (y_9:Int) (y_31:Int):Option (Int ⊕ (Unit ⊕ (Int ⊕ (Unit ⊕ Bool)))) :=
  (xnth r1 y_9).bind fun x41 =>
  (bif decide (y_31<(x41.length:Int)) then
   (xnth r1 y_9).bind fun x45 =>
   (xnth x45 y_31).bind fun c48 =>
   (bif (((decide (97≤c48))&&(decide (c48≤122)))||((decide (65≤c48))&&(decide (c48≤90)))) then
    some true
   else
    (bif decide (0<y_9) then
     (zEB c48).bind fun r59 =>
     some (r59)
    else
     some false).bind fun b64 =>
    some (b64)).bind fun b68 =>
   (bif !b68 then
    some (.inr (.inr (.inr (.inr false))))
   else
    some (.inl (wr (y_31+1))))
  else
   some (.inr (.inl ())))
noncomputable def zEZ (r1:(List Str)) (y_9:Int):Option (Int ⊕ (Unit ⊕ Bool)) :=
  (bif decide (y_9<(r1.length:Int)) then
   (xnth r1 y_9).bind fun x18 =>
   (bif decide ((x18.length:Int)<1) then
    some true
   else
    (xnth r1 y_9).bind fun x23 =>
    some (decide (8<(x23.length:Int)))).bind fun b26 =>
   (bif b26 then
    some (.inr (.inr false))
   else
    (zAF (zEU r1 y_9) 0).bind fun r39=>match r39 with
    | .inr e=>some e
    | .inl _ =>
     some (.inl (wr (y_9+1))))
  else
   some (.inr (.inl ())))
noncomputable def zF4 (p_ppend:Str):Option Bool :=
 (zC6 p_ppend).bind fun r1 =>
 (zAF (zEZ r1) 0).bind fun r15=>match r15 with
 | .inr e=>some e
 | .inl _ =>
  some true
noncomputable def zBu (r11:(GMediaType×Bool)) (y_25:Int):(Bool×Int)→Option ((Bool×Int) ⊕ Bool)
 | (y_38,y_41) =>
  (bif decide (y_41<y_25) then
   (bif y_38 then
    (xnth r11.1.fParams y_25).bind fun x59 =>
    (xnth r11.1.fParams y_41).bind fun x63 =>
    some (x59.fName !=x63.fName)
   else
    some false).bind fun b67 =>
   some (.inl (b67,wr (y_41+1)))
  else
   some (.inr y_38))
noncomputable def zCP (r11:(GMediaType×Bool)):(Bool×Int)→Option ((Bool×Int) ⊕ Bool)
 | (y_23,y_25) =>
  (bif decide (y_25<(r11.1.fParams.length:Int)) then
   (zAF (zBu r11 y_25) (y_23,0)).bind fun y_45 =>
   (bif y_45 then
    (xnth r11.1.fParams y_25).bind fun x70 =>
    some (x70.fName !=[113])
   else
    some false).bind fun b74 =>
   some (.inl (b74,wr (y_25+1)))
  else
   some (.inr y_23))
noncomputable def zGO (p_ppend:Str) (p_x1:Str):Option Bool :=
 (zD5 p_ppend).bind fun r1 =>
 ((bif r1==1 then
  (zCg p_x1).bind fun r11 =>
  (zAF (zCP r11) (r11.2,0)).bind fun y_28 =>
  some (.inr y_28)
 else
  (bif r1==2 then
   (zF4 p_x1).bind fun r76 =>
   some (.inr r76)
  else
   ((bif r1==3 then
    some (r1==3)
   else
    some (r1==4))).bind fun (y_83:Bool) =>
   (bif y_83 then
    (zA0 p_x1).bind fun r89 =>
    some (.inr (r89&&(p_x1 !=[42])))
   else
    some (.inl ()))))).bind fun (j9:(Unit ⊕ Bool))=>match j9 with
 | .inr e=>some e
 | .inl _ =>
  (bif ((decide (1≤(p_x1.length:Int)))&&(decide ((p_x1.length:Int)≤100))) then
   (zHA p_x1).bind fun r100 =>
   some (r100)
  else
   some false).bind fun b105 =>
  (bif b105 then
   (zD7 p_x1).bind fun r111 =>
   some (r111==p_x1)
  else
   some false).bind fun b116 =>
  some b116
noncomputable def zAx (p_kind:Int) (p_s:Str):Option Str :=
 (zBN p_s).bind fun r1 =>
 (bif ((p_kind==4)&&(r1==[120,45,103,122,105,112])) then
  some [103,122,105,112]
 else
  (bif ((p_kind==4)&&(r1==[120,45,99,111,109,112,114,101,115,115])) then
   some [99,111,109,112,114,101,115,115]
  else
   some r1))
noncomputable def zFw (p_axis:Str) (p_a:Str) (p_b:Str):Option Bool :=
 (zD5 p_axis).bind fun r1 =>
 (((bif r1==1 then
  some (r1==1)
 else
  some (r1==2))).bind fun (y_16:Bool) =>
 (bif y_16 then
  (zBi p_a p_b).bind fun r22 =>
  some (.inr r22)
 else
  ((bif r1==3 then
   some (r1==3)
  else
   some (r1==4))).bind fun (y_31:Bool) =>
  (bif y_31 then
   (zAx r1 p_a).bind fun r37 =>
   (zAx r1 p_b).bind fun r42 =>
   some (.inr (r37==r42))
  else
   some (.inl ())))).bind fun (j10:(Unit ⊕ Bool))=>match j10 with
 | .inr e=>some e
 | .inl _ =>
  some (p_a==p_b)
noncomputable def zBl (p_x:GAxis) (i_26:Int) (k_50:Int):Option (Int ⊕ (Unit ⊕ (Int ⊕ (Unit ⊕ Bool)))) :=
  (bif decide (k_50<i_26) then
   (xnth p_x.fValues i_26).bind fun x64 =>
   (xnth p_x.fValues k_50).bind fun x67 =>
   (zFw p_x.fName x64 x67).bind fun r70 =>
   (bif r70 then
    some (.inr (.inr (.inr (.inr false))))
   else
    some (.inl (wr (k_50+1))))
  else
   some (.inr (.inl ())))
noncomputable def zBq (p_x:GAxis) (i_26:Int):Option (Int ⊕ (Unit ⊕ Bool)) :=
  (bif decide (i_26<(p_x.fValues.length:Int)) then
   (xnth p_x.fValues i_26).bind fun x38 =>
   (zGO p_x.fName x38).bind fun r41 =>
   (bif !r41 then
    some (.inr (.inr false))
   else
    (zAF (zBl p_x i_26) 0).bind fun r58=>match r58 with
    | .inr e=>some e
    | .inl _ =>
     some (.inl (wr (i_26+1))))
  else
   some (.inr (.inl ())))
noncomputable def zCe (p_x:GAxis):Option Bool :=
 (zA0 p_x.fName).bind fun r6 =>
 (bif !r6 then
  some true
 else
  (zBN p_x.fName).bind fun r13 =>
  some (r13 !=p_x.fName)).bind fun b18 =>
 (bif ((b18||(decide ((p_x.fValues.length:Int)<1)))||(decide (16<(p_x.fValues.length:Int)))) then
  some false
 else
  (zAF (zBq p_x) 0).bind fun r32=>match r32 with
  | .inr e=>some e
  | .inl _ =>
   some true)
noncomputable def zDI (p_l:(List GAxis)) (i_6:Int) (k_29:Int):Option (Int ⊕ (Unit ⊕ (Int ⊕ (Unit ⊕ Bool)))) :=
  (bif decide (k_29<i_6) then
   (xnth p_l i_6).bind fun x43 =>
   (xnth p_l k_29).bind fun x49 =>
   (bif x43.fName==x49.fName then
    some (.inr (.inr (.inr (.inr false))))
   else
    some (.inl (wr (k_29+1))))
  else
   some (.inr (.inl ())))
noncomputable def zDF (p_l:(List GAxis)) (i_6:Int):Option (Int ⊕ (Unit ⊕ Bool)) :=
  (bif decide (i_6<(p_l.length:Int)) then
   (xnth p_l i_6).bind fun x15 =>
   (zCe x15).bind fun r20 =>
   (bif !r20 then
    some (.inr (.inr false))
   else
    (zAF (zDI p_l i_6) 0).bind fun r37=>match r37 with
    | .inr e=>some e
    | .inl _ =>
     some (.inl (wr (i_6+1))))
  else
   some (.inr (.inl ())))
noncomputable def zGQ (p_l:(List GAxis)):Option Bool :=
 (bif ((decide ((p_l.length:Int)<1))||(decide (4<(p_l.length:Int)))) then
  some false
 else
  (zAF (zDF p_l) 0).bind fun r12=>match r12 with
  | .inr e=>some e
  | .inl _ =>
   some true)
noncomputable def zBD (p_l:(List GParam)) (p_p:GParam) (y_7:Int):Option (Int ⊕ (Unit ⊕ Bool)) :=
  (bif decide (y_7<(p_l.length:Int)) then
   (xnth p_l y_7).bind fun x16 =>
   (bif x16.fName==p_p.fName then
    (zCp x16.fValue p_p.fValue).bind fun r24 =>
    some (r24)
   else
    some false).bind fun b29 =>
   (bif b29 then
    some (.inr (.inr true))
   else
    some (.inl (wr (y_7+1))))
  else
   some (.inr (.inl ())))
noncomputable def zCU (p_l:(List GParam)) (p_p:GParam):Option Bool :=
 (zAF (zBD p_l p_p) 0).bind fun r13=>match r13 with
 | .inr e=>some e
 | .inl _ =>
  some false
noncomputable def zBp (p_r:GMediaType) (p_t:GMediaType) (y_19:Int):Option (Int ⊕ (Unit ⊕ Int)) :=
  (bif decide (y_19<(p_r.fParams.length:Int)) then
   (xnth p_r.fParams y_19).bind fun x29 =>
   (zCU p_t.fParams x29).bind fun r35 =>
   (bif !r35 then
    some (.inr (.inr (-1)))
   else
    some (.inl (wr (y_19+1))))
  else
   some (.inr (.inl ())))
noncomputable def zDm (p_r:GMediaType) (p_t:GMediaType):Option Int :=
 (bif ((p_r.fType==[42])&&(p_r.fSub==[42])) then
  some 0
 else
  (bif ((p_r.fSub==[42])&&(p_r.fType==p_t.fType)) then
   some 1
  else
   (bif ((p_r.fType !=p_t.fType)||(p_r.fSub !=p_t.fSub)) then
    some (-1)
   else
    (zAF (zBp p_r p_t) 0).bind fun r26=>match r26 with
    | .inr e=>some e
    | .inl _ =>
     some (wr (2+(p_r.fParams.length:Int))))))
noncomputable def zDD (p_s:Str):Option Bool :=
 (bif p_s==[42] then
  some true
 else
  (zDd p_s).bind fun r3 =>
  some (r3)).bind fun b8 =>
 some b8
noncomputable def zEE (p_s:Str) (p_prefix:Str):Option Bool :=
 (zBj p_s p_prefix).bind fun r1 =>
 some r1
noncomputable def zEH (p_r:Str) (p_tag:Str):Option Int :=
 (zDD p_r).bind fun r1 =>
 (bif !r1 then
  some true
 else
  (zDd p_tag).bind fun r8 =>
  some (!r8)).bind fun b13 =>
 (bif b13 then
  some (-1)
 else
  (bif p_r==[42] then
   some 0
  else
   (zAp p_tag).bind fun r19 =>
   (xcat r19 [45]).bind fun s24 =>
   (zAp p_r).bind fun r25 =>
   (xcat r25 [45]).bind fun s30 =>
   (zEE s24 s30).bind fun r31 =>
   (bif !r31 then
    some (-1)
   else
    (zCr p_r [45]).bind fun r37 =>
    some (wr (r37+1)))))
end Go.Eng.Pure
