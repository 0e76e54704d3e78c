/- A part of the proof of laws of the seat: written by program over the translation. -/
import Derived.Test.YtipgfplekgdoiaaGreatDoorPure2
import Derived.Shelf.Strings.IndexAnyAll
import Derived.Laws.RangeAny
import Derived.Laws.Runes
import Derived.WalkMore
import Derived.Lib.OthersKept
import Derived.Shelf.RegionOpenPlain
import Derived.Shelf.Small.Utf8
set_option linter.unusedVariables false
namespace Go.Eng.Pure
open Go Go.Eng
set_option linter.unusedVariables false
noncomputable def zFd (p_kind:Int) (p_r:Str) (p_value:Str):Option Int :=
 (bif p_r==[42] then
  some 0
 else
  (zA4 p_kind p_r).bind fun r2 =>
  (zA4 p_kind p_value).bind fun r7 =>
  (bif r2==r7 then
   some 1
  else
   some (-1)))
noncomputable def zFW (p_kind:Int) (p_r:Str) (p_value:Str):Option Int :=
 ((bif p_kind==1 then
  (zA3 p_r).bind fun r5 =>
  (zCa p_value).bind fun r15 =>
  (bif ((!r5.2)||(!r15.2)) then
   some (.inr (-1))
  else
   (zDm r5.1 r15.1).bind fun r28 =>
   some (.inr r28))
 else
  (bif p_kind==2 then
   (zEH p_r p_value).bind fun r34 =>
   some (.inr r34)
  else
   ((bif p_kind==3 then
    some (p_kind==3)
   else
    some (p_kind==4))).bind fun (y_43:Bool) =>
   (bif y_43 then
    (zA1 p_r).bind fun r49 =>
    (bif !r49 then
     some true
    else
     (zA1 p_value).bind fun r56 =>
     some (!r56)).bind fun b61 =>
    (bif (b61||(p_value==[42])) then
     some (.inr (-1))
    else
     (zFd p_kind p_r p_value).bind fun r68 =>
     some (.inr r68))
   else
    some (.inl ()))))).bind fun (j3:(Unit ⊕ Int))=>match j3 with
 | .inr e=>some e
 | .inl _ =>
  some (-1)
noncomputable def zCk (p_kind:Int) (p_l:(List GPref)) (p_value:Str):(Int×Int×Int)→Option ((Int×Int×Int) ⊕ (Int×Int))
 | (best_5,q_7,y_11) =>
  (bif decide (y_11<(p_l.length:Int)) then
   (xnth p_l y_11).bind fun x26 =>
   (zFW p_kind x26.fRange p_value).bind fun r32 =>
   (bif decide (best_5<r32) then
    some (.inl (r32,x26.fQ,wr (y_11+1)))
   else
    some (.inl (best_5,q_7,wr (y_11+1))))
  else
   some (.inr (best_5,q_7)))
noncomputable def zEX (p_kind:Int) (p_l:(List GPref)) (p_present:Bool) (p_value:Str):Option Int :=
 (bif !p_present then
  some 1000
 else
  (zAF (zCk p_kind p_l p_value) ((-1),0,0)).bind fun r23=>match r23 with
  | (best_16,q_18) =>
   (bif ((decide (best_16<0))&&(p_kind==4)) then
    (zCp p_value [105,100,101,110,116,105,116,121]).bind fun r45 =>
    some (r45)
   else
    some false).bind fun b50 =>
   (bif b50 then
    some 1
   else
    some q_18))
noncomputable def zDb (qs_15:(List Int)) (r37:Int) (at_51:Int):Option (Int ⊕ Int) :=
  (bif decide (0<at_51) then
   (xnth qs_15 (wr (at_51 - 1))).bind fun x76 =>
   some (decide (x76<r37))
  else
   some false).bind fun b79 =>
  (bif b79 then
   some (.inl (wr (at_51 - 1)))
  else
   some (.inr at_51))
noncomputable def zB6 (p_kind:Int) (p_l:(List GPref)) (p_present:Bool) (p_values:(List Str)):((List Str)×(List Int)×Int)→Option (((List Str)×(List Int)×Int) ⊕ (List Str))
 | (out_11,qs_15,y_21) =>
  (bif decide (y_21<(p_values.length:Int)) then
   (xnth p_values y_21).bind fun x34 =>
   (zEX p_kind p_l p_present x34).bind fun r37 =>
   (bif decide (r37≤0) then
    some (.inl (out_11,qs_15,wr (y_21+1)))
   else
    (zAF (zDb qs_15 r37) (qs_15.length:Int)).bind fun at_64 =>
    (insS out_11 at_64 ([x34]:List Str)).bind fun l87 =>
    (insS qs_15 at_64 ([r37]:List Int)).bind fun l99 =>
    some (.inl (l87,l99,wr (y_21+1))))
  else
   some (.inr out_11))
noncomputable def zFs (p_kind:Int) (p_l:(List GPref)) (p_present:Bool) (p_values:(List Str)):Option (List Str) :=
 (zAF (zB6 p_kind p_l p_present p_values) (([]:List Str),([]:List Int),0)).bind fun out_24 =>
 some out_24
noncomputable def zAV (p_s:(List Str)):Option (List Str) :=
 xapp [] p_s
noncomputable def zAf (p_s:(List GField)):Option (List GField) :=
 xapp [] p_s
noncomputable def zDG (p_e:GEntry):(Int×(List (List Str))×(List Str)×(List Str)×Str×(List GField)×Str×Int×Int)→Option ((Int×(List (List Str))×(List Str)×(List Str)×Str×(List GField)×Str×Int×Int) ⊕ ((List (List Str))×(List Str)×(List Str)×Str×(List GField)×Str×Int×Int))
 | (y_14,m16,m19,m22,m25,m26,m29,m30,m31) =>
  (bif decide (y_14<(p_e.fKeys.length:Int)) then
   (xnth p_e.fKeys y_14).bind fun x57 =>
   (zAV x57).bind fun r62 =>
   (xapp m16 ([r62]:List (List Str))).bind fun l73 =>
   some (.inl (wr (y_14+1),l73,m19,m22,m25,m26,m29,m30,m31))
  else
   some (.inr (m16,m19,m22,m25,m26,m29,m30,m31)))
noncomputable def zD6 (p_e:GEntry):Option GEntry :=
 (zAF (zDG p_e) (0,([]:List (List Str)),p_e.fVary,p_e.fSnapshot,p_e.fReason,p_e.fFields,p_e.fBody,p_e.fRequested,p_e.fReceived)).bind fun r54=>match r54 with
 | (m35,m38,m41,m44,m45,m48,m49,m50) =>
  (zAV m38).bind fun r80 =>
  (zAV m41).bind fun r86 =>
  (zAf m45).bind fun r92 =>
  some (⟨m35,r80,r86,m44,r92,m48,m49,m50⟩:GEntry)
noncomputable def zFS (p_l:(List GAxis)) (i_3:Int):Option (Int ⊕ (Unit ⊕ Bool)) :=
  (bif ((decide (i_3<(p_l.length:Int)))&&(decide (i_3<7))) then
   (xnth p_l i_3).bind fun x15 =>
   (bif decide (100<(x15.fName.length:Int)) then
    some true
   else
    (xnth p_l i_3).bind fun x23 =>
    (zCh x23.fValues).bind fun r29 =>
    some (!r29)).bind fun b34 =>
   (bif b34 then
    some (.inr (.inr false))
   else
    some (.inl (wr (i_3+1))))
  else
   some (.inr (.inl ())))
noncomputable def zHr (p_l:(List GAxis)):Option Bool :=
 (zAF (zFS p_l) 0).bind fun r10=>match r10 with
 | .inr e=>some e
 | .inl _ =>
  some (decide ((p_l.length:Int)≤6))
noncomputable def zEr (p_t:GTable) (i_5:Int):Option (Int ⊕ (Unit ⊕ Bool)) :=
  (bif ((decide (i_5<(p_t.fEntries.length:Int)))&&(decide (i_5<9))) then
   (xnth p_t.fEntries i_5).bind fun x17 =>
   (zHC x17).bind fun r28 =>
   (bif !r28 then
    some (.inr (.inr false))
   else
    some (.inl (wr (i_5+1))))
  else
   some (.inr (.inl ())))
noncomputable def zG4 (p_t:GTable):Option Bool :=
 (zAF (zEr p_t) 0).bind fun r12=>match r12 with
 | .inr e=>some e
 | .inl _ =>
  (bif decide ((p_t.fEntries.length:Int)≤8) then
   (zHr p_t.fAxes).bind fun r36 =>
   some (r36)
  else
   some false).bind fun b41 =>
  some b41
noncomputable def zFT (p_e:GEntry) (c_x0:(List GField)):Option Bool :=
 (zHD p_e.fVary p_e.fSnapshot c_x0).bind fun r3 =>
 some r3
noncomputable def zCv (p_l:(List GEntry)) (p_test:(GEntry→Option Bool)) (i_4:Int):Option (Int ⊕ (Unit ⊕ Int)) :=
  (bif decide (0≤i_4) then
   (xnth p_l i_4).bind fun x13 =>
   (p_test x13).bind fun r24 =>
   (bif r24 then
    some (.inr (.inr i_4))
   else
    some (.inl (wr (i_4 - 1))))
  else
   some (.inr (.inl ())))
noncomputable def zE6 (p_l:(List GEntry)) (p_test:(GEntry→Option Bool)):Option Int :=
 (zAF (zCv p_l p_test) (wr ((p_l.length:Int) - 1))).bind fun r10=>match r10 with
 | .inr e=>some e
 | .inl _ =>
  some (-1)
noncomputable def zCA (p_p:GParam):Option Bool :=
 some (p_p.fName==[113])
noncomputable def zHK (p_s:Str):((List UInt8)×Int)→Option (((List UInt8)×Int) ⊕ (List UInt8))
 | (out_8,y_13) =>
  (bif decide (y_13<(p_s.length:Int)) then
   (xnth p_s y_13).bind fun c26 =>
   (bif c26==34 then
    some true
   else
    (xnth p_s y_13).bind fun c29 =>
    some (c29==92)).bind fun b30 =>
   ((bif b30 then
    (xapp out_8 ([92]:List UInt8)).bind fun l48 =>
    some l48
   else
    some out_8)).bind fun (out_33:(List UInt8)) =>
   (xnth p_s y_13).bind fun c54 =>
   (xapp out_33 ([c54]:List UInt8)).bind fun l60 =>
   some (.inl (l60,wr (y_13+1)))
  else
   some (.inr out_8))
noncomputable def zHU (p_s:Str):Option Str :=
 (zAF (zHK p_s) (([34]:List UInt8),0)).bind fun out_16 =>
 (xapp out_16 ([34]:List UInt8)).bind fun l71 =>
 some l71
noncomputable def zCm (p_l:(List GParam)):(Int×(List UInt8))→Option ((Int×(List UInt8)) ⊕ (List UInt8))
 | (y_20,m24) =>
  (bif decide (y_20<(p_l.length:Int)) then
   (xnth p_l y_20).bind fun x40 =>
   (xcat [59] x40.fName).bind fun s46 =>
   (xcat s46 [61]).bind fun s47 =>
   (zAN s47 m24).bind fun r48 =>
   (zA1 x40.fValue).bind fun r58 =>
   (bif r58 then
    (zAN x40.fValue r48.2.2).bind fun r64 =>
    some (.inl (wr (y_20+1),r64.2.2))
   else
    (zHU x40.fValue).bind fun r74 =>
    (zAN r74 r48.2.2).bind fun r79 =>
    some (.inl (wr (y_20+1),r79.2.2)))
  else
   some (.inr m24))
noncomputable def zFV (p_value:Str) (p_l:(List GParam)):Option Str :=
 (zAN p_value ([]:List UInt8)).bind fun r6 =>
 (zAF (zCm p_l) (0,r6.2.2)).bind fun m31 =>
 (zA7 m31).bind fun r89 =>
 some r89
noncomputable def zDR (p_t:GMediaType):Option Str :=
 (xcat p_t.fType [47]).bind fun s3 =>
 (xcat s3 p_t.fSub).bind fun s4 =>
 (zFV s4 p_t.fParams).bind fun r5 =>
 some r5
noncomputable def zFP (c_x0:Str) (c_x1:(List GParam)):Option (Str×Bool) :=
 (zA3 c_x0).bind fun r1 =>
 (zDR (⟨r1.1.fType,r1.1.fSub,c_x1⟩:GMediaType)).bind fun r12 =>
 some (r12,r1.2)
noncomputable def zFJ (c_x0:Int) (c_x1:Str) (c_x2:(List GParam)):Option (Str×Bool) :=
 (zA4 c_x0 c_x1).bind fun r4 =>
 (zDD c_x1).bind fun r9 =>
 some (r4,(r9&&((c_x2.length:Int)==0)))
noncomputable def zEp (p_kind:Int) (p_value:Str) (p_params:(List GParam)):Option (Str×Bool) :=
 (bif decide (p_kind=1) then
  (zFP p_value p_params).bind fun r24 =>
  some (r24.1,r24.2)
 else
  (bif decide (p_kind=2) then
   (zFJ p_kind p_value p_params).bind fun r30 =>
   some (r30.1,r30.2)
  else
   (zA4 p_kind p_value).bind fun r38 =>
   (zA1 p_value).bind fun r43 =>
   some (r38,(r43&&((p_params.length:Int)==0)))))
noncomputable def zGC (p_kind:Int) (p_member:Str):Option (GPref×Bool) :=
 (zFL p_member).bind fun r3 =>
 (bif !r3.2.2 then
  some ((⟨[],0⟩:GPref),false)
 else
  (zAS r3.2.1 zCA).bind fun r12 =>
  ((bif decide (0≤r12) then
   (xnth r3.2.1 r12).bind fun x30 =>
   (zBs x30.fValue).bind fun r34 =>
   (bif !r34.2 then
    some (.inr ((⟨[],0⟩:GPref),false))
   else
    (xsub r3.2.1 0 r12).bind fun l41 =>
    some (.inl (l41,r34.1)))
  else
   some (.inl (r3.2.1,1000)))).bind fun (j28:(((List GParam)×Int) ⊕ (GPref×Bool)))=>match j28 with
  | .inr e=>some e
  | .inl (params_21,q_25) =>
   (zEp p_kind r3.1 params_21).bind fun r44 =>
   some ((⟨r44.1,q_25⟩:GPref),r44.2))
noncomputable def zCc (p_kind:Int) (r18:(List Str)):((List GPref)×Int)→Option (((List GPref)×Int) ⊕ (List GPref))
 | (out_26,y_32) =>
  (bif decide (y_32<(r18.length:Int)) then
   (xnth r18 y_32).bind fun x45 =>
   (zGC p_kind x45).bind fun r48 =>
   (bif r48.2 then
    (xapp out_26 ([r48.1]:List GPref)).bind fun l62 =>
    some (.inl (l62,wr (y_32+1)))
   else
    some (.inl (out_26,wr (y_32+1))))
  else
   some (.inr out_26))
noncomputable def zER (p_kind:Int) (p_l:(List GField)):Option ((List GPref)×Bool) :=
 (zBM p_kind).bind fun r1 =>
 (bif r1==[] then
  some true
 else
  (zDl p_l r1).bind fun r8 =>
  some (!r8)).bind fun b13 =>
 (bif b13 then
  some (([]:List GPref),false)
 else
  (zGF p_l r1).bind fun r18 =>
  (zAF (zCc p_kind r18) (([]:List GPref),0)).bind fun out_35 =>
  some (out_35,true))
noncomputable def zAc (p_s:(List Str)) (p_v:Str) (y_5:Int):Option (Int ⊕ (Unit ⊕ Int)) :=
  (bif decide (y_5<(p_s.length:Int)) then
   (xnth p_s y_5).bind fun x14 =>
   (bif p_v==x14 then
    some (.inr (.inr y_5))
   else
    some (.inl (wr (y_5+1))))
  else
   some (.inr (.inl ())))
noncomputable def zBg (p_s:(List Str)) (p_v:Str):Option Int :=
 (zAF (zAc p_s p_v) 0).bind fun r11=>match r11 with
 | .inr e=>some e
 | .inl _ =>
  some (-1)
noncomputable def zAb (p_s:(List Str)) (p_v:Str):Option Bool :=
 (zBg p_s p_v).bind fun r1 =>
 some (decide (0≤r1))
noncomputable def zDU (p_a:GAxis) (p_l:(List GField)) (p_strict:Bool):Option (List Str) :=
 (zCR ([p_a]:List GAxis)).bind fun r8 =>
 (bif !r8 then
  some ([]:List Str)
 else
  (zEA p_a.fName).bind fun r14 =>
  ((bif r14 !=0 then
   (zER r14 p_l).bind fun r29 =>
   (zFs r14 r29.1 r29.2 p_a.fValues).bind fun r36 =>
   some r36
  else
   (zGF p_l p_a.fName).bind fun r42 =>
   (zFy r42).bind fun r48 =>
   (zAb p_a.fValues r48).bind fun r53 =>
   (bif r53 then
    some ([r48]:List Str)
   else
    some ([]:List Str)))).bind fun (out_22:(List Str)) =>
  ((bif (((out_22.length:Int)==0)&&(!p_strict)) then
   (xnth p_a.fValues 0).bind fun x74 =>
   some ([x74]:List Str)
  else
   some out_22)).bind fun (out_67:(List Str)) =>
  some out_67)
noncomputable def zBY (p_ppend:(List GAxis)) (p_x1:(List GField)) (p_x2:Bool):(Int×(List (List Str)))→Option ((Int×(List (List Str))) ⊕ ((List (List Str)) ⊕ (List (List Str))))
 | (y_22,m24) =>
  (bif decide (y_22<(p_ppend.length:Int)) then
   (xnth p_ppend y_22).bind fun x42 =>
   (zDU x42 p_x1 p_x2).bind fun r50 =>
   (xnth m24 y_22).bind fun x56 =>
   (xput m24 y_22 r50).bind fun l57 =>
   (xnth l57 y_22).bind fun x62 =>
   (bif (x62.length:Int)==0 then
    some (.inr (.inr ([]:List (List Str))))
   else
    some (.inl (wr (y_22+1),l57)))
  else
   some (.inr (.inl m24)))
noncomputable def zBV (m32:(List (List Str))) (m86:(List Int)):(Int×(List Str))→Option ((Int×(List Str)) ⊕ (List Str))
 | (y_117,m119) =>
  (bif decide (y_117<(m86.length:Int)) then
   (xnth m86 y_117).bind fun x140 =>
   (xnth m32 y_117).bind fun x144 =>
   (xnth x144 x140).bind fun x151 =>
   (xnth m119 y_117).bind fun x154 =>
   (xput m119 y_117 x151).bind fun l155 =>
   some (.inl (wr (y_117+1),l155))
  else
   some (.inr m119))
noncomputable def zBX (m32:(List (List Str))):(Int×(List Int))→Option ((Int×(List Int)) ⊕ (Int×(List Int)))
 | (y_182,m184) =>
  (bif decide (0≤y_182) then
   (xnth m184 y_182).bind fun x210 =>
   (xnth m32 y_182).bind fun x214 =>
   some (x210==(wr ((x214.length:Int) - 1)))
  else
   some false).bind fun b221 =>
  (bif b221 then
   (xnth m184 y_182).bind fun x223 =>
   (xput m184 y_182 0).bind fun l224 =>
   some (.inl (wr (y_182 - 1),l224))
  else
   some (.inr (y_182,m184)))
noncomputable def zA8 (p_ppend:(List GAxis)) (p_x3:Int) (m32:(List (List Str))):((List (List Str))×(List Int))→Option (((List (List Str))×(List Int)) ⊕ (List (List Str)))
 | (y_81,m86) =>
  (bif decide ((y_81.length:Int)<p_x3) then
   (xmake (p_ppend.length:Int) ([]:Str)).bind fun l101 =>
   (zAF (zBV m32 m86) (0,l101)).bind fun m130 =>
   (xapp y_81 ([m130]:List (List Str))).bind fun l170 =>
   (zAF (zBX m32) (wr ((m86.length:Int) - 1),m86)).bind fun r203=>match r203 with
   | (y_194,m196) =>
    (bif decide (y_194<0) then
     some (.inr l170)
    else
     (xnth m196 y_194).bind fun x230 =>
     (xnth m196 y_194).bind fun x234 =>
     (xput m196 y_194 (wr (x230+1))).bind fun l235 =>
     some (.inl (l170,l235)))
  else
   some (.inr y_81))
noncomputable def zFi (p_ppend:(List GAxis)) (p_x1:(List GField)) (p_x2:Bool) (p_x3:Int):Option (List (List Str)) :=
 (zCR p_ppend).bind fun r1 =>
 (bif !r1 then
  some ([]:List (List Str))
 else
  (xmake (p_ppend.length:Int) (([]:List Str):(List Str))).bind fun l7 =>
  (zAF (zBY p_ppend p_x1 p_x2) (0,l7)).bind fun r39=>match r39 with
  | .inr e=>some e
  | .inl m32 =>
   (xmake (p_ppend.length:Int) (0:Int)).bind fun l70 =>
   (zAF (zA8 p_ppend p_x3 m32) (([]:List (List Str)),l70)).bind fun y_91 =>
   some y_91)
noncomputable def zEJ (p_axes:(List GAxis)) (p_l:(List GField)) (p_strict:Bool):Option ((List Str)×Bool) :=
 (zFi p_axes p_l p_strict 1).bind fun r1 =>
 (bif (r1.length:Int)==0 then
  some (([]:List Str),false)
 else
  (xnth r1 0).bind fun x8 =>
  some (x8,true))
noncomputable def zC8 (p_x:Str) (p_y:Str) (c_x1:(List GAxis)) (s0:Int):Option (Bool×Int) :=
 (xnth c_x1 (wr (s0+1))).bind fun x2 =>
 (zEs x2.fName p_x p_y).bind fun r8 =>
 some (r8,wr (s0+1))
noncomputable def zAM (p_s1:(List Str)) (p_s2:(List Str)) (q0:(List GAxis)):(Int×Int)→Option ((Int×Int) ⊕ (Int ⊕ (Bool×Int)))
 | (y_7,m9) =>
  (bif decide (y_7<(p_s1.length:Int)) then
   (xnth p_s1 y_7).bind fun x21 =>
   (xnth p_s2 y_7).bind fun x24 =>
   (zC8 x21 x24 q0 m9).bind fun r27 =>
   (bif !r27.1 then
    some (.inr (.inr (false,r27.2)))
   else
    some (.inl (wr (y_7+1),r27.2)))
  else
   some (.inr (.inl m9)))
noncomputable def zAn (p_s1:(List Str)) (p_s2:(List Str)) (q0:(List GAxis)) (s0:Int):Option (Bool×Int) :=
 (bif (p_s1.length:Int) !=(p_s2.length:Int) then
  some (false,s0)
 else
  (zAF (zAM p_s1 p_s2 q0) (0,s0)).bind fun r18=>match r18 with
  | .inr e=>some e
  | .inl m13 =>
   some (true,m13))
noncomputable def zD3 (p_axes:(List GAxis)) (p_a:(List Str)) (p_b:(List Str)):Option Bool :=
 (bif (p_a.length:Int) !=(p_axes.length:Int) then
  some false
 else
  (zAn p_a p_b p_axes (-1)).bind fun r11 =>
  some r11.1)
noncomputable def zFM (p_k:(List Str)) (c_x0:(List GAxis)) (c_x1:(List Str)):Option Bool :=
 (zD3 c_x0 p_k c_x1).bind fun r1 =>
 some r1
noncomputable def zGo (p_axes:(List GAxis)) (p_e:GEntry) (p_key:(List Str)):Option Bool :=
 (zAX p_e.fKeys (fun x0=>zFM x0 p_axes p_key)).bind fun r15 =>
 some r15
noncomputable def zFf (p_e:GEntry) (c_x0:GTable) (c_x1:(List Str)):Option Bool :=
 (zGo c_x0.fAxes p_e c_x1).bind fun r4 =>
 some r4
noncomputable def zE2 (p_t:GTable) (p_l:(List GField)) (p_strict:Bool):Option (Int×Bool) :=
 (bif (p_t.fAxes.length:Int)==0 then
  (zE6 p_t.fEntries (fun x0=>zFT x0 p_l)).bind fun r10 =>
  some (r10,true)
 else
  (zEJ p_t.fAxes p_l p_strict).bind fun r15 =>
  (bif !r15.2 then
   some ((-1),false)
  else
   (zE6 p_t.fEntries (fun x0=>zFf x0 p_t r15.1)).bind fun r34 =>
   some (r34,true)))
noncomputable def zBF (p_l:(List GParam)):(Str×Int)→Option ((Str×Int) ⊕ Str)
 | (value_2,i_5) =>
  (bif decide (i_5<(p_l.length:Int)) then
   (xnth p_l i_5).bind fun x16 =>
   (zA0 x16.fValue).bind fun r20 =>
   ((bif !r20 then
    (zE7 x16.fValue).bind fun r34 =>
    some r34
   else
    some x16.fValue)).bind fun (v_29:Str) =>
   (xnth p_l i_5).bind fun x39 =>
   (xcat [59] x39.fName).bind fun s43 =>
   (xcat s43 [61]).bind fun s44 =>
   (xcat s44 v_29).bind fun s45 =>
   (xcat value_2 s45).bind fun s46 =>
   some (.inl (s46,wr (i_5+1)))
  else
   some (.inr value_2))
noncomputable def zCV (p_value:Str) (p_l:(List GParam)):Option Str :=
 (zAF (zBF p_l) (p_value,0)).bind fun value_8 =>
 some value_8
noncomputable def zCF (p_t:GMediaType):Option Str :=
 (xcat p_t.fType [47]).bind fun s3 =>
 (xcat s3 p_t.fSub).bind fun s4 =>
 (zCV s4 p_t.fParams).bind fun r5 =>
 some r5
noncomputable def zED (p_s:Str):Option Bool :=
 (bif p_s==[42] then
  some true
 else
  (zF4 p_s).bind fun r3 =>
  some (r3)).bind fun b8 =>
 some b8
noncomputable def zBb (r3:(Str×(List GParam)×Bool)) (y_17:Int):Option (Int ⊕ Int) :=
  (bif decide (y_17<(r3.2.1.length:Int)) then
   (xnth r3.2.1 y_17).bind fun x33 =>
   some (x33.fName !=[113])
  else
   some false).bind fun b37 =>
  (bif b37 then
   some (.inl (wr (y_17+1)))
  else
   some (.inr y_17))
noncomputable def zFh (p_ppend:Int) (p_x1:Str):Option (GPref×Bool) :=
 (zB2 p_x1).bind fun r3 =>
 (bif !r3.2.2 then
  some ((⟨[],0⟩:GPref),false)
 else
  (zAF (zBb r3) 0).bind fun y_24 =>
  ((bif decide (y_24<(r3.2.1.length:Int)) then
   (xnth r3.2.1 y_24).bind fun x50 =>
   (zDc x50.fValue).bind fun r54 =>
   (bif !r54.2 then
    some (.inr ((⟨[],0⟩:GPref),false))
   else
    some (.inl r54.1))
  else
   some (.inl 1000))).bind fun (j48:(Int ⊕ (GPref×Bool)))=>match j48 with
  | .inr e=>some e
  | .inl y_45 =>
   ((bif p_ppend==1 then
    (zBL r3.1).bind fun r104 =>
    (xsub r3.2.1 0 y_24).bind fun l114 =>
    (zCF (⟨r104.1.fType,r104.1.fSub,l114⟩:GMediaType)).bind fun r118 =>
    some (.inr ((⟨r118,y_45⟩:GPref),r104.2))
   else
    (bif p_ppend==2 then
     (zED r3.1).bind fun r125 =>
     some (.inl r125)
    else
     (zA0 r3.1).bind fun r130 =>
     some (.inl r130)))).bind fun (j102:(Bool ⊕ (GPref×Bool)))=>match j102 with
   | .inr e=>some e
   | .inl y_97 =>
    (zAx p_ppend r3.1).bind fun r135 =>
    some ((⟨r135,y_45⟩:GPref),(y_97&&(y_24==0))))
noncomputable def zDL (p_kind:Int) (r28:(List Str)):((List GPref)×Int)→Option (((List GPref)×Int) ⊕ (List GPref))
 | (out_37,i_41) =>
  (bif decide (i_41<(r28.length:Int)) then
   (xnth r28 i_41).bind fun x54 =>
   (zFh p_kind x54).bind fun r57 =>
   (bif r57.2 then
    (xapp out_37 ([r57.1]:List GPref)).bind fun l71 =>
    some (.inl (l71,wr (i_41+1)))
   else
    some (.inl (out_37,wr (i_41+1))))
  else
   some (.inr out_37))
noncomputable def zFK (p_kind:Int) (p_l:(List GField)):Option ((List GPref)×Bool) :=
 (zBW p_kind).bind fun r1 =>
 (bif r1==[] then
  some true
 else
  (zBW p_kind).bind fun r8 =>
  (zHk p_l r8).bind fun r13 =>
  some (!r13)).bind fun b18 =>
 (bif b18 then
  some (([]:List GPref),false)
 else
  (zBW p_kind).bind fun r23 =>
  (zFC p_l r23).bind fun r28 =>
  (zAF (zDL p_kind r28) (([]:List GPref),0)).bind fun out_44 =>
  some (out_44,true))
noncomputable def zAy (p_ppend:GMediaType) (p_x1:GMediaType) (y_14:Int):(Bool×Int)→Option ((Bool×Int) ⊕ Bool)
 | (y_28,y_30) =>
  (bif decide (y_30<(p_x1.fParams.length:Int)) then
   (bif y_28 then
    some true
   else
    (xnth p_ppend.fParams y_14).bind fun x49 =>
    (xnth p_x1.fParams y_30).bind fun x53 =>
    (bif x49.fName==x53.fName then
     (xnth p_ppend.fParams y_14).bind fun x59 =>
     (xnth p_x1.fParams y_30).bind fun x63 =>
     (zBi x59.fValue x63.fValue).bind fun r67 =>
     some (r67)
    else
     some false).bind fun b72 =>
    some (b72)).bind fun b73 =>
   some (.inl (b73,wr (y_30+1)))
  else
   some (.inr y_28))
noncomputable def zBm (p_ppend:GMediaType) (p_x1:GMediaType) (y_14:Int):Option (Int ⊕ (Unit ⊕ Int)) :=
  (bif decide (y_14<(p_ppend.fParams.length:Int)) then
   (zAF (zAy p_ppend p_x1 y_14) (false,0)).bind fun y_36 =>
   (bif !y_36 then
    some (.inr (.inr (-1)))
   else
    some (.inl (wr (y_14+1))))
  else
   some (.inr (.inl ())))
noncomputable def zD2 (p_ppend:GMediaType) (p_x1:GMediaType):Option Int :=
 (bif ((p_ppend.fType==[42])&&(p_ppend.fSub==[42])) then
  some 0
 else
  (bif p_ppend.fType !=p_x1.fType then
   some (-1)
  else
   (bif p_ppend.fSub==[42] then
    some 1
   else
    (bif p_ppend.fSub !=p_x1.fSub then
     some (-1)
    else
     (zAF (zBm p_ppend p_x1) 0).bind fun r21=>match r21 with
     | .inr e=>some e
     | .inl _ =>
      some (wr (2+(p_ppend.fParams.length:Int)))))))
noncomputable def zBA (r19:(List Str)) (r25:(List Str)) (i_34:Int):Option (Int ⊕ (Unit ⊕ Int)) :=
  (bif decide (i_34<(r19.length:Int)) then
   (bif i_34==(r25.length:Int) then
    some true
   else
    (xnth r19 i_34).bind fun x49 =>
    (xnth r25 i_34).bind fun x52 =>
    (zBi x49 x52).bind fun r55 =>
    some (!r55)).bind fun b60 =>
   (bif b60 then
    some (.inr (.inr (-1)))
   else
    some (.inl (wr (i_34+1))))
  else
   some (.inr (.inl ())))
noncomputable def zEM (p_r:Str) (p_tag:Str):Option Int :=
 (zED p_r).bind fun r1 =>
 (bif !r1 then
  some true
 else
  (zF4 p_tag).bind fun r8 =>
  some (!r8)).bind fun b13 =>
 (bif b13 then
  some (-1)
 else
  (bif p_r==[42] then
   some 0
  else
   (zC6 p_r).bind fun r19 =>
   (zC6 p_tag).bind fun r25 =>
   (zAF (zBA r19 r25) 0).bind fun r41=>match r41 with
   | .inr e=>some e
   | .inl _ =>
    some (r19.length:Int)))
noncomputable def zCx (p_kind:Int) (p_r:Str) (p_value:Str):Option Int :=
 (bif p_r==[42] then
  some 0
 else
  (zAx p_kind p_r).bind fun r2 =>
  (zAx p_kind p_value).bind fun r7 =>
  (bif r2==r7 then
   some 1
  else
   some (-1)))
noncomputable def zGI (p_kind:Int) (p_r:Str) (p_value:Str):Option Int :=
 ((bif p_kind==1 then
  (zBL p_r).bind fun r5 =>
  (zCg p_value).bind fun r15 =>
  (bif (r5.2&&r15.2) then
   (zD2 r5.1 r15.1).bind fun r28 =>
   some (.inr r28)
  else
   some (.inl ()))
 else
  (bif p_kind==2 then
   (zEM p_r p_value).bind fun r34 =>
   some (.inr r34)
  else
   ((bif p_kind==3 then
    some (p_kind==3)
   else
    some (p_kind==4))).bind fun (y_43:Bool) =>
   (bif y_43 then
    (zA0 p_r).bind fun r49 =>
    (bif r49 then
     (zA0 p_value).bind fun r56 =>
     some (r56)
    else
     some false).bind fun b61 =>
    (bif (b61&&(p_value !=[42])) then
     (zCx p_kind p_r p_value).bind fun r68 =>
     some (.inr r68)
    else
     some (.inl ()))
   else
    some (.inl ()))))).bind fun (j3:(Unit ⊕ Int))=>match j3 with
 | .inr e=>some e
 | .inl _ =>
  some (-1)
noncomputable def zCJ (p_kind:Int) (p_l:(List GPref)) (p_value:Str):(Int×Int×Int)→Option ((Int×Int×Int) ⊕ Int)
 | (best_27,q_29,i_31) =>
  (bif decide (i_31<(p_l.length:Int)) then
   (xnth p_l i_31).bind fun x42 =>
   (zGI p_kind x42.fRange p_value).bind fun r46 =>
   (bif decide (best_27<r46) then
    (xnth p_l i_31).bind fun x55 =>
    some (.inl (r46,x55.fQ,wr (i_31+1)))
   else
    some (.inl (best_27,q_29,wr (i_31+1))))
  else
   some (.inr q_29))
noncomputable def zAz (p_kind:Int) (p_l:(List GPref)) (p_present:Bool) (p_value:Str):Option Int :=
 (bif !p_present then
  some 1000
 else
  (bif p_kind==4 then
   (zBi p_value [105,100,101,110,116,105,116,121]).bind fun r4 =>
   some (r4)
  else
   some false).bind fun b9 =>
  ((bif b9 then
   some 1
  else
   some 0)).bind fun (q_18:Int) =>
  (zAF (zCJ p_kind p_l p_value) ((-1),q_18,0)).bind fun q_34 =>
  some q_34)
noncomputable def zCu (p_ppend:Int) (p_x1:(List GPref)) (p_x2:Bool) (p_x3:(List Str)) (y_6:(List Str)) (y_27:Int):(Int×Int)→Option ((Int×Int) ⊕ Int)
 | (y_47,y_49) =>
  (bif decide (y_49<(p_x3.length:Int)) then
   (xnth p_x3 y_49).bind fun x65 =>
   (zAz p_ppend p_x1 p_x2 x65).bind fun r68 =>
   (bif (((y_6.length:Int)==0)||(decide (r68<y_27))) then
    some (.inl ((if y_47<r68 then r68 else y_47),wr (y_49+1)))
   else
    some (.inl (y_47,wr (y_49+1))))
  else
   some (.inr y_47))
noncomputable def zC5 (p_ppend:Int) (p_x1:(List GPref)) (p_x2:Bool) (p_x3:(List Str)) (y_57:Int):((List Str)×Int)→Option (((List Str)×Int) ⊕ (List Str))
 | (y_82,y_87) =>
  (bif decide (y_87<(p_x3.length:Int)) then
   (xnth p_x3 y_87).bind fun x104 =>
   (zAz p_ppend p_x1 p_x2 x104).bind fun r107 =>
   (bif r107==y_57 then
    (xnth p_x3 y_87).bind fun x113 =>
    (xapp y_82 ([x113]:List Str)).bind fun l121 =>
    some (.inl (l121,wr (y_87+1)))
   else
    some (.inl (y_82,wr (y_87+1))))
  else
   some (.inr y_82))
noncomputable def zCt (p_ppend:Int) (p_x1:(List GPref)) (p_x2:Bool) (p_x3:(List Str)) (y_6:(List Str)):Option ((List Str) ⊕ (List Str)) :=
  (bif decide ((y_6.length:Int)<(p_x3.length:Int)) then
   ((bif decide (0<(y_6.length:Int)) then
    (xnth y_6 (wr ((y_6.length:Int) - 1))).bind fun x32 =>
    (zAz p_ppend p_x1 p_x2 x32).bind fun r35 =>
    some r35
   else
    some 0)).bind fun (y_27:Int) =>
   (zAF (zCu p_ppend p_x1 p_x2 p_x3 y_6 y_27) (0,0)).bind fun y_57 =>
   (bif decide (y_57≤0) then
    some (.inr y_6)
   else
    (zAF (zC5 p_ppend p_x1 p_x2 p_x3 y_57) (y_6,0)).bind fun y_94 =>
    some (.inl y_94))
  else
   some (.inr y_6))
noncomputable def zE3 (p_ppend:Int) (p_x1:(List GPref)) (p_x2:Bool) (p_x3:(List Str)):Option (List Str) :=
 (zAF (zCt p_ppend p_x1 p_x2 p_x3) ([]:List Str)).bind fun y_11 =>
 some y_11
noncomputable def zB5 (p_ppend:GAxis) (r43:Str):((List Str)×Int)→Option (((List Str)×Int) ⊕ (List Str))
 | (y_51,y_56) =>
  (bif decide (y_56<(p_ppend.fValues.length:Int)) then
   (xnth p_ppend.fValues y_56).bind fun x71 =>
   (bif x71==r43 then
    (xapp y_51 ([r43]:List Str)).bind fun l80 =>
    some (.inl (l80,wr (y_56+1)))
   else
    some (.inl (y_51,wr (y_56+1))))
  else
   some (.inr y_51))
noncomputable def zFc (p_ppend:GAxis) (p_x1:(List GField)) (p_x2:Bool):Option (List Str) :=
 (zCe p_ppend).bind fun r3 =>
 (bif !r3 then
  some ([]:List Str)
 else
  (zD5 p_ppend.fName).bind fun r9 =>
  ((bif r9 !=0 then
   (zFK r9 p_x1).bind fun r24 =>
   (zE3 r9 r24.1 r24.2 p_ppend.fValues).bind fun r31 =>
   some r31
  else
   (zFC p_x1 p_ppend.fName).bind fun r37 =>
   (zD9 r37).bind fun r43 =>
   (zAF (zB5 p_ppend r43) (([]:List Str),0)).bind fun y_61 =>
   some y_61)).bind fun (y_17:(List Str)) =>
  ((bif (((y_17.length:Int)==0)&&(!p_x2)) then
   (xnth p_ppend.fValues 0).bind fun x96 =>
   some ([x96]:List Str)
  else
   some y_17)).bind fun (y_89:(List Str)) =>
  some y_89)
noncomputable def zC4 (out_16:(List (List Str))) (r38:(List Str)) (k_55:Int):((List (List Str))×Int)→Option (((List (List Str))×Int) ⊕ (List (List Str)))
 | (next_79,j_84) =>
  (bif decide (j_84<(r38.length:Int)) then
   (xnth out_16 k_55).bind fun x104 =>
   (xapp ([]:List Str) x104).bind fun l109 =>
   (xnth r38 j_84).bind fun x115 =>
   (xapp l109 ([x115]:List Str)).bind fun l123 =>
   (xapp next_79 ([l123]:List (List Str))).bind fun l134 =>
   some (.inl (l134,wr (j_84+1)))
  else
   some (.inr next_79))
noncomputable def zCz (out_16:(List (List Str))) (r38:(List Str)):((List (List Str))×Int)→Option (((List (List Str))×Int) ⊕ (List (List Str)))
 | (next_51,k_55) =>
  (bif decide (k_55<(out_16.length:Int)) then
   (zAF (zC4 out_16 r38 k_55) (next_51,0)).bind fun next_93 =>
   some (.inl (next_93,wr (k_55+1)))
  else
   some (.inr next_51))
noncomputable def zCy (p_axes:(List GAxis)) (p_l:(List GField)) (p_strict:Bool):((List (List Str))×Int)→Option (((List (List Str))×Int) ⊕ (List (List Str)))
 | (out_16,i_20) =>
  (bif decide (i_20<(p_axes.length:Int)) then
   (xnth p_axes i_20).bind fun x33 =>
   (zFc x33 p_l p_strict).bind fun r38 =>
   (zAF (zCz out_16 r38) (([]:List (List Str)),0)).bind fun next_62 =>
   some (.inl (next_62,wr (i_20+1)))
  else
   some (.inr out_16))
noncomputable def zIM (p_axes:(List GAxis)) (p_l:(List GField)) (p_strict:Bool):Option (List (List Str)) :=
 (zGQ p_axes).bind fun r1 =>
 (bif !r1 then
  some ([]:List (List Str))
 else
  (zAF (zCy p_axes p_l p_strict) (([([]:List Str)]:List (List Str)),0)).bind fun out_23 =>
  ((bif decide (64<(out_23.length:Int)) then
   (xsub out_23 0 64).bind fun l332 =>
   some l332
  else
   some out_23)).bind fun (out_325:(List (List Str))) =>
  some out_325)
noncomputable def zHB (p_axes:(List GAxis)) (p_l:(List GField)) (p_strict:Bool):Option ((List Str)×Bool) :=
 (zIM p_axes p_l p_strict).bind fun r1 =>
 (bif (r1.length:Int)==0 then
  some (([]:List Str),false)
 else
  (xnth r1 0).bind fun x8 =>
  some (x8,true))
noncomputable def zBh (p_axes:(List GAxis)) (p_a:(List Str)) (p_b:(List Str)) (i_8:Int):Option (Int ⊕ (Unit ⊕ Bool)) :=
  (bif decide (i_8<(p_axes.length:Int)) then
   (xnth p_axes i_8).bind fun x20 =>
   (xnth p_a i_8).bind fun x26 =>
   (xnth p_b i_8).bind fun x29 =>
   (zFw x20.fName x26 x29).bind fun r32 =>
   (bif !r32 then
    some (.inr (.inr false))
   else
    some (.inl (wr (i_8+1))))
  else
   some (.inr (.inl ())))
noncomputable def zEv (p_axes:(List GAxis)) (p_a:(List Str)) (p_b:(List Str)):Option Bool :=
 (bif (((p_a.length:Int) !=(p_axes.length:Int))||((p_b.length:Int) !=(p_axes.length:Int))) then
  some false
 else
  (zAF (zBh p_axes p_a p_b) 0).bind fun r14=>match r14 with
  | .inr e=>some e
  | .inl _ =>
   some true)
noncomputable def zDp (p_l:(List GAxis)):((List GAxis)×Int)→Option (((List GAxis)×Int) ⊕ (List GAxis))
 | (out_2,y_8) =>
  (bif decide (y_8<(p_l.length:Int)) then
   (xnth p_l y_8).bind fun x21 =>
   (zAV x21.fValues).bind fun r29 =>
   (xapp out_2 ([(⟨x21.fName,r29⟩:GAxis)]:List GAxis)).bind fun l40 =>
   some (.inl (l40,wr (y_8+1)))
  else
   some (.inr out_2))
noncomputable def zF7 (p_l:(List GAxis)):Option (List GAxis) :=
 (zAF (zDp p_l) (([]:List GAxis),0)).bind fun out_11 =>
 some out_11
noncomputable def zDK (p_t:GTable):(Int×(List GAxis)×(List GEntry))→Option ((Int×(List GAxis)×(List GEntry)) ⊕ ((List GAxis)×(List GEntry)))
 | (y_22,m24,m27) =>
  (bif decide (y_22<(p_t.fEntries.length:Int)) then
   (xnth p_t.fEntries y_22).bind fun x45 =>
   (zD6 x45).bind fun r59 =>
   (xapp m27 ([r59]:List GEntry)).bind fun l77 =>
   some (.inl (wr (y_22+1),m24,l77))
  else
   some (.inr (m24,m27)))
noncomputable def zGK (p_t:GTable):Option GTable :=
 (zF7 p_t.fAxes).bind fun r5 =>
 (zAF (zDK p_t) (0,r5,([]:List GEntry))).bind fun r42=>match r42 with
 | (m33,m36) =>
  some (⟨m33,m36⟩:GTable)
noncomputable def zAO (p_s1:(List GAxis)) (p_s2:(List GAxis)) (p_eq:(GAxis→GAxis→Option Bool)) (y_7:Int):Option (Int ⊕ (Unit ⊕ Bool)) :=
  (bif decide (y_7<(p_s1.length:Int)) then
   (xnth p_s1 y_7).bind fun x16 =>
   (xnth p_s2 y_7).bind fun x24 =>
   (p_eq x16 x24).bind fun r32 =>
   (bif !r32 then
    some (.inr (.inr false))
   else
    some (.inl (wr (y_7+1))))
  else
   some (.inr (.inl ())))
noncomputable def zAY (p_s1:(List GAxis)) (p_s2:(List GAxis)) (p_eq:(GAxis→GAxis→Option Bool)):Option Bool :=
 (bif (p_s1.length:Int) !=(p_s2.length:Int) then
  some false
 else
  (zAF (zAO p_s1 p_s2 p_eq) 0).bind fun r13=>match r13 with
  | .inr e=>some e
  | .inl _ =>
   some true)
noncomputable def zDT (p_x:GAxis) (p_y:GAxis):Option Bool :=
 (bif p_x.fName==p_y.fName then
  (zAa p_x.fValues p_y.fValues).bind fun r7 =>
  some (r7)
 else
  some false).bind fun b12 =>
 some b12
noncomputable def zEO (p_a:(List GAxis)) (p_b:(List GAxis)):Option Bool :=
 (zAY p_a p_b zDT).bind fun r1 =>
 some r1
noncomputable def zCG (p_k:(List Str)) (c_x0:(List GAxis)) (c_x1:GEntry):Option Bool :=
 (zGo c_x0 c_x1 p_k).bind fun r1 =>
 some r1
noncomputable def zDQ (p_axes:(List GAxis)) (p_e:GEntry) (p_old:GEntry):Option Bool :=
 (bif (p_axes.length:Int)==0 then
  (zAa p_e.fVary p_old.fVary).bind fun r8 =>
  (bif r8 then
   (zAa p_e.fSnapshot p_old.fSnapshot).bind fun r15 =>
   some (r15)
  else
   some false).bind fun b20 =>
  some b20
 else
  (zAX p_e.fKeys (fun x0=>zCG x0 p_axes p_old)).bind fun r32 =>
  some r32)
noncomputable def zFG (p_old:GEntry) (c_x0:(List GAxis)) (c_x1:GEntry):Option Bool :=
 (zDQ c_x0 c_x1 p_old).bind fun r3 =>
 some r3
noncomputable def zAP (p_s:(List GEntry)) (p_f:(GEntry→Option Bool)) (y_5:Int):Option (Int ⊕ (Unit ⊕ Int)) :=
  (bif decide (y_5<(p_s.length:Int)) then
   (xnth p_s y_5).bind fun x14 =>
   (p_f x14).bind fun r25 =>
   (bif r25 then
    some (.inr (.inr y_5))
   else
    some (.inl (wr (y_5+1))))
  else
   some (.inr (.inl ())))
noncomputable def zAl (p_s:(List GEntry)) (p_f:(GEntry→Option Bool)):Option Int :=
 (zAF (zAP p_s p_f) 0).bind fun r11=>match r11 with
 | .inr e=>some e
 | .inl _ =>
  some (-1)
noncomputable def zCi (p_e:GEntry) (i_8:Int):Option (Int ⊕ (Unit ⊕ Bool)) :=
  (bif decide (i_8<(p_e.fVary.length:Int)) then
   (xnth p_e.fVary (wr (i_8 - 1))).bind fun x20 =>
   (xnth p_e.fVary i_8).bind fun x23 =>
   (bif !(Op.bytesLess x20 x23) then
    some (.inr (.inr false))
   else
    some (.inl (wr (i_8+1))))
  else
   some (.inr (.inl ())))
noncomputable def zFZ (p_e:GEntry):Option Bool :=
 (bif ((decide (0<(p_e.fKeys.length:Int)))||((p_e.fVary.length:Int) !=(p_e.fSnapshot.length:Int))) then
  some false
 else
  (zAF (zCi p_e) 1).bind fun r14=>match r14 with
  | .inr e=>some e
  | .inl _ =>
   some true)
noncomputable def zBx (p_axes:(List GAxis)) (x21:(List Str)) (y_35:Int):Option (Int ⊕ (Unit ⊕ (Int ⊕ (Unit ⊕ Bool)))) :=
  (bif decide (y_35<(p_axes.length:Int)) then
   (xnth p_axes y_35).bind fun x48 =>
   (xnth x21 y_35).bind fun x59 =>
   (zAb x48.fValues x59).bind fun r62 =>
   (bif !r62 then
    some (.inr (.inr (.inr (.inr false))))
   else
    some (.inl (wr (y_35+1))))
  else
   some (.inr (.inl ())))
noncomputable def zCN (p_axes:(List GAxis)) (p_e:GEntry) (y_12:Int):Option (Int ⊕ (Unit ⊕ Bool)) :=
  (bif decide (y_12<(p_e.fKeys.length:Int)) then
   (xnth p_e.fKeys y_12).bind fun x21 =>
   (bif (x21.length:Int) !=(p_axes.length:Int) then
    some (.inr (.inr false))
   else
    (zAF (zBx p_axes x21) 0).bind fun r45=>match r45 with
    | .inr e=>some e
    | .inl _ =>
     some (.inl (wr (y_12+1))))
  else
   some (.inr (.inl ())))
noncomputable def zGE (p_axes:(List GAxis)) (p_e:GEntry):Option Bool :=
 (bif (((decide ((p_e.fKeys.length:Int)<1))||(decide (64<(p_e.fKeys.length:Int))))||(decide (0<(wr ((p_e.fVary.length:Int)+(p_e.fSnapshot.length:Int)))))) then
  some false
 else
  (zAF (zCN p_axes p_e) 0).bind fun r18=>match r18 with
  | .inr e=>some e
  | .inl _ =>
   some true)
noncomputable def zEu (p_old:GEntry) (c_x0:GTable) (c_x1:GEntry):Option Bool :=
 (zDQ c_x0.fAxes c_x1 p_old).bind fun r4 =>
 some r4
noncomputable def zCO (p_t:GTable) (y_29:Int):Option (Int ⊕ (Unit ⊕ Bool)) :=
  (bif decide (y_29<(p_t.fEntries.length:Int)) then
   (xnth p_t.fEntries y_29).bind fun x38 =>
   (bif (p_t.fAxes.length:Int)==0 then
    (zFZ x38).bind fun r54 =>
    (bif !r54 then
     some (.inr (.inr false))
    else
     some (.inl (wr (y_29+1))))
   else
    (zGE p_t.fAxes x38).bind fun r61 =>
    (bif !r61 then
     some true
    else
     (xsub p_t.fEntries 0 y_29).bind fun l73 =>
     (zE6 l73 (fun x0=>zEu x0 p_t x38)).bind fun r76 =>
     some (decide (0≤r76))).bind fun b81 =>
    (bif b81 then
     some (.inr (.inr false))
    else
     some (.inl (wr (y_29+1)))))
  else
   some (.inr (.inl ())))
noncomputable def zFQ (p_t:GTable) (p_limit:Int):Option Bool :=
 (bif decide (p_limit<(p_t.fEntries.length:Int)) then
  some true
 else
  (bif decide (0<(p_t.fAxes.length:Int)) then
   (zCR p_t.fAxes).bind fun r7 =>
   some (!r7)
  else
   some false).bind fun b12 =>
  some (b12)).bind fun b16 =>
 (bif b16 then
  some false
 else
  (zAF (zCO p_t) 0).bind fun r35=>match r35 with
  | .inr e=>some e
  | .inl _ =>
   some true)
noncomputable def zAQ (p_s:(List GEntry)) (p_del:(GEntry→Option Bool)):Option (List GEntry) :=
 (zAl p_s p_del).bind fun i=>delR p_s p_del i
noncomputable def zFB (p_t:GTable) (p_e:GEntry) (p_axes:(List GAxis)) (p_limit:Int):Option GTable :=
 (zGK p_t).bind fun r9 =>
 (zEO p_t.fAxes p_axes).bind fun r24 =>
 ((bif !r24 then
  (zF7 p_axes).bind fun r45 =>
  some (r45,([]:List GEntry))
 else
  some (r9.fAxes,r9.fEntries))).bind fun (j43:((List GAxis)×(List GEntry))) =>
 match j43 with
 | (m35,m38) =>
  (zAQ m38 (fun x0=>zFG x0 p_axes p_e)).bind fun l60 =>
  (zD6 p_e).bind fun r69 =>
  (xapp l60 ([r69]:List GEntry)).bind fun l87 =>
  (xsub l87 (if (wr ((l87.length:Int) - (if p_limit<0 then 0 else p_limit)))<0 then 0 else (wr ((l87.length:Int) - (if p_limit<0 then 0 else p_limit)))) l87.length).bind fun l96 =>
  some (⟨m35,l96⟩:GTable)
noncomputable def zGP:Option Bool :=
 (zFB (⟨([]:List GAxis),([]:List GEntry)⟩:GTable) (⟨([([[101,110]]:List Str),([[102,114]]:List Str)]:List (List Str)),([]:List Str),([]:List Str),[],([]:List GField),[49],0,0⟩:GEntry) ([(⟨[97,99,99,101,112,116,45,108,97,110,103,117,97,103,101],([[101,110],[102,114]]:List Str)⟩:GAxis)]:List GAxis) 5).bind fun r26 =>
 (zFB r26 (⟨([([[102,114]]:List Str)]:List (List Str)),([]:List Str),([]:List Str),[],([]:List GField),[50],0,0⟩:GEntry) ([(⟨[97,99,99,101,112,116,45,108,97,110,103,117,97,103,101],([[101,110],[102,114]]:List Str)⟩:GAxis)]:List GAxis) 5).bind fun r48 =>
 (zE2 r48 ([(⟨[65,99,99,101,112,116,45,76,97,110,103,117,97,103,101],[101,110]⟩:GField)]:List GField) true).bind fun r63 =>
 (bif (r48.fEntries.length:Int)==1 then
  (xnth r48.fEntries 0).bind fun x70 =>
  some (x70.fBody==[50])
 else
  some false).bind fun b82 =>
 (bif ((b82&&(r63.1==(-1)))&&r63.2) then
  (zFQ r48 5).bind fun r89 =>
  some (r89)
 else
  some false).bind fun b94 =>
 some b94
noncomputable def zQ8 (p_ppend:GTable) (x44:GEntry) (r75:((List Str)×Bool)) (y_87:Int):Option (Int ⊕ (Unit ⊕ Bool)) :=
  (bif decide (y_87<(x44.fKeys.length:Int)) then
   (bif r75.2 then
    (xnth x44.fKeys y_87).bind fun x101 =>
    (zEv p_ppend.fAxes x101 r75.1).bind fun r106 =>
    some (r106)
   else
    some false).bind fun b111 =>
   (bif b111 then
    (zGP).bind fun r113 =>
    some (.inr (.inr r113))
   else
    some (.inl (wr (y_87+1))))
  else
   some (.inr (.inl ())))
noncomputable def zQ9 (p_ppend:GTable) (p_x1:(List GField)) (p_x2:Bool):Option Bool :=
 (zG4 p_ppend).bind fun r3 =>
 (bif !r3 then
  some true
 else
  (zFD p_x1).bind fun r10 =>
  some (!r10)).bind fun b15 =>
 (bif b15 then
  some true
 else
  (zE2 p_ppend p_x1 p_x2).bind fun r20 =>
  (bif decide (r20.1<0) then
   (bif ((r20.1==(-1))&&(r20.2||(decide (0<(p_ppend.fAxes.length:Int))))) then
    (zGP).bind fun r32 =>
    some (r32)
   else
    some false).bind fun b37 =>
   some b37
  else
   (bif ((decide ((p_ppend.fEntries.length:Int)≤r20.1))||(!r20.2)) then
    some false
   else
    (xnth p_ppend.fEntries r20.1).bind fun x44 =>
    (bif (p_ppend.fAxes.length:Int)==0 then
     (zD1 x44.fVary x44.fSnapshot p_x1).bind fun r59 =>
     (bif r59 then
      (zGP).bind fun r66 =>
      some (r66)
     else
      some false).bind fun b71 =>
     some b71
    else
     (zHB p_ppend.fAxes p_x1 p_x2).bind fun r75 =>
     (zAF (zQ8 p_ppend x44 r75) 0).bind fun r93=>match r93 with
     | .inr e=>some e
     | .inl _ =>
      some false))))
end Go.Eng.Pure
