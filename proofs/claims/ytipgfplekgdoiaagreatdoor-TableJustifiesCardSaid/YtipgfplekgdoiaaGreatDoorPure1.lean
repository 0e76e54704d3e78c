/- A part of the proof of laws of the seat: written by program over the translation. -/
import Derived.Test.YtipgfplekgdoiaaGreatDoorEng37
set_option linter.unusedVariables false
namespace Go.Eng.Pure
open Go Go.Eng
set_option linter.unusedVariables false
structure GField where
 fName:Str
 fValue:Str
deriving DecidableEq
instance:Enc GField where
 sz:=2
 cells H cs x:=cs=[(str x.fName),(str x.fValue)]
 pos:=by decide
 len:=fun h=>by rw [h]; rfl
 mono:=fun h _=>h
 one:=by
  intro H cs x h v hv
  rw [h] at hv
  exact List.all_eq_true.1 (show List.all [(str x.fName),(str x.fValue)] Value.oneCell'=true from rfl) v hv
structure GETag where
 fWeak:Bool
 fTag:Str
deriving DecidableEq
instance:Enc GETag where
 sz:=2
 cells H cs x:=cs=[(boo x.fWeak),(str x.fTag)]
 pos:=by decide
 len:=fun h=>by rw [h]; rfl
 mono:=fun h _=>h
 one:=by
  intro H cs x h v hv
  rw [h] at hv
  exact List.all_eq_true.1 (show List.all [(boo x.fWeak),(str x.fTag)] Value.oneCell'=true from rfl) v hv
structure Gcachecontrol_directive where
 fform:Int
 fvalue:Str
deriving DecidableEq
instance:Enc Gcachecontrol_directive where
 sz:=2
 cells H cs x:=cs=[(int x.fform),(str x.fvalue)]
 pos:=by decide
 len:=fun h=>by rw [h]; rfl
 mono:=fun h _=>h
 one:=by
  intro H cs x h v hv
  rw [h] at hv
  exact List.all_eq_true.1 (show List.all [(int x.fform),(str x.fvalue)] Value.oneCell'=true from rfl) v hv
structure GControl where
 fNoStore:Bool
 fNoCache:Bool
 fMustRevalidate:Bool
 fProxyRevalidate:Bool
 fPrivate:Bool
 fPublic:Bool
 fOnlyIfCached:Bool
 fMaxAge:Int
 fSMaxAge:Int
 fMinFresh:Int
 fMaxStale:Int
deriving DecidableEq
instance:Enc GControl where
 sz:=11
 cells H cs x:=cs=[(boo x.fNoStore),(boo x.fNoCache),(boo x.fMustRevalidate),(boo x.fProxyRevalidate),(boo x.fPrivate),(boo x.fPublic),(boo x.fOnlyIfCached),(int x.fMaxAge),(int x.fSMaxAge),(int x.fMinFresh),(int x.fMaxStale)]
 pos:=by decide
 len:=fun h=>by rw [h]; rfl
 mono:=fun h _=>h
 one:=by
  intro H cs x h v hv
  rw [h] at hv
  exact List.all_eq_true.1 (show List.all [(boo x.fNoStore),(boo x.fNoCache),(boo x.fMustRevalidate),(boo x.fProxyRevalidate),(boo x.fPrivate),(boo x.fPublic),(boo x.fOnlyIfCached),(int x.fMaxAge),(int x.fSMaxAge),(int x.fMinFresh),(int x.fMaxStale)] Value.oneCell'=true from rfl) v hv
structure GEntry where
 fKeys:(List (List Str))
 fVary:(List Str)
 fSnapshot:(List Str)
 fReason:Str
 fFields:(List GField)
 fBody:Str
 fRequested:Int
 fReceived:Int
deriving DecidableEq
instance:Enc GEntry where
 sz:=8
 cells H cs x:=∃ u1 u2 u3 u4:Value,cs=[u1,u2,u3,(str x.fReason),u4,(str x.fBody),(int x.fRequested),(int x.fReceived)]∧Sl (α:=(List Str)) H u1 x.fKeys∧Sl (α:=Str) H u2 x.fVary∧Sl (α:=Str) H u3 x.fSnapshot∧Sl (α:=GField) H u4 x.fFields
 pos:=by decide
 len:=fun ⟨u1,u2,u3,u4,h,R0,R1,R2,R3⟩=>by rw [h]; rfl
 mono:=fun ⟨u1,u2,u3,u4,h,R0,R1,R2,R3⟩ hl=>⟨u1,u2,u3,u4,h,R0.mono hl,R1.mono hl,R2.mono hl,R3.mono hl⟩
 one:=fun ⟨u1,u2,u3,u4,h,R0,R1,R2,R3⟩ v hv=>by rw [h] at hv; exact AllOne.mem (.cons (Sl.oneC R0) (.cons (Sl.oneC R1) (.cons (Sl.oneC R2) (.cons rfl (.cons (Sl.oneC R3) (.cons rfl (.cons rfl (.cons rfl .nil)))))))) v hv
structure GResponse where
 fMinor:Int
 fStatus:Int
 fReason:Str
 fFields:(List GField)
 fBody:Str
deriving DecidableEq
instance:Enc GResponse where
 sz:=5
 cells H cs x:=∃ u1:Value,cs=[(int x.fMinor),(int x.fStatus),(str x.fReason),u1,(str x.fBody)]∧Sl (α:=GField) H u1 x.fFields
 pos:=by decide
 len:=fun ⟨u1,h,R0⟩=>by rw [h]; rfl
 mono:=fun ⟨u1,h,R0⟩ hl=>⟨u1,h,R0.mono hl⟩
 one:=fun ⟨u1,h,R0⟩ v hv=>by rw [h] at hv; exact AllOne.mem (.cons rfl (.cons rfl (.cons rfl (.cons (Sl.oneC R0) (.cons rfl .nil))))) v hv
structure GRequest where
 fMethod:Str
 fTarget:Str
 fMinor:Int
 fFields:(List GField)
 fBody:Str
deriving DecidableEq
instance:Enc GRequest where
 sz:=5
 cells H cs x:=∃ u1:Value,cs=[(str x.fMethod),(str x.fTarget),(int x.fMinor),u1,(str x.fBody)]∧Sl (α:=GField) H u1 x.fFields
 pos:=by decide
 len:=fun ⟨u1,h,R0⟩=>by rw [h]; rfl
 mono:=fun ⟨u1,h,R0⟩ hl=>⟨u1,h,R0.mono hl⟩
 one:=fun ⟨u1,h,R0⟩ v hv=>by rw [h] at hv; exact AllOne.mem (.cons rfl (.cons rfl (.cons rfl (.cons (Sl.oneC R0) (.cons rfl .nil))))) v hv
inductive Gvariants_domain where
 | media
 | tags
 | words (n:Int)
 | texts
deriving DecidableEq
structure GParam where
 fName:Str
 fValue:Str
deriving DecidableEq
instance:Enc GParam where
 sz:=2
 cells H cs x:=cs=[(str x.fName),(str x.fValue)]
 pos:=by decide
 len:=fun h=>by rw [h]; rfl
 mono:=fun h _=>h
 one:=by
  intro H cs x h v hv
  rw [h] at hv
  exact List.all_eq_true.1 (show List.all [(str x.fName),(str x.fValue)] Value.oneCell'=true from rfl) v hv
structure GMediaType where
 fType:Str
 fSub:Str
 fParams:(List GParam)
deriving DecidableEq
instance:Enc GMediaType where
 sz:=3
 cells H cs x:=∃ u1:Value,cs=[(str x.fType),(str x.fSub),u1]∧Sl (α:=GParam) H u1 x.fParams
 pos:=by decide
 len:=fun ⟨u1,h,R0⟩=>by rw [h]; rfl
 mono:=fun ⟨u1,h,R0⟩ hl=>⟨u1,h,R0.mono hl⟩
 one:=fun ⟨u1,h,R0⟩ v hv=>by rw [h] at hv; exact AllOne.mem (.cons rfl (.cons rfl (.cons (Sl.oneC R0) .nil))) v hv
structure GAxis where
 fName:Str
 fValues:(List Str)
deriving DecidableEq
instance:Enc GAxis where
 sz:=2
 cells H cs x:=∃ u1:Value,cs=[(str x.fName),u1]∧Sl (α:=Str) H u1 x.fValues
 pos:=by decide
 len:=fun ⟨u1,h,R0⟩=>by rw [h]; rfl
 mono:=fun ⟨u1,h,R0⟩ hl=>⟨u1,h,R0.mono hl⟩
 one:=fun ⟨u1,h,R0⟩ v hv=>by rw [h] at hv; exact AllOne.mem (.cons rfl (.cons (Sl.oneC R0) .nil)) v hv
structure GPref where
 fRange:Str
 fQ:Int
deriving DecidableEq
instance:Enc GPref where
 sz:=2
 cells H cs x:=cs=[(str x.fRange),(int x.fQ)]
 pos:=by decide
 len:=fun h=>by rw [h]; rfl
 mono:=fun h _=>h
 one:=by
  intro H cs x h v hv
  rw [h] at hv
  exact List.all_eq_true.1 (show List.all [(str x.fRange),(int x.fQ)] Value.oneCell'=true from rfl) v hv
structure GTable where
 fAxes:(List GAxis)
 fEntries:(List GEntry)
deriving DecidableEq
instance:Enc GTable where
 sz:=2
 cells H cs x:=∃ u1 u2:Value,cs=[u1,u2]∧Sl (α:=GAxis) H u1 x.fAxes∧Sl (α:=GEntry) H u2 x.fEntries
 pos:=by decide
 len:=fun ⟨u1,u2,h,R0,R1⟩=>by rw [h]; rfl
 mono:=fun ⟨u1,u2,h,R0,R1⟩ hl=>⟨u1,u2,h,R0.mono hl,R1.mono hl⟩
 one:=fun ⟨u1,u2,h,R0,R1⟩ v hv=>by rw [h] at hv; exact AllOne.mem (.cons (Sl.oneC R0) (.cons (Sl.oneC R1) .nil)) v hv
noncomputable def zAk (p_ppend:Str) (l26:(List Int)):(Int×Int)→Option ((Int×Int) ⊕ (Int ⊕ (Int×Bool)))
 | (y_31,y_35) =>
  (bif decide (y_35<(l26.length:Int)) then
   (xnth l26 y_35).bind fun x46 =>
   (bif y_35==1 then
    some (.inl (y_31,wr (y_35+1)))
   else
    (xnth p_ppend y_35).bind fun c50 =>
    (bif decide (c50<48) then
     some true
    else
     (xnth p_ppend y_35).bind fun c53 =>
     some (decide (57<c53))).bind fun b54 =>
    (bif b54 then
     some (.inr (.inr (0,false)))
    else
     (xnth p_ppend y_35).bind fun c56 =>
     some (.inl (wr (y_31+(wr (x46*((c56 - 48).toNat:Int)))),wr (y_35+1)))))
  else
   some (.inr (.inl y_31)))
noncomputable def zBs (p_ppend:Str):Option (Int×Bool) :=
 (bif ((p_ppend==[])||(decide (5<(p_ppend.length:Int)))) then
  some true
 else
  (xnth p_ppend 0).bind fun c5 =>
  (bif c5 !=48 then
   (xnth p_ppend 0).bind fun c8 =>
   some (c8 !=49)
  else
   some false).bind fun b9 =>
  some (b9)).bind fun b10 =>
 (bif b10 then
  some true
 else
  (bif decide (1<(p_ppend.length:Int)) then
   (xnth p_ppend 1).bind fun c15 =>
   some (c15 !=46)
  else
   some false).bind fun b16 =>
  some (b16)).bind fun b17 =>
 (bif b17 then
  some (0,false)
 else
  (xsub ([1000,0,100,10,1]:List Int) 0 (p_ppend.length:Int)).bind fun l26 =>
  (zAF (zAk p_ppend l26) (0,0)).bind fun r43=>match r43 with
  | .inr e=>some e
  | .inl y_38 =>
   (bif decide (1000<y_38) then
    some (0,false)
   else
    some (y_38,true)))
noncomputable def zEB (p_c:UInt8):Option Bool :=
 some ((decide (48≤p_c))&&(decide (p_c≤57)))
noncomputable def zBa (p_ppend:Str):(Int×Int×Int)→Option ((Int×Int×Int) ⊕ (Int ⊕ (Int×Bool)))
 | (y_22,y_24,y_26) =>
  (bif decide (y_26<(p_ppend.length:Int)) then
   (xnth p_ppend y_26).bind fun c37 =>
   (zEB c37).bind fun r38 =>
   (bif !r38 then
    some (.inr (.inr (0,false)))
   else
    (xnth p_ppend y_26).bind fun c44 =>
    (xquo y_24 10).bind fun n45 =>
    some (.inl (wr (y_22+(wr (((c44 - 48).toNat:Int)*y_24))),n45,wr (y_26+1))))
  else
   some (.inr (.inl y_22)))
noncomputable def zDc (p_ppend:Str):Option (Int×Bool) :=
 (bif ((decide ((p_ppend.length:Int)<1))||(decide (5<(p_ppend.length:Int)))) then
  some true
 else
  (xnth p_ppend 0).bind fun c5 =>
  (bif c5 !=48 then
   (xnth p_ppend 0).bind fun c8 =>
   some (c8 !=49)
  else
   some false).bind fun b9 =>
  some (b9)).bind fun b10 =>
 (bif b10 then
  some true
 else
  (bif decide (1<(p_ppend.length:Int)) then
   (xnth p_ppend 1).bind fun c15 =>
   some (c15 !=46)
  else
   some false).bind fun b16 =>
  some (b16)).bind fun b17 =>
 (bif b17 then
  some (0,false)
 else
  (xnth p_ppend 0).bind fun c19 =>
  (zAF (zBa p_ppend) (wr (((c19 - 48).toNat:Int)*1000),100,2)).bind fun r34=>match r34 with
  | .inr e=>some e
  | .inl y_29 =>
   (bif decide (1000<y_29) then
    some (0,false)
   else
    some (y_29,true)))
noncomputable def zDa (p_c:UInt8) (s_2:Str):Option (Str ⊕ Str) :=
  (bif decide (0<(s_2.length:Int)) then
   (xnth s_2 (wr ((s_2.length:Int) - 1))).bind fun c15 =>
   some (c15==p_c)
  else
   some false).bind fun b16 =>
  (bif b16 then
   (xsub s_2 0 (wr ((s_2.length:Int) - 1))).bind fun s18 =>
   some (.inl s18)
  else
   some (.inr s_2))
noncomputable def zET (p_s:Str) (p_c:UInt8):Option Str :=
 (zAF (zDa p_c) p_s).bind fun s_6 =>
 some s_6
noncomputable def zBC (p_as:Str) (s_2:Str):Option (Str ⊕ Str) :=
  (bif decide (0<(s_2.length:Int)) then
   (xnth s_2 (wr ((s_2.length:Int) - 1))).bind fun c14 =>
   (zAd p_as c14).bind fun r15 =>
   (bif !r15 then
    some (.inr s_2)
   else
    (xsub s_2 0 (wr ((s_2.length:Int) - 1))).bind fun s21 =>
    some (.inl s21))
  else
   some (.inr s_2))
noncomputable def zBf (p_s:Str) (p_as:Str):Option Str :=
 (zAF (zBC p_as) p_s).bind fun s_6 =>
 some s_6
noncomputable def zEP (p_l:(List GField)) (i_3:Int):Option (Int ⊕ (Unit ⊕ Bool)) :=
  (bif ((decide (i_3<(p_l.length:Int)))&&(decide (i_3<71))) then
   (xnth p_l i_3).bind fun x15 =>
   (bif decide (300<(x15.fName.length:Int)) then
    some true
   else
    (xnth p_l i_3).bind fun x21 =>
    some (decide (300<(x21.fValue.length:Int)))).bind fun b25 =>
   (bif b25 then
    some (.inr (.inr false))
   else
    some (.inl (wr (i_3+1))))
  else
   some (.inr (.inl ())))
noncomputable def zFD (p_l:(List GField)):Option Bool :=
 (zAF (zEP p_l) 0).bind fun r10=>match r10 with
 | .inr e=>some e
 | .inl _ =>
  some (decide ((p_l.length:Int)≤70))
noncomputable def zDH (p_s:Str):(Int×Str)→Option ((Int×Str) ⊕ Str)
 | (y_8,m10) =>
  (bif decide (y_8<(p_s.length:Int)) then
   (xnth m10 y_8).bind fun c22 =>
   (xnth m10 y_8).bind fun c24 =>
   (bif ((decide (65≤c24))&&(decide (c24≤90))) then
    (xnth m10 y_8).bind fun c28 =>
    some (.inl (wr (y_8+1),(m10.set y_8.toNat ((c24+97) - 65))))
   else
    some (.inl (wr (y_8+1),m10)))
  else
   some (.inr m10))
noncomputable def zAp (p_s:Str):Option Str :=
 (zAF (zDH p_s) (0,p_s)).bind fun m14 =>
 some m14
noncomputable def zC3 (p_f:GField) (c_x0:Str):Option Bool :=
 (bif (p_f.fName.length:Int)==(c_x0.length:Int) then
  (zAp p_f.fName).bind fun r8 =>
  some (r8==c_x0)
 else
  some false).bind fun b13 =>
 some b13
noncomputable def zCb (p_name:Str):Option (GField→Option Bool) :=
 (zAp p_name).bind fun r3 =>
 some (fun x0=>zC3 x0 r3)
noncomputable def zBd (p_l:(List GField)) (p_keep:(GField→Option Bool)):((List GField)×Int)→Option (((List GField)×Int) ⊕ (List GField))
 | (out_3,y_9) =>
  (bif decide (y_9<(p_l.length:Int)) then
   (xnth p_l y_9).bind fun x22 =>
   (p_keep x22).bind fun r28 =>
   (bif r28 then
    (xapp out_3 ([x22]:List GField)).bind fun l39 =>
    some (.inl (l39,wr (y_9+1)))
   else
    some (.inl (out_3,wr (y_9+1))))
  else
   some (.inr out_3))
noncomputable def zCK (p_l:(List GField)) (p_keep:(GField→Option Bool)):Option (List GField) :=
 (zAF (zBd p_l p_keep) (([]:List GField),0)).bind fun out_12 =>
 some out_12
noncomputable def zCI (r6:(List GField)):((List Str)×Int)→Option (((List Str)×Int) ⊕ (List Str))
 | (out_13,y_19) =>
  (bif decide (y_19<(r6.length:Int)) then
   (xnth r6 y_19).bind fun x32 =>
   (xapp out_13 ([x32.fValue]:List Str)).bind fun l43 =>
   some (.inl (l43,wr (y_19+1)))
  else
   some (.inr out_13))
noncomputable def zDw (p_l:(List GField)) (p_name:Str):Option (List Str) :=
 (zCb p_name).bind fun r1 =>
 (zCK p_l r1).bind fun r6 =>
 (zAF (zCI r6) (([]:List Str),0)).bind fun out_22 =>
 some out_22
noncomputable def zH1 (p_state:Int) (p_c:UInt8):Option Int :=
 (bif p_state==2 then
  some 1
 else
  (bif ((p_state==1)&&(p_c==92)) then
   some 2
  else
   (bif p_c==34 then
    some (wr (1 - p_state))
   else
    some p_state)))
noncomputable def zD0 (p_c:UInt8) (s_2:Str):Option (Str ⊕ Str) :=
  (bif decide (0<(s_2.length:Int)) then
   (xnth s_2 0).bind fun c15 =>
   some (c15==p_c)
  else
   some false).bind fun b16 =>
  (bif b16 then
   (xsub s_2 1 s_2.length).bind fun s18 =>
   some (.inl s18)
  else
   some (.inr s_2))
noncomputable def zEl (p_s:Str) (p_c:UInt8):Option Str :=
 (zAF (zD0 p_c) p_s).bind fun s_6 =>
 some s_6
noncomputable def zBH (p_as:Str) (s_2:Str):Option (Str ⊕ Str) :=
  (bif decide (0<(s_2.length:Int)) then
   (xnth s_2 0).bind fun c14 =>
   (zAd p_as c14).bind fun r15 =>
   (bif !r15 then
    some (.inr s_2)
   else
    (xsub s_2 1 s_2.length).bind fun s21 =>
    some (.inl s21))
  else
   some (.inr s_2))
noncomputable def zBn (p_s:Str) (p_as:Str):Option Str :=
 (zAF (zBH p_as) p_s).bind fun s_6 =>
 some s_6
noncomputable def zGy (p_s:Str) (p_cutset:Str):Option Str :=
 (bif ((p_s==[])||(p_cutset==[])) then
  some p_s
 else
  (bif (p_cutset.length:Int)==1 then
   (xnth p_cutset 0).bind fun c6 =>
   some (decide (c6<128))
  else
   some false).bind fun b7 =>
  (bif b7 then
   (xnth p_cutset 0).bind fun c12 =>
   (zET p_s c12).bind fun r13 =>
   (xnth p_cutset 0).bind fun c18 =>
   (zEl r13 c18).bind fun r19 =>
   some r19
  else
   (strings_makeASCIISet p_cutset).bind fun r24 =>
   (zBf p_s p_cutset).bind fun r36 =>
   (zBn r36 p_cutset).bind fun r41 =>
   some r41))
noncomputable def zEF (p_s:Str):Option Str :=
 (zGy p_s [32,9]).bind fun r1 =>
 some r1
noncomputable def zAq (p_value:Str):((List Str)×Int×Int×Int)→Option (((List Str)×Int×Int×Int) ⊕ (List Str))
 | (out_3,state_7,from_9,i_11) =>
  (bif ((decide (i_11≤(p_value.length:Int)))&&(decide ((out_3.length:Int)<64))) then
   (bif decide (i_11<(p_value.length:Int)) then
    (bif state_7 !=0 then
     some true
    else
     (xnth p_value i_11).bind fun c30 =>
     some (c30 !=44)).bind fun b31 =>
    some (b31)
   else
    some false).bind fun b32 =>
   (bif b32 then
    (xnth p_value i_11).bind fun c34 =>
    (zH1 state_7 c34).bind fun r35 =>
    some (.inl (out_3,r35,from_9,wr (i_11+1)))
   else
    (xsub p_value from_9 i_11).bind fun s40 =>
    (zEF s40).bind fun r41 =>
    (bif r41 !=[] then
     (xapp out_3 ([r41]:List Str)).bind fun l52 =>
     some (.inl (l52,state_7,wr (i_11+1),wr (i_11+1)))
    else
     some (.inl (out_3,state_7,wr (i_11+1),wr (i_11+1)))))
  else
   some (.inr out_3))
noncomputable def zG1 (p_value:Str):Option (List Str) :=
 (zAF (zAq p_value) (([]:List Str),0,0,0)).bind fun out_14 =>
 some out_14
noncomputable def zFA (r1:(List Str)):((List Str)×Int)→Option (((List Str)×Int) ⊕ (List Str))
 | (out_8,y_14) =>
  (bif decide (y_14<(r1.length:Int)) then
   (xnth r1 y_14).bind fun x27 =>
   (zG1 x27).bind fun r30 =>
   (xapp out_8 r30).bind fun l36 =>
   some (.inl (l36,wr (y_14+1)))
  else
   some (.inr out_8))
noncomputable def zGF (p_l:(List GField)) (p_name:Str):Option (List Str) :=
 (zDw p_l p_name).bind fun r1 =>
 (zAF (zFA r1) (([]:List Str),0)).bind fun out_17 =>
 (xsub out_17 0 (if 64<(out_17.length:Int) then 64 else (out_17.length:Int))).bind fun l42 =>
 some l42
noncomputable def zDE (p_s:Str):(Int×Str)→Option ((Int×Str) ⊕ Str)
 | (i_6,m8) =>
  (bif decide (i_6<(p_s.length:Int)) then
   (xnth m8 i_6).bind fun c20 =>
   (xnth m8 i_6).bind fun c22 =>
   (bif decide (65≤c22) then
    (xnth m8 i_6).bind fun c25 =>
    (xnth m8 i_6).bind fun c27 =>
    some (decide (c27≤90))
   else
    some false).bind fun b28 =>
   (bif b28 then
    (xnth m8 i_6).bind fun c30 =>
    (xnth m8 i_6).bind fun c32 =>
    (xnth m8 i_6).bind fun c33 =>
    some (.inl (wr (i_6+1),(m8.set i_6.toNat (c32+32))))
   else
    some (.inl (wr (i_6+1),m8)))
  else
   some (.inr m8))
noncomputable def zBN (p_s:Str):Option Str :=
 (zAF (zDE p_s) (0,p_s)).bind fun m12 =>
 some m12
noncomputable def zBi (p_a:Str) (p_b:Str):Option Bool :=
 (bif (p_a.length:Int)==(p_b.length:Int) then
  (zBN p_a).bind fun r3 =>
  (zBN p_b).bind fun r8 =>
  some (r3==r8)
 else
  some false).bind fun b13 =>
 some b13
noncomputable def zEa (p_l:(List GField)) (p_name:Str):((List Str)×Int)→Option (((List Str)×Int) ⊕ (List Str))
 | (out_4,i_8) =>
  (bif decide (i_8<(p_l.length:Int)) then
   (xnth p_l i_8).bind fun x21 =>
   (zBi x21.fName p_name).bind fun r25 =>
   (bif r25 then
    (xnth p_l i_8).bind fun x31 =>
    (xapp out_4 ([x31.fValue]:List Str)).bind fun l40 =>
    some (.inl (l40,wr (i_8+1)))
   else
    some (.inl (out_4,wr (i_8+1))))
  else
   some (.inr out_4))
noncomputable def zFz (p_l:(List GField)) (p_name:Str):Option (List Str) :=
 (zAF (zEa p_l p_name) (([]:List Str),0)).bind fun out_11 =>
 some out_11
noncomputable def zAW (p_s:Str) (p_at:UInt8):((List Str)×Int×Bool×Int)→Option (((List Str)×Int×Bool×Int) ⊕ ((List Str)×Int))
 | (out_4,from_8,quoted_10,i_12) =>
  (bif decide (i_12<(p_s.length:Int)) then
   (bif quoted_10 then
    (xnth p_s i_12).bind fun c30 =>
    some (c30==92)
   else
    some false).bind fun b31 =>
   (bif b31 then
    some (.inl (out_4,from_8,quoted_10,wr ((wr (i_12+1))+1)))
   else
    (xnth p_s i_12).bind fun c33 =>
    (bif c33==34 then
     some (.inl (out_4,from_8,!quoted_10,wr (i_12+1)))
    else
     (xnth p_s i_12).bind fun c35 =>
     (bif ((c35==p_at)&&(!quoted_10)) then
      (xsub p_s from_8 i_12).bind fun s39 =>
      (xapp out_4 ([s39]:List Str)).bind fun l45 =>
      some (.inl (l45,wr (i_12+1),quoted_10,wr (i_12+1)))
     else
      some (.inl (out_4,from_8,quoted_10,wr (i_12+1))))))
  else
   some (.inr (out_4,from_8)))
noncomputable def zFr (p_s:Str) (p_at:UInt8):Option (List Str) :=
 (zAF (zAW p_s p_at) (([]:List Str),0,false,0)).bind fun r25=>match r25 with
 | (out_16,from_20) =>
  (xsub p_s from_20 p_s.length).bind fun s51 =>
  (xapp out_16 ([s51]:List Str)).bind fun l57 =>
  some l57
noncomputable def zGG (p_c:UInt8):Option Bool :=
 some ((p_c==32)||(p_c==9))
noncomputable def zEn (s_2:Str):Option (Str ⊕ Str) :=
  (bif decide (0<(s_2.length:Int)) then
   (xnth s_2 0).bind fun c14 =>
   (zGG c14).bind fun r15 =>
   some (r15)
  else
   some false).bind fun b20 =>
  (bif b20 then
   (xsub s_2 1 s_2.length).bind fun s25 =>
   some (.inl s25)
  else
   some (.inr s_2))
noncomputable def zEq (s_27:Str):Option (Str ⊕ Str) :=
  (bif decide (0<(s_27.length:Int)) then
   (xnth s_27 (wr ((s_27.length:Int) - 1))).bind fun c39 =>
   (zGG c39).bind fun r40 =>
   some (r40)
  else
   some false).bind fun b45 =>
  (bif b45 then
   (xsub s_27 0 (wr ((s_27.length:Int) - 1))).bind fun s50 =>
   some (.inl s50)
  else
   some (.inr s_27))
noncomputable def zD7 (p_s:Str):Option Str :=
 (zAF (zEn) p_s).bind fun s_5 =>
 (zAF (zEq) s_5).bind fun s_30 =>
 some s_30
noncomputable def zBT (r1:(List Str)):((List Str)×Int)→Option (((List Str)×Int) ⊕ (List Str))
 | (out_8,i_13) =>
  (bif ((decide (i_13<(r1.length:Int)))&&(decide ((out_8.length:Int)<64))) then
   (xnth r1 i_13).bind fun x28 =>
   (zD7 x28).bind fun r31 =>
   (bif r31 !=[] then
    (xapp out_8 ([r31]:List Str)).bind fun l42 =>
    some (.inl (l42,wr (i_13+1)))
   else
    some (.inl (out_8,wr (i_13+1))))
  else
   some (.inr out_8))
noncomputable def zGB (p_value:Str):Option (List Str) :=
 (zFr p_value 44).bind fun r1 =>
 (zAF (zBT r1) (([]:List Str),0)).bind fun out_16 =>
 some out_16
noncomputable def zB7 (r29:(List Str)):((List Str)×Int)→Option (((List Str)×Int) ⊕ (List Str))
 | (out_36,k_43) =>
  (bif ((decide (k_43<(r29.length:Int)))&&(decide ((out_36.length:Int)<64))) then
   (xnth r29 k_43).bind fun x60 =>
   (xapp out_36 ([x60]:List Str)).bind fun l68 =>
   some (.inl (l68,wr (k_43+1)))
  else
   some (.inr out_36))
noncomputable def zEW (r1:(List Str)):((List Str)×Int)→Option (((List Str)×Int) ⊕ (List Str))
 | (out_8,i_13) =>
  (bif decide (i_13<(r1.length:Int)) then
   (xnth r1 i_13).bind fun x26 =>
   (zGB x26).bind fun r29 =>
   (zAF (zB7 r29) (out_8,0)).bind fun out_46 =>
   some (.inl (out_46,wr (i_13+1)))
  else
   some (.inr out_8))
noncomputable def zFC (p_l:(List GField)) (p_name:Str):Option (List Str) :=
 (zFz p_l p_name).bind fun r1 =>
 (zAF (zEW r1) (([]:List Str),0)).bind fun out_16 =>
 some out_16
noncomputable def zBO (p_a:(List Str)) (p_b:(List Str)) (i_5:Int):Option (Int ⊕ (Unit ⊕ Bool)) :=
  (bif decide (i_5<(p_a.length:Int)) then
   (xnth p_a i_5).bind fun x17 =>
   (xnth p_b i_5).bind fun x20 =>
   (bif x17 !=x20 then
    some (.inr (.inr false))
   else
    some (.inl (wr (i_5+1))))
  else
   some (.inr (.inl ())))
noncomputable def zC1 (p_a:(List Str)) (p_b:(List Str)):Option Bool :=
 (bif (p_a.length:Int) !=(p_b.length:Int) then
  some false
 else
  (zAF (zBO p_a p_b) 0).bind fun r11=>match r11 with
  | .inr e=>some e
  | .inl _ =>
   some true)
noncomputable def zDt (p_l:(List Str)) (i_3:Int):Option (Int ⊕ (Unit ⊕ Bool)) :=
  (bif ((decide (i_3<(p_l.length:Int)))&&(decide (i_3<21))) then
   (xnth p_l i_3).bind fun x15 =>
   (bif decide (100<(x15.length:Int)) then
    some (.inr (.inr false))
   else
    some (.inl (wr (i_3+1))))
  else
   some (.inr (.inl ())))
noncomputable def zCh (p_l:(List Str)):Option Bool :=
 (zAF (zDt p_l) 0).bind fun r10=>match r10 with
 | .inr e=>some e
 | .inl _ =>
  some (decide ((p_l.length:Int)≤20))
noncomputable def zFy (p_members:(List Str)):Option Str :=
 (strings_Join p_members [44,32]).bind fun r1 =>
 some r1
noncomputable def zDr (p_members:(List Str)):(Str×Int)→Option ((Str×Int) ⊕ Str)
 | (s_3,i_5) =>
  (bif decide (i_5<(p_members.length:Int)) then
   ((bif decide (0<i_5) then
    (xcat s_3 [44,32]).bind fun s24 =>
    some s24
   else
    some s_3)).bind fun (s_18:Str) =>
   (xnth p_members i_5).bind fun x25 =>
   (xcat s_18 x25).bind fun s28 =>
   some (.inl (s28,wr (i_5+1)))
  else
   some (.inr s_3))
noncomputable def zD9 (p_members:(List Str)):Option Str :=
 (zAF (zDr p_members) ([],0)).bind fun s_8 =>
 some s_8
noncomputable def zBv (p_s:Str) (p_c:UInt8) (i_4:Int):Option (Int ⊕ (Unit ⊕ Int)) :=
  (bif decide (i_4<(p_s.length:Int)) then
   (xnth p_s i_4).bind fun c13 =>
   (bif c13==p_c then
    some (.inr (.inr i_4))
   else
    some (.inl (wr (i_4+1))))
  else
   some (.inr (.inl ())))
noncomputable def zDZ (p_s:Str) (p_c:UInt8) (p_from:Int):Option Int :=
 (zAF (zBv p_s p_c) p_from).bind fun r10=>match r10 with
 | .inr e=>some e
 | .inl _ =>
  some (-1)
noncomputable def zBj (p_s:Str) (p_prefix:Str):Option Bool :=
 (bif decide ((p_prefix.length:Int)≤(p_s.length:Int)) then
  (xsub p_s 0 (p_prefix.length:Int)).bind fun s3 =>
  some (s3==p_prefix)
 else
  some false).bind fun b4 =>
 some b4
noncomputable def zCT (p_c:UInt8) (i_14:Int):Option (Int ⊕ (Unit ⊕ Bool)) :=
  (bif decide (i_14<15) then
   (xnth [33,35,36,37,38,39,42,43,45,46,94,95,96,124,126] i_14).bind fun c23 =>
   (bif c23==p_c then
    some (.inr (.inr true))
   else
    some (.inl (wr (i_14+1))))
  else
   some (.inr (.inl ())))
noncomputable def zDq (p_c:UInt8):Option Bool :=
 (bif ((((decide (97≤p_c))&&(decide (p_c≤122)))||((decide (65≤p_c))&&(decide (p_c≤90))))||((decide (48≤p_c))&&(decide (p_c≤57)))) then
  some true
 else
  (zAF (zCT p_c) 0).bind fun r20=>match r20 with
  | .inr e=>some e
  | .inl _ =>
   some false)
noncomputable def zDB (p_s:Str) (i_3:Int):Option (Int ⊕ (Unit ⊕ Bool)) :=
  (bif decide (i_3<(p_s.length:Int)) then
   (xnth p_s i_3).bind fun c13 =>
   (zDq c13).bind fun r14 =>
   (bif !r14 then
    some (.inr (.inr false))
   else
    some (.inl (wr (i_3+1))))
  else
   some (.inr (.inl ())))
noncomputable def zA0 (p_s:Str):Option Bool :=
 (zAF (zDB p_s) 0).bind fun r10=>match r10 with
 | .inr e=>some e
 | .inl _ =>
  some (p_s !=[])
noncomputable def zDA (p_s:Str):((List UInt8)×Int)→Option (((List UInt8)×Int) ⊕ (List UInt8))
 | (b_8,i_12) =>
  (bif decide (i_12<(p_s.length:Int)) then
   (xnth p_s i_12).bind fun c25 =>
   (bif c25==34 then
    some true
   else
    (xnth p_s i_12).bind fun c28 =>
    some (c28==92)).bind fun b29 =>
   ((bif b29 then
    (xapp b_8 ([92]:List UInt8)).bind fun l45 =>
    some l45
   else
    some b_8)).bind fun (b_32:(List UInt8)) =>
   (xnth p_s i_12).bind fun c51 =>
   (xapp b_32 ([c51]:List UInt8)).bind fun l57 =>
   some (.inl (l57,wr (i_12+1)))
  else
   some (.inr b_8))
noncomputable def zE7 (p_s:Str):Option Str :=
 (zAF (zDA p_s) (([34]:List UInt8),0)).bind fun b_15 =>
 (xapp b_15 ([34]:List UInt8)).bind fun l68 =>
 some l68
noncomputable def zEK (p_c:UInt8):Option Bool :=
 some (((p_c==9)||((decide (32≤p_c))&&(decide (p_c≤126))))||(decide (128≤p_c)))
noncomputable def zDi (p_s:Str) (i_3:Int):Option (Int ⊕ (Unit ⊕ Bool)) :=
  (bif decide (i_3<(p_s.length:Int)) then
   (xnth p_s i_3).bind fun c12 =>
   (zEK c12).bind fun r13 =>
   (bif !r13 then
    some (.inr (.inr false))
   else
    some (.inl (wr (i_3+1))))
  else
   some (.inr (.inl ())))
noncomputable def zHA (p_s:Str):Option Bool :=
 (zAF (zDi p_s) 0).bind fun r9=>match r9 with
 | .inr e=>some e
 | .inl _ =>
  some true
noncomputable def zG0 (p_c:UInt8):Option Bool :=
 (((bif p_c==33 then
  some (p_c==33)
 else
  (bif p_c==35 then
   some (p_c==35)
  else
   (bif p_c==36 then
    some (p_c==36)
   else
    (bif p_c==37 then
     some (p_c==37)
    else
     (bif p_c==38 then
      some (p_c==38)
     else
      (bif p_c==39 then
       some (p_c==39)
      else
       (bif p_c==42 then
        some (p_c==42)
       else
        (bif p_c==43 then
         some (p_c==43)
        else
         (bif p_c==45 then
          some (p_c==45)
         else
          (bif p_c==46 then
           some (p_c==46)
          else
           (bif p_c==94 then
            some (p_c==94)
           else
            (bif p_c==95 then
             some (p_c==95)
            else
             (bif p_c==96 then
              some (p_c==96)
             else
              (bif p_c==124 then
               some (p_c==124)
              else
               some (p_c==126)))))))))))))))).bind fun (y_7:Bool) =>
 (bif y_7 then
  some (.inr true)
 else
  some (.inl ()))).bind fun (j4:(Unit ⊕ Bool))=>match j4 with
 | .inr e=>some e
 | .inl _ =>
  some ((((decide (48≤p_c))&&(decide (p_c≤57)))||((decide (65≤p_c))&&(decide (p_c≤90))))||((decide (97≤p_c))&&(decide (p_c≤122))))
noncomputable def zDO (p_s:Str) (y_4:Int):Option (Int ⊕ (Unit ⊕ Bool)) :=
  (bif decide (y_4<(p_s.length:Int)) then
   (xnth p_s y_4).bind fun c14 =>
   (zG0 c14).bind fun r15 =>
   (bif !r15 then
    some (.inr (.inr false))
   else
    some (.inl (wr (y_4+1))))
  else
   some (.inr (.inl ())))
noncomputable def zA1 (p_s:Str):Option Bool :=
 (zAF (zDO p_s) 0).bind fun r11=>match r11 with
 | .inr e=>some e
 | .inl _ =>
  some (p_s !=[])
noncomputable def zDo (p_s:Str) (y_4:Int):Option (Int ⊕ (Unit ⊕ Bool)) :=
  (bif decide (y_4<(p_s.length:Int)) then
   (xnth p_s y_4).bind fun c13 =>
   (bif decide (c13<32) then
    (xnth p_s y_4).bind fun c16 =>
    some (c16 !=9)
   else
    some false).bind fun b17 =>
   (bif b17 then
    some true
   else
    (xnth p_s y_4).bind fun c20 =>
    some (c20==127)).bind fun b21 =>
   (bif b21 then
    some (.inr (.inr false))
   else
    some (.inl (wr (y_4+1))))
  else
   some (.inr (.inl ())))
noncomputable def zF6 (p_s:Str):Option Bool :=
 (zAF (zDo p_s) 0).bind fun r10=>match r10 with
 | .inr e=>some e
 | .inl _ =>
  some true
noncomputable def zAh (s22:Str):((List UInt8)×Int)→Option (((List UInt8)×Int) ⊕ ((List UInt8) ⊕ (Str×Bool)))
 | (out_25,i_29) =>
  (bif decide (i_29<(s22.length:Int)) then
   (xnth s22 i_29).bind fun c42 =>
   ((bif c42==34 then
    some (.inr (.inr (.inr ([],false))))
   else
    (bif c42==92 then
     (bif (wr (i_29+1))==(s22.length:Int) then
      some (.inr (.inr (.inr ([],false))))
     else
      some (.inl (wr (i_29+1))))
    else
     some (.inl i_29)))).bind fun (j49:(Int ⊕ (((List UInt8)×Int) ⊕ ((List UInt8) ⊕ (Str×Bool)))))=>match j49 with
   | .inr e=>some e
   | .inl i_46 =>
    (xnth s22 i_46).bind fun c53 =>
    (xapp out_25 ([c53]:List UInt8)).bind fun l59 =>
    some (.inl (l59,wr (i_46+1)))
  else
   some (.inr (.inl out_25)))
noncomputable def zDv (p_s:Str):Option (Str×Bool) :=
 (bif decide ((p_s.length:Int)<2) then
  some true
 else
  (xnth p_s 0).bind fun c3 =>
  some (c3 !=34)).bind fun b4 =>
 (bif b4 then
  some true
 else
  (xnth p_s (wr ((p_s.length:Int) - 1))).bind fun c7 =>
  some (c7 !=34)).bind fun b8 =>
 (bif b8 then
  some true
 else
  (xsub p_s 1 (wr ((p_s.length:Int) - 1))).bind fun s11 =>
  (zF6 s11).bind fun r12 =>
  some (!r12)).bind fun b17 =>
 (bif b17 then
  some ([],false)
 else
  (xsub p_s 1 (wr ((p_s.length:Int) - 1))).bind fun s22 =>
  (zAF (zAh s22) (([]:List UInt8),0)).bind fun r39=>match r39 with
  | .inr e=>some e
  | .inl out_32 =>
   some (out_32,true))
noncomputable def zAi (s10:Str):((List UInt8)×Int)→Option (((List UInt8)×Int) ⊕ ((List UInt8) ⊕ (Str×Bool)))
 | (b_13,i_17) =>
  (bif decide (i_17<(s10.length:Int)) then
   (xnth s10 i_17).bind fun c30 =>
   (bif c30==34 then
    some (.inr (.inr ([],false)))
   else
    (xnth s10 i_17).bind fun c32 =>
    ((bif c32==92 then
     (bif (wr (i_17+1))==(s10.length:Int) then
      some (.inr (.inr (.inr ([],false))))
     else
      some (.inl (wr (i_17+1))))
    else
     some (.inl i_17))).bind fun (j39:(Int ⊕ (((List UInt8)×Int) ⊕ ((List UInt8) ⊕ (Str×Bool)))))=>match j39 with
    | .inr e=>some e
    | .inl i_36 =>
     (xnth s10 i_36).bind fun c42 =>
     (zEK c42).bind fun r43 =>
     (bif !r43 then
      some (.inr (.inr ([],false)))
     else
      (xnth s10 i_36).bind fun c49 =>
      (xapp b_13 ([c49]:List UInt8)).bind fun l55 =>
      some (.inl (l55,wr (i_36+1)))))
  else
   some (.inr (.inl b_13)))
noncomputable def zDu (p_s:Str):Option (Str×Bool) :=
 (bif decide ((p_s.length:Int)<2) then
  some true
 else
  (xnth p_s 0).bind fun c3 =>
  some (c3 !=34)).bind fun b4 =>
 (bif b4 then
  some true
 else
  (xnth p_s (wr ((p_s.length:Int) - 1))).bind fun c7 =>
  some (c7 !=34)).bind fun b8 =>
 (bif b8 then
  some ([],false)
 else
  (xsub p_s 1 (wr ((p_s.length:Int) - 1))).bind fun s10 =>
  (zAF (zAi s10) (([]:List UInt8),0)).bind fun r27=>match r27 with
  | .inr e=>some e
  | .inl b_20 =>
   some (b_20,true))
noncomputable def zDl (p_l:(List GField)) (p_name:Str):Option Bool :=
 (zCb p_name).bind fun r1 =>
 (zCK p_l r1).bind fun r6 =>
 some (decide (0<(r6.length:Int)))
noncomputable def zCp (p_a:Str) (p_b:Str):Option Bool :=
 (bif (p_a.length:Int)==(p_b.length:Int) then
  (zAp p_a).bind fun r3 =>
  (zAp p_b).bind fun r8 =>
  some (r3==r8)
 else
  some false).bind fun b13 =>
 some b13
noncomputable def zHk (p_l:(List GField)) (p_name:Str):Option Bool :=
 (zFz p_l p_name).bind fun r1 =>
 some (decide (0<(r1.length:Int)))
noncomputable def zBM (p_kind:Int):Option Str :=
 (bif p_kind==1 then
  some [65,99,99,101,112,116]
 else
  (bif p_kind==2 then
   some [65,99,99,101,112,116,45,76,97,110,103,117,97,103,101]
  else
   (bif p_kind==3 then
    some [65,99,99,101,112,116,45,67,104,97,114,115,101,116]
   else
    (bif p_kind==4 then
     some [65,99,99,101,112,116,45,69,110,99,111,100,105,110,103]
    else
     some []))))
noncomputable def zEA (p_name:Str):Option Int :=
 (zBM 1).bind fun r1 =>
 (zCp p_name r1).bind fun r6 =>
 (bif r6 then
  some 1
 else
  (zBM 2).bind fun r12 =>
  (zCp p_name r12).bind fun r17 =>
  (bif r17 then
   some 2
  else
   (zBM 3).bind fun r23 =>
   (zCp p_name r23).bind fun r28 =>
   (bif r28 then
    some 3
   else
    (zBM 4).bind fun r34 =>
    (zCp p_name r34).bind fun r39 =>
    (bif r39 then
     some 4
    else
     some 0))))
noncomputable def zG5 (p_name:Str) (p_l:(List GField)):Option Str :=
 (zDl p_l p_name).bind fun r1 =>
 (bif !r1 then
  some []
 else
  (zGF p_l p_name).bind fun r7 =>
  (zEA p_name).bind fun r13 =>
  (bif ((r13 !=0)&&(decide ((r7.length:Int)<64))) then
   (zFy r7).bind fun r21 =>
   (zAp r21).bind fun r26 =>
   (xcat [61] r26).bind fun s31 =>
   some s31
  else
   (zDw p_l p_name).bind fun r32 =>
   (strings_Join r32 [44,32]).bind fun r38 =>
   (xcat [61] r38).bind fun s43 =>
   some s43))
noncomputable def zBW (p_kind:Int):Option Str :=
 (bif p_kind==1 then
  some [65,99,99,101,112,116]
 else
  (bif p_kind==2 then
   some [65,99,99,101,112,116,45,76,97,110,103,117,97,103,101]
  else
   (bif p_kind==3 then
    some [65,99,99,101,112,116,45,67,104,97,114,115,101,116]
   else
    (bif p_kind==4 then
     some [65,99,99,101,112,116,45,69,110,99,111,100,105,110,103]
    else
     some []))))
noncomputable def zD5 (p_name:Str):Option Int :=
 (zBW 1).bind fun r1 =>
 (zBi p_name r1).bind fun r6 =>
 (bif r6 then
  some 1
 else
  (zBW 2).bind fun r12 =>
  (zBi p_name r12).bind fun r17 =>
  (bif r17 then
   some 2
  else
   (zBW 3).bind fun r23 =>
   (zBi p_name r23).bind fun r28 =>
   (bif r28 then
    some 3
   else
    (zBW 4).bind fun r34 =>
    (zBi p_name r34).bind fun r39 =>
    (bif r39 then
     some 4
    else
     some 0))))
noncomputable def zDs (p_name:Str) (p_l:(List GField)):Option Str :=
 (zFz p_l p_name).bind fun r1 =>
 (bif (r1.length:Int)==0 then
  some []
 else
  (zD5 p_name).bind fun r8 =>
  ((bif r8 !=0 then
   (zFC p_l p_name).bind fun r18 =>
   (bif decide ((r18.length:Int)<64) then
    (zD9 r18).bind fun r25 =>
    (zBN r25).bind fun r30 =>
    (xcat [61] r30).bind fun s35 =>
    some (.inr s35)
   else
    some (.inl ()))
  else
   some (.inl ()))).bind fun (j16:(Unit ⊕ Str))=>match j16 with
  | .inr e=>some e
  | .inl _ =>
   (zD9 r1).bind fun r36 =>
   (xcat [61] r36).bind fun s41 =>
   some s41)
noncomputable def zCL (p_names:(List Str)) (p_l:(List GField)):((List Str)×Int)→Option (((List Str)×Int) ⊕ (List Str))
 | (out_3,y_9) =>
  (bif decide (y_9<(p_names.length:Int)) then
   (xnth p_names y_9).bind fun x22 =>
   (zG5 x22 p_l).bind fun r25 =>
   (xapp out_3 ([r25]:List Str)).bind fun l35 =>
   some (.inl (l35,wr (y_9+1)))
  else
   some (.inr out_3))
noncomputable def zEy (p_names:(List Str)) (p_l:(List GField)):Option (List Str) :=
 (zAF (zCL p_names p_l) (([]:List Str),0)).bind fun out_12 =>
 some out_12
noncomputable def zB3 (p_names:(List Str)) (p_l:(List GField)):((List Str)×Int)→Option (((List Str)×Int) ⊕ (List Str))
 | (out_4,i_8) =>
  (bif decide (i_8<(p_names.length:Int)) then
   (xnth p_names i_8).bind fun x21 =>
   (zDs x21 p_l).bind fun r24 =>
   (xapp out_4 ([r24]:List Str)).bind fun l34 =>
   some (.inl (l34,wr (i_8+1)))
  else
   some (.inr out_4))
noncomputable def zEQ (p_names:(List Str)) (p_l:(List GField)):Option (List Str) :=
 (zAF (zB3 p_names p_l) (([]:List Str),0)).bind fun out_11 =>
 some out_11
noncomputable def zAo (p_s1:(List Str)) (p_s2:(List Str)) (y_6:Int):Option (Int ⊕ (Unit ⊕ Bool)) :=
  (bif decide (y_6<(p_s1.length:Int)) then
   (xnth p_s1 y_6).bind fun x18 =>
   (xnth p_s2 y_6).bind fun x21 =>
   (bif x18 !=x21 then
    some (.inr (.inr false))
   else
    some (.inl (wr (y_6+1))))
  else
   some (.inr (.inl ())))
noncomputable def zAa (p_s1:(List Str)) (p_s2:(List Str)):Option Bool :=
 (bif (p_s1.length:Int) !=(p_s2.length:Int) then
  some false
 else
  (zAF (zAo p_s1 p_s2) 0).bind fun r12=>match r12 with
  | .inr e=>some e
  | .inl _ =>
   some true)
noncomputable def zHD (p_names:(List Str)) (p_snapshot:(List Str)) (p_l:(List GField)):Option Bool :=
 (bif (p_names.length:Int)==(p_snapshot.length:Int) then
  (zEy p_names p_l).bind fun r3 =>
  (zAa r3 p_snapshot).bind fun r9 =>
  some (r9)
 else
  some false).bind fun b14 =>
 some b14
noncomputable def zD1 (p_names:(List Str)) (p_snapshot:(List Str)) (p_l:(List GField)):Option Bool :=
 (bif (p_names.length:Int)==(p_snapshot.length:Int) then
  (zEQ p_names p_l).bind fun r3 =>
  (zC1 r3 p_snapshot).bind fun r9 =>
  some (r9)
 else
  some false).bind fun b14 =>
 some b14
noncomputable def zFY (p_l:(List (List Str))) (i_3:Int):Option (Int ⊕ (Unit ⊕ Bool)) :=
  (bif ((decide (i_3<(p_l.length:Int)))&&(decide (i_3<11))) then
   (xnth p_l i_3).bind fun x15 =>
   (zCh x15).bind fun r20 =>
   (bif !r20 then
    some (.inr (.inr false))
   else
    some (.inl (wr (i_3+1))))
  else
   some (.inr (.inl ())))
noncomputable def zHv (p_l:(List (List Str))):Option Bool :=
 (zAF (zFY p_l) 0).bind fun r10=>match r10 with
 | .inr e=>some e
 | .inl _ =>
  some (decide ((p_l.length:Int)≤10))
noncomputable def zHC (p_e:GEntry):Option Bool :=
 (zHv p_e.fKeys).bind fun r3 =>
 (bif r3 then
  (zCh p_e.fVary).bind fun r10 =>
  some (r10)
 else
  some false).bind fun b15 =>
 (bif b15 then
  (zCh p_e.fSnapshot).bind fun r21 =>
  some (r21)
 else
  some false).bind fun b26 =>
 (bif ((b26&&(decide ((p_e.fReason.length:Int)≤100)))&&(decide ((p_e.fBody.length:Int)≤2000))) then
  (zFD p_e.fFields).bind fun r36 =>
  some (r36)
 else
  some false).bind fun b41 =>
 some b41
end Go.Eng.Pure
