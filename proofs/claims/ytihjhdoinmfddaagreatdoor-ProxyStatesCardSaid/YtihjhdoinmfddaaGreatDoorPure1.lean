/- A part. -/
import Derived.Test.YtihjhdoinmfddaaGreatDoorEng41
set_option linter.unusedVariables false
set_option linter.unusedSimpArgs false
namespace Go.Eng.Pure
open Go Go.Eng
structure GField where
 fName:Str
 fValue:Str
deriving DecidableEq
instance:Enc GField where
 sz:=2
 cells H cs x:=cs=[(str x.fName),(str x.fValue)]
 pos:=by decide
 len:=fun h=>by rw [h]; rfl
 mono:=fun h _=>h
 one:=by
  intro H cs x h v hv;rw [h] at hv;exact List.all_eq_true.1 (show List.all [(str x.fName),(str x.fValue)] Value.oneCell'=true from rfl) v hv
structure GETag where
 fWeak:Bool
 fTag:Str
deriving DecidableEq
instance:Enc GETag where
 sz:=2
 cells H cs x:=cs=[(boo x.fWeak),(str x.fTag)]
 pos:=by decide
 len:=fun h=>by rw [h]; rfl
 mono:=fun h _=>h
 one:=by
  intro H cs x h v hv;rw [h] at hv;exact List.all_eq_true.1 (show List.all [(boo x.fWeak),(str x.fTag)] Value.oneCell'=true from rfl) v hv
structure Gcachecontrol_directive where
 fform:Int
 fvalue:Str
deriving DecidableEq
instance:Enc Gcachecontrol_directive where
 sz:=2
 cells H cs x:=cs=[(int x.fform),(str x.fvalue)]
 pos:=by decide
 len:=fun h=>by rw [h]; rfl
 mono:=fun h _=>h
 one:=by
  intro H cs x h v hv;rw [h] at hv;exact List.all_eq_true.1 (show List.all [(int x.fform),(str x.fvalue)] Value.oneCell'=true from rfl) v hv
structure GControl where
 fNoStore:Bool
 fNoCache:Bool
 fMustRevalidate:Bool
 fProxyRevalidate:Bool
 fPrivate:Bool
 fPublic:Bool
 fOnlyIfCached:Bool
 fMaxAge:Int
 fSMaxAge:Int
 fMinFresh:Int
 fMaxStale:Int
deriving DecidableEq
instance:Enc GControl where
 sz:=11
 cells H cs x:=cs=[(boo x.fNoStore),(boo x.fNoCache),(boo x.fMustRevalidate),(boo x.fProxyRevalidate),(boo x.fPrivate),(boo x.fPublic),(boo x.fOnlyIfCached),(int x.fMaxAge),(int x.fSMaxAge),(int x.fMinFresh),(int x.fMaxStale)]
 pos:=by decide
 len:=fun h=>by rw [h]; rfl
 mono:=fun h _=>h
 one:=by
  intro H cs x h v hv;rw [h] at hv;exact List.all_eq_true.1 (show List.all [(boo x.fNoStore),(boo x.fNoCache),(boo x.fMustRevalidate),(boo x.fProxyRevalidate),(boo x.fPrivate),(boo x.fPublic),(boo x.fOnlyIfCached),(int x.fMaxAge),(int x.fSMaxAge),(int x.fMinFresh),(int x.fMaxStale)] Value.oneCell'=true from rfl) v hv
structure GEntry where
 fKeys:(List (List Str))
 fVary:(List Str)
 fSnapshot:(List Str)
 fReason:Str
 fFields:(List GField)
 fBody:Str
 fRequested:Int
 fReceived:Int
deriving DecidableEq
instance:Enc GEntry where
 sz:=8
 cells H cs x:=∃ u1 u2 u3 u4:Value,cs=[u1,u2,u3,(str x.fReason),u4,(str x.fBody),(int x.fRequested),(int x.fReceived)]∧Sl (α:=(List Str)) H u1 x.fKeys∧Sl (α:=Str) H u2 x.fVary∧Sl (α:=Str) H u3 x.fSnapshot∧Sl (α:=GField) H u4 x.fFields
 pos:=by decide
 len:=fun ⟨u1,u2,u3,u4,h,R0,R1,R2,R3⟩=>by rw [h]; rfl
 mono:=fun ⟨u1,u2,u3,u4,h,R0,R1,R2,R3⟩ hl=>⟨u1,u2,u3,u4,h,R0.mono hl,R1.mono hl,R2.mono hl,R3.mono hl⟩
 one:=fun ⟨u1,u2,u3,u4,h,R0,R1,R2,R3⟩ v hv=>by rw [h] at hv; exact AllOne.mem (.cons (Sl.oneC R0) (.cons (Sl.oneC R1) (.cons (Sl.oneC R2) (.cons rfl (.cons (Sl.oneC R3) (.cons rfl (.cons rfl (.cons rfl .nil)))))))) v hv
structure GResponse where
 fMinor:Int
 fStatus:Int
 fReason:Str
 fFields:(List GField)
 fBody:Str
deriving DecidableEq
instance:Enc GResponse where
 sz:=5
 cells H cs x:=∃ u1:Value,cs=[(int x.fMinor),(int x.fStatus),(str x.fReason),u1,(str x.fBody)]∧Sl (α:=GField) H u1 x.fFields
 pos:=by decide
 len:=fun ⟨u1,h,R0⟩=>by rw [h]; rfl
 mono:=fun ⟨u1,h,R0⟩ hl=>⟨u1,h,R0.mono hl⟩
 one:=fun ⟨u1,h,R0⟩ v hv=>by rw [h] at hv; exact AllOne.mem (.cons rfl (.cons rfl (.cons rfl (.cons (Sl.oneC R0) (.cons rfl .nil))))) v hv
structure GRequest where
 fMethod:Str
 fTarget:Str
 fMinor:Int
 fFields:(List GField)
 fBody:Str
deriving DecidableEq
instance:Enc GRequest where
 sz:=5
 cells H cs x:=∃ u1:Value,cs=[(str x.fMethod),(str x.fTarget),(int x.fMinor),u1,(str x.fBody)]∧Sl (α:=GField) H u1 x.fFields
 pos:=by decide
 len:=fun ⟨u1,h,R0⟩=>by rw [h]; rfl
 mono:=fun ⟨u1,h,R0⟩ hl=>⟨u1,h,R0.mono hl⟩
 one:=fun ⟨u1,h,R0⟩ v hv=>by rw [h] at hv; exact AllOne.mem (.cons rfl (.cons rfl (.cons rfl (.cons (Sl.oneC R0) (.cons rfl .nil))))) v hv
inductive Gvariants_domain where
 | media
 | tags
 | words (n:Int)
 | texts
deriving DecidableEq
structure GParam where
 fName:Str
 fValue:Str
deriving DecidableEq
instance:Enc GParam where
 sz:=2
 cells H cs x:=cs=[(str x.fName),(str x.fValue)]
 pos:=by decide
 len:=fun h=>by rw [h]; rfl
 mono:=fun h _=>h
 one:=by
  intro H cs x h v hv;rw [h] at hv;exact List.all_eq_true.1 (show List.all [(str x.fName),(str x.fValue)] Value.oneCell'=true from rfl) v hv
structure GMediaType where
 fType:Str
 fSub:Str
 fParams:(List GParam)
deriving DecidableEq
instance:Enc GMediaType where
 sz:=3
 cells H cs x:=∃ u1:Value,cs=[(str x.fType),(str x.fSub),u1]∧Sl (α:=GParam) H u1 x.fParams
 pos:=by decide
 len:=fun ⟨u1,h,R0⟩=>by rw [h]; rfl
 mono:=fun ⟨u1,h,R0⟩ hl=>⟨u1,h,R0.mono hl⟩
 one:=fun ⟨u1,h,R0⟩ v hv=>by rw [h] at hv; exact AllOne.mem (.cons rfl (.cons rfl (.cons (Sl.oneC R0) .nil))) v hv
structure GAxis where
 fName:Str
 fValues:(List Str)
deriving DecidableEq
instance:Enc GAxis where
 sz:=2
 cells H cs x:=∃ u1:Value,cs=[(str x.fName),u1]∧Sl (α:=Str) H u1 x.fValues
 pos:=by decide
 len:=fun ⟨u1,h,R0⟩=>by rw [h]; rfl
 mono:=fun ⟨u1,h,R0⟩ hl=>⟨u1,h,R0.mono hl⟩
 one:=fun ⟨u1,h,R0⟩ v hv=>by rw [h] at hv; exact AllOne.mem (.cons rfl (.cons (Sl.oneC R0) .nil)) v hv
structure GPref where
 fRange:Str
 fQ:Int
deriving DecidableEq
instance:Enc GPref where
 sz:=2
 cells H cs x:=cs=[(str x.fRange),(int x.fQ)]
 pos:=by decide
 len:=fun h=>by rw [h]; rfl
 mono:=fun h _=>h
 one:=by
  intro H cs x h v hv;rw [h] at hv;exact List.all_eq_true.1 (show List.all [(str x.fRange),(int x.fQ)] Value.oneCell'=true from rfl) v hv
structure GTable where
 fAxes:(List GAxis)
 fEntries:(List GEntry)
deriving DecidableEq
instance:Enc GTable where
 sz:=2
 cells H cs x:=∃ u1 u2:Value,cs=[u1,u2]∧Sl (α:=GAxis) H u1 x.fAxes∧Sl (α:=GEntry) H u2 x.fEntries
 pos:=by decide
 len:=fun ⟨u1,u2,h,R0,R1⟩=>by rw [h]; rfl
 mono:=fun ⟨u1,u2,h,R0,R1⟩ hl=>⟨u1,u2,h,R0.mono hl,R1.mono hl⟩
 one:=fun ⟨u1,u2,h,R0,R1⟩ v hv=>by rw [h] at hv; exact AllOne.mem (.cons (Sl.oneC R0) (.cons (Sl.oneC R1) .nil)) v hv
structure GConfig where
 fName:Str
 fBytes:Int
 fVariants:Int
 fTables:Int
 fStrict:Bool
 fRefuse:Bool
deriving DecidableEq
instance:Enc GConfig where
 sz:=6
 cells H cs x:=cs=[(str x.fName),(int x.fBytes),(int x.fVariants),(int x.fTables),(boo x.fStrict),(boo x.fRefuse)]
 pos:=by decide
 len:=fun h=>by rw [h]; rfl
 mono:=fun h _=>h
 one:=by
  intro H cs x h v hv;rw [h] at hv;exact List.all_eq_true.1 (show List.all [(str x.fName),(int x.fBytes),(int x.fVariants),(int x.fTables),(boo x.fStrict),(boo x.fRefuse)] Value.oneCell'=true from rfl) v hv
structure GURI where
 fHost:Str
 fPort:Int
 fPath:Str
 fQuery:Str
 fHasQuery:Bool
deriving DecidableEq
instance:Enc GURI where
 sz:=5
 cells H cs x:=cs=[(str x.fHost),(int x.fPort),(str x.fPath),(str x.fQuery),(boo x.fHasQuery)]
 pos:=by decide
 len:=fun h=>by rw [h]; rfl
 mono:=fun h _=>h
 one:=by
  intro H cs x h v hv;rw [h] at hv;exact List.all_eq_true.1 (show List.all [(str x.fHost),(int x.fPort),(str x.fPath),(str x.fQuery),(boo x.fHasQuery)] Value.oneCell'=true from rfl) v hv
structure GDecision where
 fKind:Int
 fIndex:Int
deriving DecidableEq
instance:Enc GDecision where
 sz:=2
 cells H cs x:=cs=[(int x.fKind),(int x.fIndex)]
 pos:=by decide
 len:=fun h=>by rw [h]; rfl
 mono:=fun h _=>h
 one:=by
  intro H cs x h v hv;rw [h] at hv;exact List.all_eq_true.1 (show List.all [(int x.fKind),(int x.fIndex)] Value.oneCell'=true from rfl) v hv
structure GOutput where
 fToClient:Str
 fToOrigin:Str
deriving DecidableEq
instance:Enc GOutput where
 sz:=2
 cells H cs x:=cs=[(str x.fToClient),(str x.fToOrigin)]
 pos:=by decide
 len:=fun h=>by rw [h]; rfl
 mono:=fun h _=>h
 one:=by
  intro H cs x h v hv;rw [h] at hv;exact List.all_eq_true.1 (show List.all [(str x.fToClient),(str x.fToOrigin)] Value.oneCell'=true from rfl) v hv
structure Gvariantproxykeep_Step where
 fKind:Int
 fN:Int
 fText:Str
deriving DecidableEq
instance:Enc Gvariantproxykeep_Step where
 sz:=3
 cells H cs x:=cs=[(int x.fKind),(int x.fN),(str x.fText)]
 pos:=by decide
 len:=fun h=>by rw [h]; rfl
 mono:=fun h _=>h
 one:=by
  intro H cs x h v hv;rw [h] at hv;exact List.all_eq_true.1 (show List.all [(int x.fKind),(int x.fN),(str x.fText)] Value.oneCell'=true from rfl) v hv
structure Gproxy_refused where
 fstatus:Int
 ferr:Unit
deriving DecidableEq
instance:Enc Gproxy_refused where
 sz:=2
 cells H cs x:=cs=[(int x.fstatus),.nilIface]
 pos:=by decide
 len:=fun h=>by rw [h]; rfl
 mono:=fun h _=>h
 one:=by
  intro H cs x h v hv;rw [h] at hv;exact List.all_eq_true.1 (show List.all [(int x.fstatus),.nilIface] Value.oneCell'=true from rfl) v hv
structure Gstartline_fault where
 fpart:Str
 ferr:Unit
deriving DecidableEq
instance:Enc Gstartline_fault where
 sz:=2
 cells H cs x:=cs=[(str x.fpart),.nilIface]
 pos:=by decide
 len:=fun h=>by rw [h]; rfl
 mono:=fun h _=>h
 one:=by
  intro H cs x h v hv;rw [h] at hv;exact List.all_eq_true.1 (show List.all [(str x.fpart),.nilIface] Value.oneCell'=true from rfl) v hv
structure Gproxy_exchange where
 fq:GRequest
 fu:GURI
 fkey:Str
 fsent:Int
 fvalidated:Bool
 findex:Int
 fentry:GEntry
deriving DecidableEq
instance:Enc Gproxy_exchange where
 sz:=22
 cells H cs x:=∃ u1 u2 u3 u4 u5:Value,cs=[(str x.fq.fMethod),(str x.fq.fTarget),(int x.fq.fMinor),u1,(str x.fq.fBody),(str x.fu.fHost),(int x.fu.fPort),(str x.fu.fPath),(str x.fu.fQuery),(boo x.fu.fHasQuery),(str x.fkey),(int x.fsent),(boo x.fvalidated),(int x.findex),u2,u3,u4,(str x.fentry.fReason),u5,(str x.fentry.fBody),(int x.fentry.fRequested),(int x.fentry.fReceived)]∧Sl (α:=GField) H u1 x.fq.fFields∧Sl (α:=(List Str)) H u2 x.fentry.fKeys∧Sl (α:=Str) H u3 x.fentry.fVary∧Sl (α:=Str) H u4 x.fentry.fSnapshot∧Sl (α:=GField) H u5 x.fentry.fFields
 pos:=by decide
 len:=fun ⟨u1,u2,u3,u4,u5,h,R0,R1,R2,R3,R4⟩=>by rw [h]; rfl
 mono:=fun ⟨u1,u2,u3,u4,u5,h,R0,R1,R2,R3,R4⟩ hl=>⟨u1,u2,u3,u4,u5,h,R0.mono hl,R1.mono hl,R2.mono hl,R3.mono hl,R4.mono hl⟩
 one:=fun ⟨u1,u2,u3,u4,u5,h,R0,R1,R2,R3,R4⟩ v hv=>by rw [h] at hv; exact AllOne.mem (.cons rfl (.cons rfl (.cons rfl (.cons (Sl.oneC R0) (.cons rfl (.cons rfl (.cons rfl (.cons rfl (.cons rfl (.cons rfl (.cons rfl (.cons rfl (.cons rfl (.cons rfl (.cons (Sl.oneC R1) (.cons (Sl.oneC R2) (.cons (Sl.oneC R3) (.cons rfl (.cons (Sl.oneC R4) (.cons rfl (.cons rfl (.cons rfl .nil)))))))))))))))))))))) v hv
noncomputable section
def zMS (c:Str) (f:(List Int)):(Int×Int)→Option ((Int×Int) ⊕ (Int ⊕ (Int×Bool)))
 | (d,b) =>
  (bif decide (b<(f.length:Int)) then
   (xnth f b).bind fun h =>
   (bif b==1 then
    some (.inl (d,wr (b+1)))
   else
    (xnth c b).bind fun i =>
    (bif decide (i<48) then
     some true
    else
     (xnth c b).bind fun j =>
     some (decide (57<j))).bind fun k =>
    (bif k then
     some (.inr (.inr (0,false)))
    else
     (xnth c b).bind fun c56 =>
     some (.inl (wr (d+(wr (h*((c56 - 48).toNat:Int)))),wr (b+1)))))
  else
   some (.inr (.inl d)))
def zGw (b:Str):Option (Int×Bool) :=
 (bif ((b==[])||(decide (5<(b.length:Int)))) then
  some true
 else
  (xnth b 0).bind fun c5 =>
  (bif c5 !=48 then
   (xnth b 0).bind fun d =>
   some (d !=49)
  else
   some false).bind fun f =>
  some (f)).bind fun h =>
 (bif h then
  some true
 else
  (bif decide (1<(b.length:Int)) then
   (xnth b 1).bind fun c15 =>
   some (c15 !=46)
  else
   some false).bind fun i =>
  some (i)).bind fun j =>
 (bif j then
  some (0,false)
 else
  (xsub ([1000,0,100,10,1]:List Int) 0 (b.length:Int)).bind fun k =>
  (zAB (zMS b k) (0,0)).bind fun l=>match l with
  | .inr e=>some e
  | .inl c =>
   (bif decide (1000<c) then
    some (0,false)
   else
    some (c,true)))
def zHO (c:UInt8) (b:Str):Option (Str ⊕ Str) :=
  (bif decide (0<(b.length:Int)) then
   (xnth b (wr ((b.length:Int) - 1))).bind fun c15 =>
   some (c15==c)
  else
   some false).bind fun d =>
  (bif d then
   (xsub b 0 (wr ((b.length:Int) - 1))).bind fun f =>
   some (.inl f)
  else
   some (.inr b))
def zC5 (b:Str) (c:UInt8):Option Str :=
 (zAB (zHO c) b).bind fun d =>
 some d
def zBY (c:Str) (b:Str):Option (Str ⊕ Str) :=
  (bif decide (0<(b.length:Int)) then
   (xnth b (wr ((b.length:Int) - 1))).bind fun d =>
   (zAd c d).bind fun f =>
   (bif !f then
    some (.inr b)
   else
    (xsub b 0 (wr ((b.length:Int) - 1))).bind fun h =>
    some (.inl h))
  else
   some (.inr b))
def zB1 (b:Str) (c:Str):Option Str :=
 (zAB (zBY c) b).bind fun d =>
 some d
def zDq (f:Str):(Int×Str)→Option ((Int×Str) ⊕ Str)
 | (b,c) =>
  (bif decide (b<(f.length:Int)) then
   (xnth c b).bind fun h =>
   (xnth c b).bind fun d =>
   (bif ((decide (65≤d))&&(decide (d≤90))) then
    (xnth c b).bind fun c28 =>
    some (.inl (wr (b+1),(c.set b.toNat ((d+97) - 65))))
   else
    some (.inl (wr (b+1),c)))
  else
   some (.inr c))
def zAO (b:Str):Option Str :=
 (zAB (zDq b) (0,b)).bind fun c =>
 some c
def zBR (b:GField) (c:Str):Option Bool :=
 (bif (b.fName.length:Int)==(c.length:Int) then
  (zAO b.fName).bind fun d =>
  some (d==c)
 else
  some false).bind fun f =>
 some f
def zGZ (b:Str):Option (GField→Option Bool) :=
 (zAO b).bind fun c =>
 some (fun d=>zBR d c)
def zBS (d:(List GField)) (h:(GField→Option Bool)):((List GField)×Int)→Option (((List GField)×Int) ⊕ (List GField))
 | (c,b) =>
  (bif decide (b<(d.length:Int)) then
   (xnth d b).bind fun f =>
   (h f).bind fun i =>
   (bif i then
    (xapp c ([f]:List GField)).bind fun j =>
    some (.inl (j,wr (b+1)))
   else
    some (.inl (c,wr (b+1))))
  else
   some (.inr c))
def zBl (b:(List GField)) (c:(GField→Option Bool)):Option (List GField) :=
 (zAB (zBS b c) (([]:List GField),0)).bind fun d =>
 some d
def zDw (c:(List GField)):((List Str)×Int)→Option (((List Str)×Int) ⊕ (List Str))
 | (d,b) =>
  (bif decide (b<(c.length:Int)) then
   (xnth c b).bind fun f =>
   (xapp d ([f.fValue]:List Str)).bind fun h =>
   some (.inl (h,wr (b+1)))
  else
   some (.inr d))
def zCd (b:(List GField)) (c:Str):Option (List Str) :=
 (zAO c).bind fun d =>
 (zBl b (fun f=>zBR f d)).bind fun h =>
 (zAB (zDw h) (([]:List Str),0)).bind fun i =>
 some i
def zJ5 (b:Int) (c:UInt8):Option Int :=
 (bif b==2 then
  some 1
 else
  (bif ((b==1)&&(c==92)) then
   some 2
  else
   (bif c==34 then
    some (wr (1 - b))
   else
    some b)))
def zCk (c:UInt8) (b:Str):Option (Str ⊕ Str) :=
  (bif decide (0<(b.length:Int)) then
   (xnth b 0).bind fun c15 =>
   some (c15==c)
  else
   some false).bind fun d =>
  (bif d then
   (xsub b 1 b.length).bind fun f =>
   some (.inl f)
  else
   some (.inr b))
def zBM (b:Str) (c:UInt8):Option Str :=
 (zAB (zCk c) b).bind fun d =>
 some d
def zCa (c:Str) (b:Str):Option (Str ⊕ Str) :=
  (bif decide (0<(b.length:Int)) then
   (xnth b 0).bind fun d =>
   (zAd c d).bind fun f =>
   (bif !f then
    some (.inr b)
   else
    (xsub b 1 b.length).bind fun h =>
    some (.inl h))
  else
   some (.inr b))
def zBe (b:Str) (c:Str):Option Str :=
 (zAB (zCa c) b).bind fun d =>
 some d
def zGy (c:Str) (b:Str):Option Str :=
 (bif ((c==[])||(b==[])) then
  some c
 else
  (bif (b.length:Int)==1 then
   (xnth b 0).bind fun d =>
   some (decide (d<128))
  else
   some false).bind fun f =>
  (bif f then
   (xnth b 0).bind fun h =>
   (zC5 c h).bind fun i =>
   (xnth b 0).bind fun c18 =>
   (zBM i c18).bind fun j =>
   some j
  else
   (strings_makeASCIISet b).bind fun o =>
   (zB1 c b).bind fun k =>
   (zBe k b).bind fun l =>
   some l))
def zCu (b:Str):Option Str :=
 (zGy b [32,9]).bind fun c =>
 some c
def zA2 (c:Str):((List Str)×Int×Int×Int)→Option (((List Str)×Int×Int×Int) ⊕ (List Str))
 | (d,f,h,b) =>
  (bif ((decide (b≤(c.length:Int)))&&(decide ((d.length:Int)<64))) then
   (bif decide (b<(c.length:Int)) then
    (bif f !=0 then
     some true
    else
     (xnth c b).bind fun j =>
     some (j !=44)).bind fun k =>
    some (k)
   else
    some false).bind fun l =>
   (bif l then
    (xnth c b).bind fun c34 =>
    (zJ5 f c34).bind fun o =>
    some (.inl (d,o,h,wr (b+1)))
   else
    (xsub c h b).bind fun p =>
    (zCu p).bind fun i =>
    (bif i !=[] then
     (xapp d ([i]:List Str)).bind fun r =>
     some (.inl (r,f,wr (b+1),wr (b+1)))
    else
     some (.inl (d,f,wr (b+1),wr (b+1)))))
  else
   some (.inr d))
def zI0 (b:Str):Option (List Str) :=
 (zAB (zA2 b) (([]:List Str),0,0,0)).bind fun c =>
 some c
def zHt (c:(List Str)):((List Str)×Int)→Option (((List Str)×Int) ⊕ (List Str))
 | (d,b) =>
  (bif decide (b<(c.length:Int)) then
   (xnth c b).bind fun f =>
   (zI0 f).bind fun h =>
   (xapp d h).bind fun i =>
   some (.inl (i,wr (b+1)))
  else
   some (.inr d))
def zC3 (c:(List GField)) (d:Str):Option (List Str) :=
 (zCd c d).bind fun f =>
 (zAB (zHt f) (([]:List Str),0)).bind fun b =>
 (xsub b 0 (if 64<(b.length:Int) then 64 else (b.length:Int))).bind fun h =>
 some h
def zAg (d:Str) (i:UInt8):((List Str)×Int×Bool×Int)→Option (((List Str)×Int×Bool×Int) ⊕ ((List Str)×Int))
 | (f,h,c,b) =>
  (bif decide (b<(d.length:Int)) then
   (bif c then
    (xnth d b).bind fun j =>
    some (j==92)
   else
    some false).bind fun k =>
   (bif k then
    some (.inl (f,h,c,wr ((wr (b+1))+1)))
   else
    (xnth d b).bind fun l =>
    (bif l==34 then
     some (.inl (f,h,!c,wr (b+1)))
    else
     (xnth d b).bind fun c35 =>
     (bif ((c35==i)&&(!c)) then
      (xsub d h b).bind fun o =>
      (xapp f ([o]:List Str)).bind fun p =>
      some (.inl (p,wr (b+1),c,wr (b+1)))
     else
      some (.inl (f,h,c,wr (b+1))))))
  else
   some (.inr (f,h)))
def zME (b:Str) (c:UInt8):Option (List Str) :=
 (zAB (zAg b c) (([]:List Str),0,false,0)).bind fun d=>match d with
 | (f,h) =>
  (xsub b h b.length).bind fun i =>
  (xapp f ([i]:List Str)).bind fun j =>
  some j
def zFm (c:(List Str)) (d:(List Str)) (b:Int):Option (Int ⊕ (Unit ⊕ Bool)) :=
  (bif decide (b<(c.length:Int)) then
   (xnth c b).bind fun f =>
   (xnth d b).bind fun h =>
   (bif f !=h then
    some (.inr (.inr false))
   else
    some (.inl (wr (b+1))))
  else
   some (.inr (.inl ())))
def zDW (b:(List Str)) (c:(List Str)):Option Bool :=
 (bif (b.length:Int) !=(c.length:Int) then
  some false
 else
  (zAB (zFm b c) 0).bind fun d=>match d with
  | .inr e=>some e
  | .inl _ =>
   some true)
def zDu (b:(List Str)) (c:(List Str)):Option Bool :=
 (zDW b c).bind fun d =>
 some d
def zIT (b:(List Str)):Option Str :=
 (strings_Join b [44,32]).bind fun c =>
 some c
def zBb (c:Str) (b:Str):Option Bool :=
 (bif decide ((b.length:Int)≤(c.length:Int)) then
  (xsub c 0 (b.length:Int)).bind fun d =>
  some (d==b)
 else
  some false).bind fun f =>
 some f
def zDK (b:Str) (c:Str):Option (Str×Bool) :=
 (zBb b c).bind fun d =>
 (bif !d then
  some (b,false)
 else
  (xsub b (c.length:Int) b.length).bind fun f =>
  some (f,true))
def zDO (c:Str) (d:Str):Option (Str×Bool) :=
 (zDK c d).bind fun b =>
 some (b.1,b.2)
def zEy (c:Str) (b:Int):Option (Int ⊕ (Unit ⊕ Bool)) :=
  (bif decide (b<(c.length:Int)) then
   (xnth c b).bind fun c13 =>
   (bif (((decide (c13<33))||(c13==34))||(c13==127)) then
    some (.inr (.inr false))
   else
    some (.inl (wr (b+1))))
  else
   some (.inr (.inl ())))
def zDl (b:Str):Option Bool :=
 (zAB (zEy b) 0).bind fun c=>match c with
 | .inr e=>some e
 | .inl _ =>
  some true
def zGB (c:Str):Option (GETag×Bool) :=
 (zDO c [87,47]).bind fun b =>
 (bif decide ((b.1.length:Int)<2) then
  some true
 else
  (xnth b.1 0).bind fun d =>
  some (d !=34)).bind fun f =>
 (bif f then
  some true
 else
  (xnth b.1 (wr ((b.1.length:Int) - 1))).bind fun h =>
  some (h !=34)).bind fun i =>
 (bif i then
  some true
 else
  (xsub b.1 1 (wr ((b.1.length:Int) - 1))).bind fun j =>
  (zDl j).bind fun k =>
  some (!k)).bind fun l =>
 (bif l then
  some ((⟨false,[]⟩:GETag),false)
 else
  (xsub b.1 1 (wr ((b.1.length:Int) - 1))).bind fun o =>
  some ((⟨b.2,o⟩:GETag),true))
def zK9 (c:(List Str)):((List GETag)×Int)→Option (((List GETag)×Int) ⊕ ((List GETag) ⊕ ((List GETag)×Bool×Bool)))
 | (d,b) =>
  (bif decide (b<(c.length:Int)) then
   (xnth c b).bind fun h =>
   (zGB h).bind fun f =>
   (bif !f.2 then
    some (.inr (.inr (([]:List GETag),false,false)))
   else
    (xapp d ([f.1]:List GETag)).bind fun i =>
    some (.inl (i,wr (b+1))))
  else
   some (.inr (.inl d)))
def zJz (c:(List GField)) (d:Str):Option ((List GETag)×Bool×Bool) :=
 (zC3 c d).bind fun b =>
 (bif (b.length:Int)==1 then
  (xnth b 0).bind fun f =>
  some (f==[42])
 else
  some false).bind fun h =>
 (bif h then
  some (([]:List GETag),true,true)
 else
  (bif (((b.length:Int)==0)||(decide (64≤(b.length:Int)))) then
   some (([]:List GETag),false,false)
  else
   (zAB (zK9 b) (([]:List GETag),0)).bind fun i=>match i with
   | .inr e=>some e
   | .inl j =>
    some (j,false,true)))
def zOx (b:GETag) (c:GETag) (d:(GETag→Option Bool)):Option Bool :=
 (d b).bind fun f =>
 (bif f then
  (d c).bind fun h =>
  some (h)
 else
  some false).bind fun i =>
 some (i&&(b.fTag==c.fTag))
def zJS (b:GETag):Option Bool :=
 some true
def zIl (b:GETag) (c:GETag):Option Bool :=
 (zOx b c zJS).bind fun d =>
 some d
def zAt (c:(List GField)) (d:Str):Option (Str×Bool) :=
 (zCd c d).bind fun b =>
 (bif (b.length:Int)==0 then
  some ([],false)
 else
  (xnth b 0).bind fun f =>
  some (f,true))
def zIG (d:(List GField)):Option (GETag×Bool) :=
 (zAt d [69,84,97,103]).bind fun b =>
 (bif !b.2 then
  some ((⟨false,[]⟩:GETag),false)
 else
  (zGB b.1).bind fun c =>
  some (c.1,c.2))
def zEp (c:UInt8) (b:Int):Option (Int ⊕ (Unit ⊕ Bool)) :=
  (bif decide (b<15) then
   (xnth [33,35,36,37,38,39,42,43,45,46,94,95,96,124,126] b).bind fun d =>
   (bif d==c then
    some (.inr (.inr true))
   else
    some (.inl (wr (b+1))))
  else
   some (.inr (.inl ())))
def zEN (b:UInt8):Option Bool :=
 (bif ((((decide (97≤b))&&(decide (b≤122)))||((decide (65≤b))&&(decide (b≤90))))||((decide (48≤b))&&(decide (b≤57)))) then
  some true
 else
  (zAB (zEp b) 0).bind fun c=>match c with
  | .inr e=>some e
  | .inl _ =>
   some false)
def zE6 (c:Str) (b:Int):Option (Int ⊕ (Unit ⊕ Bool)) :=
  (bif decide (b<(c.length:Int)) then
   (xnth c b).bind fun c13 =>
   (zEN c13).bind fun d =>
   (bif !d then
    some (.inr (.inr false))
   else
    some (.inl (wr (b+1))))
  else
   some (.inr (.inl ())))
def zE1 (b:Str):Option Bool :=
 (zAB (zE6 b) 0).bind fun c=>match c with
 | .inr e=>some e
 | .inl _ =>
  some (b !=[])
def zFN (c:Str):((List UInt8)×Int)→Option (((List UInt8)×Int) ⊕ (List UInt8))
 | (d,b) =>
  (bif decide (b<(c.length:Int)) then
   (xnth c b).bind fun f =>
   (bif f==34 then
    some true
   else
    (xnth c b).bind fun c28 =>
    some (c28==92)).bind fun h =>
   ((bif h then
    (xapp d ([92]:List UInt8)).bind fun i =>
    some i
   else
    some d)).bind fun (j:(List UInt8)) =>
   (xnth c b).bind fun k =>
   (xapp j ([k]:List UInt8)).bind fun l =>
   some (.inl (l,wr (b+1)))
  else
   some (.inr d))
def zLr (b:Str):Option Str :=
 (zAB (zFN b) (([34]:List UInt8),0)).bind fun c =>
 (xapp c ([34]:List UInt8)).bind fun d =>
 some d
def zI2 (b:UInt8):Option Bool :=
 (((bif b==33 then
  some (b==33)
 else
  (bif b==35 then
   some (b==35)
  else
   (bif b==36 then
    some (b==36)
   else
    (bif b==37 then
     some (b==37)
    else
     (bif b==38 then
      some (b==38)
     else
      (bif b==39 then
       some (b==39)
      else
       (bif b==42 then
        some (b==42)
       else
        (bif b==43 then
         some (b==43)
        else
         (bif b==45 then
          some (b==45)
         else
          (bif b==46 then
           some (b==46)
          else
           (bif b==94 then
            some (b==94)
           else
            (bif b==95 then
             some (b==95)
            else
             (bif b==96 then
              some (b==96)
             else
              (bif b==124 then
               some (b==124)
              else
               some (b==126)))))))))))))))).bind fun (c:Bool) =>
 (bif c then
  some (.inr true)
 else
  some (.inl ()))).bind fun (d:(Unit ⊕ Bool))=>match d with
 | .inr e=>some e
 | .inl _ =>
  some ((((decide (48≤b))&&(decide (b≤57)))||((decide (65≤b))&&(decide (b≤90))))||((decide (97≤b))&&(decide (b≤122))))
def zG0 (c:Str) (b:Int):Option (Int ⊕ (Unit ⊕ Bool)) :=
  (bif decide (b<(c.length:Int)) then
   (xnth c b).bind fun d =>
   (zI2 d).bind fun f =>
   (bif !f then
    some (.inr (.inr false))
   else
    some (.inl (wr (b+1))))
  else
   some (.inr (.inl ())))
def zAZ (b:Str):Option Bool :=
 (zAB (zG0 b) 0).bind fun c=>match c with
 | .inr e=>some e
 | .inl _ =>
  some (b !=[])
def zF5 (c:Str) (b:Int):Option (Int ⊕ (Unit ⊕ Bool)) :=
  (bif decide (b<(c.length:Int)) then
   (xnth c b).bind fun c13 =>
   (bif decide (c13<32) then
    (xnth c b).bind fun c16 =>
    some (c16 !=9)
   else
    some false).bind fun d =>
   (bif d then
    some true
   else
    (xnth c b).bind fun f =>
    some (f==127)).bind fun h =>
   (bif h then
    some (.inr (.inr false))
   else
    some (.inl (wr (b+1))))
  else
   some (.inr (.inl ())))
def zCw (b:Str):Option Bool :=
 (zAB (zF5 b) 0).bind fun c=>match c with
 | .inr e=>some e
 | .inl _ =>
  some true
def zAz (c:Str):((List UInt8)×Int)→Option (((List UInt8)×Int) ⊕ ((List UInt8) ⊕ (Str×Bool)))
 | (d,b) =>
  (bif decide (b<(c.length:Int)) then
   (xnth c b).bind fun f =>
   ((bif f==34 then
    some (.inr (.inr (.inr ([],false))))
   else
    (bif f==92 then
     (bif (wr (b+1))==(c.length:Int) then
      some (.inr (.inr (.inr ([],false))))
     else
      some (.inl (wr (b+1))))
    else
     some (.inl b)))).bind fun (i:(Int ⊕ (((List UInt8)×Int) ⊕ ((List UInt8) ⊕ (Str×Bool)))))=>match i with
   | .inr e=>some e
   | .inl h =>
    (xnth c h).bind fun j =>
    (xapp d ([j]:List UInt8)).bind fun k =>
    some (.inl (k,wr (h+1)))
  else
   some (.inr (.inl d)))
def zCf (b:Str):Option (Str×Bool) :=
 (bif decide ((b.length:Int)<2) then
  some true
 else
  (xnth b 0).bind fun c =>
  some (c !=34)).bind fun d =>
 (bif d then
  some true
 else
  (xnth b (wr ((b.length:Int) - 1))).bind fun f =>
  some (f !=34)).bind fun h =>
 (bif h then
  some true
 else
  (xsub b 1 (wr ((b.length:Int) - 1))).bind fun i =>
  (zCw i).bind fun j =>
  some (!j)).bind fun k =>
 (bif k then
  some ([],false)
 else
  (xsub b 1 (wr ((b.length:Int) - 1))).bind fun l =>
  (zAB (zAz l) (([]:List UInt8),0)).bind fun o=>match o with
  | .inr e=>some e
  | .inl p =>
   some (p,true))
def zDg (c:Str) (b:Int):Option (Int ⊕ Int) :=
  (bif decide (b<(c.length:Int)) then
   (xsub c b (wr (b+1))).bind fun d =>
   (zAZ d).bind fun f =>
   some (f)
  else
   some false).bind fun h =>
  (bif h then
   some (.inl (wr (b+1)))
  else
   some (.inr b))
def zCW (c:Str):Option (Str×Gcachecontrol_directive) :=
 (zAB (zDg c) 0).bind fun h =>
 (xsub c 0 h).bind fun j =>
 (zAO j).bind fun d =>
 (xsub c h c.length).bind fun b =>
 (bif b==[] then
  some (d,(⟨0,[]⟩:Gcachecontrol_directive))
 else
  (xsub b 1 b.length).bind fun f =>
  (xnth b 0).bind fun k =>
  (bif k==61 then
   (zAZ f).bind fun l =>
   some (l)
  else
   some false).bind fun o =>
  (bif o then
   some (d,(⟨1,f⟩:Gcachecontrol_directive))
  else
   (zCf f).bind fun i =>
   (xnth b 0).bind fun c63 =>
   (bif ((c63==61)&&i.2) then
    some (d,(⟨1,i.1⟩:Gcachecontrol_directive))
   else
    some (d,(⟨2,[]⟩:Gcachecontrol_directive)))))
def zEe (c:Str):(Int×Int)→Option ((Int×Int) ⊕ (Int ⊕ (Int×Bool)))
 | (d,b) =>
  (bif decide (b<(c.length:Int)) then
   (xnth c b).bind fun c18 =>
   (bif decide (c18<48) then
    some true
   else
    (xnth c b).bind fun h =>
    some (decide (57<h))).bind fun i =>
   (bif i then
    some (.inr (.inr (0,false)))
   else
    (xnth c b).bind fun f =>
    some (.inl ((if 2147483647<(wr ((wr (10*d))+((f - 48).toNat:Int))) then 2147483647 else (wr ((wr (10*d))+((f - 48).toNat:Int)))),wr (b+1))))
  else
   some (.inr (.inl d)))
def zA5 (b:Str):Option (Int×Bool) :=
 (zAB (zEe b) (0,0)).bind fun c=>match c with
 | .inr e=>some e
 | .inl d =>
  some (d,b !=[])
def zAo (b:Gcachecontrol_directive) (d:Int) (f:Int):Option Int :=
 (zA5 b.fvalue).bind fun c =>
 (bif b.fform==0 then
  some d
 else
  (bif ((b.fform==2)||(!c.2)) then
   some f
  else
   some c.1))
def zAx (f:(List Str)):(Int×(List (Str×Gcachecontrol_directive)))→Option ((Int×(List (Str×Gcachecontrol_directive))) ⊕ (List (Str×Gcachecontrol_directive)))
 | (d,b) =>
  (bif decide (d<(f.length:Int)) then
   (xnth f d).bind fun h =>
   (zCW h).bind fun c =>
   ((bif ((!(mget b c.1 (⟨0,[]⟩:Gcachecontrol_directive)).2)&&(c.1 !=[])) then
    some (mset b c.1 c.2)
   else
    some b)).bind fun (m:List (Str×Gcachecontrol_directive)) =>
   some (.inl (wr (d+1),m))
  else
   some (.inr b))
def zAc (h:(List GField)):Option GControl :=
 (zC3 h [67,97,99,104,101,45,67,111,110,116,114,111,108]).bind fun f =>
 (zAB (zAx f) (0,([]:List (Str×Gcachecontrol_directive)))).bind fun m =>
 ((bif (mget m [109,97,120,45,97,103,101] (⟨0,[]⟩:Gcachecontrol_directive)).2 then
  (zAo (mget m [109,97,120,45,97,103,101] (⟨0,[]⟩:Gcachecontrol_directive)).1 0 0).bind fun r =>
  some (r,(-1),(-1),(-1))
 else
  some ((-1),(-1),(-1),(-1)))).bind fun (a:Int×Int×Int×Int) =>
 ((bif (mget m [115,45,109,97,120,97,103,101] (⟨0,[]⟩:Gcachecontrol_directive)).2 then
  (zAo (mget m [115,45,109,97,120,97,103,101] (⟨0,[]⟩:Gcachecontrol_directive)).1 0 0).bind fun r =>
  some (a.1,r,a.2.2.1,a.2.2.2)
 else
  some (a.1,a.2.1,a.2.2.1,a.2.2.2))).bind fun (b:Int×Int×Int×Int) =>
 ((bif (mget m [109,105,110,45,102,114,101,115,104] (⟨0,[]⟩:Gcachecontrol_directive)).2 then
  (zAo (mget m [109,105,110,45,102,114,101,115,104] (⟨0,[]⟩:Gcachecontrol_directive)).1 2147483647 2147483647).bind fun r =>
  some (b.1,b.2.1,r,b.2.2.2)
 else
  some (b.1,b.2.1,b.2.2.1,b.2.2.2))).bind fun (c:Int×Int×Int×Int) =>
 ((bif (mget m [109,97,120,45,115,116,97,108,101] (⟨0,[]⟩:Gcachecontrol_directive)).2 then
  (zAo (mget m [109,97,120,45,115,116,97,108,101] (⟨0,[]⟩:Gcachecontrol_directive)).1 2147483647 0).bind fun r =>
  some (c.1,c.2.1,c.2.2.1,r)
 else
  some (c.1,c.2.1,c.2.2.1,c.2.2.2))).bind fun (d:Int×Int×Int×Int) =>
 some (⟨((mget m [110,111,45,115,116,111,114,101] (⟨0,[]⟩:Gcachecontrol_directive)).2||(decide (64≤(f.length:Int)))),(mget m [110,111,45,99,97,99,104,101] (⟨0,[]⟩:Gcachecontrol_directive)).2,(mget m [109,117,115,116,45,114,101,118,97,108,105,100,97,116,101] (⟨0,[]⟩:Gcachecontrol_directive)).2,(mget m [112,114,111,120,121,45,114,101,118,97,108,105,100,97,116,101] (⟨0,[]⟩:Gcachecontrol_directive)).2,(mget m [112,114,105,118,97,116,101] (⟨0,[]⟩:Gcachecontrol_directive)).2,(mget m [112,117,98,108,105,99] (⟨0,[]⟩:Gcachecontrol_directive)).2,(mget m [111,110,108,121,45,105,102,45,99,97,99,104,101,100] (⟨0,[]⟩:Gcachecontrol_directive)).2,d.1,d.2.1,d.2.2.1,d.2.2.2⟩:GControl)
def zAv (b:(List GField)) (c:Str):Option Bool :=
 (zAO c).bind fun d =>
 (zBl b (fun f=>zBR f d)).bind fun h =>
 some (decide (0<(h.length:Int)))
def zAE (c:(List Str)) (d:(Str→Option Bool)) (b:Int):Option (Int ⊕ (Unit ⊕ Int)) :=
  (bif decide (b<(c.length:Int)) then
   (xnth c b).bind fun f =>
   (d f).bind fun h =>
   (bif h then
    some (.inr (.inr b))
   else
    some (.inl (wr (b+1))))
  else
   some (.inr (.inl ())))
def zAK (b:(List Str)) (c:(Str→Option Bool)):Option Int :=
 (zAB (zAE b c) 0).bind fun d=>match d with
 | .inr e=>some e
 | .inl _ =>
  some (-1)
def zAu (b:(List Str)) (c:(Str→Option Bool)):Option Bool :=
 (zAK b c).bind fun d =>
 some (decide (0≤d))
def zAe (b:Str) (c:Str):Option Bool :=
 (bif (b.length:Int)==(c.length:Int) then
  (zAO b).bind fun d =>
  (zAO c).bind fun f =>
  some (d==f)
 else
  some false).bind fun h =>
 some h
def zBP (b:Str):Option Bool :=
 (zAe b [110,111,45,99,97,99,104,101]).bind fun c =>
 some c
def zBN (c:(List GField)):Option GControl :=
 (zAc c).bind fun b =>
 (zAv c [67,97,99,104,101,45,67,111,110,116,114,111,108]).bind fun d =>
 (bif !d then
  (zC3 c [80,114,97,103,109,97]).bind fun f =>
  (zAu f zBP).bind fun h =>
  some (h)
 else
  some false).bind fun i =>
 ((bif i then
  some true
 else
  some b.fNoCache)).bind fun (j:Bool) =>
 some (⟨b.fNoStore,j,b.fMustRevalidate,b.fProxyRevalidate,b.fPrivate,b.fPublic,b.fOnlyIfCached,b.fMaxAge,b.fSMaxAge,b.fMinFresh,b.fMaxStale⟩:GControl)
def zDQ (c:Int) (d:(Int→Option Str)) (f:Str) (b:Int):Option (Int ⊕ (Unit ⊕ Int)) :=
  (bif decide (b<c) then
   (d b).bind fun h =>
   (bif h==f then
    some (.inr (.inr b))
   else
    some (.inl (wr (b+1))))
  else
   some (.inr (.inl ())))
def zF9 (b:Int) (c:(Int→Option Str)) (d:Str):Option Int :=
 (zAB (zDQ b c d) 0).bind fun f=>match f with
 | .inr e=>some e
 | .inl _ =>
  some (-1)
def zDh (b:Int):Option Str :=
 (xnth ([[74,97,110],[70,101,98],[77,97,114],[65,112,114],[77,97,121],[74,117,110],[74,117,108],[65,117,103],[83,101,112],[79,99,116],[78,111,118],[68,101,99]]:List Str) b).bind fun c =>
 some c
def zLv (b:Int):Option Bool :=
 (xrem b 4).bind fun c =>
 (bif c==0 then
  (xrem b 100).bind fun d =>
  (bif d !=0 then
   some true
  else
   (xrem b 400).bind fun f =>
   some (f==0)).bind fun h =>
  some (h)
 else
  some false).bind fun i =>
 some i
def zD5 (c:Int) (b:Int):Option Int :=
 (bif b==2 then
  (zLv c).bind fun d =>
  some (d)
 else
  some false).bind fun f =>
 (bif f then
  some 29
 else
  (xnth ([31,28,31,30,31,30,31,31,30,31,30,31]:List Int) (wr (b - 1))).bind fun h =>
  some h)
def zEx (b:Int):Option Int :=
 (xquo (wr (b - 1)) 4).bind fun c =>
 (xquo (wr (b - 1)) 100).bind fun d =>
 (xquo (wr (b - 1)) 400).bind fun f =>
 some (wr ((wr ((wr ((wr (365*(wr (b - 1))))+c)) - d))+f))
def zLG (d:Int) (f:Int):(Int×Int)→Option ((Int×Int) ⊕ Int)
 | (c,b) =>
  (bif decide (b<f) then
   (zD5 d b).bind fun h =>
   some (.inl (wr (c+h),wr (b+1)))
  else
   some (.inr c))
def zJ3 (b:Int) (c:Int) (d:Int):Option Int :=
 (bif (((((decide (b<1970))||(decide (9999<b)))||(decide (c<1)))||(decide (12<c)))||(decide (d<1))) then
  some true
 else
  (zD5 b c).bind fun f =>
  some (decide (f<d))).bind fun h =>
 (bif h then
  some (-1)
 else
  (zEx b).bind fun i =>
  (zEx 1970).bind fun j =>
  (zAB (zLG b c) (wr ((wr ((wr (i - j))+d)) - 1),1)).bind fun k =>
  some k)
def zFf (b:Int):Option Str :=
 (xnth ([[77,111,110],[84,117,101],[87,101,100],[84,104,117],[70,114,105],[83,97,116],[83,117,110]]:List Str) b).bind fun c =>
 some c
def zGE (b:Str):Option (Int×Bool) :=
 (bif (b.length:Int) !=29 then
  some true
 else
  (xsub b 3 5).bind fun k =>
  some (k !=[44,32])).bind fun l =>
 (bif l then
  some true
 else
  (xnth b 7).bind fun o =>
  some (o !=32)).bind fun p =>
 (bif p then
  some true
 else
  (xnth b 11).bind fun r =>
  some (r !=32)).bind fun t =>
 (bif t then
  some true
 else
  (xnth b 16).bind fun c15 =>
  some (c15 !=32)).bind fun u =>
 (bif u then
  some true
 else
  (xnth b 19).bind fun v =>
  some (v !=58)).bind fun x =>
 (bif x then
  some true
 else
  (xnth b 22).bind fun z =>
  some (z !=58)).bind fun aa =>
 (bif aa then
  some true
 else
  (xsub b 25 b.length).bind fun ab =>
  some (ab !=[32,71,77,84])).bind fun ac =>
 (bif ac then
  some (0,false)
 else
  (xsub b 5 7).bind fun ad =>
  (xsub b 12 16).bind fun ae =>
  (xsub b 17 19).bind fun af =>
  (xsub b 20 22).bind fun ah =>
  (xsub b 23 25).bind fun ai =>
  (zA5 ad).bind fun i =>
  (bif !i.2 then
   some (0,false)
  else
   (zA5 ae).bind fun j =>
   (bif !j.2 then
    some (0,false)
   else
    (zA5 af).bind fun c =>
    (bif !c.2 then
     some (0,false)
    else
     (zA5 ah).bind fun d =>
     (bif !d.2 then
      some (0,false)
     else
      (zA5 ai).bind fun f =>
      (bif !f.2 then
       some (0,false)
      else
       (xsub b 8 11).bind fun aj =>
       (zF9 12 zDh aj).bind fun ak =>
       (zJ3 j.1 (wr (ak+1)) i.1).bind fun h =>
       (bif decide (h<0) then some true else some (decide (23<c.1))).bind fun al =>
       (bif al then some true else some (decide (59<d.1))).bind fun am =>
       (bif am then some true else some (decide (59<f.1))).bind fun an =>
       (bif an then
        some true
       else
        (xsub b 0 3).bind fun ao =>
        (zF9 7 zFf ao).bind fun ap =>
        some (ap !=(wr (h+3)).tmod 7)).bind fun aq =>
       (bif aq then
        some (0,false)
       else
        some (wr ((wr (h*86400))+(wr ((wr ((wr (c.1*3600))+(wr (d.1*60))))+f.1))),true))))))))
def zCT (c:(List GField)) (d:Str):Option (Int×Bool) :=
 (zAt c d).bind fun f =>
 (zGE f.1).bind fun b =>
 some (b.1,b.2)
def zCH (b:Int) (c:Int):Option Int :=
 some (if 2147483647<(if (wr (b - c))<0 then 0 else (wr (b - c))) then 2147483647 else (if (wr (b - c))<0 then 0 else (wr (b - c))))
def zCA (c:(List GField)):Option Int :=
 (zAc c).bind fun b =>
 (bif decide (0≤b.fSMaxAge) then
  some b.fSMaxAge
 else
  (bif decide (0≤b.fMaxAge) then
   some b.fMaxAge
  else
   (zCT c [69,120,112,105,114,101,115]).bind fun d =>
   (zCT c [68,97,116,101]).bind fun f =>
   (bif ((!d.2)||(!f.2)) then
    some 0
   else
    (zCH d.1 f.1).bind fun h =>
    some h)))
def zFF (c:(List GField)) (d:Int):Option Int :=
 (zCT c [68,97,116,101]).bind fun b =>
 (bif b.2 then
  some b.1
 else
  some d)
def zFv (h:(List GField)) (c:Int) (b:Int) (f:Int):Option Int :=
 (bif ((((decide (c<0))||(decide (b<c)))||(decide (f<b)))||(decide (1099511627776<f))) then
  some 2147483647
 else
  (zAt h [65,103,101]).bind fun j =>
  (zA5 j.1).bind fun i =>
  (zFF h b).bind fun d =>
  (zCH (wr ((wr ((if (if 0<(wr (b - d)) then (wr (b - d)) else 0)<(wr ((wr (i.1+b)) - c)) then (wr ((wr (i.1+b)) - c)) else (if 0<(wr (b - d)) then (wr (b - d)) else 0))+f)) - b)) 0).bind fun k =>
  some k)
def zEk (d:Int) (c:Int) (b:GControl) (f:GControl):Option Bool :=
 (bif ((((decide (d<0))||(decide (2147483647<d)))||(decide (c<0)))||(decide (2147483647<c))) then
  some false
 else
  (bif (b.fNoCache||f.fNoCache) then
   some false
  else
   (bif ((b.fMaxAge !=(-1))&&(decide (b.fMaxAge<c))) then
    some false
   else
    (bif decide (c<d) then
     some ((b.fMinFresh==(-1))||(decide (b.fMinFresh≤(wr (d - c)))))
    else
     (bif ((f.fMustRevalidate||f.fProxyRevalidate)||(f.fSMaxAge !=(-1))) then
      some false
     else
      (bif b.fMinFresh !=(-1) then
       some false
      else
       some ((b.fMaxStale !=(-1))&&(decide ((wr (c - d))≤b.fMaxStale)))))))))
def zBh (b:Int):Option Str :=
 (bif b==1 then
  some [65,99,99,101,112,116]
 else
  (bif b==2 then
   some [65,99,99,101,112,116,45,76,97,110,103,117,97,103,101]
  else
   (bif b==3 then
    some [65,99,99,101,112,116,45,67,104,97,114,115,101,116]
   else
    (bif b==4 then
     some [65,99,99,101,112,116,45,69,110,99,111,100,105,110,103]
    else
     some []))))
def zD2 (b:Str):Option Int :=
 (zBh 1).bind fun c =>
 (zAe b c).bind fun d =>
 (bif d then
  some 1
 else
  (zBh 2).bind fun f =>
  (zAe b f).bind fun h =>
  (bif h then
   some 2
  else
   (zBh 3).bind fun i =>
   (zAe b i).bind fun j =>
   (bif j then
    some 3
   else
    (zBh 4).bind fun k =>
    (zAe b k).bind fun l =>
    (bif l then
     some 4
    else
     some 0))))
def zIz (b:Str) (c:(List GField)):Option Str :=
 (zAv c b).bind fun f =>
 (bif !f then
  some []
 else
  (zC3 c b).bind fun d =>
  (zD2 b).bind fun h =>
  (bif ((h !=0)&&(decide ((d.length:Int)<64))) then
   (zIT d).bind fun i =>
   (zAO i).bind fun j =>
   (xcat [61] j).bind fun k =>
   some k
  else
   (zCd c b).bind fun l =>
   (strings_Join l [44,32]).bind fun o =>
   (xcat [61] o).bind fun p =>
   some p))
def zDt (c:(List Str)) (f:(List GField)):((List Str)×Int)→Option (((List Str)×Int) ⊕ (List Str))
 | (d,b) =>
  (bif decide (b<(c.length:Int)) then
   (xnth c b).bind fun h =>
   (zIz h f).bind fun i =>
   (xapp d ([i]:List Str)).bind fun j =>
   some (.inl (j,wr (b+1)))
  else
   some (.inr d))
def zEU (b:(List Str)) (c:(List GField)):Option (List Str) :=
 (zAB (zDt b c) (([]:List Str),0)).bind fun d =>
 some d
def zCq (c:(List Str)) (d:(List Str)) (b:Int):Option (Int ⊕ (Unit ⊕ Bool)) :=
  (bif decide (b<(c.length:Int)) then
   (xnth c b).bind fun f =>
   (xnth d b).bind fun h =>
   (bif f !=h then
    some (.inr (.inr false))
   else
    some (.inl (wr (b+1))))
  else
   some (.inr (.inl ())))
def zAS (b:(List Str)) (c:(List Str)):Option Bool :=
 (bif (b.length:Int) !=(c.length:Int) then
  some false
 else
  (zAB (zCq b c) 0).bind fun d=>match d with
  | .inr e=>some e
  | .inl _ =>
   some true)
def zIp (b:(List Str)) (c:(List Str)) (d:(List GField)):Option Bool :=
 (bif (b.length:Int)==(c.length:Int) then
  (zEU b d).bind fun f =>
  (zAS f c).bind fun h =>
  some (h)
 else
  some false).bind fun i =>
 some i
def zFh (c:(List Str)):(Int×Int)→Option ((Int×Int) ⊕ Int)
 | (d,b) =>
  (bif decide (b<(c.length:Int)) then
   (xnth c b).bind fun f =>
   some (.inl (wr (d+(wr (4+(f.length:Int)))),wr (b+1)))
  else
   some (.inr d))
def zDR (b:(List Str)):Option Int :=
 (zAB (zFh b) (0,0)).bind fun c =>
 some c
def zHe (c:GEntry):(Int×Int)→Option ((Int×Int) ⊕ Int)
 | (d,b) =>
  (bif decide (b<(c.fFields.length:Int)) then
   (xnth c.fFields b).bind fun f =>
   some (.inl (wr (d+(wr ((wr (4+(f.fName.length:Int)))+(f.fValue.length:Int)))),wr (b+1)))
  else
   some (.inr d))
def zFx (c:GEntry):(Int×Int)→Option ((Int×Int) ⊕ Int)
 | (d,b) =>
  (bif decide (b<(c.fKeys.length:Int)) then
   (xnth c.fKeys b).bind fun f =>
   (zDR f).bind fun h =>
   some (.inl (wr (d+h),wr (b+1)))
  else
   some (.inr d))
def zGC (b:GEntry):Option Int :=
 (zDR b.fVary).bind fun c =>
 (zDR b.fSnapshot).bind fun d =>
 (zAB (zHe b) (wr ((wr ((wr ((wr (100+(b.fReason.length:Int)))+(b.fBody.length:Int)))+c))+d),0)).bind fun f =>
 (zAB (zFx b) (f,0)).bind fun h =>
 some h
def zIe (b:GEntry) (c:Int):Option Int :=
 (zFv b.fFields b.fRequested b.fReceived c).bind fun d =>
 some d
end
end Go.Eng.Pure
