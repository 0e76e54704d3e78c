/- A part. -/
import Derived.Test.YtffangblkofjdaaGreatDoorEng41
set_option linter.unusedVariables false
namespace Go.Eng.Pure
open Go Go.Eng
set_option linter.unusedVariables false
structure GField where
 fName:Str
 fValue:Str
deriving DecidableEq
instance:Enc GField where
 sz:=2
 cells H cs x:=cs=[(str x.fName),(str x.fValue)]
 pos:=by decide
 len:=fun h=>by rw [h]; rfl
 mono:=fun h _=>h
 one:=by
  intro H cs x h v hv
  rw [h] at hv
  exact List.all_eq_true.1 (show List.all [(str x.fName),(str x.fValue)] Value.oneCell'=true from rfl) v hv
structure GETag where
 fWeak:Bool
 fTag:Str
deriving DecidableEq
instance:Enc GETag where
 sz:=2
 cells H cs x:=cs=[(boo x.fWeak),(str x.fTag)]
 pos:=by decide
 len:=fun h=>by rw [h]; rfl
 mono:=fun h _=>h
 one:=by
  intro H cs x h v hv
  rw [h] at hv
  exact List.all_eq_true.1 (show List.all [(boo x.fWeak),(str x.fTag)] Value.oneCell'=true from rfl) v hv
structure Gcachecontrol_directive where
 fform:Int
 fvalue:Str
deriving DecidableEq
instance:Enc Gcachecontrol_directive where
 sz:=2
 cells H cs x:=cs=[(int x.fform),(str x.fvalue)]
 pos:=by decide
 len:=fun h=>by rw [h]; rfl
 mono:=fun h _=>h
 one:=by
  intro H cs x h v hv
  rw [h] at hv
  exact List.all_eq_true.1 (show List.all [(int x.fform),(str x.fvalue)] Value.oneCell'=true from rfl) v hv
structure GControl where
 fNoStore:Bool
 fNoCache:Bool
 fMustRevalidate:Bool
 fProxyRevalidate:Bool
 fPrivate:Bool
 fPublic:Bool
 fOnlyIfCached:Bool
 fMaxAge:Int
 fSMaxAge:Int
 fMinFresh:Int
 fMaxStale:Int
deriving DecidableEq
instance:Enc GControl where
 sz:=11
 cells H cs x:=cs=[(boo x.fNoStore),(boo x.fNoCache),(boo x.fMustRevalidate),(boo x.fProxyRevalidate),(boo x.fPrivate),(boo x.fPublic),(boo x.fOnlyIfCached),(int x.fMaxAge),(int x.fSMaxAge),(int x.fMinFresh),(int x.fMaxStale)]
 pos:=by decide
 len:=fun h=>by rw [h]; rfl
 mono:=fun h _=>h
 one:=by
  intro H cs x h v hv
  rw [h] at hv
  exact List.all_eq_true.1 (show List.all [(boo x.fNoStore),(boo x.fNoCache),(boo x.fMustRevalidate),(boo x.fProxyRevalidate),(boo x.fPrivate),(boo x.fPublic),(boo x.fOnlyIfCached),(int x.fMaxAge),(int x.fSMaxAge),(int x.fMinFresh),(int x.fMaxStale)] Value.oneCell'=true from rfl) v hv
structure GEntry where
 fKeys:(List (List Str))
 fVary:(List Str)
 fSnapshot:(List Str)
 fReason:Str
 fFields:(List GField)
 fBody:Str
 fRequested:Int
 fReceived:Int
deriving DecidableEq
instance:Enc GEntry where
 sz:=8
 cells H cs x:=∃ u1 u2 u3 u4:Value,cs=[u1,u2,u3,(str x.fReason),u4,(str x.fBody),(int x.fRequested),(int x.fReceived)]∧Sl (α:=(List Str)) H u1 x.fKeys∧Sl (α:=Str) H u2 x.fVary∧Sl (α:=Str) H u3 x.fSnapshot∧Sl (α:=GField) H u4 x.fFields
 pos:=by decide
 len:=fun ⟨u1,u2,u3,u4,h,R0,R1,R2,R3⟩=>by rw [h]; rfl
 mono:=fun ⟨u1,u2,u3,u4,h,R0,R1,R2,R3⟩ hl=>⟨u1,u2,u3,u4,h,R0.mono hl,R1.mono hl,R2.mono hl,R3.mono hl⟩
 one:=fun ⟨u1,u2,u3,u4,h,R0,R1,R2,R3⟩ v hv=>by rw [h] at hv; exact AllOne.mem (.cons (Sl.oneC R0) (.cons (Sl.oneC R1) (.cons (Sl.oneC R2) (.cons rfl (.cons (Sl.oneC R3) (.cons rfl (.cons rfl (.cons rfl .nil)))))))) v hv
structure GResponse where
 fMinor:Int
 fStatus:Int
 fReason:Str
 fFields:(List GField)
 fBody:Str
deriving DecidableEq
instance:Enc GResponse where
 sz:=5
 cells H cs x:=∃ u1:Value,cs=[(int x.fMinor),(int x.fStatus),(str x.fReason),u1,(str x.fBody)]∧Sl (α:=GField) H u1 x.fFields
 pos:=by decide
 len:=fun ⟨u1,h,R0⟩=>by rw [h]; rfl
 mono:=fun ⟨u1,h,R0⟩ hl=>⟨u1,h,R0.mono hl⟩
 one:=fun ⟨u1,h,R0⟩ v hv=>by rw [h] at hv; exact AllOne.mem (.cons rfl (.cons rfl (.cons rfl (.cons (Sl.oneC R0) (.cons rfl .nil))))) v hv
structure GRequest where
 fMethod:Str
 fTarget:Str
 fMinor:Int
 fFields:(List GField)
 fBody:Str
deriving DecidableEq
instance:Enc GRequest where
 sz:=5
 cells H cs x:=∃ u1:Value,cs=[(str x.fMethod),(str x.fTarget),(int x.fMinor),u1,(str x.fBody)]∧Sl (α:=GField) H u1 x.fFields
 pos:=by decide
 len:=fun ⟨u1,h,R0⟩=>by rw [h]; rfl
 mono:=fun ⟨u1,h,R0⟩ hl=>⟨u1,h,R0.mono hl⟩
 one:=fun ⟨u1,h,R0⟩ v hv=>by rw [h] at hv; exact AllOne.mem (.cons rfl (.cons rfl (.cons rfl (.cons (Sl.oneC R0) (.cons rfl .nil))))) v hv
inductive Gvariants_domain where
 | media
 | tags
 | words (n:Int)
 | texts
deriving DecidableEq
structure GParam where
 fName:Str
 fValue:Str
deriving DecidableEq
instance:Enc GParam where
 sz:=2
 cells H cs x:=cs=[(str x.fName),(str x.fValue)]
 pos:=by decide
 len:=fun h=>by rw [h]; rfl
 mono:=fun h _=>h
 one:=by
  intro H cs x h v hv
  rw [h] at hv
  exact List.all_eq_true.1 (show List.all [(str x.fName),(str x.fValue)] Value.oneCell'=true from rfl) v hv
structure GMediaType where
 fType:Str
 fSub:Str
 fParams:(List GParam)
deriving DecidableEq
instance:Enc GMediaType where
 sz:=3
 cells H cs x:=∃ u1:Value,cs=[(str x.fType),(str x.fSub),u1]∧Sl (α:=GParam) H u1 x.fParams
 pos:=by decide
 len:=fun ⟨u1,h,R0⟩=>by rw [h]; rfl
 mono:=fun ⟨u1,h,R0⟩ hl=>⟨u1,h,R0.mono hl⟩
 one:=fun ⟨u1,h,R0⟩ v hv=>by rw [h] at hv; exact AllOne.mem (.cons rfl (.cons rfl (.cons (Sl.oneC R0) .nil))) v hv
structure GAxis where
 fName:Str
 fValues:(List Str)
deriving DecidableEq
instance:Enc GAxis where
 sz:=2
 cells H cs x:=∃ u1:Value,cs=[(str x.fName),u1]∧Sl (α:=Str) H u1 x.fValues
 pos:=by decide
 len:=fun ⟨u1,h,R0⟩=>by rw [h]; rfl
 mono:=fun ⟨u1,h,R0⟩ hl=>⟨u1,h,R0.mono hl⟩
 one:=fun ⟨u1,h,R0⟩ v hv=>by rw [h] at hv; exact AllOne.mem (.cons rfl (.cons (Sl.oneC R0) .nil)) v hv
structure GPref where
 fRange:Str
 fQ:Int
deriving DecidableEq
instance:Enc GPref where
 sz:=2
 cells H cs x:=cs=[(str x.fRange),(int x.fQ)]
 pos:=by decide
 len:=fun h=>by rw [h]; rfl
 mono:=fun h _=>h
 one:=by
  intro H cs x h v hv
  rw [h] at hv
  exact List.all_eq_true.1 (show List.all [(str x.fRange),(int x.fQ)] Value.oneCell'=true from rfl) v hv
structure GTable where
 fAxes:(List GAxis)
 fEntries:(List GEntry)
deriving DecidableEq
instance:Enc GTable where
 sz:=2
 cells H cs x:=∃ u1 u2:Value,cs=[u1,u2]∧Sl (α:=GAxis) H u1 x.fAxes∧Sl (α:=GEntry) H u2 x.fEntries
 pos:=by decide
 len:=fun ⟨u1,u2,h,R0,R1⟩=>by rw [h]; rfl
 mono:=fun ⟨u1,u2,h,R0,R1⟩ hl=>⟨u1,u2,h,R0.mono hl,R1.mono hl⟩
 one:=fun ⟨u1,u2,h,R0,R1⟩ v hv=>by rw [h] at hv; exact AllOne.mem (.cons (Sl.oneC R0) (.cons (Sl.oneC R1) .nil)) v hv
structure GConfig where
 fName:Str
 fBytes:Int
 fVariants:Int
 fTables:Int
 fStrict:Bool
 fRefuse:Bool
deriving DecidableEq
instance:Enc GConfig where
 sz:=6
 cells H cs x:=cs=[(str x.fName),(int x.fBytes),(int x.fVariants),(int x.fTables),(boo x.fStrict),(boo x.fRefuse)]
 pos:=by decide
 len:=fun h=>by rw [h]; rfl
 mono:=fun h _=>h
 one:=by
  intro H cs x h v hv
  rw [h] at hv
  exact List.all_eq_true.1 (show List.all [(str x.fName),(int x.fBytes),(int x.fVariants),(int x.fTables),(boo x.fStrict),(boo x.fRefuse)] Value.oneCell'=true from rfl) v hv
structure GURI where
 fHost:Str
 fPort:Int
 fPath:Str
 fQuery:Str
 fHasQuery:Bool
deriving DecidableEq
instance:Enc GURI where
 sz:=5
 cells H cs x:=cs=[(str x.fHost),(int x.fPort),(str x.fPath),(str x.fQuery),(boo x.fHasQuery)]
 pos:=by decide
 len:=fun h=>by rw [h]; rfl
 mono:=fun h _=>h
 one:=by
  intro H cs x h v hv
  rw [h] at hv
  exact List.all_eq_true.1 (show List.all [(str x.fHost),(int x.fPort),(str x.fPath),(str x.fQuery),(boo x.fHasQuery)] Value.oneCell'=true from rfl) v hv
structure GDecision where
 fKind:Int
 fIndex:Int
deriving DecidableEq
instance:Enc GDecision where
 sz:=2
 cells H cs x:=cs=[(int x.fKind),(int x.fIndex)]
 pos:=by decide
 len:=fun h=>by rw [h]; rfl
 mono:=fun h _=>h
 one:=by
  intro H cs x h v hv
  rw [h] at hv
  exact List.all_eq_true.1 (show List.all [(int x.fKind),(int x.fIndex)] Value.oneCell'=true from rfl) v hv
structure GOutput where
 fToClient:Str
 fToOrigin:Str
deriving DecidableEq
instance:Enc GOutput where
 sz:=2
 cells H cs x:=cs=[(str x.fToClient),(str x.fToOrigin)]
 pos:=by decide
 len:=fun h=>by rw [h]; rfl
 mono:=fun h _=>h
 one:=by
  intro H cs x h v hv
  rw [h] at hv
  exact List.all_eq_true.1 (show List.all [(str x.fToClient),(str x.fToOrigin)] Value.oneCell'=true from rfl) v hv
structure Gvariantproxykeep_Step where
 fKind:Int
 fN:Int
 fText:Str
deriving DecidableEq
instance:Enc Gvariantproxykeep_Step where
 sz:=3
 cells H cs x:=cs=[(int x.fKind),(int x.fN),(str x.fText)]
 pos:=by decide
 len:=fun h=>by rw [h]; rfl
 mono:=fun h _=>h
 one:=by
  intro H cs x h v hv
  rw [h] at hv
  exact List.all_eq_true.1 (show List.all [(int x.fKind),(int x.fN),(str x.fText)] Value.oneCell'=true from rfl) v hv
structure Gproxy_refused where
 fstatus:Int
 ferr:Unit
deriving DecidableEq
instance:Enc Gproxy_refused where
 sz:=2
 cells H cs x:=cs=[(int x.fstatus),.nilIface]
 pos:=by decide
 len:=fun h=>by rw [h]; rfl
 mono:=fun h _=>h
 one:=by
  intro H cs x h v hv
  rw [h] at hv
  exact List.all_eq_true.1 (show List.all [(int x.fstatus),.nilIface] Value.oneCell'=true from rfl) v hv
structure Gstartline_fault where
 fpart:Str
 ferr:Unit
deriving DecidableEq
instance:Enc Gstartline_fault where
 sz:=2
 cells H cs x:=cs=[(str x.fpart),.nilIface]
 pos:=by decide
 len:=fun h=>by rw [h]; rfl
 mono:=fun h _=>h
 one:=by
  intro H cs x h v hv
  rw [h] at hv
  exact List.all_eq_true.1 (show List.all [(str x.fpart),.nilIface] Value.oneCell'=true from rfl) v hv
noncomputable section
def zAg (c:Str) (f:(List Int)):(Int×Int)→Option ((Int×Int) ⊕ (Int ⊕ (Int×Bool)))
 | (d,b) =>
  (bif decide (b<(f.length:Int)) then
   (xnth f b).bind fun h =>
   (bif b==1 then
    some (.inl (d,wr (b+1)))
   else
    (xnth c b).bind fun c50 =>
    (bif decide (c50<48) then
     some true
    else
     (xnth c b).bind fun c53 =>
     some (decide (57<c53))).bind fun i =>
    (bif i then
     some (.inr (.inr (0,false)))
    else
     (xnth c b).bind fun c56 =>
     some (.inl (wr (d+(wr (h*((c56 - 48).toNat:Int)))),wr (b+1)))))
  else
   some (.inr (.inl d)))
def zBX (b:Str):Option (Int×Bool) :=
 (bif ((b==[])||(decide (5<(b.length:Int)))) then
  some true
 else
  (xnth b 0).bind fun c5 =>
  (bif c5 !=48 then
   (xnth b 0).bind fun c8 =>
   some (c8 !=49)
  else
   some false).bind fun d =>
  some (d)).bind fun f =>
 (bif f then
  some true
 else
  (bif decide (1<(b.length:Int)) then
   (xnth b 1).bind fun h =>
   some (h !=46)
  else
   some false).bind fun i =>
  some (i)).bind fun j =>
 (bif j then
  some (0,false)
 else
  (xsub ([1000,0,100,10,1]:List Int) 0 (b.length:Int)).bind fun k =>
  (zAE (zAg b k) (0,0)).bind fun l=>match l with
  | .inr e=>some e
  | .inl c =>
   (bif decide (1000<c) then
    some (0,false)
   else
    some (c,true)))
def zFE (c:UInt8) (b:Str):Option (Str ⊕ Str) :=
  (bif decide (0<(b.length:Int)) then
   (xnth b (wr ((b.length:Int) - 1))).bind fun d =>
   some (d==c)
  else
   some false).bind fun f =>
  (bif f then
   (xsub b 0 (wr ((b.length:Int) - 1))).bind fun h =>
   some (.inl h)
  else
   some (.inr b))
def zCK (b:Str) (c:UInt8):Option Str :=
 (zAE (zFE c) b).bind fun d =>
 some d
def zA4 (c:Str) (b:Str):Option (Str ⊕ Str) :=
  (bif decide (0<(b.length:Int)) then
   (xnth b (wr ((b.length:Int) - 1))).bind fun d =>
   (zAX c d).bind fun f =>
   (bif !f then
    some (.inr b)
   else
    (xsub b 0 (wr ((b.length:Int) - 1))).bind fun h =>
    some (.inl h))
  else
   some (.inr b))
def zBQ (b:Str) (c:Str):Option Str :=
 (zAE (zA4 c) b).bind fun d =>
 some d
def zEt (c:(List GField)) (b:Int):Option (Int ⊕ (Unit ⊕ Bool)) :=
  (bif ((decide (b<(c.length:Int)))&&(decide (b<71))) then
   (xnth c b).bind fun d =>
   (bif decide (300<(d.fName.length:Int)) then
    some true
   else
    (xnth c b).bind fun f =>
    some (decide (300<(f.fValue.length:Int)))).bind fun h =>
   (bif h then
    some (.inr (.inr false))
   else
    some (.inl (wr (b+1))))
  else
   some (.inr (.inl ())))
def zDY (b:(List GField)):Option Bool :=
 (zAE (zEt b) 0).bind fun c=>match c with
 | .inr e=>some e
 | .inl _ =>
  some (decide ((b.length:Int)≤70))
def zCf (d:Str):(Int×Str)→Option ((Int×Str) ⊕ Str)
 | (b,c) =>
  (bif decide (b<(d.length:Int)) then
   (xnth c b).bind fun c22 =>
   (xnth c b).bind fun c24 =>
   (bif ((decide (65≤c24))&&(decide (c24≤90))) then
    (xnth c b).bind fun c28 =>
    some (.inl (wr (b+1),(c.set b.toNat ((c24+97) - 65))))
   else
    some (.inl (wr (b+1),c)))
  else
   some (.inr c))
def zAQ (b:Str):Option Str :=
 (zAE (zCf b) (0,b)).bind fun c =>
 some c
def zCR (b:GField) (c:Str):Option Bool :=
 (bif (b.fName.length:Int)==(c.length:Int) then
  (zAQ b.fName).bind fun d =>
  some (d==c)
 else
  some false).bind fun f =>
 some f
def zBp (b:Str):Option (GField→Option Bool) :=
 (zAQ b).bind fun c =>
 some (fun d=>zCR d c)
def zBN (d:(List GField)) (h:(GField→Option Bool)):((List GField)×Int)→Option (((List GField)×Int) ⊕ (List GField))
 | (c,b) =>
  (bif decide (b<(d.length:Int)) then
   (xnth d b).bind fun f =>
   (h f).bind fun i =>
   (bif i then
    (xapp c ([f]:List GField)).bind fun j =>
    some (.inl (j,wr (b+1)))
   else
    some (.inl (c,wr (b+1))))
  else
   some (.inr c))
def zBU (b:(List GField)) (c:(GField→Option Bool)):Option (List GField) :=
 (zAE (zBN b c) (([]:List GField),0)).bind fun d =>
 some d
def zB0 (c:(List GField)):((List Str)×Int)→Option (((List Str)×Int) ⊕ (List Str))
 | (d,b) =>
  (bif decide (b<(c.length:Int)) then
   (xnth c b).bind fun f =>
   (xapp d ([f.fValue]:List Str)).bind fun h =>
   some (.inl (h,wr (b+1)))
  else
   some (.inr d))
def zBx (b:(List GField)) (c:Str):Option (List Str) :=
 (zBp c).bind fun d =>
 (zBU b d).bind fun f =>
 (zAE (zB0 f) (([]:List Str),0)).bind fun h =>
 some h
def zHW (b:Int) (c:UInt8):Option Int :=
 (bif b==2 then
  some 1
 else
  (bif ((b==1)&&(c==92)) then
   some 2
  else
   (bif c==34 then
    some (wr (1 - b))
   else
    some b)))
def zFf (c:UInt8) (b:Str):Option (Str ⊕ Str) :=
  (bif decide (0<(b.length:Int)) then
   (xnth b 0).bind fun d =>
   some (d==c)
  else
   some false).bind fun f =>
  (bif f then
   (xsub b 1 b.length).bind fun h =>
   some (.inl h)
  else
   some (.inr b))
def zBj (b:Str) (c:UInt8):Option Str :=
 (zAE (zFf c) b).bind fun d =>
 some d
def zBA (c:Str) (b:Str):Option (Str ⊕ Str) :=
  (bif decide (0<(b.length:Int)) then
   (xnth b 0).bind fun d =>
   (zAX c d).bind fun f =>
   (bif !f then
    some (.inr b)
   else
    (xsub b 1 b.length).bind fun h =>
    some (.inl h))
  else
   some (.inr b))
def zA8 (b:Str) (c:Str):Option Str :=
 (zAE (zBA c) b).bind fun d =>
 some d
def zEo (c:Str) (b:Str):Option Str :=
 (bif ((c==[])||(b==[])) then
  some c
 else
  (bif (b.length:Int)==1 then
   (xnth b 0).bind fun c6 =>
   some (decide (c6<128))
  else
   some false).bind fun d =>
  (bif d then
   (xnth b 0).bind fun c12 =>
   (zCK c c12).bind fun f =>
   (xnth b 0).bind fun c18 =>
   (zBj f c18).bind fun h =>
   some h
  else
   (strings_makeASCIISet b).bind fun k =>
   (zBQ c b).bind fun i =>
   (zA8 i b).bind fun j =>
   some j))
def zB6 (b:Str):Option Str :=
 (zEo b [32,9]).bind fun c =>
 some c
def zAk (c:Str):((List Str)×Int×Int×Int)→Option (((List Str)×Int×Int×Int) ⊕ (List Str))
 | (d,f,h,b) =>
  (bif ((decide (b≤(c.length:Int)))&&(decide ((d.length:Int)<64))) then
   (bif decide (b<(c.length:Int)) then
    (bif f !=0 then
     some true
    else
     (xnth c b).bind fun j =>
     some (j !=44)).bind fun k =>
    some (k)
   else
    some false).bind fun l =>
   (bif l then
    (xnth c b).bind fun o =>
    (zHW f o).bind fun p =>
    some (.inl (d,p,h,wr (b+1)))
   else
    (xsub c h b).bind fun r =>
    (zB6 r).bind fun i =>
    (bif i !=[] then
     (xapp d ([i]:List Str)).bind fun t =>
     some (.inl (t,f,wr (b+1),wr (b+1)))
    else
     some (.inl (d,f,wr (b+1),wr (b+1)))))
  else
   some (.inr d))
def zGX (b:Str):Option (List Str) :=
 (zAE (zAk b) (([]:List Str),0,0,0)).bind fun c =>
 some c
def zFY (c:(List Str)):((List Str)×Int)→Option (((List Str)×Int) ⊕ (List Str))
 | (d,b) =>
  (bif decide (b<(c.length:Int)) then
   (xnth c b).bind fun f =>
   (zGX f).bind fun h =>
   (xapp d h).bind fun i =>
   some (.inl (i,wr (b+1)))
  else
   some (.inr d))
def zB8 (c:(List GField)) (d:Str):Option (List Str) :=
 (zBx c d).bind fun f =>
 (zAE (zFY f) (([]:List Str),0)).bind fun b =>
 (xsub b 0 (if 64<(b.length:Int) then 64 else (b.length:Int))).bind fun h =>
 some h
def zAU (d:Str) (i:UInt8):((List Str)×Int×Bool×Int)→Option (((List Str)×Int×Bool×Int) ⊕ ((List Str)×Int))
 | (f,h,c,b) =>
  (bif decide (b<(d.length:Int)) then
   (bif c then
    (xnth d b).bind fun j =>
    some (j==92)
   else
    some false).bind fun k =>
   (bif k then
    some (.inl (f,h,c,wr ((wr (b+1))+1)))
   else
    (xnth d b).bind fun l =>
    (bif l==34 then
     some (.inl (f,h,!c,wr (b+1)))
    else
     (xnth d b).bind fun o =>
     (bif ((o==i)&&(!c)) then
      (xsub d h b).bind fun p =>
      (xapp f ([p]:List Str)).bind fun r =>
      some (.inl (r,wr (b+1),c,wr (b+1)))
     else
      some (.inl (f,h,c,wr (b+1))))))
  else
   some (.inr (f,h)))
def zJB (b:Str) (c:UInt8):Option (List Str) :=
 (zAE (zAU b c) (([]:List Str),0,false,0)).bind fun d=>match d with
 | (f,h) =>
  (xsub b h b.length).bind fun i =>
  (xapp f ([i]:List Str)).bind fun j =>
  some j
def zES (c:(List Str)) (b:Int):Option (Int ⊕ (Unit ⊕ Bool)) :=
  (bif ((decide (b<(c.length:Int)))&&(decide (b<21))) then
   (xnth c b).bind fun d =>
   (bif decide (100<(d.length:Int)) then
    some (.inr (.inr false))
   else
    some (.inl (wr (b+1))))
  else
   some (.inr (.inl ())))
def zCM (b:(List Str)):Option Bool :=
 (zAE (zES b) 0).bind fun c=>match c with
 | .inr e=>some e
 | .inl _ =>
  some (decide ((b.length:Int)≤20))
def zE5 (b:(List Str)):Option Str :=
 (strings_Join b [44,32]).bind fun c =>
 some c
def zA9 (c:Str) (b:Str):Option Bool :=
 (bif decide ((b.length:Int)≤(c.length:Int)) then
  (xsub c 0 (b.length:Int)).bind fun d =>
  some (d==b)
 else
  some false).bind fun f =>
 some f
def zDr (b:Str) (c:Str):Option (Str×Bool) :=
 (zA9 b c).bind fun d =>
 (bif !d then
  some (b,false)
 else
  (xsub b (c.length:Int) b.length).bind fun f =>
  some (f,true))
def zFK (c:Str) (d:Str):Option (Str×Bool) :=
 (zDr c d).bind fun b =>
 some (b.1,b.2)
def zH1 (d:Str) (b:Int):Option (Int ⊕ (Unit ⊕ Bool)) :=
  (bif decide (b<(d.length:Int)) then
   (xnth d b).bind fun c =>
   (bif (((decide (c<33))||(c==34))||(c==127)) then
    some (.inr (.inr false))
   else
    some (.inl (wr (b+1))))
  else
   some (.inr (.inl ())))
def zGu (b:Str):Option Bool :=
 (zAE (zH1 b) 0).bind fun c=>match c with
 | .inr e=>some e
 | .inl _ =>
  some true
def zIE (c:Str):Option (GETag×Bool) :=
 (zFK c [87,47]).bind fun b =>
 (bif decide ((b.1.length:Int)<2) then
  some true
 else
  (xnth b.1 0).bind fun c10 =>
  some (c10 !=34)).bind fun d =>
 (bif d then
  some true
 else
  (xnth b.1 (wr ((b.1.length:Int) - 1))).bind fun f =>
  some (f !=34)).bind fun h =>
 (bif h then
  some true
 else
  (xsub b.1 1 (wr ((b.1.length:Int) - 1))).bind fun i =>
  (zGu i).bind fun j =>
  some (!j)).bind fun k =>
 (bif k then
  some ((⟨false,[]⟩:GETag),false)
 else
  (xsub b.1 1 (wr ((b.1.length:Int) - 1))).bind fun l =>
  some ((⟨b.2,l⟩:GETag),true))
def zLI (c:(List Str)):((List GETag)×Int)→Option (((List GETag)×Int) ⊕ ((List GETag) ⊕ ((List GETag)×Bool×Bool)))
 | (d,b) =>
  (bif decide (b<(c.length:Int)) then
   (xnth c b).bind fun h =>
   (zIE h).bind fun f =>
   (bif !f.2 then
    some (.inr (.inr (([]:List GETag),false,false)))
   else
    (xapp d ([f.1]:List GETag)).bind fun i =>
    some (.inl (i,wr (b+1))))
  else
   some (.inr (.inl d)))
def zPh (c:(List GField)) (d:Str):Option ((List GETag)×Bool×Bool) :=
 (zB8 c d).bind fun b =>
 (bif (b.length:Int)==1 then
  (xnth b 0).bind fun f =>
  some (f==[42])
 else
  some false).bind fun h =>
 (bif h then
  some (([]:List GETag),true,true)
 else
  (bif (((b.length:Int)==0)||(decide (64≤(b.length:Int)))) then
   some (([]:List GETag),false,false)
  else
   (zAE (zLI b) (([]:List GETag),0)).bind fun i=>match i with
   | .inr e=>some e
   | .inl j =>
    some (j,false,true)))
def zPr (b:GETag) (c:GETag) (d:(GETag→Option Bool)):Option Bool :=
 (d b).bind fun f =>
 (bif f then
  (d c).bind fun h =>
  some (h)
 else
  some false).bind fun i =>
 some (i&&(b.fTag==c.fTag))
def zJa (b:GETag):Option Bool :=
 some true
def zPX (b:GETag) (c:GETag):Option Bool :=
 (zPr b c zJa).bind fun d =>
 some d
def zFx (c:(List GField)) (d:Str):Option (Str×Bool) :=
 (zBx c d).bind fun b =>
 (bif (b.length:Int)==0 then
  some ([],false)
 else
  (xnth b 0).bind fun f =>
  some (f,true))
def zSC (d:(List GField)):Option (GETag×Bool) :=
 (zFx d [69,84,97,103]).bind fun b =>
 (bif !b.2 then
  some ((⟨false,[]⟩:GETag),false)
 else
  (zIE b.1).bind fun c =>
  some (c.1,c.2))
def zDk (c:Str):((List UInt8)×Int)→Option (((List UInt8)×Int) ⊕ (List UInt8))
 | (d,b) =>
  (bif decide (b<(c.length:Int)) then
   (xnth c b).bind fun c25 =>
   (bif c25==34 then
    some true
   else
    (xnth c b).bind fun c28 =>
    some (c28==92)).bind fun f =>
   ((bif f then
    (xapp d ([92]:List UInt8)).bind fun h =>
    some h
   else
    some d)).bind fun (i:(List UInt8)) =>
   (xnth c b).bind fun c51 =>
   (xapp i ([c51]:List UInt8)).bind fun j =>
   some (.inl (j,wr (b+1)))
  else
   some (.inr d))
def zJZ (b:Str):Option Str :=
 (zAE (zDk b) (([34]:List UInt8),0)).bind fun c =>
 (xapp c ([34]:List UInt8)).bind fun d =>
 some d
def zGe (b:UInt8):Option Bool :=
 (((bif b==33 then
  some (b==33)
 else
  (bif b==35 then
   some (b==35)
  else
   (bif b==36 then
    some (b==36)
   else
    (bif b==37 then
     some (b==37)
    else
     (bif b==38 then
      some (b==38)
     else
      (bif b==39 then
       some (b==39)
      else
       (bif b==42 then
        some (b==42)
       else
        (bif b==43 then
         some (b==43)
        else
         (bif b==45 then
          some (b==45)
         else
          (bif b==46 then
           some (b==46)
          else
           (bif b==94 then
            some (b==94)
           else
            (bif b==95 then
             some (b==95)
            else
             (bif b==96 then
              some (b==96)
             else
              (bif b==124 then
               some (b==124)
              else
               some (b==126)))))))))))))))).bind fun (c:Bool) =>
 (bif c then
  some (.inr true)
 else
  some (.inl ()))).bind fun (d:(Unit ⊕ Bool))=>match d with
 | .inr e=>some e
 | .inl _ =>
  some ((((decide (48≤b))&&(decide (b≤57)))||((decide (65≤b))&&(decide (b≤90))))||((decide (97≤b))&&(decide (b≤122))))
def zDd (c:Str) (b:Int):Option (Int ⊕ (Unit ⊕ Bool)) :=
  (bif decide (b<(c.length:Int)) then
   (xnth c b).bind fun d =>
   (zGe d).bind fun f =>
   (bif !f then
    some (.inr (.inr false))
   else
    some (.inl (wr (b+1))))
  else
   some (.inr (.inl ())))
def zAW (b:Str):Option Bool :=
 (zAE (zDd b) 0).bind fun c=>match c with
 | .inr e=>some e
 | .inl _ =>
  some (b !=[])
def zD9 (c:Str) (b:Int):Option (Int ⊕ (Unit ⊕ Bool)) :=
  (bif decide (b<(c.length:Int)) then
   (xnth c b).bind fun d =>
   (bif decide (d<32) then
    (xnth c b).bind fun f =>
    some (f !=9)
   else
    some false).bind fun h =>
   (bif h then
    some true
   else
    (xnth c b).bind fun i =>
    some (i==127)).bind fun j =>
   (bif j then
    some (.inr (.inr false))
   else
    some (.inl (wr (b+1))))
  else
   some (.inr (.inl ())))
def zCS (b:Str):Option Bool :=
 (zAE (zD9 b) 0).bind fun c=>match c with
 | .inr e=>some e
 | .inl _ =>
  some true
def zAe (c:Str):((List UInt8)×Int)→Option (((List UInt8)×Int) ⊕ ((List UInt8) ⊕ (Str×Bool)))
 | (d,b) =>
  (bif decide (b<(c.length:Int)) then
   (xnth c b).bind fun f =>
   ((bif f==34 then
    some (.inr (.inr (.inr ([],false))))
   else
    (bif f==92 then
     (bif (wr (b+1))==(c.length:Int) then
      some (.inr (.inr (.inr ([],false))))
     else
      some (.inl (wr (b+1))))
    else
     some (.inl b)))).bind fun (i:(Int ⊕ (((List UInt8)×Int) ⊕ ((List UInt8) ⊕ (Str×Bool)))))=>match i with
   | .inr e=>some e
   | .inl h =>
    (xnth c h).bind fun c53 =>
    (xapp d ([c53]:List UInt8)).bind fun j =>
    some (.inl (j,wr (h+1)))
  else
   some (.inr (.inl d)))
def zBu (b:Str):Option (Str×Bool) :=
 (bif decide ((b.length:Int)<2) then
  some true
 else
  (xnth b 0).bind fun c =>
  some (c !=34)).bind fun d =>
 (bif d then
  some true
 else
  (xnth b (wr ((b.length:Int) - 1))).bind fun f =>
  some (f !=34)).bind fun h =>
 (bif h then
  some true
 else
  (xsub b 1 (wr ((b.length:Int) - 1))).bind fun i =>
  (zCS i).bind fun j =>
  some (!j)).bind fun k =>
 (bif k then
  some ([],false)
 else
  (xsub b 1 (wr ((b.length:Int) - 1))).bind fun l =>
  (zAE (zAe l) (([]:List UInt8),0)).bind fun o=>match o with
  | .inr e=>some e
  | .inl p =>
   some (p,true))
def zGi (c:Str) (b:Int):Option (Int ⊕ Int) :=
  (bif decide (b<(c.length:Int)) then
   (xsub c b (wr (b+1))).bind fun d =>
   (zAW d).bind fun f =>
   some (f)
  else
   some false).bind fun h =>
  (bif h then
   some (.inl (wr (b+1)))
  else
   some (.inr b))
def zDa (c:Str):Option (Str×Gcachecontrol_directive) :=
 (zAE (zGi c) 0).bind fun h =>
 (xsub c 0 h).bind fun j =>
 (zAQ j).bind fun d =>
 (xsub c h c.length).bind fun b =>
 (bif b==[] then
  some (d,(⟨0,[]⟩:Gcachecontrol_directive))
 else
  (xsub b 1 b.length).bind fun f =>
  (xnth b 0).bind fun k =>
  (bif k==61 then
   (zAW f).bind fun l =>
   some (l)
  else
   some false).bind fun o =>
  (bif o then
   some (d,(⟨1,f⟩:Gcachecontrol_directive))
  else
   (zBu f).bind fun i =>
   (xnth b 0).bind fun p =>
   (bif ((p==61)&&i.2) then
    some (d,(⟨1,i.1⟩:Gcachecontrol_directive))
   else
    some (d,(⟨2,[]⟩:Gcachecontrol_directive)))))
def zJO (c:Str):(Int×Int)→Option ((Int×Int) ⊕ (Int ⊕ (Int×Bool)))
 | (d,b) =>
  (bif decide (b<(c.length:Int)) then
   (xnth c b).bind fun c18 =>
   (bif decide (c18<48) then
    some true
   else
    (xnth c b).bind fun f =>
    some (decide (57<f))).bind fun h =>
   (bif h then
    some (.inr (.inr (0,false)))
   else
    (xnth c b).bind fun c24 =>
    some (.inl ((if 2147483647<(wr ((wr (10*d))+((c24 - 48).toNat:Int))) then 2147483647 else (wr ((wr (10*d))+((c24 - 48).toNat:Int)))),wr (b+1))))
  else
   some (.inr (.inl d)))
def zEi (b:Str):Option (Int×Bool) :=
 (zAE (zJO b) (0,0)).bind fun c=>match c with
 | .inr e=>some e
 | .inl d =>
  some (d,b !=[])
def zAz (b:Gcachecontrol_directive) (d:Int) (f:Int):Option Int :=
 (zEi b.fvalue).bind fun c =>
 (bif b.fform==0 then
  some d
 else
  (bif ((b.fform==2)||(!c.2)) then
   some f
  else
   some c.1))
def zCv (f:(List Str)):(Int×(List (Str×Gcachecontrol_directive)))→Option ((Int×(List (Str×Gcachecontrol_directive))) ⊕ (List (Str×Gcachecontrol_directive)))
 | (b,c) =>
  (bif decide (b<(f.length:Int)) then
   (xnth f b).bind fun h =>
   (zDa h).bind fun d =>
   (some (mget c d.1 (⟨0,[]⟩:Gcachecontrol_directive))).bind fun g42 =>
   (bif ((!g42.2)&&(d.1 !=[])) then
    some (.inl (wr (b+1),(mset c d.1 d.2)))
   else
    some (.inl (wr (b+1),c)))
  else
   some (.inr c))
def zCG (d:(List GField)):Option GControl :=
 (zB8 d [67,97,99,104,101,45,67,111,110,116,114,111,108]).bind fun c =>
 (zAE (zCv c) (0,([]:List (Str×Gcachecontrol_directive)))).bind fun b =>
 (some (mget b [110,111,45,115,116,111,114,101] (⟨0,[]⟩:Gcachecontrol_directive))).bind fun g50 =>
 (some (mget b [110,111,45,99,97,99,104,101] (⟨0,[]⟩:Gcachecontrol_directive))).bind fun g54 =>
 (some (mget b [109,117,115,116,45,114,101,118,97,108,105,100,97,116,101] (⟨0,[]⟩:Gcachecontrol_directive))).bind fun g58 =>
 (some (mget b [112,114,111,120,121,45,114,101,118,97,108,105,100,97,116,101] (⟨0,[]⟩:Gcachecontrol_directive))).bind fun g62 =>
 (some (mget b [112,114,105,118,97,116,101] (⟨0,[]⟩:Gcachecontrol_directive))).bind fun g66 =>
 (some (mget b [112,117,98,108,105,99] (⟨0,[]⟩:Gcachecontrol_directive))).bind fun g70 =>
 (some (mget b [111,110,108,121,45,105,102,45,99,97,99,104,101,100] (⟨0,[]⟩:Gcachecontrol_directive))).bind fun g74 =>
 ((some (mget b [109,97,120,45,97,103,101] (⟨0,[]⟩:Gcachecontrol_directive))).bind fun g103 =>
 (bif g103.2 then
  (zAz g103.1 0 0).bind fun f =>
  some f
 else
  some (-1))).bind fun (h:Int) =>
 ((some (mget b [115,45,109,97,120,97,103,101] (⟨0,[]⟩:Gcachecontrol_directive))).bind fun g132 =>
 (bif g132.2 then
  (zAz g132.1 0 0).bind fun i =>
  some i
 else
  some (-1))).bind fun (j:Int) =>
 ((some (mget b [109,105,110,45,102,114,101,115,104] (⟨0,[]⟩:Gcachecontrol_directive))).bind fun g161 =>
 (bif g161.2 then
  (zAz g161.1 2147483647 2147483647).bind fun k =>
  some k
 else
  some (-1))).bind fun (l:Int) =>
 ((some (mget b [109,97,120,45,115,116,97,108,101] (⟨0,[]⟩:Gcachecontrol_directive))).bind fun g190 =>
 (bif g190.2 then
  (zAz g190.1 2147483647 0).bind fun o =>
  some o
 else
  some (-1))).bind fun (p:Int) =>
 some (⟨(g50.2||(decide (64≤(c.length:Int)))),g54.2,g58.2,g62.2,g66.2,g70.2,g74.2,h,j,l,p⟩:GControl)
def zA5 (b:(List GField)) (c:Str):Option Bool :=
 (zBp c).bind fun d =>
 (zBU b d).bind fun f =>
 some (decide (0<(f.length:Int)))
def zAS (c:(List Str)) (d:(Str→Option Bool)) (b:Int):Option (Int ⊕ (Unit ⊕ Int)) :=
  (bif decide (b<(c.length:Int)) then
   (xnth c b).bind fun f =>
   (d f).bind fun h =>
   (bif h then
    some (.inr (.inr b))
   else
    some (.inl (wr (b+1))))
  else
   some (.inr (.inl ())))
def zAT (b:(List Str)) (c:(Str→Option Bool)):Option Int :=
 (zAE (zAS b c) 0).bind fun d=>match d with
 | .inr e=>some e
 | .inl _ =>
  some (-1)
def zDM (b:(List Str)) (c:(Str→Option Bool)):Option Bool :=
 (zAT b c).bind fun d =>
 some (decide (0≤d))
def zA0 (b:Str) (c:Str):Option Bool :=
 (bif (b.length:Int)==(c.length:Int) then
  (zAQ b).bind fun d =>
  (zAQ c).bind fun f =>
  some (d==f)
 else
  some false).bind fun h =>
 some h
def zDN (b:Str):Option Bool :=
 (zA0 b [110,111,45,99,97,99,104,101]).bind fun c =>
 some c
def zGn (c:(List GField)):Option GControl :=
 (zCG c).bind fun b =>
 (zA5 c [67,97,99,104,101,45,67,111,110,116,114,111,108]).bind fun d =>
 (bif !d then
  (zB8 c [80,114,97,103,109,97]).bind fun f =>
  (zDM f zDN).bind fun h =>
  some (h)
 else
  some false).bind fun i =>
 ((bif i then
  some true
 else
  some b.fNoCache)).bind fun (j:Bool) =>
 some (⟨b.fNoStore,j,b.fMustRevalidate,b.fProxyRevalidate,b.fPrivate,b.fPublic,b.fOnlyIfCached,b.fMaxAge,b.fSMaxAge,b.fMinFresh,b.fMaxStale⟩:GControl)
def zJo (b:Int):Option Str :=
 (xnth ([[74,97,110],[70,101,98],[77,97,114],[65,112,114],[77,97,121],[74,117,110],[74,117,108],[65,117,103],[83,101,112],[79,99,116],[78,111,118],[68,101,99]]:List Str) b).bind fun c =>
 some c
def zK8 (b:Int):Option Bool :=
 (xrem b 4).bind fun c =>
 (bif c==0 then
  (xrem b 100).bind fun d =>
  (bif d !=0 then
   some true
  else
   (xrem b 400).bind fun f =>
   some (f==0)).bind fun h =>
  some (h)
 else
  some false).bind fun i =>
 some i
def zGx (c:Int) (b:Int):Option Int :=
 (bif b==2 then
  (zK8 c).bind fun d =>
  some (d)
 else
  some false).bind fun f =>
 (bif f then
  some 29
 else
  (xnth ([31,28,31,30,31,30,31,31,30,31,30,31]:List Int) (wr (b - 1))).bind fun h =>
  some h)
def zHD (b:Int):Option Int :=
 (xquo (wr (b - 1)) 4).bind fun c =>
 (xquo (wr (b - 1)) 100).bind fun d =>
 (xquo (wr (b - 1)) 400).bind fun f =>
 some (wr ((wr ((wr ((wr (365*(wr (b - 1))))+c)) - d))+f))
def zLT (d:Int) (f:Int):(Int×Int)→Option ((Int×Int) ⊕ Int)
 | (c,b) =>
  (bif decide (b<f) then
   (zGx d b).bind fun h =>
   some (.inl (wr (c+h),wr (b+1)))
  else
   some (.inr c))
def zOj (b:Int) (c:Int) (d:Int):Option Int :=
 (bif (((((decide (b<1970))||(decide (9999<b)))||(decide (c<1)))||(decide (12<c)))||(decide (d<1))) then
  some true
 else
  (zGx b c).bind fun f =>
  some (decide (f<d))).bind fun h =>
 (bif h then
  some (-1)
 else
  (zHD b).bind fun i =>
  (zHD 1970).bind fun j =>
  (zAE (zLT b c) (wr ((wr ((wr (i - j))+d)) - 1),1)).bind fun k =>
  some k)
def zL7 (b:Int):Option Str :=
 (xnth ([[77,111,110],[84,117,101],[87,101,100],[84,104,117],[70,114,105],[83,97,116],[83,117,110]]:List Str) b).bind fun c =>
 some c
def zHn (b:Int) (c:Int):Option Int :=
 some (if 2147483647<(if (wr (b - c))<0 then 0 else (wr (b - c))) then 2147483647 else (if (wr (b - c))<0 then 0 else (wr (b - c))))
def zI0 (d:Int) (c:Int) (b:GControl) (f:GControl):Option Bool :=
 (bif ((((decide (d<0))||(decide (2147483647<d)))||(decide (c<0)))||(decide (2147483647<c))) then
  some false
 else
  (bif (b.fNoCache||f.fNoCache) then
   some false
  else
   (bif ((b.fMaxAge !=(-1))&&(decide (b.fMaxAge<c))) then
    some false
   else
    (bif decide (c<d) then
     some ((b.fMinFresh==(-1))||(decide (b.fMinFresh≤(wr (d - c)))))
    else
     (bif ((f.fMustRevalidate||f.fProxyRevalidate)||(f.fSMaxAge !=(-1))) then
      some false
     else
      (bif b.fMinFresh !=(-1) then
       some false
      else
       some ((b.fMaxStale !=(-1))&&(decide ((wr (c - d))≤b.fMaxStale)))))))))
def zBC (b:Int):Option Str :=
 (bif b==1 then
  some [65,99,99,101,112,116]
 else
  (bif b==2 then
   some [65,99,99,101,112,116,45,76,97,110,103,117,97,103,101]
  else
   (bif b==3 then
    some [65,99,99,101,112,116,45,67,104,97,114,115,101,116]
   else
    (bif b==4 then
     some [65,99,99,101,112,116,45,69,110,99,111,100,105,110,103]
    else
     some []))))
def zCn (b:Str):Option Int :=
 (zBC 1).bind fun c =>
 (zA0 b c).bind fun d =>
 (bif d then
  some 1
 else
  (zBC 2).bind fun f =>
  (zA0 b f).bind fun h =>
  (bif h then
   some 2
  else
   (zBC 3).bind fun i =>
   (zA0 b i).bind fun j =>
   (bif j then
    some 3
   else
    (zBC 4).bind fun k =>
    (zA0 b k).bind fun l =>
    (bif l then
     some 4
    else
     some 0))))
def zGU (b:Str) (c:(List GField)):Option Str :=
 (zA5 c b).bind fun f =>
 (bif !f then
  some []
 else
  (zB8 c b).bind fun d =>
  (zCn b).bind fun h =>
  (bif ((h !=0)&&(decide ((d.length:Int)<64))) then
   (zE5 d).bind fun i =>
   (zAQ i).bind fun j =>
   (xcat [61] j).bind fun k =>
   some k
  else
   (zBx c b).bind fun l =>
   (strings_Join l [44,32]).bind fun o =>
   (xcat [61] o).bind fun p =>
   some p))
def zCj (c:(List Str)) (f:(List GField)):((List Str)×Int)→Option (((List Str)×Int) ⊕ (List Str))
 | (d,b) =>
  (bif decide (b<(c.length:Int)) then
   (xnth c b).bind fun h =>
   (zGU h f).bind fun i =>
   (xapp d ([i]:List Str)).bind fun j =>
   some (.inl (j,wr (b+1)))
  else
   some (.inr d))
def zEB (b:(List Str)) (c:(List GField)):Option (List Str) :=
 (zAE (zCj b c) (([]:List Str),0)).bind fun d =>
 some d
def zAp (c:(List Str)) (d:(List Str)) (b:Int):Option (Int ⊕ (Unit ⊕ Bool)) :=
  (bif decide (b<(c.length:Int)) then
   (xnth c b).bind fun f =>
   (xnth d b).bind fun h =>
   (bif f !=h then
    some (.inr (.inr false))
   else
    some (.inl (wr (b+1))))
  else
   some (.inr (.inl ())))
def zAn (b:(List Str)) (c:(List Str)):Option Bool :=
 (bif (b.length:Int) !=(c.length:Int) then
  some false
 else
  (zAE (zAp b c) 0).bind fun d=>match d with
  | .inr e=>some e
  | .inl _ =>
   some true)
def zFC (b:(List Str)) (c:(List Str)) (d:(List GField)):Option Bool :=
 (bif (b.length:Int)==(c.length:Int) then
  (zEB b d).bind fun f =>
  (zAn f c).bind fun h =>
  some (h)
 else
  some false).bind fun i =>
 some i
def zF0 (c:(List (List Str))) (b:Int):Option (Int ⊕ (Unit ⊕ Bool)) :=
  (bif ((decide (b<(c.length:Int)))&&(decide (b<11))) then
   (xnth c b).bind fun d =>
   (zCM d).bind fun f =>
   (bif !f then
    some (.inr (.inr false))
   else
    some (.inl (wr (b+1))))
  else
   some (.inr (.inl ())))
def zHj (b:(List (List Str))):Option Bool :=
 (zAE (zF0 b) 0).bind fun c=>match c with
 | .inr e=>some e
 | .inl _ =>
  some (decide ((b.length:Int)≤10))
def zGR (b:GEntry):Option Bool :=
 (zHj b.fKeys).bind fun c =>
 (bif c then
  (zCM b.fVary).bind fun d =>
  some (d)
 else
  some false).bind fun f =>
 (bif f then
  (zCM b.fSnapshot).bind fun h =>
  some (h)
 else
  some false).bind fun i =>
 (bif ((i&&(decide ((b.fReason.length:Int)≤100)))&&(decide ((b.fBody.length:Int)≤2000))) then
  (zDY b.fFields).bind fun j =>
  some (j)
 else
  some false).bind fun k =>
 some k
def zIb (c:(List Str)):(Int×Int)→Option ((Int×Int) ⊕ Int)
 | (d,b) =>
  (bif decide (b<(c.length:Int)) then
   (xnth c b).bind fun f =>
   some (.inl (wr (d+(wr (4+(f.length:Int)))),wr (b+1)))
  else
   some (.inr d))
def zD8 (b:(List Str)):Option Int :=
 (zAE (zIb b) (0,0)).bind fun c =>
 some c
def zKw (c:GEntry):(Int×Int)→Option ((Int×Int) ⊕ Int)
 | (d,b) =>
  (bif decide (b<(c.fFields.length:Int)) then
   (xnth c.fFields b).bind fun f =>
   some (.inl (wr (d+(wr ((wr (4+(f.fName.length:Int)))+(f.fValue.length:Int)))),wr (b+1)))
  else
   some (.inr d))
def zKd (c:GEntry):(Int×Int)→Option ((Int×Int) ⊕ Int)
 | (d,b) =>
  (bif decide (b<(c.fKeys.length:Int)) then
   (xnth c.fKeys b).bind fun f =>
   (zD8 f).bind fun h =>
   some (.inl (wr (d+h),wr (b+1)))
  else
   some (.inr d))
def zJz (b:GEntry):Option Int :=
 (zD8 b.fVary).bind fun c =>
 (zD8 b.fSnapshot).bind fun d =>
 (zAE (zKw b) (wr ((wr ((wr ((wr (100+(b.fReason.length:Int)))+(b.fBody.length:Int)))+c))+d),0)).bind fun f =>
 (zAE (zKd b) (f,0)).bind fun h =>
 some h
end
end Go.Eng.Pure
