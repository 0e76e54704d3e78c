/- A part. -/
import Derived.Test.YtipgfplekgdoiaaGreatDoorEng42
set_option linter.unusedVariables false
namespace Go.Eng.Pure
open Go Go.Eng
set_option linter.unusedVariables false
structure GField where
 fName:Str
 fValue:Str
deriving DecidableEq
instance:Enc GField where
 sz:=2
 cells H cs x:=cs=[(str x.fName),(str x.fValue)]
 pos:=by decide
 len:=fun h=>by rw [h]; rfl
 mono:=fun h _=>h
 one:=by
  intro H cs x h v hv
  rw [h] at hv
  exact List.all_eq_true.1 (show List.all [(str x.fName),(str x.fValue)] Value.oneCell'=true from rfl) v hv
structure GETag where
 fWeak:Bool
 fTag:Str
deriving DecidableEq
instance:Enc GETag where
 sz:=2
 cells H cs x:=cs=[(boo x.fWeak),(str x.fTag)]
 pos:=by decide
 len:=fun h=>by rw [h]; rfl
 mono:=fun h _=>h
 one:=by
  intro H cs x h v hv
  rw [h] at hv
  exact List.all_eq_true.1 (show List.all [(boo x.fWeak),(str x.fTag)] Value.oneCell'=true from rfl) v hv
structure Gcachecontrol_directive where
 fform:Int
 fvalue:Str
deriving DecidableEq
instance:Enc Gcachecontrol_directive where
 sz:=2
 cells H cs x:=cs=[(int x.fform),(str x.fvalue)]
 pos:=by decide
 len:=fun h=>by rw [h]; rfl
 mono:=fun h _=>h
 one:=by
  intro H cs x h v hv
  rw [h] at hv
  exact List.all_eq_true.1 (show List.all [(int x.fform),(str x.fvalue)] Value.oneCell'=true from rfl) v hv
structure GControl where
 fNoStore:Bool
 fNoCache:Bool
 fMustRevalidate:Bool
 fProxyRevalidate:Bool
 fPrivate:Bool
 fPublic:Bool
 fOnlyIfCached:Bool
 fMaxAge:Int
 fSMaxAge:Int
 fMinFresh:Int
 fMaxStale:Int
deriving DecidableEq
instance:Enc GControl where
 sz:=11
 cells H cs x:=cs=[(boo x.fNoStore),(boo x.fNoCache),(boo x.fMustRevalidate),(boo x.fProxyRevalidate),(boo x.fPrivate),(boo x.fPublic),(boo x.fOnlyIfCached),(int x.fMaxAge),(int x.fSMaxAge),(int x.fMinFresh),(int x.fMaxStale)]
 pos:=by decide
 len:=fun h=>by rw [h]; rfl
 mono:=fun h _=>h
 one:=by
  intro H cs x h v hv
  rw [h] at hv
  exact List.all_eq_true.1 (show List.all [(boo x.fNoStore),(boo x.fNoCache),(boo x.fMustRevalidate),(boo x.fProxyRevalidate),(boo x.fPrivate),(boo x.fPublic),(boo x.fOnlyIfCached),(int x.fMaxAge),(int x.fSMaxAge),(int x.fMinFresh),(int x.fMaxStale)] Value.oneCell'=true from rfl) v hv
structure GEntry where
 fKeys:(List (List Str))
 fVary:(List Str)
 fSnapshot:(List Str)
 fReason:Str
 fFields:(List GField)
 fBody:Str
 fRequested:Int
 fReceived:Int
deriving DecidableEq
instance:Enc GEntry where
 sz:=8
 cells H cs x:=∃ u1 u2 u3 u4:Value,cs=[u1,u2,u3,(str x.fReason),u4,(str x.fBody),(int x.fRequested),(int x.fReceived)]∧Sl (α:=(List Str)) H u1 x.fKeys∧Sl (α:=Str) H u2 x.fVary∧Sl (α:=Str) H u3 x.fSnapshot∧Sl (α:=GField) H u4 x.fFields
 pos:=by decide
 len:=fun ⟨u1,u2,u3,u4,h,R0,R1,R2,R3⟩=>by rw [h]; rfl
 mono:=fun ⟨u1,u2,u3,u4,h,R0,R1,R2,R3⟩ hl=>⟨u1,u2,u3,u4,h,R0.mono hl,R1.mono hl,R2.mono hl,R3.mono hl⟩
 one:=fun ⟨u1,u2,u3,u4,h,R0,R1,R2,R3⟩ v hv=>by rw [h] at hv; exact AllOne.mem (.cons (Sl.oneC R0) (.cons (Sl.oneC R1) (.cons (Sl.oneC R2) (.cons rfl (.cons (Sl.oneC R3) (.cons rfl (.cons rfl (.cons rfl .nil)))))))) v hv
structure GResponse where
 fMinor:Int
 fStatus:Int
 fReason:Str
 fFields:(List GField)
 fBody:Str
deriving DecidableEq
instance:Enc GResponse where
 sz:=5
 cells H cs x:=∃ u1:Value,cs=[(int x.fMinor),(int x.fStatus),(str x.fReason),u1,(str x.fBody)]∧Sl (α:=GField) H u1 x.fFields
 pos:=by decide
 len:=fun ⟨u1,h,R0⟩=>by rw [h]; rfl
 mono:=fun ⟨u1,h,R0⟩ hl=>⟨u1,h,R0.mono hl⟩
 one:=fun ⟨u1,h,R0⟩ v hv=>by rw [h] at hv; exact AllOne.mem (.cons rfl (.cons rfl (.cons rfl (.cons (Sl.oneC R0) (.cons rfl .nil))))) v hv
structure GRequest where
 fMethod:Str
 fTarget:Str
 fMinor:Int
 fFields:(List GField)
 fBody:Str
deriving DecidableEq
instance:Enc GRequest where
 sz:=5
 cells H cs x:=∃ u1:Value,cs=[(str x.fMethod),(str x.fTarget),(int x.fMinor),u1,(str x.fBody)]∧Sl (α:=GField) H u1 x.fFields
 pos:=by decide
 len:=fun ⟨u1,h,R0⟩=>by rw [h]; rfl
 mono:=fun ⟨u1,h,R0⟩ hl=>⟨u1,h,R0.mono hl⟩
 one:=fun ⟨u1,h,R0⟩ v hv=>by rw [h] at hv; exact AllOne.mem (.cons rfl (.cons rfl (.cons rfl (.cons (Sl.oneC R0) (.cons rfl .nil))))) v hv
inductive Gvariants_domain where
 | media
 | tags
 | words (n:Int)
 | texts
deriving DecidableEq
structure GParam where
 fName:Str
 fValue:Str
deriving DecidableEq
instance:Enc GParam where
 sz:=2
 cells H cs x:=cs=[(str x.fName),(str x.fValue)]
 pos:=by decide
 len:=fun h=>by rw [h]; rfl
 mono:=fun h _=>h
 one:=by
  intro H cs x h v hv
  rw [h] at hv
  exact List.all_eq_true.1 (show List.all [(str x.fName),(str x.fValue)] Value.oneCell'=true from rfl) v hv
structure GMediaType where
 fType:Str
 fSub:Str
 fParams:(List GParam)
deriving DecidableEq
instance:Enc GMediaType where
 sz:=3
 cells H cs x:=∃ u1:Value,cs=[(str x.fType),(str x.fSub),u1]∧Sl (α:=GParam) H u1 x.fParams
 pos:=by decide
 len:=fun ⟨u1,h,R0⟩=>by rw [h]; rfl
 mono:=fun ⟨u1,h,R0⟩ hl=>⟨u1,h,R0.mono hl⟩
 one:=fun ⟨u1,h,R0⟩ v hv=>by rw [h] at hv; exact AllOne.mem (.cons rfl (.cons rfl (.cons (Sl.oneC R0) .nil))) v hv
structure GAxis where
 fName:Str
 fValues:(List Str)
deriving DecidableEq
instance:Enc GAxis where
 sz:=2
 cells H cs x:=∃ u1:Value,cs=[(str x.fName),u1]∧Sl (α:=Str) H u1 x.fValues
 pos:=by decide
 len:=fun ⟨u1,h,R0⟩=>by rw [h]; rfl
 mono:=fun ⟨u1,h,R0⟩ hl=>⟨u1,h,R0.mono hl⟩
 one:=fun ⟨u1,h,R0⟩ v hv=>by rw [h] at hv; exact AllOne.mem (.cons rfl (.cons (Sl.oneC R0) .nil)) v hv
structure GPref where
 fRange:Str
 fQ:Int
deriving DecidableEq
instance:Enc GPref where
 sz:=2
 cells H cs x:=cs=[(str x.fRange),(int x.fQ)]
 pos:=by decide
 len:=fun h=>by rw [h]; rfl
 mono:=fun h _=>h
 one:=by
  intro H cs x h v hv
  rw [h] at hv
  exact List.all_eq_true.1 (show List.all [(str x.fRange),(int x.fQ)] Value.oneCell'=true from rfl) v hv
structure GTable where
 fAxes:(List GAxis)
 fEntries:(List GEntry)
deriving DecidableEq
instance:Enc GTable where
 sz:=2
 cells H cs x:=∃ u1 u2:Value,cs=[u1,u2]∧Sl (α:=GAxis) H u1 x.fAxes∧Sl (α:=GEntry) H u2 x.fEntries
 pos:=by decide
 len:=fun ⟨u1,u2,h,R0,R1⟩=>by rw [h]; rfl
 mono:=fun ⟨u1,u2,h,R0,R1⟩ hl=>⟨u1,u2,h,R0.mono hl,R1.mono hl⟩
 one:=fun ⟨u1,u2,h,R0,R1⟩ v hv=>by rw [h] at hv; exact AllOne.mem (.cons (Sl.oneC R0) (.cons (Sl.oneC R1) .nil)) v hv
structure GConfig where
 fName:Str
 fBytes:Int
 fVariants:Int
 fTables:Int
 fStrict:Bool
 fRefuse:Bool
deriving DecidableEq
instance:Enc GConfig where
 sz:=6
 cells H cs x:=cs=[(str x.fName),(int x.fBytes),(int x.fVariants),(int x.fTables),(boo x.fStrict),(boo x.fRefuse)]
 pos:=by decide
 len:=fun h=>by rw [h]; rfl
 mono:=fun h _=>h
 one:=by
  intro H cs x h v hv
  rw [h] at hv
  exact List.all_eq_true.1 (show List.all [(str x.fName),(int x.fBytes),(int x.fVariants),(int x.fTables),(boo x.fStrict),(boo x.fRefuse)] Value.oneCell'=true from rfl) v hv
structure GURI where
 fHost:Str
 fPort:Int
 fPath:Str
 fQuery:Str
 fHasQuery:Bool
deriving DecidableEq
instance:Enc GURI where
 sz:=5
 cells H cs x:=cs=[(str x.fHost),(int x.fPort),(str x.fPath),(str x.fQuery),(boo x.fHasQuery)]
 pos:=by decide
 len:=fun h=>by rw [h]; rfl
 mono:=fun h _=>h
 one:=by
  intro H cs x h v hv
  rw [h] at hv
  exact List.all_eq_true.1 (show List.all [(str x.fHost),(int x.fPort),(str x.fPath),(str x.fQuery),(boo x.fHasQuery)] Value.oneCell'=true from rfl) v hv
structure GDecision where
 fKind:Int
 fIndex:Int
deriving DecidableEq
instance:Enc GDecision where
 sz:=2
 cells H cs x:=cs=[(int x.fKind),(int x.fIndex)]
 pos:=by decide
 len:=fun h=>by rw [h]; rfl
 mono:=fun h _=>h
 one:=by
  intro H cs x h v hv
  rw [h] at hv
  exact List.all_eq_true.1 (show List.all [(int x.fKind),(int x.fIndex)] Value.oneCell'=true from rfl) v hv
structure GOutput where
 fToClient:Str
 fToOrigin:Str
deriving DecidableEq
instance:Enc GOutput where
 sz:=2
 cells H cs x:=cs=[(str x.fToClient),(str x.fToOrigin)]
 pos:=by decide
 len:=fun h=>by rw [h]; rfl
 mono:=fun h _=>h
 one:=by
  intro H cs x h v hv
  rw [h] at hv
  exact List.all_eq_true.1 (show List.all [(str x.fToClient),(str x.fToOrigin)] Value.oneCell'=true from rfl) v hv
structure Gvariantproxykeep_Step where
 fKind:Int
 fN:Int
 fText:Str
deriving DecidableEq
instance:Enc Gvariantproxykeep_Step where
 sz:=3
 cells H cs x:=cs=[(int x.fKind),(int x.fN),(str x.fText)]
 pos:=by decide
 len:=fun h=>by rw [h]; rfl
 mono:=fun h _=>h
 one:=by
  intro H cs x h v hv
  rw [h] at hv
  exact List.all_eq_true.1 (show List.all [(int x.fKind),(int x.fN),(str x.fText)] Value.oneCell'=true from rfl) v hv
noncomputable section
def zAj (c:Str) (f:(List Int)):(Int×Int)→Option ((Int×Int) ⊕ (Int ⊕ (Int×Bool)))
 | (d,b) =>
  (bif decide (b<(f.length:Int)) then
   (xnth f b).bind fun h =>
   (bif b==1 then
    some (.inl (d,wr (b+1)))
   else
    (xnth c b).bind fun i =>
    (bif decide (i<48) then
     some true
    else
     (xnth c b).bind fun j =>
     some (decide (57<j))).bind fun k =>
    (bif k then
     some (.inr (.inr (0,false)))
    else
     (xnth c b).bind fun l =>
     some (.inl (wr (d+(wr (h*((l - 48).toNat:Int)))),wr (b+1)))))
  else
   some (.inr (.inl d)))
def zBe (b:Str):Option (Int×Bool) :=
 (bif ((b==[])||(decide (5<(b.length:Int)))) then
  some true
 else
  (xnth b 0).bind fun d =>
  (bif d !=48 then
   (xnth b 0).bind fun f =>
   some (f !=49)
  else
   some false).bind fun h =>
  some (h)).bind fun i =>
 (bif i then
  some true
 else
  (bif decide (1<(b.length:Int)) then
   (xnth b 1).bind fun j =>
   some (j !=46)
  else
   some false).bind fun k =>
  some (k)).bind fun l =>
 (bif l then
  some (0,false)
 else
  (xsub ([1000,0,100,10,1]:List Int) 0 (b.length:Int)).bind fun o =>
  (zAG (zAj b o) (0,0)).bind fun p=>match p with
  | .inr e=>some e
  | .inl c =>
   (bif decide (1000<c) then
    some (0,false)
   else
    some (c,true)))
def zHS (b:UInt8):Option Bool :=
 some ((decide (48≤b))&&(decide (b≤57)))
def zDP (c:UInt8) (b:Str):Option (Str ⊕ Str) :=
  (bif decide (0<(b.length:Int)) then
   (xnth b (wr ((b.length:Int) - 1))).bind fun d =>
   some (d==c)
  else
   some false).bind fun f =>
  (bif f then
   (xsub b 0 (wr ((b.length:Int) - 1))).bind fun h =>
   some (.inl h)
  else
   some (.inr b))
def zEb (b:Str) (c:UInt8):Option Str :=
 (zAG (zDP c) b).bind fun d =>
 some d
def zBA (c:Str) (b:Str):Option (Str ⊕ Str) :=
  (bif decide (0<(b.length:Int)) then
   (xnth b (wr ((b.length:Int) - 1))).bind fun d =>
   (zAd c d).bind fun f =>
   (bif !f then
    some (.inr b)
   else
    (xsub b 0 (wr ((b.length:Int) - 1))).bind fun h =>
    some (.inl h))
  else
   some (.inr b))
def zBY (b:Str) (c:Str):Option Str :=
 (zAG (zBA c) b).bind fun d =>
 some d
def zEJ (c:(List GField)) (b:Int):Option (Int ⊕ (Unit ⊕ Bool)) :=
  (bif ((decide (b<(c.length:Int)))&&(decide (b<71))) then
   (xnth c b).bind fun d =>
   (bif decide (300<(d.fName.length:Int)) then
    some true
   else
    (xnth c b).bind fun f =>
    some (decide (300<(f.fValue.length:Int)))).bind fun h =>
   (bif h then
    some (.inr (.inr false))
   else
    some (.inl (wr (b+1))))
  else
   some (.inr (.inl ())))
def zF8 (b:(List GField)):Option Bool :=
 (zAG (zEJ b) 0).bind fun c=>match c with
 | .inr e=>some e
 | .inl _ =>
  some (decide ((b.length:Int)≤70))
def zC0 (f:Str):(Int×Str)→Option ((Int×Str) ⊕ Str)
 | (b,c) =>
  (bif decide (b<(f.length:Int)) then
   (xnth c b).bind fun h =>
   (xnth c b).bind fun d =>
   (bif ((decide (65≤d))&&(decide (d≤90))) then
    (xnth c b).bind fun i =>
    some (.inl (wr (b+1),(c.set b.toNat ((d+97) - 65))))
   else
    some (.inl (wr (b+1),c)))
  else
   some (.inr c))
def zAp (b:Str):Option Str :=
 (zAG (zC0 b) (0,b)).bind fun c =>
 some c
def zCl (b:GField) (c:Str):Option Bool :=
 (bif (b.fName.length:Int)==(c.length:Int) then
  (zAp b.fName).bind fun d =>
  some (d==c)
 else
  some false).bind fun f =>
 some f
def zCd (b:Str):Option (GField→Option Bool) :=
 (zAp b).bind fun c =>
 some (fun d=>zCl d c)
def zBS (d:(List GField)) (h:(GField→Option Bool)):((List GField)×Int)→Option (((List GField)×Int) ⊕ (List GField))
 | (c,b) =>
  (bif decide (b<(d.length:Int)) then
   (xnth d b).bind fun f =>
   (h f).bind fun i =>
   (bif i then
    (xapp c ([f]:List GField)).bind fun j =>
    some (.inl (j,wr (b+1)))
   else
    some (.inl (c,wr (b+1))))
  else
   some (.inr c))
def zCD (b:(List GField)) (c:(GField→Option Bool)):Option (List GField) :=
 (zAG (zBS b c) (([]:List GField),0)).bind fun d =>
 some d
def zCH (c:(List GField)):((List Str)×Int)→Option (((List Str)×Int) ⊕ (List Str))
 | (d,b) =>
  (bif decide (b<(c.length:Int)) then
   (xnth c b).bind fun f =>
   (xapp d ([f.fValue]:List Str)).bind fun h =>
   some (.inl (h,wr (b+1)))
  else
   some (.inr d))
def zDv (b:(List GField)) (c:Str):Option (List Str) :=
 (zCd c).bind fun d =>
 (zCD b d).bind fun f =>
 (zAG (zCH f) (([]:List Str),0)).bind fun h =>
 some h
def zHz (b:Int) (c:UInt8):Option Int :=
 (bif b==2 then
  some 1
 else
  (bif ((b==1)&&(c==92)) then
   some 2
  else
   (bif c==34 then
    some (wr (1 - b))
   else
    some b)))
def zDk (c:UInt8) (b:Str):Option (Str ⊕ Str) :=
  (bif decide (0<(b.length:Int)) then
   (xnth b 0).bind fun d =>
   some (d==c)
  else
   some false).bind fun f =>
  (bif f then
   (xsub b 1 b.length).bind fun h =>
   some (.inl h)
  else
   some (.inr b))
def zEj (b:Str) (c:UInt8):Option Str :=
 (zAG (zDk c) b).bind fun d =>
 some d
def zBF (c:Str) (b:Str):Option (Str ⊕ Str) :=
  (bif decide (0<(b.length:Int)) then
   (xnth b 0).bind fun d =>
   (zAd c d).bind fun f =>
   (bif !f then
    some (.inr b)
   else
    (xsub b 1 b.length).bind fun h =>
    some (.inl h))
  else
   some (.inr b))
def zBc (b:Str) (c:Str):Option Str :=
 (zAG (zBF c) b).bind fun d =>
 some d
def zGl (c:Str) (b:Str):Option Str :=
 (bif ((c==[])||(b==[])) then
  some c
 else
  (bif (b.length:Int)==1 then
   (xnth b 0).bind fun d =>
   some (decide (d<128))
  else
   some false).bind fun f =>
  (bif f then
   (xnth b 0).bind fun h =>
   (zEb c h).bind fun i =>
   (xnth b 0).bind fun j =>
   (zEj i j).bind fun k =>
   some k
  else
   (strings_makeASCIISet b).bind fun p =>
   (zBY c b).bind fun l =>
   (zBc l b).bind fun o =>
   some o))
def zD5 (b:Str):Option Str :=
 (zGl b [32,9]).bind fun c =>
 some c
def zAq (c:Str):((List Str)×Int×Int×Int)→Option (((List Str)×Int×Int×Int) ⊕ (List Str))
 | (d,f,h,b) =>
  (bif ((decide (b≤(c.length:Int)))&&(decide ((d.length:Int)<64))) then
   (bif decide (b<(c.length:Int)) then
    (bif f !=0 then
     some true
    else
     (xnth c b).bind fun j =>
     some (j !=44)).bind fun k =>
    some (k)
   else
    some false).bind fun l =>
   (bif l then
    (xnth c b).bind fun o =>
    (zHz f o).bind fun p =>
    some (.inl (d,p,h,wr (b+1)))
   else
    (xsub c h b).bind fun q =>
    (zD5 q).bind fun i =>
    (bif i !=[] then
     (xapp d ([i]:List Str)).bind fun r =>
     some (.inl (r,f,wr (b+1),wr (b+1)))
    else
     some (.inl (d,f,wr (b+1),wr (b+1)))))
  else
   some (.inr d))
def zGt (b:Str):Option (List Str) :=
 (zAG (zAq b) (([]:List Str),0,0,0)).bind fun c =>
 some c
def zFH (c:(List Str)):((List Str)×Int)→Option (((List Str)×Int) ⊕ (List Str))
 | (d,b) =>
  (bif decide (b<(c.length:Int)) then
   (xnth c b).bind fun f =>
   (zGt f).bind fun h =>
   (xapp d h).bind fun i =>
   some (.inl (i,wr (b+1)))
  else
   some (.inr d))
def zF1 (c:(List GField)) (d:Str):Option (List Str) :=
 (zDv c d).bind fun f =>
 (zAG (zFH f) (([]:List Str),0)).bind fun b =>
 (xsub b 0 (if 64<(b.length:Int) then 64 else (b.length:Int))).bind fun h =>
 some h
def zC2 (d:Str):(Int×Str)→Option ((Int×Str) ⊕ Str)
 | (b,c) =>
  (bif decide (b<(d.length:Int)) then
   (xnth c b).bind fun k =>
   (xnth c b).bind fun f =>
   (bif decide (65≤f) then
    (xnth c b).bind fun l =>
    (xnth c b).bind fun h =>
    some (decide (h≤90))
   else
    some false).bind fun i =>
   (bif i then
    (xnth c b).bind fun o =>
    (xnth c b).bind fun j =>
    (xnth c b).bind fun p =>
    some (.inl (wr (b+1),(c.set b.toNat (j+32))))
   else
    some (.inl (wr (b+1),c)))
  else
   some (.inr c))
def zBR (b:Str):Option Str :=
 (zAG (zC2 b) (0,b)).bind fun c =>
 some c
def zDS (b:Str) (c:Str):Option Bool :=
 (bif (b.length:Int)==(c.length:Int) then
  (zBR b).bind fun d =>
  (zBR c).bind fun f =>
  some (d==f)
 else
  some false).bind fun h =>
 some h
def zAW (d:Str) (i:UInt8):((List Str)×Int×Bool×Int)→Option (((List Str)×Int×Bool×Int) ⊕ ((List Str)×Int))
 | (f,h,c,b) =>
  (bif decide (b<(d.length:Int)) then
   (bif c then
    (xnth d b).bind fun j =>
    some (j==92)
   else
    some false).bind fun k =>
   (bif k then
    some (.inl (f,h,c,wr ((wr (b+1))+1)))
   else
    (xnth d b).bind fun l =>
    (bif l==34 then
     some (.inl (f,h,!c,wr (b+1)))
    else
     (xnth d b).bind fun o =>
     (bif ((o==i)&&(!c)) then
      (xsub d h b).bind fun p =>
      (xapp f ([p]:List Str)).bind fun q =>
      some (.inl (q,wr (b+1),c,wr (b+1)))
     else
      some (.inl (f,h,c,wr (b+1))))))
  else
   some (.inr (f,h)))
def zGe (b:Str) (c:UInt8):Option (List Str) :=
 (zAG (zAW b c) (([]:List Str),0,false,0)).bind fun d=>match d with
 | (f,h) =>
  (xsub b h b.length).bind fun i =>
  (xapp f ([i]:List Str)).bind fun j =>
  some j
def zF6 (b:UInt8):Option Bool :=
 some ((b==32)||(b==9))
def zEn (b:Str):Option (Str ⊕ Str) :=
  (bif decide (0<(b.length:Int)) then
   (xnth b 0).bind fun c =>
   (zF6 c).bind fun d =>
   some (d)
  else
   some false).bind fun f =>
  (bif f then
   (xsub b 1 b.length).bind fun h =>
   some (.inl h)
  else
   some (.inr b))
def zEv (b:Str):Option (Str ⊕ Str) :=
  (bif decide (0<(b.length:Int)) then
   (xnth b (wr ((b.length:Int) - 1))).bind fun c =>
   (zF6 c).bind fun d =>
   some (d)
  else
   some false).bind fun f =>
  (bif f then
   (xsub b 0 (wr ((b.length:Int) - 1))).bind fun h =>
   some (.inl h)
  else
   some (.inr b))
def zE1 (b:Str):Option Str :=
 (zAG (zEn) b).bind fun c =>
 (zAG (zEv) c).bind fun d =>
 some d
def zBM (c:(List Str)) (d:(List Str)) (b:Int):Option (Int ⊕ (Unit ⊕ Bool)) :=
  (bif decide (b<(c.length:Int)) then
   (xnth c b).bind fun f =>
   (xnth d b).bind fun h =>
   (bif f !=h then
    some (.inr (.inr false))
   else
    some (.inl (wr (b+1))))
  else
   some (.inr (.inl ())))
def zAs (b:(List Str)) (c:(List Str)):Option Bool :=
 (bif (b.length:Int) !=(c.length:Int) then
  some false
 else
  (zAG (zBM b c) 0).bind fun d=>match d with
  | .inr e=>some e
  | .inl _ =>
   some true)
def zDe (c:(List Str)) (b:Int):Option (Int ⊕ (Unit ⊕ Bool)) :=
  (bif ((decide (b<(c.length:Int)))&&(decide (b<21))) then
   (xnth c b).bind fun d =>
   (bif decide (100<(d.length:Int)) then
    some (.inr (.inr false))
   else
    some (.inl (wr (b+1))))
  else
   some (.inr (.inl ())))
def zCV (b:(List Str)):Option Bool :=
 (zAG (zDe b) 0).bind fun c=>match c with
 | .inr e=>some e
 | .inl _ =>
  some (decide ((b.length:Int)≤20))
def zFf (b:(List Str)):Option Str :=
 (strings_Join b [44,32]).bind fun c =>
 some c
def zBn (c:Str) (d:UInt8) (b:Int):Option (Int ⊕ (Unit ⊕ Int)) :=
  (bif decide (b<(c.length:Int)) then
   (xnth c b).bind fun f =>
   (bif f==d then
    some (.inr (.inr b))
   else
    some (.inl (wr (b+1))))
  else
   some (.inr (.inl ())))
def zDM (b:Str) (c:UInt8) (d:Int):Option Int :=
 (zAG (zBn b c) d).bind fun f=>match f with
 | .inr e=>some e
 | .inl _ =>
  some (-1)
def zBh (c:Str) (b:Str):Option Bool :=
 (bif decide ((b.length:Int)≤(c.length:Int)) then
  (xsub c 0 (b.length:Int)).bind fun d =>
  some (d==b)
 else
  some false).bind fun f =>
 some f
def zCR (c:UInt8) (b:Int):Option (Int ⊕ (Unit ⊕ Bool)) :=
  (bif decide (b<15) then
   (xnth [33,35,36,37,38,39,42,43,45,46,94,95,96,124,126] b).bind fun d =>
   (bif d==c then
    some (.inr (.inr true))
   else
    some (.inl (wr (b+1))))
  else
   some (.inr (.inl ())))
def zDi (b:UInt8):Option Bool :=
 (bif ((((decide (97≤b))&&(decide (b≤122)))||((decide (65≤b))&&(decide (b≤90))))||((decide (48≤b))&&(decide (b≤57)))) then
  some true
 else
  (zAG (zCR b) 0).bind fun c=>match c with
  | .inr e=>some e
  | .inl _ =>
   some false)
def zC5 (c:Str) (b:Int):Option (Int ⊕ (Unit ⊕ Bool)) :=
  (bif decide (b<(c.length:Int)) then
   (xnth c b).bind fun d =>
   (zDi d).bind fun f =>
   (bif !f then
    some (.inr (.inr false))
   else
    some (.inl (wr (b+1))))
  else
   some (.inr (.inl ())))
def zB5 (b:Str):Option Bool :=
 (zAG (zC5 b) 0).bind fun c=>match c with
 | .inr e=>some e
 | .inl _ =>
  some (b !=[])
def zEL (c:Str):((List UInt8)×Int)→Option (((List UInt8)×Int) ⊕ (List UInt8))
 | (d,b) =>
  (bif decide (b<(c.length:Int)) then
   (xnth c b).bind fun f =>
   (bif f==34 then
    some true
   else
    (xnth c b).bind fun h =>
    some (h==92)).bind fun i =>
   ((bif i then
    (xapp d ([92]:List UInt8)).bind fun j =>
    some j
   else
    some d)).bind fun (k:(List UInt8)) =>
   (xnth c b).bind fun l =>
   (xapp k ([l]:List UInt8)).bind fun o =>
   some (.inl (o,wr (b+1)))
  else
   some (.inr d))
def zIn (b:Str):Option Str :=
 (zAG (zEL b) (([34]:List UInt8),0)).bind fun c =>
 (xapp c ([34]:List UInt8)).bind fun d =>
 some d
def zEE (b:UInt8):Option Bool :=
 some (((b==9)||((decide (32≤b))&&(decide (b≤126))))||(decide (128≤b)))
def zDg (c:Str) (b:Int):Option (Int ⊕ (Unit ⊕ Bool)) :=
  (bif decide (b<(c.length:Int)) then
   (xnth c b).bind fun d =>
   (zEE d).bind fun f =>
   (bif !f then
    some (.inr (.inr false))
   else
    some (.inl (wr (b+1))))
  else
   some (.inr (.inl ())))
def zG4 (b:Str):Option Bool :=
 (zAG (zDg b) 0).bind fun c=>match c with
 | .inr e=>some e
 | .inl _ =>
  some true
def zGp (b:UInt8):Option Bool :=
 (((bif b==33 then
  some (b==33)
 else
  (bif b==35 then
   some (b==35)
  else
   (bif b==36 then
    some (b==36)
   else
    (bif b==37 then
     some (b==37)
    else
     (bif b==38 then
      some (b==38)
     else
      (bif b==39 then
       some (b==39)
      else
       (bif b==42 then
        some (b==42)
       else
        (bif b==43 then
         some (b==43)
        else
         (bif b==45 then
          some (b==45)
         else
          (bif b==46 then
           some (b==46)
          else
           (bif b==94 then
            some (b==94)
           else
            (bif b==95 then
             some (b==95)
            else
             (bif b==96 then
              some (b==96)
             else
              (bif b==124 then
               some (b==124)
              else
               some (b==126)))))))))))))))).bind fun (c:Bool) =>
 (bif c then
  some (.inr true)
 else
  some (.inl ()))).bind fun (d:(Unit ⊕ Bool))=>match d with
 | .inr e=>some e
 | .inl _ =>
  some ((((decide (48≤b))&&(decide (b≤57)))||((decide (65≤b))&&(decide (b≤90))))||((decide (97≤b))&&(decide (b≤122))))
def zC9 (c:Str) (b:Int):Option (Int ⊕ (Unit ⊕ Bool)) :=
  (bif decide (b<(c.length:Int)) then
   (xnth c b).bind fun d =>
   (zGp d).bind fun f =>
   (bif !f then
    some (.inr (.inr false))
   else
    some (.inl (wr (b+1))))
  else
   some (.inr (.inl ())))
def zAy (b:Str):Option Bool :=
 (zAG (zC9 b) 0).bind fun c=>match c with
 | .inr e=>some e
 | .inl _ =>
  some (b !=[])
def zDt (c:Str) (b:Int):Option (Int ⊕ (Unit ⊕ Bool)) :=
  (bif decide (b<(c.length:Int)) then
   (xnth c b).bind fun d =>
   (bif decide (d<32) then
    (xnth c b).bind fun f =>
    some (f !=9)
   else
    some false).bind fun h =>
   (bif h then
    some true
   else
    (xnth c b).bind fun i =>
    some (i==127)).bind fun j =>
   (bif j then
    some (.inr (.inr false))
   else
    some (.inl (wr (b+1))))
  else
   some (.inr (.inl ())))
def zFr (b:Str):Option Bool :=
 (zAG (zDt b) 0).bind fun c=>match c with
 | .inr e=>some e
 | .inl _ =>
  some true
def zAh (c:Str):((List UInt8)×Int)→Option (((List UInt8)×Int) ⊕ ((List UInt8) ⊕ (Str×Bool)))
 | (d,b) =>
  (bif decide (b<(c.length:Int)) then
   (xnth c b).bind fun f =>
   ((bif f==34 then
    some (.inr (.inr (.inr ([],false))))
   else
    (bif f==92 then
     (bif (wr (b+1))==(c.length:Int) then
      some (.inr (.inr (.inr ([],false))))
     else
      some (.inl (wr (b+1))))
    else
     some (.inl b)))).bind fun (i:(Int ⊕ (((List UInt8)×Int) ⊕ ((List UInt8) ⊕ (Str×Bool)))))=>match i with
   | .inr e=>some e
   | .inl h =>
    (xnth c h).bind fun j =>
    (xapp d ([j]:List UInt8)).bind fun k =>
    some (.inl (k,wr (h+1)))
  else
   some (.inr (.inl d)))
def zDa (b:Str):Option (Str×Bool) :=
 (bif decide ((b.length:Int)<2) then
  some true
 else
  (xnth b 0).bind fun c =>
  some (c !=34)).bind fun d =>
 (bif d then
  some true
 else
  (xnth b (wr ((b.length:Int) - 1))).bind fun f =>
  some (f !=34)).bind fun h =>
 (bif h then
  some true
 else
  (xsub b 1 (wr ((b.length:Int) - 1))).bind fun i =>
  (zFr i).bind fun j =>
  some (!j)).bind fun k =>
 (bif k then
  some ([],false)
 else
  (xsub b 1 (wr ((b.length:Int) - 1))).bind fun l =>
  (zAG (zAh l) (([]:List UInt8),0)).bind fun o=>match o with
  | .inr e=>some e
  | .inl p =>
   some (p,true))
def zAi (b:Str):((List UInt8)×Int)→Option (((List UInt8)×Int) ⊕ ((List UInt8) ⊕ (Str×Bool)))
 | (f,c) =>
  (bif decide (c<(b.length:Int)) then
   (xnth b c).bind fun h =>
   (bif h==34 then
    some (.inr (.inr ([],false)))
   else
    (xnth b c).bind fun i =>
    ((bif i==92 then
     (bif (wr (c+1))==(b.length:Int) then
      some (.inr (.inr (.inr ([],false))))
     else
      some (.inl (wr (c+1))))
    else
     some (.inl c))).bind fun (j:(Int ⊕ (((List UInt8)×Int) ⊕ ((List UInt8) ⊕ (Str×Bool)))))=>match j with
    | .inr e=>some e
    | .inl d =>
     (xnth b d).bind fun k =>
     (zEE k).bind fun l =>
     (bif !l then
      some (.inr (.inr ([],false)))
     else
      (xnth b d).bind fun o =>
      (xapp f ([o]:List UInt8)).bind fun p =>
      some (.inl (p,wr (d+1)))))
  else
   some (.inr (.inl f)))
def zDm (b:Str):Option (Str×Bool) :=
 (bif decide ((b.length:Int)<2) then
  some true
 else
  (xnth b 0).bind fun c =>
  some (c !=34)).bind fun d =>
 (bif d then
  some true
 else
  (xnth b (wr ((b.length:Int) - 1))).bind fun f =>
  some (f !=34)).bind fun h =>
 (bif h then
  some ([],false)
 else
  (xsub b 1 (wr ((b.length:Int) - 1))).bind fun i =>
  (zAG (zAi i) (([]:List UInt8),0)).bind fun j=>match j with
  | .inr e=>some e
  | .inl k =>
   some (k,true))
def zDd (b:(List GField)) (c:Str):Option Bool :=
 (zCd c).bind fun d =>
 (zCD b d).bind fun f =>
 some (decide (0<(f.length:Int)))
def zCk (b:Str) (c:Str):Option Bool :=
 (bif (b.length:Int)==(c.length:Int) then
  (zAp b).bind fun d =>
  (zAp c).bind fun f =>
  some (d==f)
 else
  some false).bind fun h =>
 some h
def zBH (b:Int):Option Str :=
 (bif b==1 then
  some [65,99,99,101,112,116]
 else
  (bif b==2 then
   some [65,99,99,101,112,116,45,76,97,110,103,117,97,103,101]
  else
   (bif b==3 then
    some [65,99,99,101,112,116,45,67,104,97,114,115,101,116]
   else
    (bif b==4 then
     some [65,99,99,101,112,116,45,69,110,99,111,100,105,110,103]
    else
     some []))))
def zD4 (b:Str):Option Int :=
 (zBH 1).bind fun c =>
 (zCk b c).bind fun d =>
 (bif d then
  some 1
 else
  (zBH 2).bind fun f =>
  (zCk b f).bind fun h =>
  (bif h then
   some 2
  else
   (zBH 3).bind fun i =>
   (zCk b i).bind fun j =>
   (bif j then
    some 3
   else
    (zBH 4).bind fun k =>
    (zCk b k).bind fun l =>
    (bif l then
     some 4
    else
     some 0))))
def zG1 (b:Str) (c:(List GField)):Option Str :=
 (zDd c b).bind fun f =>
 (bif !f then
  some []
 else
  (zF1 c b).bind fun d =>
  (zD4 b).bind fun h =>
  (bif ((h !=0)&&(decide ((d.length:Int)<64))) then
   (zFf d).bind fun i =>
   (zAp i).bind fun j =>
   (xcat [61] j).bind fun k =>
   some k
  else
   (zDv c b).bind fun l =>
   (strings_Join l [44,32]).bind fun o =>
   (xcat [61] o).bind fun p =>
   some p))
def zCr (b:Int):Option Str :=
 (bif b==1 then
  some [65,99,99,101,112,116]
 else
  (bif b==2 then
   some [65,99,99,101,112,116,45,76,97,110,103,117,97,103,101]
  else
   (bif b==3 then
    some [65,99,99,101,112,116,45,67,104,97,114,115,101,116]
   else
    (bif b==4 then
     some [65,99,99,101,112,116,45,69,110,99,111,100,105,110,103]
    else
     some []))))
def zFy (b:Str):Option Int :=
 (zCr 1).bind fun c =>
 (zDS b c).bind fun d =>
 (bif d then
  some 1
 else
  (zCr 2).bind fun f =>
  (zDS b f).bind fun h =>
  (bif h then
   some 2
  else
   (zCr 3).bind fun i =>
   (zDS b i).bind fun j =>
   (bif j then
    some 3
   else
    (zCr 4).bind fun k =>
    (zDS b k).bind fun l =>
    (bif l then
     some 4
    else
     some 0))))
def zCF (c:(List Str)) (f:(List GField)):((List Str)×Int)→Option (((List Str)×Int) ⊕ (List Str))
 | (d,b) =>
  (bif decide (b<(c.length:Int)) then
   (xnth c b).bind fun h =>
   (zG1 h f).bind fun i =>
   (xapp d ([i]:List Str)).bind fun j =>
   some (.inl (j,wr (b+1)))
  else
   some (.inr d))
def zEq (b:(List Str)) (c:(List GField)):Option (List Str) :=
 (zAG (zCF b c) (([]:List Str),0)).bind fun d =>
 some d
def zAo (c:(List Str)) (d:(List Str)) (b:Int):Option (Int ⊕ (Unit ⊕ Bool)) :=
  (bif decide (b<(c.length:Int)) then
   (xnth c b).bind fun f =>
   (xnth d b).bind fun h =>
   (bif f !=h then
    some (.inr (.inr false))
   else
    some (.inl (wr (b+1))))
  else
   some (.inr (.inl ())))
def zAa (b:(List Str)) (c:(List Str)):Option Bool :=
 (bif (b.length:Int) !=(c.length:Int) then
  some false
 else
  (zAG (zAo b c) 0).bind fun d=>match d with
  | .inr e=>some e
  | .inl _ =>
   some true)
def zGq (b:(List Str)) (c:(List Str)) (d:(List GField)):Option Bool :=
 (bif (b.length:Int)==(c.length:Int) then
  (zEq b d).bind fun f =>
  (zAa f c).bind fun h =>
  some (h)
 else
  some false).bind fun i =>
 some i
def zFN (c:(List (List Str))) (b:Int):Option (Int ⊕ (Unit ⊕ Bool)) :=
  (bif ((decide (b<(c.length:Int)))&&(decide (b<11))) then
   (xnth c b).bind fun d =>
   (zCV d).bind fun f =>
   (bif !f then
    some (.inr (.inr false))
   else
    some (.inl (wr (b+1))))
  else
   some (.inr (.inl ())))
def zHZ (b:(List (List Str))):Option Bool :=
 (zAG (zFN b) 0).bind fun c=>match c with
 | .inr e=>some e
 | .inl _ =>
  some (decide ((b.length:Int)≤10))
def zGs (b:GEntry):Option Bool :=
 (zHZ b.fKeys).bind fun c =>
 (bif c then
  (zCV b.fVary).bind fun d =>
  some (d)
 else
  some false).bind fun f =>
 (bif f then
  (zCV b.fSnapshot).bind fun h =>
  some (h)
 else
  some false).bind fun i =>
 (bif ((i&&(decide ((b.fReason.length:Int)≤100)))&&(decide ((b.fBody.length:Int)≤2000))) then
  (zF8 b.fFields).bind fun j =>
  some (j)
 else
  some false).bind fun k =>
 some k
def zDI (c:(List Str)):(Int×Int)→Option ((Int×Int) ⊕ Int)
 | (d,b) =>
  (bif decide (b<(c.length:Int)) then
   (xnth c b).bind fun f =>
   some (.inl (wr (d+(wr (4+(f.length:Int)))),wr (b+1)))
  else
   some (.inr d))
def zCo (b:(List Str)):Option Int :=
 (zAG (zDI b) (0,0)).bind fun c =>
 some c
def zEx (c:GEntry):(Int×Int)→Option ((Int×Int) ⊕ Int)
 | (d,b) =>
  (bif decide (b<(c.fFields.length:Int)) then
   (xnth c.fFields b).bind fun f =>
   some (.inl (wr (d+(wr ((wr (4+(f.fName.length:Int)))+(f.fValue.length:Int)))),wr (b+1)))
  else
   some (.inr d))
def zDZ (c:GEntry):(Int×Int)→Option ((Int×Int) ⊕ Int)
 | (d,b) =>
  (bif decide (b<(c.fKeys.length:Int)) then
   (xnth c.fKeys b).bind fun f =>
   (zCo f).bind fun h =>
   some (.inl (wr (d+h),wr (b+1)))
  else
   some (.inr d))
def zG3 (b:GEntry):Option Int :=
 (zCo b.fVary).bind fun c =>
 (zCo b.fSnapshot).bind fun d =>
 (zAG (zEx b) (wr ((wr ((wr ((wr (100+(b.fReason.length:Int)))+(b.fBody.length:Int)))+c))+d),0)).bind fun f =>
 (zAG (zDZ b) (f,0)).bind fun h =>
 some h
def zEu (c:GEntry):(Int×Int)→Option ((Int×Int) ⊕ Int)
 | (d,b) =>
  (bif decide (b<(c.fFields.length:Int)) then
   (xnth c.fFields b).bind fun f =>
   (xnth c.fFields b).bind fun h =>
   some (.inl (wr (d+(wr ((wr (4+(f.fName.length:Int)))+(h.fValue.length:Int)))),wr (b+1)))
  else
   some (.inr d))
def zEl (c:GEntry) (d:Int):(Int×Int)→Option ((Int×Int) ⊕ Int)
 | (f,b) =>
  (xnth c.fKeys d).bind fun h =>
  (bif decide (b<(h.length:Int)) then
   (xnth c.fKeys d).bind fun i =>
   (xnth i b).bind fun j =>
   some (.inl (wr (f+(wr (4+(j.length:Int)))),wr (b+1)))
  else
   some (.inr f))
def zDh (c:GEntry):(Int×Int)→Option ((Int×Int) ⊕ Int)
 | (d,b) =>
  (bif decide (b<(c.fKeys.length:Int)) then
   (zAG (zEl c b) (d,0)).bind fun f =>
   some (.inl (f,wr (b+1)))
  else
   some (.inr d))
def zDb (c:GEntry):(Int×Int)→Option ((Int×Int) ⊕ Int)
 | (d,b) =>
  (bif decide (b<(c.fVary.length:Int)) then
   (xnth c.fVary b).bind fun f =>
   some (.inl (wr (d+(wr (4+(f.length:Int)))),wr (b+1)))
  else
   some (.inr d))
def zDs (c:GEntry):(Int×Int)→Option ((Int×Int) ⊕ Int)
 | (d,b) =>
  (bif decide (b<(c.fSnapshot.length:Int)) then
   (xnth c.fSnapshot b).bind fun f =>
   some (.inl (wr (d+(wr (4+(f.length:Int)))),wr (b+1)))
  else
   some (.inr d))
def zG2 (b:GEntry):Option Int :=
 (zAG (zEu b) (wr ((wr (100+(b.fReason.length:Int)))+(b.fBody.length:Int)),0)).bind fun c =>
 (zAG (zDh b) (c,0)).bind fun d =>
 (zAG (zDb b) (d,0)).bind fun f =>
 (zAG (zDs b) (f,0)).bind fun h =>
 some h
end
end Go.Eng.Pure
