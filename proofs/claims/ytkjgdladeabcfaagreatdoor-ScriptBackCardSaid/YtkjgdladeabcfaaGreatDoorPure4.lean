/- A part. -/
import Derived.Test.YtkjgdladeabcfaaGreatDoorEng40
import Derived.Shelf.Strings.IndexAnyAll
import Derived.Laws.RangeAny
import Derived.Laws.Runes
import Derived.WalkMore
import Derived.Lib.OthersKept
import Derived.Shelf.RegionOpenPlain
import Derived.Shelf.Small.Utf8
set_option linter.unusedVariables false
namespace Go.Eng
open Go
def u64 (a:Int):Value:=.int .u64 a
def wu (a:Int):Int:=IntKind.wrap .u64 a
def shlU (a b:Int):Int:=wu (a*2 ^ (min b.toNat 64))
section
variable {P:Program} {N:Frm} {f:Fr} {w:World} {d:Option Nat} {ty:TypeId} {pos:String} {af:Array Edge} {g:Option (Nat×Bool)}
section
variable {x y:Operand} {a b:Int} {T T':TypeId} (hx:ev N f x=u64 a) (hy:ev N f y=u64 b)
include hx hy
theorem R.addU:(execOp (ev N f) ⟨d,.binOp .add T x y T',ty,pos,af,g⟩).run P w=.ok (.value (u64 (wu (a+b)))) w:=by simp [execOp,eqGuard,hx,hy,u64,binOp,Op.intArith,wu]
theorem R.subU:(execOp (ev N f) ⟨d,.binOp .sub T x y T',ty,pos,af,g⟩).run P w=.ok (.value (u64 (wu (a - b)))) w:=by simp [execOp,eqGuard,hx,hy,u64,binOp,Op.intArith,wu]
theorem R.mulU:(execOp (ev N f) ⟨d,.binOp .mul T x y T',ty,pos,af,g⟩).run P w=.ok (.value (u64 (wu (a*b)))) w:=by simp [execOp,eqGuard,hx,hy,u64,binOp,Op.intArith,wu]
theorem R.lssU:(execOp (ev N f) ⟨d,.binOp .lss T x y T',ty,pos,af,g⟩).run P w=.ok (.value (boo (decide (a<b)))) w:=by simp [execOp,eqGuard,hx,hy,u64,boo,binOp,Op.intCmp]
theorem R.gtrU:(execOp (ev N f) ⟨d,.binOp .gtr T x y T',ty,pos,af,g⟩).run P w=.ok (.value (boo (decide (b<a)))) w:=by simp [execOp,eqGuard,hx,hy,u64,boo,binOp,Op.intCmp]
theorem R.geqU:(execOp (ev N f) ⟨d,.binOp .geq T x y T',ty,pos,af,g⟩).run P w=.ok (.value (boo (decide (b≤a)))) w:=by simp [execOp,eqGuard,hx,hy,u64,boo,binOp,Op.intCmp]
theorem R.shlU (c:0≤b):(execOp (ev N f) ⟨d,.binOp .shl T x y T',ty,pos,af,g⟩).run P w=.ok (.value (u64 (shlU a b))) w:=by
 have:¬ b<0:=by omega
 simp [execOp,eqGuard,hx,hy,u64,binOp,Op.shift,IntKind.bits,this]
 rfl
end
theorem R.u64of8 {x:Operand} {a:UInt8} {T T':TypeId} {u:TypeDesc} (hx:ev N f x=byt a) (hT:P.underlying T=some u) (hT':P.underlying T'=some (.int .u64)) :
  (execOp (ev N f) ⟨d,.convert T T' x,ty,pos,af,g⟩).run P w=.ok (.value (u64 (wu a.toNat))) w:=by
 simp [execOp,convert,hx,byt,u64,run_underlying hT,run_underlying hT',Conv.intToInt,wu]
theorem R.u64of64 {x:Operand} {a:Int} {T T':TypeId} {u:TypeDesc} (hx:ev N f x=int a) (hT:P.underlying T=some u) (hT':P.underlying T'=some (.int .u64)) :
  (execOp (ev N f) ⟨d,.convert T T' x,ty,pos,af,g⟩).run P w=.ok (.value (u64 (wu a))) w:=by
 simp [execOp,convert,hx,int,u64,run_underlying hT,run_underlying hT',Conv.intToInt,wu]
theorem R.u8ofU {x:Operand} {a:Int} {T T':TypeId} {u:TypeDesc} (hx:ev N f x=u64 a) (hT:P.underlying T=some u) (hT':P.underlying T'=some (.int .u8)) :
  (execOp (ev N f) ⟨d,.convert T T' x,ty,pos,af,g⟩).run P w=.ok (.value (byt (toU8 a))) w:=by
 simp [execOp,convert,hx,byt,u64,run_underlying hT,run_underlying hT',Conv.intToInt,zBU]
theorem zCV (q:Nat) (h:q<256):((toU8 (q:Int)).toNat:Int)=q:=by
 rw [toU8,UInt8.toNat_ofNat']; omega
section
variable {x y:Operand} {a b:UInt8} {n:Int} {T T':TypeId}
theorem R.quo8 (hx:ev N f x=byt a) (hy:ev N f y=byt b) (c:b≠0):(execOp (ev N f) ⟨d,.binOp .quo T x y T',ty,pos,af,g⟩).run P w=.ok (.value (byt (a / b))) w:=by
 have i:(b.toNat:Int)≠0:=fun h=>c (UInt8.toNat_inj.1 (by simpa using h))
 have j:IntKind.wrap .u8 ((a.toNat:Int).tdiv b.toNat)=((a / b).toNat:Int):=by
  have h:=a.toNat_lt
  have hd:a.toNat / b.toNat≤a.toNat:=Nat.div_le_self _ _
  have e:(a.toNat:Int).tdiv b.toNat=((a.toNat / b.toNat:Nat):Int):=by rw [Int.tdiv_eq_ediv_of_nonneg (by omega)]; simp
  rw [zBU,e,zCV _ (Nat.lt_of_le_of_lt hd h),UInt8.toNat_div]
 simp only [execOp,eqGuard,hx,hy,byt,binOp,Op.intDiv]
 rw [if_neg i,j]; rfl
theorem R.rem8 (hx:ev N f x=byt a) (hy:ev N f y=byt b) (c:b≠0):(execOp (ev N f) ⟨d,.binOp .rem T x y T',ty,pos,af,g⟩).run P w=.ok (.value (byt (a % b))) w:=by
 have i:(a.toNat:Int).tmod b.toNat=((a % b).toNat:Int):=by
  rw [Int.tmod_eq_emod_of_nonneg (by omega),UInt8.toNat_mod]; simp
 have j:(b.toNat:Int)≠0:=fun h=>c (UInt8.toNat_inj.1 (by simpa using h))
 simp only [execOp,eqGuard,hx,hy,byt,binOp,Op.intDiv]
 rw [if_neg j,i]; rfl
theorem R.subS8 {x i j:Operand} {s t:Str} {p q:UInt8} (hx:ev N f x=str s) (hi:ev N f i=byt p) (hj:ev N f j=byt q) (hT:P.underlying T=some .string) (h:xsub s p.toNat q.toNat=some t) :
  (execOp (ev N f) ⟨d,.slice T x (some i) (some j) none,ty,pos,af,g⟩).run P w=.ok (.value (str t)) w:=by
 unfold xsub at h
 split at h
 ·rename_i c
  simp only [Option.some.injEq,Int.toNat_natCast] at h
  subst h
  have e:(⟨⟨s⟩⟩:ByteArray).extract p.toNat q.toNat=⟨⟨(s.take q.toNat).drop p.toNat⟩⟩:=by
   rw [Lib.extract_eq]
   congr 1
   simp only [List.drop_take]
  have hj':0≤(q.toNat:Int)∧(q.toNat:Int)≤(s.length:Int):=⟨by omega,c.2.2⟩
  have hk:0≤(p.toNat:Int)∧(p.toNat:Int)≤(q.toNat:Int):=⟨c.1,c.2.1⟩
  have k:q.toNat≤s.length:=by omega
  have l:p.toNat≤q.toNat:=by omega
  simp [execOp,Instr.sliceAt,Instr.slice,Instr.sliceBounds,Instr.sliceBound,asIntOf,hx,hi,hj,str,byt,run_underlying hT,zA4,k,l,e]
 ·cases h
def bor (a b:UInt8):UInt8:=a ||| b
theorem R.or8 {x y:Operand} {a b:UInt8} (hx:ev N f x=byt a) (hy:ev N f y=byt b):(execOp (ev N f) ⟨d,.binOp .or T x y T',ty,pos,af,g⟩).run P w=.ok (.value (byt (bor a b))) w:=by
 have e:IntKind.wrap .u8 ((BitVec.ofInt 8 (a.toNat:Int) ||| BitVec.ofInt 8 (b.toNat:Int)).toNat:Int)=((a ||| b).toNat:Int):=by
  have c:(BitVec.ofInt 8 (a.toNat:Int) ||| BitVec.ofInt 8 (b.toNat:Int)).toNat=(a ||| b).toNat:=by
   rw [BitVec.toNat_or,UInt8.toNat_or]
   have ha:=a.toNat_lt; have hb:=b.toNat_lt
   congr 1 <;> (rw [BitVec.ofInt_natCast,BitVec.toNat_ofNat]; omega)
  rw [c,zBU,toU8]
  have hc:=(a ||| b).toNat_lt
  rw [UInt8.toNat_ofNat']; omega
 simp only [execOp,eqGuard,hx,hy,byt,binOp,Op.intBits,bor]
 simp
 exact e
end
end
end Go.Eng
namespace Go.Eng.Pure
open Go Go.Eng
set_option linter.unusedVariables false
def lf {σ ρ:Type} (body:σ→Option (σ ⊕ ρ)) (s:σ):Option ρ:=loopN body 100000 s
theorem lfW {σ ρ:Type} {body:σ→Option (σ ⊕ ρ)} {s:σ} {r:ρ} (h:lf body s=some r):zBy body s=some r:=zCG h
structure GField where
 fName:Str
 fValue:Str
deriving DecidableEq
instance:Enc GField where
 sz:=2
 cells H cs x:=cs=[(str x.fName),(str x.fValue)]
 pos:=by decide
 len:=fun h=>by rw [h]; rfl
 mono:=fun h _=>h
 one:=by
  intro H cs x h v hv
  rw [h] at hv
  exact List.all_eq_true.1 (show List.all [(str x.fName),(str x.fValue)] Value.oneCell'=true from rfl) v hv
structure GETag where
 fWeak:Bool
 fTag:Str
deriving DecidableEq
instance:Enc GETag where
 sz:=2
 cells H cs x:=cs=[(boo x.fWeak),(str x.fTag)]
 pos:=by decide
 len:=fun h=>by rw [h]; rfl
 mono:=fun h _=>h
 one:=by
  intro H cs x h v hv
  rw [h] at hv
  exact List.all_eq_true.1 (show List.all [(boo x.fWeak),(str x.fTag)] Value.oneCell'=true from rfl) v hv
structure Gcachecontrol_directive where
 fform:Int
 fvalue:Str
deriving DecidableEq
instance:Enc Gcachecontrol_directive where
 sz:=2
 cells H cs x:=cs=[(int x.fform),(str x.fvalue)]
 pos:=by decide
 len:=fun h=>by rw [h]; rfl
 mono:=fun h _=>h
 one:=by
  intro H cs x h v hv
  rw [h] at hv
  exact List.all_eq_true.1 (show List.all [(int x.fform),(str x.fvalue)] Value.oneCell'=true from rfl) v hv
structure GControl where
 fNoStore:Bool
 fNoCache:Bool
 fMustRevalidate:Bool
 fProxyRevalidate:Bool
 fPrivate:Bool
 fPublic:Bool
 fOnlyIfCached:Bool
 fMaxAge:Int
 fSMaxAge:Int
 fMinFresh:Int
 fMaxStale:Int
deriving DecidableEq
instance:Enc GControl where
 sz:=11
 cells H cs x:=cs=[(boo x.fNoStore),(boo x.fNoCache),(boo x.fMustRevalidate),(boo x.fProxyRevalidate),(boo x.fPrivate),(boo x.fPublic),(boo x.fOnlyIfCached),(int x.fMaxAge),(int x.fSMaxAge),(int x.fMinFresh),(int x.fMaxStale)]
 pos:=by decide
 len:=fun h=>by rw [h]; rfl
 mono:=fun h _=>h
 one:=by
  intro H cs x h v hv
  rw [h] at hv
  exact List.all_eq_true.1 (show List.all [(boo x.fNoStore),(boo x.fNoCache),(boo x.fMustRevalidate),(boo x.fProxyRevalidate),(boo x.fPrivate),(boo x.fPublic),(boo x.fOnlyIfCached),(int x.fMaxAge),(int x.fSMaxAge),(int x.fMinFresh),(int x.fMaxStale)] Value.oneCell'=true from rfl) v hv
structure GEntry where
 fKeys:(List (List Str))
 fVary:(List Str)
 fSnapshot:(List Str)
 fReason:Str
 fFields:(List GField)
 fBody:Str
 fRequested:Int
 fReceived:Int
deriving DecidableEq
instance:Enc GEntry where
 sz:=8
 cells H cs x:=∃ u1 u2 u3 u4:Value,cs=[u1,u2,u3,(str x.fReason),u4,(str x.fBody),(int x.fRequested),(int x.fReceived)]∧Sl (α:=(List Str)) H u1 x.fKeys∧Sl (α:=Str) H u2 x.fVary∧Sl (α:=Str) H u3 x.fSnapshot∧Sl (α:=GField) H u4 x.fFields
 pos:=by decide
 len:=fun ⟨u1,u2,u3,u4,h,R0,R1,R2,R3⟩=>by rw [h]; rfl
 mono:=fun ⟨u1,u2,u3,u4,h,R0,R1,R2,R3⟩ hl=>⟨u1,u2,u3,u4,h,R0.mono hl,R1.mono hl,R2.mono hl,R3.mono hl⟩
 one:=fun ⟨u1,u2,u3,u4,h,R0,R1,R2,R3⟩ v hv=>by rw [h] at hv; exact AllOne.mem (.cons (Sl.oneC R0) (.cons (Sl.oneC R1) (.cons (Sl.oneC R2) (.cons rfl (.cons (Sl.oneC R3) (.cons rfl (.cons rfl (.cons rfl .nil)))))))) v hv
structure GResponse where
 fMinor:Int
 fStatus:Int
 fReason:Str
 fFields:(List GField)
 fBody:Str
deriving DecidableEq
instance:Enc GResponse where
 sz:=5
 cells H cs x:=∃ u1:Value,cs=[(int x.fMinor),(int x.fStatus),(str x.fReason),u1,(str x.fBody)]∧Sl (α:=GField) H u1 x.fFields
 pos:=by decide
 len:=fun ⟨u1,h,R0⟩=>by rw [h]; rfl
 mono:=fun ⟨u1,h,R0⟩ hl=>⟨u1,h,R0.mono hl⟩
 one:=fun ⟨u1,h,R0⟩ v hv=>by rw [h] at hv; exact AllOne.mem (.cons rfl (.cons rfl (.cons rfl (.cons (Sl.oneC R0) (.cons rfl .nil))))) v hv
structure GRequest where
 fMethod:Str
 fTarget:Str
 fMinor:Int
 fFields:(List GField)
 fBody:Str
deriving DecidableEq
instance:Enc GRequest where
 sz:=5
 cells H cs x:=∃ u1:Value,cs=[(str x.fMethod),(str x.fTarget),(int x.fMinor),u1,(str x.fBody)]∧Sl (α:=GField) H u1 x.fFields
 pos:=by decide
 len:=fun ⟨u1,h,R0⟩=>by rw [h]; rfl
 mono:=fun ⟨u1,h,R0⟩ hl=>⟨u1,h,R0.mono hl⟩
 one:=fun ⟨u1,h,R0⟩ v hv=>by rw [h] at hv; exact AllOne.mem (.cons rfl (.cons rfl (.cons rfl (.cons (Sl.oneC R0) (.cons rfl .nil))))) v hv
inductive Gvariants_domain where
 | media
 | tags
 | words (n:Int)
 | texts
deriving DecidableEq
structure GParam where
 fName:Str
 fValue:Str
deriving DecidableEq
instance:Enc GParam where
 sz:=2
 cells H cs x:=cs=[(str x.fName),(str x.fValue)]
 pos:=by decide
 len:=fun h=>by rw [h]; rfl
 mono:=fun h _=>h
 one:=by
  intro H cs x h v hv
  rw [h] at hv
  exact List.all_eq_true.1 (show List.all [(str x.fName),(str x.fValue)] Value.oneCell'=true from rfl) v hv
structure GMediaType where
 fType:Str
 fSub:Str
 fParams:(List GParam)
deriving DecidableEq
instance:Enc GMediaType where
 sz:=3
 cells H cs x:=∃ u1:Value,cs=[(str x.fType),(str x.fSub),u1]∧Sl (α:=GParam) H u1 x.fParams
 pos:=by decide
 len:=fun ⟨u1,h,R0⟩=>by rw [h]; rfl
 mono:=fun ⟨u1,h,R0⟩ hl=>⟨u1,h,R0.mono hl⟩
 one:=fun ⟨u1,h,R0⟩ v hv=>by rw [h] at hv; exact AllOne.mem (.cons rfl (.cons rfl (.cons (Sl.oneC R0) .nil))) v hv
structure GAxis where
 fName:Str
 fValues:(List Str)
deriving DecidableEq
instance:Enc GAxis where
 sz:=2
 cells H cs x:=∃ u1:Value,cs=[(str x.fName),u1]∧Sl (α:=Str) H u1 x.fValues
 pos:=by decide
 len:=fun ⟨u1,h,R0⟩=>by rw [h]; rfl
 mono:=fun ⟨u1,h,R0⟩ hl=>⟨u1,h,R0.mono hl⟩
 one:=fun ⟨u1,h,R0⟩ v hv=>by rw [h] at hv; exact AllOne.mem (.cons rfl (.cons (Sl.oneC R0) .nil)) v hv
structure GPref where
 fRange:Str
 fQ:Int
deriving DecidableEq
instance:Enc GPref where
 sz:=2
 cells H cs x:=cs=[(str x.fRange),(int x.fQ)]
 pos:=by decide
 len:=fun h=>by rw [h]; rfl
 mono:=fun h _=>h
 one:=by
  intro H cs x h v hv
  rw [h] at hv
  exact List.all_eq_true.1 (show List.all [(str x.fRange),(int x.fQ)] Value.oneCell'=true from rfl) v hv
structure GTable where
 fAxes:(List GAxis)
 fEntries:(List GEntry)
deriving DecidableEq
instance:Enc GTable where
 sz:=2
 cells H cs x:=∃ u1 u2:Value,cs=[u1,u2]∧Sl (α:=GAxis) H u1 x.fAxes∧Sl (α:=GEntry) H u2 x.fEntries
 pos:=by decide
 len:=fun ⟨u1,u2,h,R0,R1⟩=>by rw [h]; rfl
 mono:=fun ⟨u1,u2,h,R0,R1⟩ hl=>⟨u1,u2,h,R0.mono hl,R1.mono hl⟩
 one:=fun ⟨u1,u2,h,R0,R1⟩ v hv=>by rw [h] at hv; exact AllOne.mem (.cons (Sl.oneC R0) (.cons (Sl.oneC R1) .nil)) v hv
structure GConfig where
 fName:Str
 fBytes:Int
 fVariants:Int
 fTables:Int
 fStrict:Bool
 fRefuse:Bool
deriving DecidableEq
instance:Enc GConfig where
 sz:=6
 cells H cs x:=cs=[(str x.fName),(int x.fBytes),(int x.fVariants),(int x.fTables),(boo x.fStrict),(boo x.fRefuse)]
 pos:=by decide
 len:=fun h=>by rw [h]; rfl
 mono:=fun h _=>h
 one:=by
  intro H cs x h v hv
  rw [h] at hv
  exact List.all_eq_true.1 (show List.all [(str x.fName),(int x.fBytes),(int x.fVariants),(int x.fTables),(boo x.fStrict),(boo x.fRefuse)] Value.oneCell'=true from rfl) v hv
structure GURI where
 fHost:Str
 fPort:Int
 fPath:Str
 fQuery:Str
 fHasQuery:Bool
deriving DecidableEq
instance:Enc GURI where
 sz:=5
 cells H cs x:=cs=[(str x.fHost),(int x.fPort),(str x.fPath),(str x.fQuery),(boo x.fHasQuery)]
 pos:=by decide
 len:=fun h=>by rw [h]; rfl
 mono:=fun h _=>h
 one:=by
  intro H cs x h v hv
  rw [h] at hv
  exact List.all_eq_true.1 (show List.all [(str x.fHost),(int x.fPort),(str x.fPath),(str x.fQuery),(boo x.fHasQuery)] Value.oneCell'=true from rfl) v hv
structure GDecision where
 fKind:Int
 fIndex:Int
deriving DecidableEq
instance:Enc GDecision where
 sz:=2
 cells H cs x:=cs=[(int x.fKind),(int x.fIndex)]
 pos:=by decide
 len:=fun h=>by rw [h]; rfl
 mono:=fun h _=>h
 one:=by
  intro H cs x h v hv
  rw [h] at hv
  exact List.all_eq_true.1 (show List.all [(int x.fKind),(int x.fIndex)] Value.oneCell'=true from rfl) v hv
structure GOutput where
 fToClient:Str
 fToOrigin:Str
deriving DecidableEq
instance:Enc GOutput where
 sz:=2
 cells H cs x:=cs=[(str x.fToClient),(str x.fToOrigin)]
 pos:=by decide
 len:=fun h=>by rw [h]; rfl
 mono:=fun h _=>h
 one:=by
  intro H cs x h v hv
  rw [h] at hv
  exact List.all_eq_true.1 (show List.all [(str x.fToClient),(str x.fToOrigin)] Value.oneCell'=true from rfl) v hv
structure Gvariantproxykeep_Step where
 fKind:Int
 fN:Int
 fText:Str
deriving DecidableEq
instance:Enc Gvariantproxykeep_Step where
 sz:=3
 cells H cs x:=cs=[(int x.fKind),(int x.fN),(str x.fText)]
 pos:=by decide
 len:=fun h=>by rw [h]; rfl
 mono:=fun h _=>h
 one:=by
  intro H cs x h v hv
  rw [h] at hv
  exact List.all_eq_true.1 (show List.all [(int x.fKind),(int x.fN),(str x.fText)] Value.oneCell'=true from rfl) v hv
end Go.Eng.Pure
namespace Go.Eng.Pure
open Go Go.Eng
set_option linter.unusedVariables false
noncomputable def zAV (c:(List Str)):Option (List Str) :=
 xapp [] c
noncomputable def zA9 (c:Str) (i:Str):Option (Str×Str×Bool) :=
 (zAc c i).bind fun h =>
 (bif decide (0≤h) then
  (xsub c 0 h).bind fun j =>
  (xsub c (wr (h+(i.length:Int))) c.length).bind fun k =>
  some (j,k,true)
 else
  some (c,[],false))
noncomputable def zBF (h:Str) (i:Str):Option (Str×Str×Bool) :=
 (zA9 h i).bind fun c =>
 some (c.1,c.2.1,c.2.2)
noncomputable def zBn (c:UInt8):Option Bool :=
 (((bif c==33 then
  some (c==33)
 else
  (bif c==35 then
   some (c==35)
  else
   (bif c==36 then
    some (c==36)
   else
    (bif c==37 then
     some (c==37)
    else
     (bif c==38 then
      some (c==38)
     else
      (bif c==39 then
       some (c==39)
      else
       (bif c==42 then
        some (c==42)
       else
        (bif c==43 then
         some (c==43)
        else
         (bif c==45 then
          some (c==45)
         else
          (bif c==46 then
           some (c==46)
          else
           (bif c==94 then
            some (c==94)
           else
            (bif c==95 then
             some (c==95)
            else
             (bif c==96 then
              some (c==96)
             else
              (bif c==124 then
               some (c==124)
              else
               some (c==126)))))))))))))))).bind fun (h:Bool) =>
 (bif h then
  some (.inr true)
 else
  some (.inl ()))).bind fun (i:(Unit ⊕ Bool))=>match i with
 | .inr e=>some e
 | .inl _ =>
  some ((((decide (48≤c))&&(decide (c≤57)))||((decide (65≤c))&&(decide (c≤90))))||((decide (97≤c))&&(decide (c≤122))))
noncomputable def zBG (h:Str) (c:Int):Option (Int ⊕ (Unit ⊕ Bool)) :=
  (bif decide (c<(h.length:Int)) then
   (xnth h c).bind fun i =>
   (zBn i).bind fun j =>
   (bif !j then
    some (.inr (.inr false))
   else
    some (.inl (wr (c+1))))
  else
   some (.inr (.inl ())))
noncomputable def zBc (c:Str):Option Bool :=
 (lf (zBG c) 0).bind fun h=>match h with
 | .inr e=>some e
 | .inl _ =>
  some (c !=[])
noncomputable def zAH (h:Str) (c:Str):Option (Str ⊕ Str) :=
  (bif decide (0<(c.length:Int)) then
   (xnth c (wr ((c.length:Int) - 1))).bind fun i =>
   (zAG h i).bind fun j =>
   (bif !j then
    some (.inr c)
   else
    (xsub c 0 (wr ((c.length:Int) - 1))).bind fun k =>
    some (.inl k))
  else
   some (.inr c))
noncomputable def zAS (c:Str) (h:Str):Option Str :=
 (lf (zAH h) c).bind fun i =>
 some i
noncomputable def zAF (h:Str) (c:Str):Option (Str ⊕ Str) :=
  (bif decide (0<(c.length:Int)) then
   (xnth c 0).bind fun i =>
   (zAG h i).bind fun j =>
   (bif !j then
    some (.inr c)
   else
    (xsub c 1 c.length).bind fun k =>
    some (.inl k))
  else
   some (.inr c))
noncomputable def zAJ (c:Str) (h:Str):Option Str :=
 (lf (zAF h) c).bind fun i =>
 some i
noncomputable def zAf (h:UInt8) (c:Str):Option (Str ⊕ Str) :=
  (bif decide (0<(c.length:Int)) then
   (xnth c 0).bind fun i =>
   some (i==h)
  else
   some false).bind fun j =>
  (bif j then
   (xsub c 1 c.length).bind fun k =>
   some (.inl k)
  else
   some (.inr c))
noncomputable def zAq (c:Str) (h:UInt8):Option Str :=
 (lf (zAf h) c).bind fun i =>
 some i
noncomputable def zAd (h:UInt8) (c:Str):Option (Str ⊕ Str) :=
  (bif decide (0<(c.length:Int)) then
   (xnth c (wr ((c.length:Int) - 1))).bind fun i =>
   some (i==h)
  else
   some false).bind fun j =>
  (bif j then
   (xsub c 0 (wr ((c.length:Int) - 1))).bind fun k =>
   some (.inl k)
  else
   some (.inr c))
noncomputable def zAo (c:Str) (h:UInt8):Option Str :=
 (lf (zAd h) c).bind fun i =>
 some i
noncomputable def zAu (h:Str) (c:Str):Option Str :=
 (bif ((h==[])||(c==[])) then
  some h
 else
  (bif (c.length:Int)==1 then
   (xnth c 0).bind fun i =>
   some (decide (i<128))
  else
   some false).bind fun j =>
  (bif j then
   (xnth c 0).bind fun k =>
   (zAo h k).bind fun l =>
   (xnth c 0).bind fun o =>
   (zAq l o).bind fun p =>
   some p
  else
   (strings_makeASCIISet c).bind fun t =>
   (zAS h c).bind fun q =>
   (zAJ q c).bind fun r =>
   some r))
noncomputable def zBA (h:Str):(Int×Int)→Option ((Int×Int) ⊕ Int)
 | (i,c) =>
  (bif decide (c<(h.length:Int)) then
   (xnth h c).bind fun k =>
   (bif decide (k<48) then
    some true
   else
    (xnth h c).bind fun l =>
    some (decide (57<l))).bind fun o =>
   (bif o then
    none
   else
    (xnth h c).bind fun j =>
    some (.inl ((if 2147483647<(wr ((wr (10*i))+((j - 48).toNat:Int))) then 2147483647 else (wr ((wr (10*i))+((j - 48).toNat:Int)))),wr (c+1))))
  else
   some (.inr i))
noncomputable def zBT (c:Str):Option (Int×Bool) :=
 (lf (zBA c) (0,0)).bind fun h =>
 some (h,c !=[])
noncomputable def zAp (s0_buf:(List UInt8)):Option Unit :=
 some ()
noncomputable def zAm (s0_buf:(List UInt8)):Option Unit :=
 some ()
noncomputable def zAI (s0_buf:List UInt8):Option Unit :=
 some ()
end Go.Eng.Pure
namespace Go.Eng.Pure
open Go Go.Eng
set_option linter.unusedVariables false
noncomputable def zAC (c:Str) (s0_buf:(List UInt8)):Option (Int×Unit×(List UInt8)) :=
 (zAI s0_buf).bind fun i =>
 (xapp s0_buf c).bind fun h =>
 some ((c.length:Int),(),h)
noncomputable def zAN (s0_buf:(List UInt8)):Option Str :=
 some s0_buf
noncomputable def zAb (c:UInt8):Option UInt8 :=
 some (bor c 32)
noncomputable def zAM (k:Str):(Bool×Int×Int)→Option ((Bool×Int×Int) ⊕ ((Bool×Int) ⊕ Int))
 | (l,c,i) =>
  (bif decide (i<(k.length:Int)) then
   (xnth k i).bind fun r =>
   (xnth k i).bind fun h =>
   (bif ((h==95)&&false) then
    some (.inl (true,c,wr (i+1)))
   else
    (bif ((decide (48≤h))&&(decide (h≤57))) then
     (bif decide ((toU8 16)≤(h - 48)) then
      none
     else
      (bif decide (1152921504606846976≤c) then
       none
      else
       (bif ((decide ((wu ((wu (c*(wu 16)))+(wu ((h - 48).toNat:Int))))<(wu (c*(wu 16)))))||(decide ((wu ((shlU 1 (wu 8)) - 1))<(wu ((wu (c*(wu 16)))+(wu ((h - 48).toNat:Int))))))) then
        none
       else
        some (.inl (l,wu ((wu (c*(wu 16)))+(wu ((h - 48).toNat:Int))),wr (i+1))))))
    else
     (zAb h).bind fun o =>
     (bif decide (97≤o) then
      (zAb h).bind fun p =>
      some (decide (p≤122))
     else
      some false).bind fun q =>
     (bif q then
      (zAb h).bind fun j =>
      (bif decide ((toU8 16)≤((j - 97)+10)) then
       none
      else
       (bif decide (1152921504606846976≤c) then
        none
       else
        (bif ((decide ((wu ((wu (c*(wu 16)))+(wu (((j - 97)+10).toNat:Int))))<(wu (c*(wu 16)))))||(decide ((wu ((shlU 1 (wu 8)) - 1))<(wu ((wu (c*(wu 16)))+(wu (((j - 97)+10).toNat:Int))))))) then
         none
        else
         some (.inl (l,wu ((wu (c*(wu 16)))+(wu (((j - 97)+10).toNat:Int))),wr (i+1))))))
     else
      none)))
  else
   some (.inr (.inl (l,c))))
noncomputable def zAi (c:Str):Option (UInt8×Int) :=
 (bif c==[] then
  some (0,0)
 else
  (xnth c 0).bind fun h =>
  (bif h==92 then
   some (92,1)
  else
   (bif h==114 then
    some (13,1)
   else
    (bif h==110 then
     some (10,1)
    else
     (bif h==116 then
      some (9,1)
     else
      (xnth c 0).bind fun j =>
      (bif ((j !=120)||(decide ((c.length:Int)<3))) then
       some true
      else
       (xsub c 1 3).bind fun k =>
       (zAu k [48,49,50,51,52,53,54,55,56,57,97,98,99,100,101,102,65,66,67,68,69,70]).bind fun l =>
       some (l !=[])).bind fun o =>
      (bif o then
       some (0,0)
      else
       (xsub c 1 3).bind fun i =>
       (((bif i==[] then
        none
       else
        (lf (zAM i) (false,0,0)).bind fun p=>match p with
        | .inr e=>some e
        | .inl (q,r) =>
         (bif q then
          none
         else
          some false).bind fun t =>
         (bif t then
          none
         else
          some r))).bind fun (u:Int) =>
       some u).bind fun (v:Int) =>
       some (toU8 v,3)))))))
noncomputable def zAO (h:Str):((List UInt8)×Int)→Option (((List UInt8)×Int) ⊕ ((List UInt8) ⊕ (Str×Bool)))
 | (k,c) =>
  (bif decide (c<(h.length:Int)) then
   (xnth h c).bind fun i =>
   (bif ((decide (i<32))||(decide (126<i))) then
    some (.inr (.inr ([],false)))
   else
    ((bif i==92 then
     (xsub h (wr (c+1)) h.length).bind fun l =>
     (zAi l).bind fun j =>
     (bif j.2==0 then
      some (.inr (.inr (.inr ([],false))))
     else
      some (.inl (wr (c+j.2),j.1)))
    else
     some (.inl (c,i)))).bind fun (o:((Int×UInt8) ⊕ (((List UInt8)×Int) ⊕ ((List UInt8) ⊕ (Str×Bool)))))=>match o with
    | .inr e=>some e
    | .inl (p,q) =>
     (xapp k ([q]:List UInt8)).bind fun r =>
     some (.inl (r,wr (p+1))))
  else
   some (.inr (.inl k)))
noncomputable def zAX (c:Str):Option (Str×Bool) :=
 (lf (zAO c) (([]:List UInt8),0)).bind fun h=>match h with
 | .inr e=>some e
 | .inl i =>
  some (i,true)
noncomputable def zAy (c:Int):Option Str :=
 (strconv_Itoa c).bind fun h =>
 (xcat [101,114,114,111,114,32] h).bind fun i =>
 some i
noncomputable def zBb (i:GOutput) (c:Int):Option Str :=
 (bif c !=0 then
  (zAy c).bind fun h =>
  some h
 else
  none)
noncomputable def zBJ:(Str×(List UInt8)×Str×Int×Int×Int×Bool×Bool×Int×Int×Int×Int×Int×(List Str))→Option ((Str×(List UInt8)×Str×Int×Int×Int×Bool×Bool×Int×Int×Int×Int×Int×(List Str)) ⊕ (List UInt8))
 | (o,k,p,q,r,t,u,v,c,z,aa,ab,ac,l) =>
  (bif o !=[] then
   (zBF o [10]).bind fun i =>
   (bif i.1 !=[] then
    ((zBF i.1 [32]).bind fun j =>
    (zAX j.2.1).bind fun ad =>
    (zBT j.2.1).bind fun h =>
    (bif ((j.1==[99,108,105,101,110,116])&&ad.2) then
     none
    else
     (bif ((j.1==[111,114,105,103,105,110])&&ad.2) then
      none
     else
      (bif ((i.1==[102,97,105,108])||(i.1==[116,105,109,101,111,117,116])) then
       (zBb (⟨[],[]⟩:GOutput) 12).bind fun ae =>
       some (ae,c)
      else
       (bif (((j.1==[116,105,99,107])&&j.2.2)&&h.2) then
        (bif decide (h.1<0) then
         none
        else
         (bif ((decide (0≤(wr (c+(if (wr (1099511627776 - c))<h.1 then (wr (1099511627776 - c)) else h.1)))))&&(decide ((wr (c+(if (wr (1099511627776 - c))<h.1 then (wr (1099511627776 - c)) else h.1)))<100))) then
          (bif decide ((wr (c+(if (wr (1099511627776 - c))<h.1 then (wr (1099511627776 - c)) else h.1)))<10) then
           (xsub [48,49,50,51,52,53,54,55,56,57,97,98,99,100,101,102,103,104,105,106,107,108,109,110,111,112,113,114,115,116,117,118,119,120,121,122] (wr (c+(if (wr (1099511627776 - c))<h.1 then (wr (1099511627776 - c)) else h.1))) (wr ((wr (c+(if (wr (1099511627776 - c))<h.1 then (wr (1099511627776 - c)) else h.1)))+1))).bind fun ah =>
           (xcat [110,111,119,32] ah).bind fun ai =>
           some (ai,wr (c+(if (wr (1099511627776 - c))<h.1 then (wr (1099511627776 - c)) else h.1)))
          else
           none)
         else
          none))
       else
        (bif i.1==[107,101,121,115] then
         (zAV l).bind fun aj =>
         (xapp ([[107,101,121,115]]:List Str) aj).bind fun ak =>
         (strings_Join ak [32]).bind fun al =>
         some (al,c)
        else
         (zAy 1).bind fun am =>
         some (am,c))))))).bind fun (an:(Str×Int)) =>
    match an with
    | (ao,ap) =>
     (xcat ao [10]).bind fun aq =>
     (zAC aq k).bind fun ar =>
     some (.inl (i.2.1,ar.2.2,p,q,r,t,u,v,ap,z,aa,ab,ac,l))
   else
    some (.inl (i.2.1,k,p,q,r,t,u,v,c,z,aa,ab,ac,l)))
  else
   some (.inr k))
noncomputable def zBm (c:GConfig) (h:Str):Option (Str×Int) :=
 (bif decide (200000<(h.length:Int)) then
  none
 else
  (bif ((((((decide (c.fBytes<1))||(decide (100000000<c.fBytes)))||(decide (c.fVariants<1)))||(decide (64<c.fVariants)))||(decide (c.fTables<1)))||(decide (1000<c.fTables))) then
   none
  else
   (zBc c.fName).bind fun i =>
   (bif (((!i)||(decide (100<(c.fName.length:Int))))||(c.fRefuse&&(!c.fStrict))) then
    none
   else
    (lf (zBJ) (h,([]:List UInt8),c.fName,c.fBytes,c.fVariants,c.fTables,c.fStrict,c.fRefuse,0,c.fBytes,c.fVariants,c.fTables,0,([]:List Str))).bind fun j =>
    (zAN j).bind fun k =>
    some (k,0))))
noncomputable def zAK (c:UInt8) (s0_buf:(List UInt8)):Option (Unit×(List UInt8)) :=
 (zAI s0_buf).bind fun i =>
 (xapp s0_buf ([c]:List UInt8)).bind fun h =>
 some ((),h)
noncomputable def zAR (j:Str):(Int×(List UInt8))→Option ((Int×(List UInt8)) ⊕ (List UInt8))
 | (h,i) =>
  (bif decide (h<(j.length:Int)) then
   (xnth j h).bind fun c =>
   (bif c==92 then
    (zAC [92,92] i).bind fun k =>
    some (.inl (wr (h+1),k.2.2))
   else
    (bif c==13 then
     (zAC [92,114] i).bind fun l =>
     some (.inl (wr (h+1),l.2.2))
    else
     (bif c==10 then
      (zAC [92,110] i).bind fun o =>
      some (.inl (wr (h+1),o.2.2))
     else
      (bif c==9 then
       (zAC [92,116] i).bind fun p =>
       some (.inl (wr (h+1),p.2.2))
      else
       (bif ((decide (c<32))||(decide (126<c))) then
        (xsub [48,49,50,51,52,53,54,55,56,57,97,98,99,100,101,102] (c / 16).toNat ((c / 16)+1).toNat).bind fun q =>
        (xcat [92,120] q).bind fun r =>
        (xsub [48,49,50,51,52,53,54,55,56,57,97,98,99,100,101,102] (c % 16).toNat ((c % 16)+1).toNat).bind fun t =>
        (xcat r t).bind fun u =>
        (zAC u i).bind fun v =>
        some (.inl (wr (h+1),v.2.2))
       else
        (zAK c i).bind fun z =>
        some (.inl (wr (h+1),z.2)))))))
  else
   some (.inr i))
noncomputable def zAa (c:Str):Option Str :=
 (lf (zAR c) (0,([]:List UInt8))).bind fun h =>
 (zAN h).bind fun i =>
 some i
noncomputable def zBD:Option Bool :=
 (zBm (⟨[112],1000,4,4,false,false⟩:GConfig) [116,105,99,107,32,53,10,10,104,101,108,108,111,10,102,97,105,108,10,107,101,121,115,10]).bind fun c =>
 (bif ((c.2==0)&&(c.1==[110,111,119,32,53,10,101,114,114,111,114,32,49,10,101,114,114,111,114,32,49,50,10,107,101,121,115,10])) then
  (zAa [97,13,10,128]).bind fun h =>
  some (h==[97,92,114,92,110,92,120,56,48])
 else
  some false).bind fun i =>
 some i
noncomputable def zDe (h:Str) (c:Int):Option (Int ⊕ (Unit ⊕ Bool)) :=
  (bif decide (c<(h.length:Int)) then
   (xnth h c).bind fun i =>
   (bif decide (i<32) then
    some true
   else
    (xnth h c).bind fun j =>
    some (decide (126<j))).bind fun k =>
   (bif k then
    some (.inr (.inr false))
   else
    some (.inl (wr (c+1))))
  else
   some (.inr (.inl ())))
noncomputable def zDf (c:Str):Option Bool :=
 (bif decide (2000<(c.length:Int)) then
  some true
 else
  (zAa c).bind fun h =>
  (zBy (zDe h) 0).bind fun j=>match j with
  | .inr e=>some e
  | .inl _ =>
   (zAX h).bind fun i =>
   (bif (i.2&&(i.1==c)) then
    (zBD).bind fun k =>
    some (k)
   else
    some false).bind fun l =>
   some l)
end Go.Eng.Pure
