/- A part. -/
import Derived.Test.YtihjhdoinmfddaaGreatDoorVr2
set_option linter.unusedVariables false
set_option linter.unusedSimpArgs false
namespace Go.VI
open Go Go.Eng
def zHl (cs:List CV) (o:Nat) (vs:List CV):List CV:=cs.take o++vs++cs.drop (o+vs.length)
def zMK:CV→Option (List CV)
 | .agg l=>some l
 | .int x=>some [.int x] | .byt x=>some [.byt x] | .boo x=>some [.boo x] | .str x=>some [.str x] | .ref i=>some [.ref i] | .ptr i o=>some [.ptr i o]
 | .pa i o=>some [.pa i o] | .mp b=>some [.mp b] | .bm k l=>some [.bm k l] | .ifc T c=>some [.ifc T c] | .fn k l=>some [.fn k l] | .raw v=>bif v.oneCell' then some [.raw v] else none
 | _=>none
def fillC (pl:Nat→Option (Nat×Nat)) (cells:List CV):List (Nat×CV)→Option (List CV)
 | []=>some cells
 | (i,c) :: rest =>
  match pl i,zMK c with
  | some (off,sz),some cc=>bif Nat.beq cc.length sz&&Nat.ble (off+cc.length) cells.length then fillC pl (zHl cells off cc) rest else none
  | _,_=>none
theorem zGh {E:Env}:∀ {a b:List CV} {va vb:List Value},CV.vals E a=some va→CV.vals E b=some vb→CV.vals E (a++b)=some (va++vb)
 | [],b,va,vb,h,k=>by cases h; exact k
 | c :: a,b,va,vb,h,k=>by
  simp only [CV.vals] at h;cases hc:c.val E with
  | none=>grind
  | some v =>
   cases hv:CV.vals E a with
   | none=>grind
   | some us=>rw [hc,hv] at h; cases h; simp only [List.cons_append,CV.vals,hc,zGh hv k]
theorem zI4 : ∀ (l : List Value) (cells : List Value) (off n : Nat), off + n + l.length ≤ cells.length →
  (l.zipIdx n).foldl (fun cs (x:Value×Nat)=>cs.setIfInBounds (off+x.2) x.1) cells.toArray=(zEH cells (off+n) l).toArray
 | [],cells,off,n,h=>by simp [zEH]
 | c :: l,cells,off,n,h=>by
  rw [lC] at h;rw [List.zipIdx_cons,List.foldl_cons];simp only [List.setIfInBounds_toArray];rw [zI4 l (cells.set (off+n) c) off (n+1) (by rw [List.length_set]; omega)];congr 1;have hk:off+n<cells.length:=by omega
  have e:cells.set (off+n) c=(cells.take (off+n)++[c])++cells.drop (off+n+1):=by
   rw [List.set_eq_take_append_cons_drop,if_pos hk]; simp
  have hl:(cells.take (off+n)++[c]).length=off+n+1:=by simp; omega
  unfold zEH;rw [e,show off+(n+1)=(cells.take (off+n)++[c]).length from by rw [hl]; omega,List.take_left,List.drop_append,List.drop_eq_nil_of_le om,List.nil_append,List.drop_drop,hl];simp only [List.append_assoc,lC,List.cons_append]
  grind
def opnp {U:UV} (N:Nat) (s:VS U):List (Nat×Operand)→Option (List (Nat×CV))
 | []=>some []
 | p :: l=>match opn N s p.2,opnp N s l with | some c,some cs=>some ((p.1,c) :: cs) | _,_=>none
def opb {U:UV} {R:Type} (P:Program) (N:Nat) (T:TypeId) (ps:List (Nat×Operand)) (s:VS U) (k:CV→Option R):Option R :=
 match opnp N s ps,zer P T with
 | some cvs,some zs =>
  (match P.underlying T with
  | some (.struct _)=>(match zHg P T with | some pl=>(match fillC (fun i=>pl[i]?) (zs.map con) cvs with | some l=>k (.agg l) | none=>none) | none=>none)
  | some (.array _ e)=>(match lay P e with | some (_,m)=>(match fillC (fun i=>some (i*m,m)) (zs.map con) cvs with | some l=>k (.agg l) | none=>none) | none=>none)
  | _=>none)
 | _,_=>none
def PV (E:Env):List (Nat×CV)→List (Nat×Value)→Prop
 | [],[]=>True
 | (i,c) :: l,(j,v) :: m=>i=j∧c.val E=some v∧PV E l m
 | _,_=>False
section
variable {U:UV} {H:Hp} {E:Env} {s:VS U}
theorem zFX (hs:SlsOk H E.vs s.sl) {c:CV} {v:Value} (hv:c.val E=some v) {cc:List CV} (h:zMK c=some cc):∃ vs,CV.vals E cc=some vs∧v.cells=vs.toArray:=by
 cases c <;> simp only [zMK] at h <;> try (cases h; done)
 case agg l =>
  simp only [oI] at h;subst h;simp only [CV.val] at hv;cases hl:CV.vals E l with
  | none=>grind
  | some vs=>rw [hl] at hv; cases hv; exact ⟨vs,rfl,rfl⟩
 case ref i =>
  cases h;simp only [CV.val] at hv;have hi:i<s.sl.length:=by rw [← hs.len]; grind
  obtain ⟨u,hu,hS⟩:=hs.get (List.getElem?_eq_getElem hi);rw [hv] at hu;cases hu;exact ⟨_,by simp only [CV.vals,CV.val,hv],(zUR hS).2⟩
 case ptr i o =>
  cases h;simp only [CV.val] at hv;cases hb:E.bs[i]? with
  | none=>grind
  | some b=>rw [hb] at hv; cases hv; exact ⟨[Eng.ptr b o],by grind [CV.vals,CV.val],rfl⟩
 case pa i o =>
  cases h;simp only [CV.val] at hv;cases hb:E.ps[i]? with
  | none=>grind
  | some b=>rw [hb] at hv; cases hv; exact ⟨_,by grind [CV.vals,CV.val],rfl⟩
 case mp i =>
  cases h;simp only [CV.val] at hv;cases hb:E.bs[i]? with
  | none=>grind
  | some b=>rw [hb] at hv; cases hv; exact ⟨_,by grind [CV.vals,CV.val],rfl⟩
 case ifc T c =>
  cases h;simp only [CV.val] at hv;cases hb:c.val E with
  | none=>grind
  | some b=>rw [hb] at hv; cases hv; exact ⟨_,by grind [CV.vals,CV.val],rfl⟩
 case bm k l =>
  cases h;simp only [CV.val] at hv;cases hb:CV.vals E l with
  | none=>grind
  | some b=>rw [hb] at hv; cases hv; exact ⟨_,by grind [CV.vals,CV.val],rfl⟩
 case fn k l =>
  cases h;simp only [CV.val] at hv;cases hb:CV.vals E l with
  | none=>grind
  | some b=>rw [hb] at hv; cases hv; exact ⟨_,by grind [CV.vals,CV.val],rfl⟩
 case raw u =>
  cases ho:u.oneCell' with
  | false=>grind
  | true =>
   rw [ho] at h;cases h;cases hv;refine ⟨[v],rfl,?_⟩;cases v <;> first | rfl | cases ho
 all_goals (cases h; cases hv; exact ⟨_,rfl,rfl⟩)
theorem zJq (hs : SlsOk H E.vs s.sl) {pl : Nat → Option (Nat × Nat)} : ∀ {l : List (Nat × CV)} {cells out : List CV} {vs0 : List Value}, fillC pl cells l = some out → CV.vals E cells = some vs0 → ∀ {vl : List (Nat × Value)}, PV E l vl →
  ∃ vs,CV.vals E out=some vs∧Instr.fill pl vs0.toArray vl=some vs.toArray
 | [],cells,out,vs0,h,h0,[],_=>by cases h; exact ⟨vs0,h0,rfl⟩
 | (i,c) :: l,cells,out,vs0,h,h0,(j,v) :: m,⟨e,hv,hp⟩=>by
  subst e;simp only [fillC] at h;split at h
  case h_2=>cases h
  rename_i off sz cc hpl hcc;obtain ⟨hb,h⟩:=cT h;rw [bQ] at hb;have h1:=nQ hb.1;have h2:=nL hb.2;obtain ⟨us,hus,hc⟩:=zFX hs hv hcc;have l1:=zCN hus;have l2:=zCN h0;have hsp:CV.vals E (zHl cells off cc)=some (zEH vs0 off us):=by
   grind [zHl,zEH,zGh,zHE,zHJ]
  obtain ⟨vs,hvs,hf⟩:=zJq hs h hsp hp;simp_all [Instr.fill,zI4]
 | [],_,_,_,_,_,_ :: _,h=>h.elim
 | _ :: _,_,_,_,_,_,[],h=>h.elim
theorem zIt:∀ {zs:List Value},CV.vals E (zs.map con)=some zs
 | []=>rfl
 | z :: zs=>by simp only [List.map_cons,CV.vals,zN1,zIt]
end
section
variable {U:UV} {P:Program} {N:Frm} {s:VS U} {f:Fr} {w w0:World} {H0 H:Hp} {E:Env} {L:List Ent} {Ω:Type}
theorem zM5 (hr:RelE w0 H0 s f w E H L):∀ {ps:List (Nat×Operand)} {cvs:List (Nat×CV)},opnp N.n s ps=some cvs→PV E cvs (ps.map fun p=>(p.1,ev N f p.2))
 | [],cvs,h=>by cases h; trivial
 | p :: l,cvs,h=>by
  simp only [opnp] at h;split at h
  case h_2=>cases h
  rename_i c cs hc hl;cases h;exact ⟨rfl,zAy hr hc,zM5 hr hl⟩
theorem zMP {T : TypeId} {ps : List (Nat × Operand)} {k : CV → Option Ω} {r : Ω} (h : opb P N.n T ps s k = some r) (hr : RelE w0 H0 s f w E H L) {d : Option Nat} {ty : TypeId} {pos : String} {af : Array Edge} :
  ∃ c v,k c=some r∧c.val E=some v∧Runs P N f w0 H0 H L ⟨d,.build T ps.toArray,ty,pos,af,none⟩ v:=by
 unfold opb at h;split at h
 case h_2=>cases h
 rename_i cvs zs hps hz;have hp:=zM5 hr hps;split at h
 ·split at h
  case h_2=>cases h
  rename_i pl hpl;split at h
  case h_2=>cases h
  rename_i l hl;obtain ⟨vs,hv,hf⟩:=zJq hr.sls hl zIt hp;exact ⟨_,_,h,by simp only [CV.val,hv]; rfl,fun _ _ _ _=>R.build _ vs hpl hz rfl hf⟩
 ·rename_i n e hT
  split at h
  case h_2=>cases h
  rename_i b m hm;split at h
  case h_2=>cases h
  rename_i l hl;obtain ⟨vs,hv,hf⟩:=zJq hr.sls hl zIt hp;exact ⟨_,_,h,by simp only [CV.val,hv]; rfl,fun _ _ _ _=>R.buildArr _ vs hT hm hz rfl hf⟩
 ·cases h
end
section
variable {U:UV}
structure SLM (U:UV) where
 t:PT
 m:List (Str×t.T U.S)
def mpOf (sl:List (SLV U)) (i:Nat):Option (SLM U):=match sl[i]? with | some ⟨.mp t,m⟩=>some ⟨t,m⟩ | _=>none
def zNg:Value→Bool
 | .pointer none=>true
 | _=>false
theorem zR8 {v:Value} (h:zNg v=true):v=.pointer none:=by
 unfold zNg at h
 grind
def erOf (sl:List (SLV U)) (i:Nat):Option Nat:=match sl[i]? with | some ⟨.er,x⟩=>some x | _=>none
def get1 (s:VS U):(t:PT)→CV→Option (t.T U.S)
 | .int,.int x=>some x
 | .byt,.byt x=>some x
 | .boo,.boo x=>some x
 | .str,.str x=>some x
 | .sl t,.ref i=>match slOf s.sl i with | some ⟨t',xs⟩=>if h:t'=t then some (h ▸ xs) else none | none=>none
 | .sl _,.raw v=>bif zBc v then some [] else none
 | .mr t,.ref i=>match mrOf s.sl i with | some ⟨t',xs⟩=>if h:t'=t then some (h ▸ xs) else none | none=>none
 | .mr _,.raw v=>bif zBc v then some [] else none
 | .mp t,.ref i=>match mpOf s.sl i with | some ⟨t',xs⟩=>if h:t'=t then some (h ▸ xs) else none | none=>none
 | .po T,.ref i=>match poOf s.sl i with | some ⟨T',x⟩=>if h:T'=T then some (h ▸ x) else none | none=>none
 | .po _,.raw v=>bif zNg v then some none else none
 | _,_=>none
def getHL (s:VS U):(ts:List PT)→List CV→Option (HL U.S ts)
 | [],[]=>some ()
 | t :: ts,c :: cs=>match get1 s t c with | some x=>(match getHL s ts cs with | some y=>some (x,y) | none=>none) | none=>none
 | _,_=>none
def getT (s:VS U):(t:PT)→CV→Option (t.T U.S)
 | .st T,.agg l=>(getHL s (U.fs T) l).map (U.put T)
 | t,c=>get1 s t c
def put1 (s:VS U):(t:PT)→t.T U.S→VS U×CV
 | .int,x=>(s,.int x)
 | .byt,x=>(s,.byt x)
 | .boo,x=>(s,.boo x)
 | .str,x=>(s,.str x)
 | .sl t,x=>({ s with sl:=s.sl++[⟨.sl t,x⟩] },.ref s.sl.length)
 | .mr t,x=>({ s with sl:=s.sl++[⟨.mr t,x⟩] },.ref s.sl.length)
 | .mp t,x=>({ s with sl:=s.sl++[⟨.mp t,x⟩] },.ref s.sl.length)
 | .st _,_=>(s,.und)
 | .hid,_=>(s,.int 0)
 | .po T,x=>({ s with sl:=s.sl++[⟨.po T,x⟩] },.ref s.sl.length)
 | .er,x=>({ s with sl:=s.sl++[⟨.er,x⟩] },.ref s.sl.length)
def putHL (s:VS U):(ts:List PT)→HL U.S ts→VS U×List CV
 | [],_=>(s,[])
 | t :: ts,x=>((putHL (put1 s t x.1).1 ts x.2).1,(put1 s t x.1).2 :: (putHL (put1 s t x.1).1 ts x.2).2)
def putV (s:VS U):(t:PT)→t.T U.S→VS U×CV
 | .st T,x=>((putHL s (U.fs T) (U.get T x)).1,.agg (putHL s (U.fs T) (U.get T x)).2)
 | t,x=>put1 s t x
def putCs (s:VS U):(t:PT)→t.T U.S→VS U×List CV
 | .st T,x=>putHL s (U.fs T) (U.get T x)
 | t,x=>((put1 s t x).1,[(put1 s t x).2])
def newSl (s:VS U) (t:PT) (xs:List (t.T U.S)):VS U:={ s with sl:=s.sl++[⟨.sl t,xs⟩] }
def newMr (s:VS U) (t:PT) (xs:List (t.T U.S)):VS U:={ s with sl:=s.sl++[⟨.mr t,xs⟩] }
def newPt (s:VS U) (cs:List CV):VS U:={ s with pt:=s.pt++[cs] }
def newBox (s:VS U) (T:TypeId) (cs:List CV):VS U:={ s with nb:=s.nb+1,en:=.box s.nb (T+1) cs :: s.en }
def newRow (s:VS U) (i:Nat) (T:TypeId):VS U:={ s with en:=.row i T :: s.en }
def zBg:List EI→Nat→List CV→List EI
 | [],_,_=>[]
 | .box b T cs :: r,b',cs'=>bif Nat.beq b b' then .box b T cs' :: r else .box b T cs :: zBg r b' cs'
 | .row i T :: r,b',cs'=>.row i T :: zBg r b' cs'
def setRow:List EI→Nat→Nat→List EI
 | [],_,_=>[]
 | .box b T cs :: r,i,j=>.box b T cs :: setRow r i j
 | .row k T :: r,i,j=>bif Nat.beq k i then .row j T :: r else .row k T :: setRow r i j
def spots (b o:Nat):Nat→List (Nat×Nat)
 | 0=>[]
 | n+1=>(b,o) :: spots b (o+1) n
def oneB:CV→Bool
 | .int _=>true | .byt _=>true | .boo _=>true | .str _=>true | .ref _=>true | .ptr _ _=>true | .pa _ _=>true | .fn _ _=>true | .mp _=>true | .bm _ _=>true | .ifc _ _=>true
 | .raw v=>v.oneCell'
 | _=>false
def elOk (P:Program) (T:TypeId) (t:PT):Option TypeId :=
 match P.underlying T with
 | some (.slice e)=>bif elemB P T e (@Enc.sz _ (t.enc U)) then some e else none
 | _=>none
def ptOf (P:Program):Nat→TypeId→Option PT
 | 0,_=>none
 | n+1,T=>match P.underlying T with
  | some (.int .i64)=>some .int
  | some (.int .u8)=>some .byt
  | some .bool=>some .boo
  | some .string=>some .str
  | some (.slice e)=>(ptOf P n e).map .sl
  | some (.struct _)=>some (.st T)
  | _=>none
def zEu:List EI→Nat→List EI
 | [],_=>[]
 | .box b T cs :: r,b'=>bif Nat.beq b b' then r else .box b T cs :: zEu r b'
 | .row i T :: r,b'=>.row i T :: zEu r b'
def cellT:PT→Bool
 | .mr _=>false
 | .mp _=>false
 | .hid=>false
 | .po _=>false
 | .er=>false
 | _=>true
def getTs (s:VS U) (t:PT):List CV→Option (List (t.T U.S))
 | []=>some []
 | c :: cs=>match getT s t c with | some x=>(match getTs s t cs with | some xs=>some (x :: xs) | none=>none) | none=>none
def zHU (n:Nat):List (Nat×Operand)→Bool
 | []=>true
 | p :: l=>Nat.beq p.1 n&&zHU (n+1) l
def stl (s:VS U):CV→VS U×CV
 | .ptr b 0=>(match bxT s.en b with
  | some (T,cs)=>bif U.po T then (match getHL s (U.fs T) cs with
   | some y=>({ s with sl:=s.sl++[⟨.po T,some (U.put T y)⟩],en:=zEu s.en b,dt:=spots b 0 cs.length++s.dt },.ref s.sl.length)
   | none=>(s,.ptr b 0)) else (s,.ptr b 0)
  | none=>(s,.ptr b 0))
 | c=>(s,c)
def opStC {R:Type} (d:Option Nat) (b o n:Nat) (c:CV) (s:VS U) (k:VS U→Option R):Option R :=
 match zMK c,bxAt s.en b with
 | some l,some cs=>bif Nat.beq l.length n&&Nat.ble (o+n) cs.length&&l.all oneB then k (setd { s with en:=zBg s.en b (zHl cs o l),dt:=spots b o n++s.dt } d .und) else none
 | _,_=>none
def subC (j n:Nat):CV→CV
 | .ref i=>bif Nat.beq i j then .ref n else .ref i
 | c=>c
def subR (j n:Nat):List EI→List EI
 | []=>[]
 | .box b T cs :: r=>.box b T (cs.map (subC j n)) :: subR j n r
 | .row i T :: r=>.row i T :: subR j n r
def refS (j b:Nat):Nat→List CV→List (Nat×Nat)
 | _,[]=>[]
 | o,.ref i :: r=>bif Nat.beq i j then (b,o) :: refS j b (o+1) r else refS j b (o+1) r
 | o,_ :: r=>refS j b (o+1) r
def refD (j:Nat):List EI→List (Nat×Nat)
 | []=>[]
 | .box b _ cs :: r=>refS j b 0 cs++refD j r
 | .row _ _ :: r=>refD j r
def opStE {R:Type} (d:Option Nat) (j q n m:Nat) (c:CV) (s:VS U) (k:VS U→Option R):Option R :=
 match mrOf s.sl j,rowAt s.en j with
 | some ⟨t,xs⟩,some _ =>
  (match getT s t c with
  | some v => bif Nat.beq n (@Enc.sz _ (t.enc U)) && Nat.beq m n && cellT t then
    (xs[q]?).bind fun _=>k (setd { s with sl:=s.sl++[⟨.mr t,xs.set q v⟩],en:=subR j s.sl.length (setRow s.en j s.sl.length),dt:=refD j s.en++s.dt } d .und) else none
  | none=>none)
 | _,_=>none
def zPz {R:Type} (P:Program) (N:Nat) (d:Option Nat) (T:TypeId) (a x:Operand) (s:VS U) (k:VS U→Option R):Option R :=
 match opn N s a,opn N s x,lay P T with
 | some (.ptr b o),some c,some (_,n)=>opStC d b o n (stl s c).2 (stl s c).1 k
 | some (.pe j q n),some c,some (_,m)=>opStE d j q n m c s k
 | _,_,_=>none
def opIdm {R:Type} (P:Program) (N:Nat) (d:Option Nat) (T:TypeId) (j:Nat) (y:Operand) (s:VS U) (k:VS U→Option R):Option R :=
 match mrOf s.sl j,opn N s y,d with
 | some ⟨t,xs⟩,some (.int i),some d =>
  (match rowAt s.en j,elOk (U:=U) P T t with
  | some _,some _=>(xnth xs i).bind fun _=>k (setd s (some d) (.pe j i.toNat (@Enc.sz _ (t.enc U))))
  | _,_=>none)
 | _,_,_=>none
def opIdx {R:Type} (P:Program) (N:Nat) (d:Option Nat) (T:TypeId) (j:Nat) (y:Operand) (s:VS U) (k:VS U→Option R):Option R :=
 match slOf s.sl j with
 | some x =>
  (match opn N s y,d with
  | some (.int i),some d =>
   (match elOk (U:=U) P T x.t with
   | some _=>(xnth x.xs i).bind fun c=>k (setd (newPt (putCs s x.t c).1 (putCs s x.t c).2) (some d) (.pa s.pt.length 0))
   | none=>none)
  | _,_=>none)
 | none=>opIdm P N d T j y s k
def opNc {R:Type} (d:Option Nat) (j:Nat) (s:VS U) (k:VS U→Option R):Option R :=
 match poOf s.sl j,d with
 | some x,some d=>x.x.bind fun y=>k (setd (newPt (putCs s (.st x.T) y).1 (putCs s (.st x.T) y).2) (some d) (.pa s.pt.length 0))
 | _,_=>none
def erAt (U:UV):Operand→Option Nat
 | .global g=>bif U.se g then some g else none
 | _=>none
def opEr {R:Type} (P:Program) (d:Option Nat) (T:TypeId) (g:Nat) (s:VS U) (k:VS U→Option R):Option R :=
 match d,lay P T with
 | some d,some (false,1)=>k (setd (putV s .er g).1 (some d) (putV s .er g).2)
 | _,_=>none
def oneT:PT→Bool
 | .int=>true
 | .byt=>true
 | .boo=>true
 | .str=>true
 | .sl _=>true
 | _=>false
def opLe {R:Type} (P:Program) (d:Option Nat) (T:TypeId) (j q n:Nat) (s:VS U) (k:VS U→Option R):Option R :=
 match mrOf s.sl j,rowAt s.en j,lay P T,d with
 | some ⟨t,xs⟩,some _,some (false,1),some d=>bif oneT t&&Nat.beq n 1 then (xs[q]?).bind fun c=>k (setd (put1 s t c).1 (some d) (put1 s t c).2) else none
 | _,_,_,_=>none
def opLd {R:Type} (P:Program) (N:Nat) (d:Option Nat) (T:TypeId) (x:Operand) (s:VS U) (k:VS U→Option R):Option R :=
 match erAt U x with
 | some g=>opEr P d T g s k
 | none=>(match opn N s x with
  | some (.pe j q n)=>opLe P d T j q n s k
  | _=>opr P N (.load T x) s fun v=>k (setd s d v))
def slV (P:Program) (T:TypeId) (s:VS U):CV→Option (SLL U)
 | .ref j=>slOf s.sl j
 | .raw v=>bif zBc v then (match P.underlying T with | some (.slice e)=>(match ptOf P 9 e with | some t=>some ⟨t,[]⟩ | none=>none) | _=>none) else none
 | _=>none
def opSub {R:Type} (P:Program) (N:Nat) (d:Option Nat) (T:TypeId) (c:CV) (lo hi:Option Operand) (s:VS U) (k:VS U→Option R):Option R :=
 match slV P T s c,d with
 | some x,some d =>
  (match elOk (U:=U) P T x.t with
  | some _ =>
   let go:=fun ys=>k (setd (newSl s x.t ys) (some d) (.ref s.sl.length))
   (match lo,hi with
   | some i,some j=>(match opn N s i,opn N s j with | some (.int i),some (.int j)=>(xsub x.xs i j).bind go | _,_=>none)
   | some i,none=>(match opn N s i with | some (.int i)=>(xsub x.xs i x.xs.length).bind go | _=>none)
   | none,some j=>(match opn N s j with | some (.int j)=>(xsub x.xs 0 j).bind go | _=>none)
   | none,none=>none)
  | none=>none)
 | _,_=>none
def zU1 {R:Type} (P:Program) (N:Nat) (d:Option Nat) (T:TypeId) (j:Nat) (hi:Operand) (s:VS U) (k:VS U→Option R):Option R :=
 match mrOf s.sl j,opn N s hi,d with
 | some x,some (.int m),some d =>
  (match rowAt s.en j,elOk (U:=U) P T x.t with
  | some e',some e=>bif Nat.beq e e' then (xsub x.xs 0 m).bind fun ys=>k (setd { newMr s x.t ys with en:=setRow s.en j s.sl.length } (some d) (.ref s.sl.length)) else none
  | _,_=>none)
 | _,_,_=>none
def zTy {R:Type} (P:Program) (N:Nat) (d:Option Nat) (T:TypeId) (j:Nat) (lo hi:Option Operand) (s:VS U) (k:VS U→Option R):Option R :=
 match lo,hi,mrOf s.sl j with
 | none,some h,some _=>zU1 P N d T j h s k
 | lo,hi,_=>opSub P N d T (.ref j) lo hi s k
def opArr {R:Type} (P:Program) (N:Nat) (d:Option Nat) (T:TypeId) (b:Nat) (j:Operand) (s:VS U) (k:VS U→Option R):Option R :=
 match bxAt s.en b,opn N s j,d with
 | some cs,some (.int m),some d =>
  (match ints cs,P.underlying T with
  | some l, some (.array n e) => bif Nat.beq l.length n && Nat.ble n 16777216 && (P.info? e).isSome then
    (xsub l 0 m).bind fun ys=>k (setd { newSl s .int ys with en:=zEu s.en b,dt:=spots b 0 cs.length++s.dt } (some d) (.ref s.sl.length)) else none
  | _,_=>none)
 | _,_,_=>none
def flatC (m:Nat):List CV→Option (List CV)
 | []=>some []
 | c :: r=>match zMK c,flatC m r with
  | some l,some l'=>bif Nat.beq l.length m then some (l++l') else none
  | _,_=>none
def opBsk {R:Type} (P:Program) (d:Nat) (T:TypeId) (n:Nat) (ps:List (Nat×Operand)) (cs:List CV) (s:VS U) (k:VS U→Option R):Option R :=
 match P.underlying T with
 | some (.slice e) =>
  (match lay P e with
  | some (_,m+1) =>
   (match flatC (m+1) cs with
   | some l => bif zHU 0 ps && Nat.beq ps.length n && Nat.ble 1 n && elemB P T e (m + 1) && Nat.ble (n * (m + 1)) 16777216 && l.all oneB then
     k (setd (newPt (newMr s .hid (List.replicate n ())) l) (some d) (.sa s.sl.length s.pt.length)) else none
   | none=>none)
  | _=>none)
 | _=>none
def opBsl {R:Type} (P:Program) (N:Nat) (d:Option Nat) (T:TypeId) (n:Nat) (ps:List (Nat×Operand)) (s:VS U) (k:VS U→Option R):Option R :=
 match (match P.underlying T with | some (.slice e)=>ptOf P 9 e | _=>none),d with
 | some t,some d =>
  (match elOk (U:=U) P T t,opns N s (ps.map Prod.snd) with
  | some e,some cs =>
   (match getTs s t cs with
   | some xs=>bif zHU 0 ps&&Nat.beq ps.length n&&Nat.ble (n*@Enc.sz _ (t.enc U)) 16777216&&cellT t then k (setd (newRow (newSl s t xs) s.sl.length e) (some d) (.ref s.sl.length)) else none
   | none=>none)
  | none,some cs=>opBsk P d T n ps cs s k
  | _,_=>none)
 | _,_=>none
def opApp {R:Type} (P:Program) (N:Nat) (d:Option Nat) (x y:Operand) (T:TypeId) (s:VS U) (k:VS U→Option R):Option R :=
 match opn N s y,d with
 | some c,some d =>
  (match slV P T s c with
  | some ys =>
   (match elOk (U:=U) P T ys.t with
   | some e =>
    (match opn N s x with
    | some (.raw v)=>bif zBc v then (xapp [] ys.xs).bind fun zs=>k (setd (newRow (newSl s ys.t zs) s.sl.length e) (some d) (.ref s.sl.length)) else none
    | some (.ref i) =>
     (match get1 s (.sl ys.t) (.ref i),rowAt s.en i with
     | some xs,some e'=>bif Nat.beq e e' then (xapp xs ys.xs).bind fun zs=>k (setd { newSl s ys.t zs with en:=setRow s.en i s.sl.length } (some d) (.ref s.sl.length)) else none
     | none,some e' =>
      (match get1 s (.mr ys.t) (.ref i) with
      | some xs=>bif Nat.beq e e' then (xapp xs ys.xs).bind fun zs=>k (setd { newMr s ys.t zs with en:=setRow s.en i s.sl.length } (some d) (.ref s.sl.length)) else none
      | none=>none)
     | _,_=>none)
    | _=>none)
   | none=>none)
  | none=>none)
 | _,_=>none
def zSk {R:Type} (P:Program) (N:Nat) (d:Option Nat) (x y:Operand) (T T':TypeId) (s:VS U) (k:VS U→Option R):Option R :=
 match opn N s y,d,elOk (U:=U) P T .byt with
 | some (.str ys),some d,some e=>bif isStr P T' then
  (match opn N s x with
  | some (.raw v)=>bif zBc v then (xapp [] ys).bind fun zs=>k (setd (newRow (newSl s .byt zs) s.sl.length e) (some d) (.ref s.sl.length)) else none
  | some (.ref i) =>
   (match get1 s (.sl .byt) (.ref i),rowAt s.en i with
   | some xs,some e'=>bif Nat.beq e e' then (xapp (show Str from xs) ys).bind fun zs=>k (setd { newSl s .byt zs with en:=setRow s.en i s.sl.length } (some d) (.ref s.sl.length)) else none
   | _,_=>none)
  | _=>none) else none
 | _,_,_=>none
def sameT:Operand→Operand→Bool
 | .tmp i,.tmp j=>Nat.beq i j
 | _,_=>false
def opMs {R:Type} (P:Program) (N:Nat) (d:Option Nat) (T:TypeId) (x y:Operand) (s:VS U) (k:VS U→Option R):Option R :=
 match (match P.underlying T with | some (.slice e)=>ptOf P 9 e | _=>none),d with
 | some t,some d =>
  (match elOk (U:=U) P T t,opn N s x,opn N s y with
  | some e,some (.int a),some (.int n) =>
   bif Nat.beq (@Enc.sz _ (t.enc U)) 1 then (match zer P e with
   | some [z]=>bif sameT x y then (match getT s t (con z) with
    | some z=>bif oneT t then (xmake n z).bind fun zs=>k (setd (newRow (newMr s t zs) s.sl.length e) (some d) (.ref s.sl.length)) else none
    | none=>none)
    else bif decide (a=0) then (xroom n).bind fun _=>k (setd (newRow (newSl s t []) s.sl.length e) (some d) (.ref s.sl.length)) else none
   | _=>none) else none
  | _,_,_=>none)
 | _,_=>none
def mpAt:List EI→Nat→Option Nat
 | [],_=>none
 | .box b T cs :: r,b'=>bif Nat.beq b b' then (match T,cs with | 0,[.ref i]=>some i | _,_=>none) else mpAt r b'
 | .row _ _ :: r,b'=>mpAt r b'
def mapTy (P:Program) (T:TypeId):Option TypeId:=match P.underlying T with | some (.map K e)=>bif isStr P K then some e else none | _=>none
def zcv:Value→CV
 | .agg a=>.agg (a.toList.map con)
 | v=>con v
def mapOf (s:VS U) (b:Nat):Option (SLM U):=match mpAt s.en b with | some i=>mpOf s.sl i | none=>none
def newMp (s:VS U) (t:PT):VS U:={ s with sl:=s.sl++[⟨.mp t,[]⟩],nb:=s.nb+1,en:=.box s.nb 0 [.ref s.sl.length] :: s.en }
def setMp (s:VS U) (b:Nat) (t:PT) (m:List (Str×t.T U.S)):VS U:={ s with sl:=s.sl++[⟨.mp t,m⟩],en:=zBg s.en b [.ref s.sl.length],dt:=(b,0) :: s.dt }
def opMk {R:Type} (P:Program) (d:Option Nat) (T:TypeId) (s:VS U) (k:VS U→Option R):Option R :=
 match mapTy P T,d with
 | some e,some d=>(match ptOf P 9 e with | some t=>k (setd (newMp s t) (some d) (.mp s.nb)) | none=>none)
 | _,_=>none
def opLk {R:Type} (P:Program) (N:Nat) (T:TypeId) (x y:Operand) (ok:Bool) (s:VS U) (k:VS U→CV→Option R):Option R :=
 match opn N s x,opn N s y,mapTy P T with
 | some (.mp b),some (.str a),some e =>
  (match mapOf s b,(P.info? e).bind (·.zero) with
  | some ⟨t,m⟩,some zc=>(match getT s t (zcv zc) with
   | some z=>(match mget m a z with | (x,o)=>k (putV s t x).1 (bif ok then .tup [(putV s t x).2,.boo o] else (putV s t x).2))
   | none=>none)
  | _,_=>none)
 | _,_,_=>none
def opUp {R:Type} (P:Program) (N:Nat) (d:Option Nat) (T:TypeId) (x y z:Operand) (s:VS U) (k:VS U→Option R):Option R :=
 match opn N s x,opn N s y,opn N s z with
 | some (.mp b),some (.str a),some c =>
  (match mapOf s b,mapTy P T with
  | some ⟨t,m⟩,some _=>(match getT s t c with | some v=>k (setd (setMp s b t (mset m a v)) d .und) | none=>none)
  | _,_=>none)
 | _,_,_=>none
def opDe {R:Type} (P:Program) (N:Nat) (d:Option Nat) (T K:TypeId) (x y:Operand) (s:VS U) (k:VS U→Option R):Option R :=
 match opn N s x,opn N s y,P.underlying T with
 | some (.mp b),some (.str a),some (.map K' _) =>
  bif Nat.beq K K'&&isStr P K then (match mapOf s b with
  | some ⟨t,m⟩=>k (setd (setMp s b t (mdel m a)) d (.tup []))
  | none=>none) else none
 | _,_,_=>none
structure Spec (U:UV) where
 run:{R:Type}→VS U→List CV→(VS U→CV→Option R)→Option R
 runq:{R:Type}→VS U→List CV→(CV→Option R)→Option R
 loud:Bool:=false
 qt:Bool:=false
abbrev Gam (U:UV):=FuncId→Option (Spec U)
def ldOf (G:Gam U) (o:Oper):Bool :=
 match o.op with
 | .call c=>(match c.callee with | .value (.func g)=>(match G g with | some S=>S.loud | none=>false) | .value (.tmp _)=>false | _=>false)
 | _=>false
def opd {R:Type} (P:Program) (G:Gam U) (N:Nat) (d:Option Nat) (op:Op) (s:VS U) (k:VS U→Option R):Option R :=
 match op with
 | .call c =>
  match c.callee with
  | .value (.func g)=>match G g,opns N s c.args.toList with | some S,some vs=>S.run s vs fun s v=>k (setd s d v) | _,_=>none
  | .value (.tmp t) =>
   (match opn N s (.tmp t),opns N s c.args.toList with
   | some (.fn g caps),some vs=>(match G g with | some S=>S.run s (vs++caps) fun s v=>k (setd s d v) | none=>none)
   | some (.bm g fl),some vs=>(match G g with | some S=>S.run s (fl++vs) fun s v=>k (setd s d v) | none=>none)
   | _,_=>none)
  | .builtin .append =>
   (match c.args.toList,c.argTypes.toList with
   | [x,y],[T,T']=>bif Nat.beq T T' then opApp P N d x y T s k else zSk P N d x y T T' s k
   | _,_=>none)
  | .builtin .delete =>
   (match c.args.toList,c.argTypes.toList with
   | [x,y],[T,K]=>opDe P N d T K x y s k
   | _,_=>none)
  | _=>opr P N (.call c) s fun v=>k (setd s d v)
 | .build T ps=>opb P N T ps.toList s fun v=>k (setd s d v)
 | .box T x =>
  (match opn N s x,d with
  | some c,some d=>(match zMK c with | some l=>k (setd (newBox s T l) (some d) (.ptr s.nb 0)) | none=>none)
  | _,_=>none)
 | .alloc T=>(match zer P T,d with | some zs,some d=>k (setd (newBox s T (zs.map con)) (some d) (.ptr s.nb 0)) | _,_=>none)
 | .store T a x=>zPz P N d T a x s k
 | .indexAddr T x y=>(match opn N s x with | some (.ref j)=>opIdx P N d T j y s k | _=>opr P N (.indexAddr T x y) s fun v=>k (setd s d v))
 | .nilCheck x=>(match opn N s x with | some (.ref j)=>opNc d j s k | _=>opr P N (.nilCheck x) s fun v=>k (setd s d v))
 | .load T x=>opLd P N d T x s k
 | .slice T x lo hi none=>(match opn N s x,lo,hi with
  | some (.ref j),_,_=>zTy P N d T j lo hi s k
  | some (.raw v),_,_=>opSub P N d T (.raw v) lo hi s k
  | some (.ptr b 0),none,some j=>opArr P N d T b j s k
  | _,_,_=>opr P N (.slice T x lo hi none) s fun v=>k (setd s d v))
 | .buildSlice T n ps=>opBsl P N d T n ps.toList s k
 | .makeMap T none=>opMk P d T s k
 | .makeSlice T x y=>opMs P N d T x y s k
 | .lookup T x y ok=>opLk P N T x y ok s fun s v=>k (setd s d v)
 | .mapUpdate T x y z=>opUp P N d T x y z s k
 | op=>opr P N op s fun v=>k (setd s d v)
def opq {R:Type} (P:Program) (G:Gam U) (N:Nat) (d:Option Nat) (op:Op) (s:VS U) (k:VS U→Option R):Option R :=
 match op with
 | .call c =>
  match c.callee with
  | .value (.func g)=>match G g,opns N s c.args.toList with | some S,some vs=>S.runq s vs fun v=>k (setd s d v) | _,_=>none
  | .value (.tmp t) =>
   (match opn N s (.tmp t),opns N s c.args.toList with
   | some (.fn g caps),some vs=>(match G g with | some S=>S.runq s (vs++caps) fun v=>k (setd s d v) | none=>none)
   | _,_=>none)
  | _=>opr P N (.call c) s fun v=>k (setd s d v)
 | .build T ps=>opb P N T ps.toList s fun v=>k (setd s d v)
 | .indexAddr T x y=>(match opn N s x with | some (.ref j)=>opIdx P N d T j y s k | _=>opr P N (.indexAddr T x y) s fun v=>k (setd s d v))
 | .nilCheck x=>(match opn N s x with | some (.ref j)=>opNc d j s k | _=>opr P N (.nilCheck x) s fun v=>k (setd s d v))
 | .lookup T x y ok=>opLk P N T x y ok s fun s v=>k (setd s d v)
 | .load T x=>opLd P N d T x s k
 | op=>opr P N op s fun v=>k (setd s d v)
end
structure Ext {U:UV} (s s':VS U) (ds:List Nat):Prop where
 sl:∃ l,s'.sl=s.sl++l
 pt:∃ l,s'.pt=s.pt++l
 nb:s.nb≤s'.nb
 fr:∀ u,memb ds u=false→look s'.fr u=look s.fr u
 dt:∃ d,s'.dt=d++s.dt∧∀ b,b<s.nb→∀ o,memX d b o=false→zAi s'.en b o=zAi s.en b o
theorem zDJ {d:Nat} {ds:List Nat} {u:Nat}:memb (d :: ds) u=(Nat.beq u d||memb ds u):=rfl
theorem zLq {a b:List Nat} {u:Nat} (h:memb (a++b) u=false):memb a u=false∧memb b u=false:=by
 induction a with
 | nil=>exact ⟨rfl,h⟩
 | cons d a ih =>
  grind [zDJ]
theorem zLi {a b:List (Nat×Nat)} {u v:Nat} (h:memX (a++b) u v=false):memX a u v=false∧memX b u v=false:=by
 induction a <;> grind [memX]
theorem Ext.refl {U:UV} (s:VS U) (ds:List Nat):Ext s s ds:=⟨zAI _,zAI _,nR _,fun _ _=>rfl,[],rfl,fun _ _ _ _=>rfl⟩
theorem Ext.trans {U:UV} {s s' s2:VS U} {a b:List Nat} (h:Ext s s' a) (k:Ext s' s2 b):Ext s s2 (a++b):=by
 obtain ⟨d,h1,h2⟩:=h.dt;obtain ⟨e,k1,k2⟩:=k.dt;refine ⟨zB9 h.sl k.sl,zB9 h.pt k.pt,nT h.nb k.nb,fun u hu=>(k.fr u (zLq hu).2).trans (h.fr u (zLq hu).1),e++d,gR,fun b hb o ho=>?_⟩;obtain ⟨o1,o2⟩:=zLi ho;exact (k2 b (Nat.lt_of_lt_of_le hb h.nb) o o1).trans (h2 b hb o o2)
def zPO (P:Program) (g:FuncId) (args:Array Value) (w:World) (K:World→Value→Prop):Prop :=
 ((∀ w,(callFunc g args).run P w=.ok (.enter g args) w)∧Calls P g args w (fun e w'=>∃ v,e=.returned v∧K w' v))∨∃ v w',(callFunc g args).run P w=.ok (.value v) w'∧K w' v
structure SpecOk {U:UV} (P:Program) (g:FuncId) (S:Spec U):Prop where
 sound:∀ {Ω:Type} {s:VS U} {vs:List CV} {k:VS U→CV→Option Ω} {r:Ω},S.run s vs k=some r →
  ∀ {w0:World} {H0:Hp} {f:Fr} {w:World} {E:Env} {H:Hp} {L:List Ent},RelE w0 H0 s f w E H L→∀ {args:List Value},CV.vals E vs=some args→∀ {K:World→Value→Prop},
  (∀ s' w' E' H' L' c v,k s' c=some r→RelE w0 H0 s' f w' E' H' L'→Ext s s' []→E.le E'→H.le H'→c.val E'=some v→K w' v) →
  zPO P g args.toArray w K
 quiet:∀ {Ω:Type} {s:VS U} {vs:List CV} {k:CV→Option Ω} {r:Ω},S.runq s vs k=some r →
  ∀ {w0:World} {H0:Hp} {f:Fr} {w:World} {E:Env} {H:Hp} {L:List Ent},RelE w0 H0 s f w E H L→∀ {args:List Value},CV.vals E vs=some args →
  ∃ c v,k c=some r∧c.val E=some v∧∀ w' H',H.le H'→St w0 H0 w' H' L→Con P g args w' H' (fun _ u=>u=v)
def GamOk {U:UV} (P:Program) (G:Gam U):Prop:=∀ g S,G g=some S→SpecOk P g S
def Goes {U:UV} {Ω:Type} (w0:World) (H0:Hp) (s:VS U) (ds:List Nat) (E:Env) (H:Hp) (k:VS U→Option Ω) (r:Ω) (Q:Fr→World→Prop):Prop :=
 ∀ s' f' w' E' H' L',k s'=some r→RelE w0 H0 s' f' w' E' H' L'→Ext s s' ds→E.le E'→H.le H'→Q f' w'
end Go.VI
