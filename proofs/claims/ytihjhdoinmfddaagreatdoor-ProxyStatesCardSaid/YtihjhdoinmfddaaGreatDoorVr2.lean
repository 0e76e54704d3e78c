/- A part. -/
import Derived.Test.YtihjhdoinmfddaaGreatDoorVr1
set_option linter.unusedVariables false
set_option linter.unusedSimpArgs false
namespace Go.VI
open Go Go.Eng
def con:Value→CV
 | .int .i64 n=>.int n
 | .int .u8 n=>bif decide (0≤n)&&decide (n<256) then .byt (UInt8.ofNat n.toNat) else .raw (.int .u8 n)
 | .bool b=>.boo b
 | .string s=>.str s.data.toList
 | v=>.raw v
section
variable {U:UV}
def opn (N:Nat) (s:VS U):Operand→Option CV
 | .tmp t=>bif Nat.blt t N then look s.fr t else none
 | .const v=>some (con v)
 | .func k=>some (.fn k [])
 | _=>none
def setd (s:VS U) (d:Option Nat) (v:CV):VS U:=match d with | some d=>{ s with fr:=(d,v) :: s.fr } | none=>s
def intB {R:Type} (op:BinOp) (a b:Int) (k:CV→Option R):Option R :=
 match op with
 | .add=>k (.int (wr (a+b))) | .sub=>k (.int (wr (a - b))) | .mul=>k (.int (wr (a*b)))
 | .and=>k (.int (iand a b))
 | .quo=>(xquo a b).bind fun c=>k (.int c) | .rem=>(xrem a b).bind fun c=>k (.int c)
 | .lss=>k (.boo (decide (a<b))) | .leq=>k (.boo (decide (a≤b))) | .gtr=>k (.boo (decide (b<a))) | .geq=>k (.boo (decide (b≤a)))
 | .eql=>k (.boo (a==b)) | .neq=>k (.boo (a !=b))
 | _=>none
def bytB {R:Type} (op:BinOp) (a b:UInt8) (k:CV→Option R):Option R :=
 match op with
 | .add=>k (.byt (a+b)) | .sub=>k (.byt (a - b)) | .and=>k (.byt (band a b)) | .or=>k (.byt (bor a b))
 | .quo=>match decide (b=0) with | true=>none | false=>k (.byt (a / b))
 | .rem=>match decide (b=0) with | true=>none | false=>k (.byt (a % b))
 | .lss=>k (.boo (decide (a<b))) | .leq=>k (.boo (decide (a≤b))) | .gtr=>k (.boo (decide (b<a))) | .geq=>k (.boo (decide (b≤a)))
 | .eql=>k (.boo (a==b)) | .neq=>k (.boo (a !=b))
 | _=>none
def strB {R:Type} (op:BinOp) (a b:Str) (k:CV→Option R):Option R :=
 match op with
 | .add=>(xcat a b).bind fun c=>k (.str c)
 | .eql=>k (.boo (a==b)) | .neq=>k (.boo (a !=b))
 | .lss=>k (.boo (Op.bytesLess a b)) | .leq=>k (.boo (Op.bytesLess a b||a==b)) | .gtr=>k (.boo (!(Op.bytesLess a b||a==b))) | .geq=>k (.boo (!Op.bytesLess a b))
 | _=>none
def booB {R:Type} (op:BinOp) (a b:Bool) (k:CV→Option R):Option R :=
 match op with
 | .eql=>k (.boo (a==b)) | .neq=>k (.boo (a !=b))
 | _=>none
def aggEq:List CV→List CV→Option Bool
 | [],[]=>some true
 | .int a :: l,.int b :: r=>(aggEq l r).map fun z=>(a==b)&&z
 | .boo a :: l,.boo b :: r=>(aggEq l r).map fun z=>(a==b)&&z
 | .str a :: l,.str b :: r=>(aggEq l r).map fun z=>(a==b)&&z
 | _,_=>none
def kindC:CV→Option Nat
 | .int _=>some 0 | .boo _=>some 1 | .str _=>some 2 | _=>none
def zM6:List CV→List (Option Nat):=List.map kindC
def eqKs:List (Option Nat)→List (Option Nat)→Bool
 | [],[]=>true
 | some a :: l,some b :: r=>Nat.beq a b&&eqKs l r
 | _,_=>false
def aggB {R:Type} (P:Program) (T:TypeId) (op:BinOp) (a b:List CV) (k:CV→Option R):Option R :=
 bif zNQ P T&&eqKs (zLR P T) (zM6 a)&&eqKs (zLR P T) (zM6 b) then
  match op,aggEq a b with
  | .eql,some z=>k (.boo z)
  | .neq,some z=>k (.boo (!z))
  | _,_=>none
 else none
def zQZ (P:Program) (T:TypeId):Bool:=match P.underlying T with | some .bool=>true | _=>false
def isStr (P:Program) (T:TypeId):Bool:=match P.underlying T with | some .string=>true | _=>false
def isSl (P:Program) (T:TypeId):Bool:=match P.underlying T with | some (.slice _)=>true | _=>false
def ints:List CV→Option (List Int)
 | []=>some []
 | .int x :: l=>(ints l).map (x :: ·)
 | _=>none
def strs:List CV→Option (List Str)
 | []=>some []
 | .str x :: l=>(strs l).map (x :: ·)
 | _=>none
def zBc:Value→Bool
 | .slice none 0 0=>true
 | _=>false
def isMap (P:Program) (T:TypeId):Bool:=match P.underlying T with | some (.map _ _)=>true | _=>false
theorem zRo {P:Program} {T:TypeId} (h:isMap P T=true):∃ a b,P.underlying T=some (.map a b):=by
 unfold isMap at h
 grind
def zQ0 (P:Program) (T:TypeId):Bool:=match P.underlying T with | some (.pointer t)=>(P.info? t).isSome | _=>false
theorem zSw {P:Program} {T:TypeId} (h:zQ0 P T=true):∃ t,P.underlying T=some (.pointer t)∧∃ j,P.info? t=some j:=by
 grind [zQ0,Option.isSome_iff_exists]
def isCon:Operand→Bool
 | .const _=>true
 | _=>false
theorem zVD {y:Operand} (h:isCon y=true):∃ v,y=.const v:=by
 cases y <;> first | exact ⟨_,rfl⟩ | cases h
def isU8 (P:Program) (T:TypeId):Bool:=match P.underlying T with | some (.int .u8)=>true | _=>false
def isPtr (P:Program) (T:TypeId):Bool:=match P.underlying T with | some (.pointer _)=>true | _=>false
def boxAt:List EI→Nat→Option (List CV)
 | [],_=>none
 | .box b _ cs :: r,b'=>bif Nat.beq b b' then some cs else boxAt r b'
 | .row _ _ :: r,b'=>boxAt r b'
def bxAt:List EI→Nat→Option (List CV)
 | [],_=>none
 | .box b T cs :: r,b'=>bif Nat.beq b b' then (match T with | 0=>none | _+1=>some cs) else bxAt r b'
 | .row _ _ :: r,b'=>bxAt r b'
def bxT:List EI→Nat→Option (TypeId×List CV)
 | [],_=>none
 | .box b T cs :: r,b'=>bif Nat.beq b b' then (match T with | 0=>none | T+1=>some (T,cs)) else bxT r b'
 | .row _ _ :: r,b'=>bxT r b'
def zAi (en:List EI) (b o:Nat):Option CV:=match boxAt en b with | some cs=>cs[o]? | none=>none
def opns (N:Nat) (s:VS U):List Operand→Option (List CV)
 | []=>some []
 | x :: l=>match opn N s x,opns N s l with | some c,some cs=>some (c :: cs) | _,_=>none
def rowAt:List EI→Nat→Option TypeId
 | [],_=>none
 | .box _ _ _ :: r,i=>rowAt r i
 | .row k T :: r,i=>bif Nat.beq k i then some T else rowAt r i
structure SLP (U:UV) where
 T:TypeId
 x:Option (U.S T)
def poOf (sl:List (SLV U)) (i:Nat):Option (SLP U):=match sl[i]? with | some ⟨.po T,x⟩=>some ⟨T,x⟩ | _=>none
theorem zYy {H:Hp} {vs:List Value} {sl:List (SLV U)} {i:Nat} {x:SLP U} (hs:SlsOk H vs sl) (h:poOf sl i=some x):∃ p:Option Addr,vs[i]?=some (.pointer p)∧p.isNone=x.x.isNone:=by
 unfold poOf at h;split at h
 case h_2=>cases h
 rename_i T y e;cases h;obtain ⟨v,hv,hR⟩:=hs.get e;cases y with
 | none=>exact ⟨none,by rw [hv,show v=.pointer none from hR],rfl⟩
 | some y=>obtain ⟨a,cs,e,_⟩:=(show PoR _ _ _ (some y) from hR); grind
theorem zYA {H:Hp} {vs:List Value} {sl:List (SLV U)} {i:Nat} {T:TypeId} {y:U.S T} (hs:SlsOk H vs sl) (h:poOf sl i=some ⟨T,some y⟩):∃ v,vs[i]?=some v∧∃ a cs,v=.pointer (some a)∧cs≠[]∧At H a cs∧(U.enc T).cells H cs y:=by
 unfold poOf at h;split at h
 case h_2=>cases h
 rename_i T' z e;cases h;obtain ⟨v,hv,hR⟩:=hs.get e;exact ⟨v,hv,(show PoR _ _ _ (some _) from hR)⟩
def opr {R:Type} (P:Program) (N:Nat) (op:Op) (s:VS U) (k:CV→Option R):Option R :=
 match op with
 | .move x=>(opn N s x).elim none k
 | .assign x=>(opn N s x).elim none k
 | .pick c x y=>match opn N s c with | some (.boo g)=>bif g then (opn N s x).elim none k else (opn N s y).elim none k | _=>none
 | .binOp op T x y _ =>
  match opn N s x,opn N s y with
  | some (.int a),some (.int b)=>intB op a b k
  | some (.byt a),some (.byt b)=>bytB op a b k
  | some (.str a),some (.str b)=>strB op a b k
  | some (.boo a),some (.boo b)=>bif zQZ P T then booB op a b k else none
  | some (.agg a),some (.agg b)=>aggB P T op a b k
  | some (.ptr b o),some (.ptr b' o')=>bif zQ0 P T&&Nat.beq b b'&&Nat.beq o o' then (match op with | .eql=>k (.boo true) | .neq=>k (.boo false) | _=>none) else none
  | some (.ptr _ _),some (.raw (.pointer none))=>bif isPtr P T then (match op with | .eql=>k (.boo false) | .neq=>k (.boo true) | _=>none) else none
  | some (.ref i),some (.raw (.pointer none))=>(match poOf s.sl i with | some x=>bif isPtr P T then (match op with | .eql=>k (.boo x.x.isNone) | .neq=>k (.boo !x.x.isNone) | _=>none) else none | none=>none)
  | some (.mp _),some (.raw (.map none))=>bif isMap P T then (match op with | .eql=>k (.boo false) | .neq=>k (.boo true) | _=>none) else none
  | some (.raw (.map none)),some (.raw (.map none))=>bif isMap P T then (match op with | .eql=>k (.boo true) | .neq=>k (.boo false) | _=>none) else none
  | some (.ifc _ _),some (.raw .nilIface)=>bif isI P T then (match op with | .eql=>k (.boo false) | .neq=>k (.boo true) | _=>none) else none
  | some (.raw (.iface _ _)),some (.raw .nilIface)=>bif isI P T then (match op with | .eql=>k (.boo false) | .neq=>k (.boo true) | _=>none) else none
  | some (.raw .nilIface),some (.raw .nilIface)=>bif isI P T&&isCon y then (match op with | .eql=>k (.boo true) | .neq=>k (.boo false) | _=>none) else none
  | some (.raw (.pointer none)),some (.raw (.pointer none))=>bif isPtr P T then (match op with | .eql=>k (.boo true) | .neq=>k (.boo false) | _=>none) else none
  | _,_=>none
 | .nilCheck x=>match opn N s x with | some (.ptr i o)=>k (.ptr i o) | some (.pa i o)=>k (.pa i o) | _=>none
 | .fieldAddr T x i =>
  match opn N s x,fld P T i with
  | some (.ptr b o),some off=>k (.ptr b (o+off))
  | some (.pa b o),some off=>k (.pa b (o+off))
  | _,_=>none
 | .load T x =>
  match x with
  | .global g=>(match U.gl g,lay P T with
   | some cs,some (false,1)=>(match cs[0]? with | some v=>k (con v) | none=>none)
   | _,_=>none)
  | x =>
   match opn N s x,lay P T with
   | some (.ptr b o),some (false,1)=>(match bxAt s.en b with | some cs=>(match cs[o]? with | some c=>k c | none=>none) | none=>none)
   | some (.ptr b o),some (true,n)=>(match bxAt s.en b with | some cs=>bif Nat.ble (o+n) cs.length then k (.agg ((cs.drop o).take n)) else none | none=>none)
   | some (.pa i o),some (false,1)=>(match s.pt[i]? with | some cs=>(match cs[o]? with | some c=>k c | none=>none) | none=>none)
   | some (.pa i o),some (true,n)=>(match s.pt[i]? with | some cs=>bif Nat.ble (o+n) cs.length&&Nat.blt 0 n then k (.agg ((cs.drop o).take n)) else none | none=>none)
   | _,_=>none
 | .indexAddr T x y =>
  match opn N s x,opn N s y,P.underlying T with
  | some (.ptr b o),some (.int i),some (.array n e) =>
   (match lay P e with
   | some (_,m)=>bif decide (0≤i)&&decide (i<(n:Int)) then k (.ptr b (o+i.toNat*m)) else none
   | none=>none)
  | some (.sa i p),some (.int j),some (.slice e) =>
   (match mrOf s.sl i,lay P e with
   | some y,some (_,m)=>bif elemB P T e m&&decide (0≤j)&&decide (j<(y.xs.length:Int)) then k (.pa p (j.toNat*m)) else none
   | _,_=>none)
  | _,_,_=>none
 | .makeFunc h first caps=>match h,opns N s first.toList,opns N s caps.toList with | .func g,some [],some l=>k (.fn g l) | .func g,some (a :: fl),some []=>k (.bm g (a :: fl)) | _,_,_=>none
 | .makeInterface T x=>bif notI P T then (match opn N s x with | some c=>k (.ifc T c) | none=>none) else none
 | .unOp .not _ x=>match opn N s x with | some (.boo b)=>k (.boo (!b)) | _=>none
 | .unOp .neg _ x=>match opn N s x with | some (.int a)=>k (.int (wr (-a))) | _=>none
 | .index T x y =>
  bif isStr P T then
   match opn N s x,opn N s y with
   | some (.str a),some (.int i)=>(xnth a i).bind fun c=>k (.byt c)
   | _,_=>none
  else
   match opn N s x,opn N s y,P.underlying T with
   | some (.agg cs),some (.int i),some (.array n e) =>
    (match lay P e with
    | some (false,1) =>
     (match ints cs,strs cs with
     | some l,_=>bif Nat.beq l.length n then (xnth l i).bind fun c=>k (.int c) else none
     | _,some l=>bif Nat.beq l.length n then (xnth l i).bind fun c=>k (.str c) else none
     | _,_=>none)
    | _=>none)
   | _,_,_=>none
 | .slice T x lo hi none =>
  bif isStr P T then
   match opn N s x,lo,hi with
   | some (.str a),some i,some j=>(match opn N s i,opn N s j with | some (.int i),some (.int j)=>(xsub a i j).bind fun c=>k (.str c) | _,_=>none)
   | some (.str a),some i,none=>(match opn N s i with | some (.int i)=>(xsub a i a.length).bind fun c=>k (.str c) | _=>none)
   | some (.str a),none,some j=>(match opn N s j with | some (.int j)=>(xsub a 0 j).bind fun c=>k (.str c) | _=>none)
   | _,_,_=>none
  else none
 | .extract x i=>match opn N s x with | some (.tup l)=>(l[i]?).elim none k | _=>none
 | .convert T T' x =>
  match P.underlying T,P.underlying T',opn N s x with
  | some _,some (.int .i64),some (.byt a)=>k (.int a.toNat)
  | some _,some (.int .i64),some (.int a)=>k (.int (wr a))
  | some _,some (.int .u8),some (.int a)=>k (.byt (toU8 a))
  | some (.pointer t),some .unsafePointer,some (.ptr b 0)=>(match lay P t,bxAt s.en b with | some (true,n+1),some (_ :: _)=>k (.ptr b 0) | _,_=>none)
  | some .unsafePointer,some (.pointer t),some (.ptr b 0)=>(match bxT s.en b with | some (T2,c :: cs)=>bif Nat.beq t T2&&(P.info? t).isSome&&Nat.beq (P.cellsOf t) (cs.length+1) then k (.ptr b 0) else none | _=>none)
  | some (.slice e),some .string,some (.ref i)=>bif isU8 P e then (match slOf s.sl i with | some ⟨.byt,xs⟩=>k (.str xs) | _=>none) else none
  | some (.slice e),some .string,some (.raw v)=>bif isU8 P e&&zBc v then k (.str []) else none
  | _,_,_=>none
 | .field T x i =>
  match opn N s x,ftype P T i with
  | some (.agg cs),some (t,off) =>
   (match lay P t with
   | some (true,m)=>bif decide (off<cs.length) then k (.agg ((cs.drop off).take m)) else none
   | some (false,_)=>(match cs[off]? with | some c=>k c | none=>none)
   | none=>none)
  | _,_=>none
 | .call c =>
  match c.callee,c.args.toList with
  | .builtin .len,[x] =>
   (match c.argTypes.toList with
   | [T] =>
    (match opn N s x with
    | some (.str a)=>bif isStr P T then k (.int a.length) else none
    | some (.ref i)=>bif isSl P T then (match slOf s.sl i with | some y=>k (.int y.xs.length) | none=>(match mrOf s.sl i with | some y=>k (.int y.xs.length) | none=>none)) else none
    | some (.sa i _)=>bif isSl P T then (match mrOf s.sl i with | some y=>k (.int y.xs.length) | none=>none) else none
    | some (.raw v)=>bif isSl P T&&zBc v then k (.int 0) else none
    | _=>none)
   | _=>none)
  | .builtin .min,[x,y]=>(match opn N s x,opn N s y with | some (.int a),some (.int b)=>k (.int (if b<a then b else a)) | _,_=>none)
  | .builtin .max,[x,y]=>(match opn N s x,opn N s y with | some (.int a),some (.int b)=>k (.int (if a<b then b else a)) | _,_=>none)
  | _,_=>none
 | _=>none
end
section
variable {U:UV} {P:Program} {N:Frm} {s:VS U} {f:Fr} {w w0:World} {H0 H:Hp} {E:Env} {L:List Ent} {Ω:Type}
theorem zN1 (v:Value):(con v).val E=some v:=by
 unfold con;split
 ·rfl
 ·rename_i n
  cases h:decide (0≤n)&&decide (n<256) with
  | false=>rfl
  | true =>
   rw [bQ,decide_eq_true_eq,decide_eq_true_eq] at h
   show some (Eng.byt _)=_
   grind [Eng.byt,UInt8.toNat_ofNat']
 ·rfl
 ·rfl
 ·rfl
variable {T:TypeId} {x:Operand}
theorem zAy (hr:RelE w0 H0 s f w E H L) {c:CV} (h:opn N.n s x=some c):c.val E=some (ev N f x):=by
 cases x with
 | tmp t =>
  simp only [opn] at h;cases hb:Nat.blt t N.n with
  | false=>grind
  | true=>rw [hb] at h; simp only [ev,hb,cond_true]; exact hr.fr t c h
 | const v'=>simp only [opn,oI] at h; subst h; exact zN1 v'
 | global g=>cases h
 | func k=>simp only [opn,oI] at h; subst h; rfl
theorem zBD (hr:RelE w0 H0 s f w E H L) {a:Int} (h:opn N.n s x=some (.int a)):ev N f x=Eng.int a:=(oJ (zAy hr h)).symm
theorem zQL (hr:RelE w0 H0 s f w E H L) {a:UInt8} (h:opn N.n s x=some (.byt a)):ev N f x=Eng.byt a:=(oJ (zAy hr h)).symm
theorem zLy (hr:RelE w0 H0 s f w E H L) {a:Bool} (h:opn N.n s x=some (.boo a)):ev N f x=Eng.boo a:=(oJ (zAy hr h)).symm
theorem zE3 (hr:RelE w0 H0 s f w E H L) {a:Str} (h:opn N.n s x=some (.str a)):ev N f x=Eng.str a:=(oJ (zAy hr h)).symm
theorem zF7 (h:isStr P T=true):P.underlying T=some .string:=by
 unfold isStr at h
 grind
theorem zPs (h:isSl P T=true):∃ e,P.underlying T=some (.slice e):=by
 unfold isSl at h
 grind
theorem zFL:∀ {l:List CV} {vs:List Value} {i:Nat} {c:CV},CV.vals E l=some vs→l[i]?=some c→∃ v,vs[i]?=some v∧c.val E=some v
 | [],_,_,_,_,h=>by simp at h
 | d :: l,vs,i,c,hv,h=>by
  simp only [CV.vals] at hv;cases hd:d.val E with
  | none=>grind
  | some v =>
   cases hl:CV.vals E l with
   | none=>grind
   | some us =>
    rw [hd,hl] at hv;simp only [oI] at hv;subst hv;cases i with
    | zero=>grind
    | succ i=>simp only [List.getElem?_cons_succ] at h ⊢; exact zFL hl h
def Runs (P:Program) (N:Frm) (f:Fr) (w0:World) (H0 H:Hp) (L:List Ent) (o:Oper) (v:Value):Prop:=∀ w H',H.le H'→St w0 H0 w H' L→(execOp (ev N f) o).run P w=.ok (.value v) w
theorem zSD {a b : Int} {k : CV → Option Ω} {r : Ω} {x y : Operand} (hx : ev N f x = Eng.int a) (hy : ev N f y = Eng.int b) {d : Option Nat} {T T' ty : TypeId} {pos : String} {af : Array Edge} : ∀ {op : BinOp}, intB op a b k = some r →
  ∃ c v,k c=some r∧c.val E=some v∧Runs P N f w0 H0 H L ⟨d,.binOp op T x y T',ty,pos,af,none⟩ v
 | .add,h=>⟨_,_,h,rfl,fun _ _ _ _=>R.add hx hy⟩
 | .sub,h=>⟨_,_,h,rfl,fun _ _ _ _=>R.sub hx hy⟩
 | .mul,h=>⟨_,_,h,rfl,fun _ _ _ _=>R.mul hx hy⟩
 | .lss,h=>⟨_,_,h,rfl,fun _ _ _ _=>R.lss hx hy⟩
 | .leq,h=>⟨_,_,h,rfl,fun _ _ _ _=>R.leq hx hy⟩
 | .gtr,h=>⟨_,_,h,rfl,fun _ _ _ _=>R.gtr hx hy⟩
 | .geq,h=>⟨_,_,h,rfl,fun _ _ _ _=>R.geq hx hy⟩
 | .eql,h=>⟨_,_,h,rfl,fun _ _ _ _=>R.eql hx hy⟩
 | .neq,h=>⟨_,_,h,rfl,fun _ _ _ _=>R.neq hx hy⟩
 | .quo,h=>by
  obtain ⟨c,hc,h⟩:=bindE h;exact ⟨_,_,h,rfl,fun _ _ _ _=>R.quo' hx hy hc⟩
 | .rem,h=>by
  obtain ⟨c,hc,h⟩:=bindE h;exact ⟨_,_,h,rfl,fun _ _ _ _=>R.rem' hx hy hc⟩
 | .and,h=>⟨_,_,h,rfl,fun _ _ _ _=>R.and hx hy⟩
 | .or,h=>by cases h
 | .xor,h=>by cases h
 | .shl,h=>by cases h
 | .shr,h=>by cases h
 | .andNot,h=>by cases h
theorem zSO {a b : UInt8} {k : CV → Option Ω} {r : Ω} {x y : Operand} (hx : ev N f x = Eng.byt a) (hy : ev N f y = Eng.byt b) {d : Option Nat} {T T' ty : TypeId} {pos : String} {af : Array Edge} : ∀ {op : BinOp}, bytB op a b k = some r →
  ∃ c v,k c=some r∧c.val E=some v∧Runs P N f w0 H0 H L ⟨d,.binOp op T x y T',ty,pos,af,none⟩ v
 | .add,h=>⟨_,_,h,rfl,fun _ _ _ _=>R.add8 hx hy⟩
 | .sub,h=>⟨_,_,h,rfl,fun _ _ _ _=>R.sub8 hx hy⟩
 | .and,h=>⟨_,_,h,rfl,fun _ _ _ _=>R.and8 hx hy⟩
 | .or,h=>⟨_,_,h,rfl,fun _ _ _ _=>R.or8 hx hy⟩
 | .quo,h=>by
  simp only [bytB] at h;split at h
  ·cases h
  ·rename_i h0; exact ⟨_,_,h,rfl,fun _ _ _ _=>R.quo8 hx hy (dF h0)⟩
 | .rem,h=>by
  simp only [bytB] at h;split at h
  ·cases h
  ·rename_i h0; exact ⟨_,_,h,rfl,fun _ _ _ _=>R.rem8 hx hy (dF h0)⟩
 | .lss,h=>⟨_,_,h,rfl,fun _ _ _ _=>R.lss8 hx hy⟩
 | .leq,h=>⟨_,_,h,rfl,fun _ _ _ _=>R.leq8 hx hy⟩
 | .gtr,h=>⟨_,_,h,rfl,fun _ _ _ _=>R.gtr8 hx hy⟩
 | .geq,h=>⟨_,_,h,rfl,fun _ _ _ _=>R.geq8 hx hy⟩
 | .eql,h=>⟨_,_,h,rfl,fun _ _ _ _=>R.eql8 hx hy⟩
 | .neq,h=>⟨_,_,h,rfl,fun _ _ _ _=>R.neq8 hx hy⟩
 | .mul,h=>by cases h
 | .xor,h=>by cases h
 | .shl,h=>by cases h
 | .shr,h=>by cases h
 | .andNot,h=>by cases h
theorem zSI {a b : Str} {k : CV → Option Ω} {r : Ω} {x y : Operand} (hx : ev N f x = Eng.str a) (hy : ev N f y = Eng.str b) {d : Option Nat} {T T' ty : TypeId} {pos : String} {af : Array Edge} : ∀ {op : BinOp}, strB op a b k = some r →
  ∃ c v,k c=some r∧c.val E=some v∧Runs P N f w0 H0 H L ⟨d,.binOp op T x y T',ty,pos,af,none⟩ v
 | .lss,h=>⟨_,_,h,rfl,fun _ _ _ _=>R.lssS hx hy⟩
 | .leq,h=>⟨_,_,h,rfl,fun _ _ _ _=>R.leqS hx hy⟩
 | .gtr,h=>⟨_,_,h,rfl,fun _ _ _ _=>R.gtrS hx hy⟩
 | .geq,h=>⟨_,_,h,rfl,fun _ _ _ _=>R.geqS hx hy⟩
 | .eql,h=>⟨_,_,h,rfl,fun _ _ _ _=>R.eqlS hx hy⟩
 | .neq,h=>⟨_,_,h,rfl,fun _ _ _ _=>R.neqS hx hy⟩
 | .add,h=>by
  obtain ⟨c,hc,h⟩:=bindE h;exact ⟨_,_,h,rfl,fun _ _ _ _=>R.cat hx hy hc⟩
 | .sub,h=>by cases h
 | .mul,h=>by cases h
 | .quo,h=>by cases h
 | .rem,h=>by cases h
 | .and,h=>by cases h
 | .or,h=>by cases h
 | .xor,h=>by cases h
 | .shl,h=>by cases h
 | .shr,h=>by cases h
 | .andNot,h=>by cases h
theorem zCN {E:Env}:∀ {l:List CV} {vs:List Value},CV.vals E l=some vs→vs.length=l.length
 | [],vs,h=>by cases h; rfl
 | c :: l,vs,h=>by
  simp only [CV.vals] at h;cases hc:c.val E with
  | none=>grind
  | some v =>
   cases hv:CV.vals E l with
   | none=>grind
   | some us=>rw [hc,hv] at h; cases h; rw [lC,lC,zCN hv]
theorem zHJ {E:Env}:∀ {n:Nat} {l:List CV} {vs:List Value},CV.vals E l=some vs→CV.vals E (l.drop n)=some (vs.drop n)
 | 0,l,vs,h=>h
 | n+1,[],vs,h=>by cases h; rfl
 | n+1,c :: l,vs,h=>by
  simp only [CV.vals] at h;cases hc:c.val E with
  | none=>grind
  | some v =>
   cases hv:CV.vals E l with
   | none=>grind
   | some us=>rw [hc,hv] at h; cases h; exact (zHJ (n:=n) (l:=l) (vs:=us) hv)
theorem zHE {E:Env}:∀ {n:Nat} {l:List CV} {vs:List Value},CV.vals E l=some vs→CV.vals E (l.take n)=some (vs.take n)
 | 0,l,vs,h=>by simp [CV.vals]
 | n+1,[],vs,h=>by cases h; rfl
 | n+1,c :: l,vs,h=>by
  simp only [CV.vals] at h;cases hc:c.val E with
  | none=>grind
  | some v =>
   cases hv:CV.vals E l with
   | none=>grind
   | some us=>rw [hc,hv] at h; cases h; simp only [List.take_succ_cons,CV.vals,hc,zHE hv]
theorem zMC {E:Env}:∀ {cs:List CV} {l:List Int},ints cs=some l→CV.vals E cs=some (l.map Eng.int)
 | [],l,h=>by cases h; rfl
 | c :: cs,l,h=>by
  cases c <;> simp only [ints] at h <;> try (cases h; done)
  cases hl:ints cs with
  | none=>grind
  | some l'=>rw [hl] at h; cases h; simp only [CV.vals,CV.val,zMC hl,List.map_cons]
theorem zOM {E:Env}:∀ {cs:List CV} {l:List Str},strs cs=some l→CV.vals E cs=some (l.map Eng.str)
 | [],l,h=>by cases h; rfl
 | c :: cs,l,h=>by
  cases c <;> simp only [strs] at h <;> try (cases h; done)
  cases hl:strs cs with
  | none=>grind
  | some l'=>rw [hl] at h; cases h; simp only [CV.vals,CV.val,zOM hl,List.map_cons]
theorem zS7 (h:zQZ P T=true):P.underlying T=some .bool:=by
 unfold zQZ at h
 grind
theorem zNa (h:isPtr P T=true):∃ e,P.underlying T=some (.pointer e):=by
 unfold isPtr at h
 grind
theorem zB5 {v:Value} (h:zBc v=true):v=.slice none 0 0:=by
 unfold zBc at h
 grind
theorem zUz (h:isU8 P T=true):P.underlying T=some (.int .u8):=by
 unfold isU8 at h
 grind
theorem zL9:∀ {a b:List (Option Nat)},eqKs a b=true→a=b
 | [],[],_=>rfl
 | some a :: l,some b :: r,h=>by
  simp only [eqKs,bQ] at h;rw [nQ h.1,zL9 h.2]
 | [],_ :: _,h=>by simp [eqKs] at h
 | _ :: _,[],h=>by simp [eqKs] at h
 | none :: _,_ :: _,h=>by simp [eqKs] at h
 | some _ :: _,none :: _,h=>by simp [eqKs] at h
theorem zKg:∀ {a b:List CV} {z:Bool},aggEq a b=some z→∃ xs ys,CV.vals E a=some xs∧CV.vals E b=some ys∧xs.map kindV=zM6 a∧ys.map kindV=zM6 b∧allEq xs ys=z
 | [],[],z,h=>by cases h; exact ⟨[],[],rfl,rfl,rfl,rfl,rfl⟩
 | c :: l,d :: r,z,h=>by
  cases c <;> cases d <;> simp only [aggEq] at h <;> try (cases h; done)
  all_goals
   cases hl:aggEq l r with
   | none=>grind
   | some y =>
    rw [hl] at h;cases h;obtain ⟨xs,ys,h1,h2,h3,h4,h5⟩:=zKg hl;refine ⟨_ :: xs,_ :: ys,by simp only [CV.vals,CV.val,h1]; rfl,by simp only [CV.vals,CV.val,h2]; rfl,?_,?_,?_⟩
    ·rw [List.map_cons,h3]; rfl
    ·rw [List.map_cons,h4]; rfl
    ·rw [allEq,h5]; rfl
 | [],_ :: _,z,h=>by simp [aggEq] at h
 | c :: _,[],z,h=>by grind [aggEq]
theorem zSa {a b : Bool} {k : CV → Option Ω} {r : Ω} {y : Operand} (hT : P.underlying T = some .bool) (hx : ev N f x = Eng.boo a) (hy : ev N f y = Eng.boo b) {d : Option Nat} {T' ty : TypeId} {pos : String} {af : Array Edge} : ∀ {op : BinOp}, booB op a b k = some r →
  ∃ c v,k c=some r∧c.val E=some v∧Runs P N f w0 H0 H L ⟨d,.binOp op T x y T',ty,pos,af,none⟩ v:=by
 intro op h;cases op <;> simp only [booB] at h <;> first | (cases h; done) | skip
 ·exact ⟨_,_,h,rfl,fun _ _ _ _=>R.eqlB hx hy hT⟩
 ·exact ⟨_,_,h,rfl,fun _ _ _ _=>R.neqB hx hy hT⟩
theorem zR6 {a b : List CV} {k : CV → Option Ω} {r : Ω} {x y : Operand} {T : TypeId} (hx : (CV.agg a).val E = some (ev N f x)) (hy : (CV.agg b).val E = some (ev N f y)) {d : Option Nat} {T' ty : TypeId} {pos : String} {af : Array Edge} {op : BinOp} (h : aggB P T op a b k = some r) :
  ∃ c v,k c=some r∧c.val E=some v∧Runs P N f w0 H0 H L ⟨d,.binOp op T x y T',ty,pos,af,none⟩ v:=by
 unfold aggB at h;replace h:=cT h;obtain ⟨hc,h⟩:=h;simp only [bQ] at hc;split at h
 ·rename_i z hz
  obtain ⟨xs,ys,h1,h2,h3,h4,h5⟩:=zKg (E:=E) hz;simp only [CV.val,h1,h2,Option.map_some,oI] at hx hy;exact ⟨_,_,h,rfl,fun _ _ _ _=>R.eqlA z hx.symm hy.symm hc.1.1 rfl (h3.trans (zL9 hc.1.2).symm) (h4.trans (zL9 hc.2).symm) h5⟩
 ·rename_i z hz
  obtain ⟨xs,ys,h1,h2,h3,h4,h5⟩:=zKg (E:=E) hz;simp only [CV.val,h1,h2,Option.map_some,oI] at hx hy;exact ⟨_,_,h,rfl,fun _ _ _ _=>R.neqA (!z) hx.symm hy.symm hc.1.1 rfl (h3.trans (zL9 hc.1.2).symm) (h4.trans (zL9 hc.2).symm) (by rw [h5])⟩
 ·cases h
theorem zE0 (hr:RelE w0 H0 s f w E H L):∀ {xs:List Operand} {cs:List CV},opns N.n s xs=some cs→CV.vals E cs=some (xs.map (ev N f))
 | [],cs,h=>by simp only [opns,oI] at h; subst h; rfl
 | x :: xs,cs,h=>by
  simp only [opns] at h;cases hx:opn N.n s x with
  | none=>grind
  | some c =>
   cases hl:opns N.n s xs with
   | none=>grind
   | some l =>
    rw [hx,hl] at h;simp only [oI] at h;subst h;simp only [CV.vals,zAy hr hx,zE0 hr hl,List.map_cons]
theorem zKB:∀ {en:List EI} {L:List Ent} {b:Nat} {cs:List CV},boxAt en b=some cs→EnsOk noX E H s.sl en L→∃ (i T:Nat) (vals:List Value) (k:Nat),en[i]?=some (EI.box b T cs)∧(∃ e,L[i]?=some e∧isE k T vals e)∧E.bs[b]?=some k∧CV.vals E cs=some vals
 | [],_,_,_,h,_=>by cases h
 | .box b' T cs' :: en,[],b,cs,h,he=>he.elim
 | .row i T :: en,[],b,cs,h,he=>he.elim
 | .box b' T cs' :: en,e :: L,b,cs,h,⟨h1,h2⟩=>by
  simp only [boxAt] at h;cases hb:Nat.beq b' b with
  | true =>
   rw [hb] at h;cases h;have:=nQ hb;subst this;obtain ⟨vals,k,g1,g2,g3⟩:=h1;exact ⟨0,T,vals,k,rfl,⟨e,rfl,g3⟩,g1,g2.vals⟩
  | false =>
   rw [hb] at h;obtain ⟨i,T,vals,k,g1,g2⟩:=zKB h h2;exact ⟨i+1,T,vals,k,by simpa using g1,by simpa using g2⟩
 | .row i' T :: en,e :: L,b,cs,h,⟨h1,h2⟩=>by
  simp only [boxAt] at h;obtain ⟨i,T,vals,k,g1,g2⟩:=zKB h h2;exact ⟨i+1,T,vals,k,by simpa using g1,by simpa using g2⟩
theorem zK0:∀ {en:List EI} {L:List Ent} {i T:Nat},rowAt en i=some T→EnsOk noX E H s.sl en L→∃ (p:Nat) (e:Ent) (x:SLV U) (v:Value),L[p]?=some e∧s.sl[i]?=some x∧E.vs[i]?=some v∧RowE (E.hs i) H T v x e
 | [],_,_,_,h,_=>by cases h
 | .box b' T' cs' :: en,[],_,_,h,he=>he.elim
 | .row k T' :: en,[],_,_,h,he=>he.elim
 | .box b' T' cs' :: en,e :: L,i,T,h,⟨h1,h2⟩=>by
  obtain ⟨p,e',x,v,a,b⟩:=zK0 (en:=en) h h2;exact ⟨p+1,e',x,v,by simpa using a,b⟩
 | .row k T' :: en,e :: L,i,T,h,⟨h1,h2⟩=>by
  simp only [rowAt] at h;cases hb:Nat.beq k i with
  | true =>
   rw [hb,cond_true] at h;cases h;obtain ⟨x,v,g1,g2,g3⟩:=h1;have:=nQ hb;subst this;exact ⟨0,e,x,v,rfl,g1,g2,g3⟩
  | false =>
   rw [hb,cond_false] at h;obtain ⟨p,e',x,v,a,b⟩:=zK0 h h2;exact ⟨p+1,e',x,v,by simpa using a,b⟩
theorem zKq {sl:List (SLV U)} {i:Nat} {t:PT} {xs:List (t.T U.S)} (h:mrOf sl i=some ⟨t,xs⟩):sl[i]?=some ⟨.mr t,xs⟩:=by
 unfold mrOf at h
 grind
theorem zZU {α:Type} [Enc α] (hsz:Enc.sz α=1) {H:Hp} {en:Ent} {v:Value} {xs:List α} {o:Nat} {c:α} (h:MR H en T v xs) (hx:xs[o]?=some c):∃ b cap cur u,v=.slice (some ⟨b,0,none⟩) xs.length cap∧en=.obj b (.cells cur T (0,0))∧(cur.toList.drop o).take 1=[u]∧Enc.cells H [u] c:=by
 rcases h with ⟨rfl,rfl,rfl⟩ | ⟨b,cap,cur,cs,h1,h2,h3,h4,h5,h6,h7⟩
 ·simp at hx
 ·obtain ⟨cs1,r,hd,hc⟩:=h7.get hx
  have hl:=Enc.len hc;rw [hsz] at hl;obtain ⟨u,rfl⟩:=List.length_eq_one_iff.1 hl;refine ⟨b,cap,cur,u,h1,h2,?_,hc⟩;rw [← h6,hsz,Nat.mul_one,Nat.mul_one,List.drop_take] at hd;cases hq:cur.toList.drop o with
  | nil=>grind
  | cons a t =>
   rw [hq] at hd;cases hm:xs.length - o <;> grind
theorem zOU:∀ {en:List EI} {L:List Ent} {b:Nat} {cs:List CV},bxAt en b=some cs→EnsOk noX E H s.sl en L→∃ (i T:Nat) (vals:List Value) (k:Nat),en[i]?=some (EI.box b (T+1) cs)∧L[i]?=some (Ent.box k T vals)∧E.bs[b]?=some k∧CV.vals E cs=some vals
 | [],_,_,_,h,_=>by cases h
 | .box b' T cs' :: en,[],b,cs,h,he=>he.elim
 | .row i T :: en,[],b,cs,h,he=>he.elim
 | .box b' T cs' :: en,e :: L,b,cs,h,⟨h1,h2⟩=>by
  simp only [bxAt] at h;cases hb:Nat.beq b' b with
  | true =>
   rw [hb,cond_true] at h;have:=nQ hb;subst this;obtain ⟨vals,k,g1,g2,g3⟩:=h1;cases T with
   | zero=>cases h
   | succ T =>
    cases h;exact ⟨0,T,vals,k,rfl,by rw [show e=Ent.box k T vals from g3]; rfl,g1,g2.vals⟩
  | false =>
   rw [hb] at h;obtain ⟨i,T,vals,k,g1,g2⟩:=zOU h h2;exact ⟨i+1,T,vals,k,by simpa using g1,by simpa using g2⟩
 | .row i' T :: en,e :: L,b,cs,h,⟨h1,h2⟩=>by
  simp only [bxAt] at h;obtain ⟨i,T,vals,k,g1,g2⟩:=zOU h h2;exact ⟨i+1,T,vals,k,by simpa using g1,by simpa using g2⟩
theorem zMO:∀ {en:List EI} {L:List Ent} {b T:Nat} {cs:List CV},bxT en b=some (T,cs)→EnsOk noX E H s.sl en L→∃ (i:Nat) (vals:List Value) (k:Nat),en[i]?=some (EI.box b (T+1) cs)∧L[i]?=some (Ent.box k T vals)∧E.bs[b]?=some k∧CV.vals E cs=some vals
 | [],_,_,_,_,h,_=>by cases h
 | .box b' T cs' :: en,[],b,_,cs,h,he=>he.elim
 | .row i T :: en,[],b,_,cs,h,he=>he.elim
 | .box b' T cs' :: en,e :: L,b,T1,cs,h,⟨h1,h2⟩=>by
  simp only [bxT] at h;cases hb:Nat.beq b' b with
  | true =>
   rw [hb,cond_true] at h;have:=nQ hb;subst this;obtain ⟨vals,k,g1,g2,g3⟩:=h1;cases T with
   | zero=>cases h
   | succ T =>
    cases h;exact ⟨0,vals,k,rfl,by rw [show e=Ent.box k T1 vals from g3]; rfl,g1,g2.vals⟩
  | false =>
   rw [hb] at h;obtain ⟨i,vals,k,g1,g2⟩:=zMO h h2;exact ⟨i+1,vals,k,by simpa using g1,by simpa using g2⟩
 | .row i' T :: en,e :: L,b,T1,cs,h,⟨h1,h2⟩=>by
  simp only [bxT] at h;obtain ⟨i,vals,k,g1,g2⟩:=zMO h h2;exact ⟨i+1,vals,k,by simpa using g1,by simpa using g2⟩
theorem zJ9:∀ {en:List EI} {b:Nat} {cs:List CV},bxAt en b=some cs→boxAt en b=some cs
 | [],_,_,h=>by cases h
 | .box b' T cs' :: en,b,cs,h=>by
  simp only [bxAt] at h;simp only [boxAt];cases hb:Nat.beq b' b with
  | true =>
   grind
  | false=>rw [hb] at h; exact zJ9 (en:=en) h
 | .row _ _ :: en,b,cs,h=>zJ9 (en:=en) h
theorem zEr (hr:RelE w0 H0 s f w E H L) {b o:Nat} (h:opn N.n s x=some (.ptr b o)):∃ k,E.bs[b]?=some k∧ev N f x=Eng.ptr k o:=by
 have:=zAy hr h
 grind [CV.val]
theorem zNN (hr:RelE w0 H0 s f w E H L) {b o:Nat} (h:opn N.n s x=some (.pa b o)):∃ a,E.ps[b]?=some a∧ev N f x=.pointer (some (a.add o)):=by
 have:=zAy hr h
 grind [CV.val]
theorem zDb (hr:RelE w0 H0 s f w E H L) {v:Value} (h:opn N.n s x=some (.raw v)):ev N f x=v:=(oJ (zAy hr h)).symm
theorem zWb (hr:RelE w0 H0 s f w E H L) {i p:Nat} {y:SLL U} (h:opn N.n s x=some (.sa i p)) (hy:mrOf s.sl i=some y):∃ a c,ev N f x=.slice (some a) y.xs.length c∧E.ps[p]?=some a:=by
 have hx:=zAy hr h;obtain ⟨a,c,hv⟩:=hr.sls.getm hy
 grind [CV.val]
theorem R.idxG {e : TypeId} {i : Operand} {a : Addr} {n c sz : Nat} {m : Int} {od : Option Nat} {ty : TypeId} {pos : String} {af : Array Edge} {g : Option (Nat × Bool)} (hx : ev N f x = .slice (some a) n c) (hi : ev N f i = Eng.int m) (hE : Elem P T e sz) (h : 0 ≤ m ∧ m < n) :
  (execOp (ev N f) ⟨od,.indexAddr T x i,ty,pos,af,g⟩).run P w=.ok (.value (.pointer (some (a.add (m.toNat*sz))))) w:=by
 obtain ⟨ht,inf,z,hinf,_,hsize,_⟩:=hE;simp [execOp,Instr.indexAt,asIntOf,hx,hi,Eng.int,run_underlying ht,h,sizeOf,typeInfo,hinf,hsize]
theorem zVm (a:Addr) (m n:Nat):(a.add m).add n=a.add (m+n):=by
 unfold Addr.add
 grind
theorem at_at {H:Hp} {a:Addr} {cs:List Value} (h:At H a cs) {o:Nat} (ho:o<cs.length):At H (a.add o) (cs.drop o):=h.add o ho
theorem zRL (hr:RelE w0 H0 s f w E H L) {b:Nat} (h:opn N.n s x=some (.mp b)):∃ k,E.bs[b]?=some k∧ev N f x=mapv k:=by
 have:=zAy hr h
 grind [CV.val]
theorem zXq (hr:RelE w0 H0 s f w E H L) {c:CV} (h:opn N.n s x=some (.ifc T c)):∃ v,ev N f x=.iface T v:=by
 have:=zAy hr h;simp only [CV.val] at this;cases hb:c.val E <;> grind
theorem zKc {op : Op} {k : CV → Option Ω} {r : Ω} (h : opr P N.n op s k = some r) (hr : RelE w0 H0 s f w E H L) {d : Option Nat} {ty : TypeId} {pos : String} {af : Array Edge} :
  ∃ c v,k c=some r∧c.val E=some v∧Runs P N f w0 H0 H L ⟨d,op,ty,pos,af,none⟩ v:=by
 cases op with
 | move x =>
  simp only [opr] at h;cases hx:opn N.n s x with
  | none=>grind
  | some c=>rw [hx] at h; exact ⟨c,_,h,zAy hr hx,fun _ _ _ _=>R.mv rfl⟩
 | assign x =>
  simp only [opr] at h;cases hx:opn N.n s x with
  | none=>grind
  | some c=>rw [hx] at h; exact ⟨c,_,h,zAy hr hx,fun _ _ _ _=>R.as rfl⟩
 | pick c x y =>
  simp only [opr] at h;split at h
  case h_2=>cases h
  rename_i g hc;have hc:=zLy hr hc;cases g with
  | true =>
   rw [cond_true] at h;cases hx:opn N.n s x with
   | none=>grind
   | some c=>rw [hx] at h; exact ⟨c,_,h,zAy hr hx,fun _ _ _ _=>R.pickT hc rfl rfl⟩
  | false =>
   rw [cond_false] at h;cases hx:opn N.n s y with
   | none=>grind
   | some c=>rw [hx] at h; exact ⟨c,_,h,zAy hr hx,fun _ _ _ _=>R.pickF hc rfl rfl⟩
 | binOp op T x y T' =>
  simp only [opr] at h;split at h
  ·rename_i a b hx hy
   exact zSD (zBD hr hx) (zBD hr hy) h
  ·rename_i a b hx hy
   exact zSO (zQL hr hx) (zQL hr hy) h
  ·rename_i a b hx hy
   exact zSI (zE3 hr hx) (zE3 hr hy) h
  ·rename_i a b hx hy
   cases hT:zQZ P T with
   | false=>grind
   | true=>rw [hT,cond_true] at h; exact zSa (zS7 hT) (zLy hr hx) (zLy hr hy) h
  ·rename_i a b hx hy
   exact zR6 (zAy hr hx) (zAy hr hy) h
  ·rename_i b o b' o' hx hy
   replace h:=cT h;obtain ⟨hc,h⟩:=h;simp only [bQ] at hc;obtain ⟨⟨c1,c2⟩,c3⟩:=hc;obtain ⟨e,he,hj⟩:=zSw c1;have:=nQ c2;subst this;have:=nQ c3;subst this;obtain ⟨k',hb,hx⟩:=zEr hr hx;obtain ⟨k2,hb2,hy⟩:=zEr hr hy;rw [hb] at hb2;cases hb2;split at h
   ·exact ⟨_,_,h,rfl,fun _ _ _ _=>R.eqlPS hx hy he hj⟩
   ·exact ⟨_,_,h,rfl,fun _ _ _ _=>R.neqPS hx hy he hj⟩
   ·cases h
  ·rename_i b o hx hy
   replace h:=cT h;obtain ⟨hT,h⟩:=h;obtain ⟨e,he⟩:=zNa hT;obtain ⟨k',_,hx⟩:=zEr hr hx;have hy:=zDb hr hy;split at h
   ·exact ⟨_,_,h,rfl,fun _ _ _ _=>R.ofEq (R.eqlPN hx hy he) rfl⟩
   ·exact ⟨_,_,h,rfl,fun _ _ _ _=>R.ofEq (R.neqPN hx hy he) rfl⟩
   ·cases h
  ·rename_i i hx hy
   split at h
   case h_2=>cases h
   rename_i x' hx';replace h:=cT h;obtain ⟨hT,h⟩:=h;obtain ⟨e,he⟩:=zNa hT;have hy:=zDb hr hy;obtain ⟨p,hv,hp⟩:=zYy hr.sls hx';have hxv:=zAy hr hx;simp only [CV.val,hv,oI] at hxv;split at h
   ·exact ⟨_,_,h,rfl,fun _ _ _ _=>R.ofEq (R.eqlPN hxv.symm hy he) (by rw [hp])⟩
   ·exact ⟨_,_,h,rfl,fun _ _ _ _=>R.ofEq (R.neqPN hxv.symm hy he) (by rw [hp])⟩
   ·cases h
  ·rename_i hx hy
   replace h:=cT h;obtain ⟨hT,h⟩:=h;obtain ⟨a,b,he⟩:=zRo hT;obtain ⟨v,hx⟩:=zRL hr hx;have hy:=zDb hr hy;split at h
   ·exact ⟨_,_,h,rfl,fun _ _ _ _=>R.ofEq (R.eqlMN hx.2 hy he) rfl⟩
   ·exact ⟨_,_,h,rfl,fun _ _ _ _=>R.ofEq (R.neqMN hx.2 hy he) rfl⟩
   ·cases h
  ·rename_i hx hy
   replace h:=cT h;obtain ⟨hT,h⟩:=h;obtain ⟨a,b,he⟩:=zRo hT;have hx:=zDb hr hx;have hy:=zDb hr hy;split at h
   ·exact ⟨_,_,h,rfl,fun _ _ _ _=>R.ofEq (R.eqlMN hx hy he) rfl⟩
   ·exact ⟨_,_,h,rfl,fun _ _ _ _=>R.ofEq (R.neqMN hx hy he) rfl⟩
   ·cases h
  ·rename_i hx hy
   replace h:=cT h;obtain ⟨hT,h⟩:=h;obtain ⟨e,he⟩:=zS5 hT;obtain ⟨v,hx⟩:=zXq hr hx;have hy:=zDb hr hy;split at h
   ·exact ⟨_,_,h,rfl,fun _ _ _ _=>R.eqlHN hx hy he⟩
   ·exact ⟨_,_,h,rfl,fun _ _ _ _=>R.neqHN hx hy he⟩
   ·cases h
  ·rename_i hx hy
   replace h:=cT h;obtain ⟨hT,h⟩:=h;obtain ⟨e,he⟩:=zS5 hT;have hx:=zDb hr hx;have hy:=zDb hr hy;split at h
   ·exact ⟨_,_,h,rfl,fun _ _ _ _=>R.eqlHN hx hy he⟩
   ·exact ⟨_,_,h,rfl,fun _ _ _ _=>R.neqHN hx hy he⟩
   ·cases h
  ·rename_i hx hy
   replace h:=cT h;obtain ⟨hT,h⟩:=h;rw [bQ] at hT;obtain ⟨e,he⟩:=zS5 hT.1;obtain ⟨c,rfl⟩:=zVD hT.2;have hx:=zDb hr hx;have hy:=zDb hr hy;split at h
   ·exact ⟨_,_,h,rfl,fun _ _ _ _=>R.eqlNI hx hy he⟩
   ·exact ⟨_,_,h,rfl,fun _ _ _ _=>R.neqNI hx hy he⟩
   ·cases h
  ·rename_i hx hy
   replace h:=cT h;obtain ⟨hT,h⟩:=h;obtain ⟨e,he⟩:=zNa hT;have hx:=zDb hr hx;have hy:=zDb hr hy;split at h
   ·exact ⟨_,_,h,rfl,fun _ _ _ _=>R.ofEq (R.eqlPN hx hy he) rfl⟩
   ·exact ⟨_,_,h,rfl,fun _ _ _ _=>R.ofEq (R.neqPN hx hy he) rfl⟩
   ·cases h
  ·cases h
 | nilCheck x =>
  simp only [opr] at h;split at h
  ·rename_i i o hx
   obtain ⟨k',hb,hv⟩:=zEr hr hx;exact ⟨_,_,h,by grind [CV.val],fun _ _ _ _=>R.nilCheckB hv⟩
  ·rename_i i o hx
   obtain ⟨a,hb,hv⟩:=zNN hr hx;exact ⟨_,_,h,by grind [CV.val],fun _ _ _ _=>R.nilCheck hv⟩
  ·cases h
 | fieldAddr T x i =>
  simp only [opr] at h;split at h
  ·rename_i b o off hx hf
   obtain ⟨k',hb,hv⟩:=zEr hr hx;exact ⟨_,_,h,by grind [CV.val],fun _ _ _ _=>R.fieldB hv hf⟩
  ·rename_i b o off hx hf
   obtain ⟨a,hb,hv⟩:=zNN hr hx;refine ⟨_,.pointer (some ((a.add o).add off)),h,by grind [CV.val,zVm],fun _ _ _ _=>R.field hv hf⟩
  ·cases h
 | load T x =>
  have go:(match opn N.n s x,lay P T with
   | some (.ptr b o),some (false,1)=>(match bxAt s.en b with | some cs=>(match cs[o]? with | some c=>k c | none=>none) | none=>none)
   | some (.ptr b o),some (true,n)=>(match bxAt s.en b with | some cs=>bif Nat.ble (o+n) cs.length then k (.agg ((cs.drop o).take n)) else none | none=>none)
   | some (.pa i o),some (false,1)=>(match s.pt[i]? with | some cs=>(match cs[o]? with | some c=>k c | none=>none) | none=>none)
   | some (.pa i o),some (true,n)=>(match s.pt[i]? with | some cs=>bif Nat.ble (o+n) cs.length&&Nat.blt 0 n then k (.agg ((cs.drop o).take n)) else none | none=>none)
   | _,_=>none)=some r→∃ c v,k c=some r∧c.val E=some v∧Runs P N f w0 H0 H L ⟨d,.load T x,ty,pos,af,none⟩ v:=by
   intro h;split at h
   ·rename_i b o hx hl
    split at h
    case h_2=>cases h
    rename_i cs hcs;split at h
    case h_2=>cases h
    rename_i c hc;obtain ⟨i,T',vals,kb,_,g2,g3,g4⟩:=zOU hcs hr.ens;obtain ⟨k',hb,hv⟩:=zEr hr hx;rw [g3] at hb;cases hb;obtain ⟨v,h1,h2⟩:=zFL g4 hc;exact ⟨c,v,h,h2,fun _ _ _ S'=>R.loadB S' hv g2 hl h1⟩
   ·rename_i b o n hx hl
    split at h
    case h_2=>cases h
    rename_i cs hcs;replace h:=cT h;obtain ⟨hle,h⟩:=h;have hle:=nL hle;obtain ⟨i,T',vals,kb,_,g2,g3,g4⟩:=zOU hcs hr.ens;obtain ⟨k',hb,hv⟩:=zEr hr hx;rw [g3] at hb;cases hb;have hlen:=zCN g4;exact ⟨_,_,h,by simp only [CV.val,zHE (zHJ g4)]; rfl,fun _ _ _ S'=>R.loadBN (vs:=(vals.drop o).take n) S' hv g2 hl (by grind) rfl⟩
   ·rename_i b o hx hl
    split at h
    case h_2=>cases h
    rename_i cs hcs;split at h
    case h_2=>cases h
    rename_i c hc;obtain ⟨a,hb,hv⟩:=zNN hr hx;obtain ⟨a',vs,g1,g2,g3,g4⟩:=hr.pts.get hcs;rw [hb] at g1;cases g1;obtain ⟨v,h1,h2⟩:=zFL g2 hc;have hlt:=(List.getElem?_eq_some_iff.1 h1).1;exact ⟨c,v,h,h2,fun _ _ hle S'=>R.loadH S' hv (at_at (g4.mono hle g3) hlt) hl (by grind)⟩
   ·rename_i b o n hx hl
    split at h
    case h_2=>cases h
    rename_i cs hcs;replace h:=cT h;obtain ⟨hle,h⟩:=h;rw [bQ] at hle;have hle1:=nL hle.1;have hle2:0<n:=nL hle.2;obtain ⟨a,hb,hv⟩:=zNN hr hx;obtain ⟨a',vs,g1,g2,g3,g4⟩:=hr.pts.get hcs;rw [hb] at g1;cases g1;have hlen:=zCN g2;exact ⟨_,_,h,by simp only [CV.val,zHE (zHJ g2)]; rfl,fun _ _ hle S'=>R.loadHN (vs:=(vs.drop o).take n) S' hv (at_at (g4.mono hle g3) (by omega)) hl (by grind) rfl⟩
   ·cases h
  cases x with
  | global g =>
   simp only [opr] at h;split at h
   case h_2=>cases h
   rename_i cs hg hl;split at h
   case h_2=>cases h
   rename_i v hv;exact ⟨_,v,h,zN1 v,fun _ _ hle S'=>R.loadH S' (x:=.global g) rfl ((hr.gl.gl.g g cs hg).2.mono hle (hr.gl.gl.g g cs hg).1) hl hv⟩
  | tmp t=>exact go h
  | const v=>exact go h
  | func q=>exact go h
 | indexAddr T x y =>
  simp only [opr] at h;split at h
  case h_3=>cases h
  case h_2 =>
   rename_i i p j e hx hy hT;split at h
   case h_2=>cases h
   rename_i y' bb m hm hl;replace h:=cT h;obtain ⟨hi,h⟩:=h;simp only [bQ,decide_eq_true_eq] at hi;obtain ⟨a,c,hv,hp⟩:=zWb hr hx hm;exact ⟨_,_,h,by grind [CV.val],fun _ _ _ _=>R.idxG hv (zBD hr hy) (zFg hi.1.1) ⟨hi.1.2,hi.2⟩⟩
  rename_i b o i n e hx hy hT;split at h
  case h_2=>cases h
  rename_i bb m hl;replace h:=cT h;obtain ⟨hi,h⟩:=h;rw [bQ,decide_eq_true_eq,decide_eq_true_eq] at hi;obtain ⟨k',hb,hv⟩:=zEr hr hx;exact ⟨_,_,h,by grind [CV.val],fun _ _ _ _=>R.idxAddrA hv (zBD hr hy) hT hl hi⟩
 | makeFunc h' first caps =>
  obtain ⟨first⟩:=first
  obtain ⟨caps⟩:=caps;simp only [opr] at h;split at h
  ·rename_i hf hl
   have:=zE0 hr hf;have hfirst:first=[]:=by
    simp_all [CV.vals]
   subst hfirst;exact ⟨_,_,h,by grind [CV.val,zE0],fun _ _ _ _=>R.mkFunc rfl⟩
  ·rename_i hf hl
   have:=zE0 hr hl;have hcaps:caps=[]:=by
    simp_all [CV.vals]
   subst hcaps;exact ⟨_,_,h,by grind [CV.val,zE0],fun _ _ _ _=>R.mkFuncB (xs:=[]) rfl rfl⟩
  ·cases h
 | makeInterface T x =>
  simp only [opr] at h;replace h:=cT h;obtain ⟨hT,h⟩:=h;cases hx:opn N.n s x with
  | none=>grind
  | some c =>
   rw [hx] at h;exact ⟨_,_,h,by grind [CV.val,zAy],fun _ _ _ _=>R.mkI' hT rfl⟩
 | unOp u T x =>
  cases u <;> simp only [opr] at h <;> try (cases h; done)
  ·split at h
   ·rename_i b hx; exact ⟨_,_,h,rfl,fun _ _ _ _=>R.neg (zBD hr hx)⟩
   ·cases h
  ·split at h
   ·rename_i b hx; exact ⟨_,_,h,rfl,fun _ _ _ _=>R.not (zLy hr hx)⟩
   ·cases h
 | index T x y =>
  simp only [opr] at h;cases hT:isStr P T with
  | false =>
   rw [hT,cond_false] at h;split at h
   case h_2=>cases h
   rename_i cs i n e hx hy hA;split at h
   case h_2=>cases h
   rename_i he;have hx:=zAy hr hx;split at h
   ·rename_i l hl
    replace h:=cT h;obtain ⟨hn,h⟩:=h;obtain ⟨c,hc,h⟩:=bindE h;simp only [CV.val,zMC hl,Option.map_some,oI] at hx;exact ⟨_,_,h,rfl,fun _ _ _ _=>R.idxA Eng.int hx.symm (zBD hr hy) hA he (nQ hn) hc⟩
   ·rename_i l hl _
    replace h:=cT h;obtain ⟨hn,h⟩:=h;obtain ⟨c,hc,h⟩:=bindE h;simp only [CV.val,zOM hl,Option.map_some,oI] at hx;exact ⟨_,_,h,rfl,fun _ _ _ _=>R.idxA Eng.str hx.symm (zBD hr hy) hA he (nQ hn) hc⟩
   ·cases h
  | true =>
   rw [hT,cond_true] at h;split at h
   ·rename_i a i hx hy
    obtain ⟨c,hc,h⟩:=bindE h;exact ⟨_,_,h,rfl,fun _ _ _ _=>R.idxS (zE3 hr hx) (zBD hr hy) (zF7 hT) hc⟩
   ·cases h
 | slice T x lo hi mx =>
  cases mx with
  | some m=>simp [opr] at h
  | none =>
   simp only [opr] at h;replace h:=cT h;obtain ⟨hT,h⟩:=h;split at h
   ·rename_i a i j hx
    split at h
    ·rename_i i' j' hi hj
     obtain ⟨c,hc,h⟩:=bindE h;exact ⟨_,_,h,rfl,fun _ _ _ _=>R.subS (zE3 hr hx) (zBD hr hi) (zBD hr hj) (zF7 hT) hc⟩
    ·cases h
   ·rename_i a i hx
    split at h
    ·rename_i i' hi
     obtain ⟨c,hc,h⟩:=bindE h;exact ⟨_,_,h,rfl,fun _ _ _ _=>R.subSlo (zE3 hr hx) (zBD hr hi) (zF7 hT) hc⟩
    ·cases h
   ·rename_i a j hx
    split at h
    ·rename_i j' hj
     obtain ⟨c,hc,h⟩:=bindE h;exact ⟨_,_,h,rfl,fun _ _ _ _=>R.subShi (zE3 hr hx) (zBD hr hj) (zF7 hT) hc⟩
    ·cases h
   ·cases h
 | convert T T' x =>
  simp only [opr] at h;split at h
  ·rename_i hT hT' hx
   exact ⟨_,_,h,rfl,fun _ _ _ _=>R.i64of8 (zQL hr hx) hT hT'⟩
  ·rename_i hT hT' hx
   exact ⟨_,_,h,rfl,fun _ _ _ _=>R.i64of64 (zBD hr hx) hT hT'⟩
  ·rename_i hT hT' hx
   exact ⟨_,_,h,rfl,fun _ _ _ _=>R.u8of64 (zBD hr hx) hT hT'⟩
  ·rename_i t b hT hT' hx
   split at h
   case h_2=>cases h
   rename_i n c cs hl hcs;obtain ⟨i,T2,vals,kb,_,g2,g3,g4⟩:=zOU hcs hr.ens;obtain ⟨k',hb,hv⟩:=zEr hr hx;rw [g3] at hb;cases hb;have hlen:=zCN g4;exact ⟨_,_,h,by grind [CV.val],fun _ _ _ S'=>R.toUnsafe S' g2 hv hT hT' hl (Nat.succ_ne_zero _) (by grind)⟩
  ·rename_i t b hT hT' hx
   split at h
   case h_2=>cases h
   rename_i T2 c cs hcs;replace h:=cT h;obtain ⟨hc,h⟩:=h;simp only [bQ] at hc;obtain ⟨⟨c1,c2⟩,c3⟩:=hc;have:=nQ c1;subst this;obtain ⟨i,vals,kb,_,g2,g3,g4⟩:=zMO hcs hr.ens;obtain ⟨k',hb,hv⟩:=zEr hr hx;rw [g3] at hb;cases hb;have hlen:=zCN g4;exact ⟨_,_,h,by grind [CV.val],fun _ _ _ S'=>R.fromUnsafe S' g2 hv hT hT' (Option.isSome_iff_exists.1 c2) (by simp_all) (by grind)⟩
  ·rename_i e i hT hT' hx
   replace h:=cT h;obtain ⟨hu,h⟩:=h;split at h
   case h_2=>cases h
   rename_i xs hy;obtain ⟨v,hv,hs⟩:=hr.sls.gets hy;have hx:=zAy hr hx;simp only [CV.val,hv,oI] at hx;exact ⟨_,_,h,rfl,fun _ _ hle S'=>R.strL S' (zQn _ hs hle) hx.symm hT hT' (zUz hu)⟩
  ·rename_i e v hT hT' hx
   replace h:=cT h;obtain ⟨hu,h⟩:=h;rw [bQ] at hu;have hx:=zDb hr hx;rw [zB5 hu.2] at hx;exact ⟨_,_,h,rfl,fun _ _ _ S'=>R.strL S' Sl.nil hx hT hT' (zUz hu.1)⟩
  ·cases h
 | field T x i =>
  simp only [opr] at h;split at h
  case h_2=>cases h
  rename_i cs t off hx hf;have hx:=zAy hr hx;simp only [CV.val] at hx;cases hv:CV.vals E cs with
  | none=>grind
  | some vs =>
   rw [hv] at hx;have hx:ev N f x=agg vs:=(oJ hx).symm;split at h
   ·rename_i m hl
    replace h:=cT h;obtain ⟨hlt,h⟩:=h;refine ⟨_,_,h,by simp only [CV.val,zHE (zHJ hv)]; rfl,fun _ _ _ _=>R.fieldV hx hf hl (Prod.ext ?_ rfl)⟩ <;> grind [zCN]
   ·rename_i m hl
    split at h
    case h_2=>cases h
    rename_i c hc;obtain ⟨v,h1,h2⟩:=zFL hv hc;refine ⟨c,v,h,h2,fun _ _ _ _=>R.fieldV hx hf hl (Prod.ext ?_ ?_)⟩
    all_goals grind [partV]
   ·cases h
 | extract x i =>
  simp only [opr] at h;split at h
  case h_2=>cases h
  rename_i l hx;have hx:=zAy hr hx;cases hi:l[i]? with
  | none=>grind
  | some c =>
   rw [hi] at h;simp only [CV.val] at hx;cases hv:CV.vals E l with
   | none=>grind
   | some vs =>
    rw [hv] at hx;obtain ⟨v,h1,h2⟩:=zFL hv hi;exact ⟨c,v,h,h2,fun _ _ _ _=>R.ext (oJ hx).symm h1⟩
 | call c =>
  obtain ⟨cl,args,tys⟩:=c;obtain ⟨args⟩:=args;obtain ⟨tys⟩:=tys;simp only [opr] at h;split at h
  ·rename_i x
   split at h
   case h_2=>cases h
   rename_i T;split at h
   ·rename_i a hx
    cases hT:isStr P T with
    | false=>grind
    | true=>rw [hT,cond_true] at h; exact ⟨_,_,h,rfl,fun _ _ _ _=>R.lenS (zE3 hr hx) (zF7 hT)⟩
   ·rename_i i hx
    replace h:=cT h;obtain ⟨hT,h⟩:=h;obtain ⟨e,he⟩:=zPs hT;have hx:=zAy hr hx;split at h
    ·rename_i y hy
     obtain ⟨v,hv,hs⟩:=hr.sls.gets hy;simp only [CV.val,hv,oI] at hx;letI:=y.t.enc U;exact ⟨_,_,h,rfl,fun _ _ _ _=>R.lenL hs hx.symm he⟩
    ·split at h
     case h_2=>cases h
     rename_i y hy;obtain ⟨a,c,hv⟩:=hr.sls.getm hy;simp only [CV.val,hv,oI] at hx;exact ⟨_,_,h,rfl,fun _ _ _ _=>R.lenV hx.symm he⟩
   ·rename_i i p hx
    replace h:=cT h;obtain ⟨hT,h⟩:=h;obtain ⟨e,he⟩:=zPs hT;split at h
    case h_2=>cases h
    rename_i y hy;obtain ⟨a,c,hx,_⟩:=zWb hr hx hy;exact ⟨_,_,h,rfl,fun _ _ _ _=>R.lenV hx he⟩
   ·rename_i v hx
    replace h:=cT h;obtain ⟨hT,h⟩:=h;rw [bQ] at hT;obtain ⟨e,he⟩:=zPs hT.1;have hx:=zDb hr hx;rw [zB5 hT.2] at hx;exact ⟨_,_,h,rfl,fun _ _ _ _=>R.lenV hx he⟩
   ·cases h
  ·split at h
   ·rename_i hx hy; exact ⟨_,_,h,rfl,fun _ _ _ _=>R.min (zBD hr hx) (zBD hr hy)⟩
   ·cases h
  ·split at h
   ·rename_i hx hy; exact ⟨_,_,h,rfl,fun _ _ _ _=>R.max (zBD hr hx) (zBD hr hy)⟩
   ·cases h
  ·cases h
 | _=>simp [opr] at h
end
end Go.VI
