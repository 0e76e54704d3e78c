/- A part. -/
import Derived.Test.YtffangblkofjdaaGreatDoorEng3
import Derived.Laws.IdiomStrings
import Derived.Lib.Strings
import Derived.IntWalk
set_option linter.unusedVariables false
namespace Go.Eng
open Go
def wr (n:Int):Int:=IntKind.wrap .i64 n
theorem wr_eq {n:Int} (h:-9223372036854775808≤n∧n≤9223372036854775807):wr n=n:=by
  unfold wr; exact IntWalk.i64_in n ⟨by omega,by omega⟩
theorem beq8 (a b:UInt8):((a.toNat:Int)==(b.toNat:Int))=(a==b):=by
  rw [Bool.eq_iff_iff,beq_iff_eq,beq_iff_eq]
  exact ⟨fun h=>UInt8.toNat_inj.1 (by omega),fun h=>by rw [h]⟩
def toU8 (n:Int):UInt8:=UInt8.ofNat (n % 256).toNat
theorem wrap_u8 (n:Int):IntKind.wrap .u8 n=((toU8 n).toNat:Int):=by
  unfold IntKind.wrap toU8
  simp only [IntKind.bits,IntKind.signed,Bool.false_and,Bool.false_eq_true,if_false]
  have h1:(2:Int) ^ 8=256:=by decide
  rw [h1,UInt8.toNat_ofNat']
  omega
section
variable {P:Program} {N:Frm} {f:Fr} {w:World} {d:Option Nat} {ty:TypeId} {pos:String} {af:Array Edge} {g:Option (Nat×Bool)}
theorem R.pick {c x y:Operand} {b:Bool} (hc:ev N f c=boo b):(execOp (ev N f) ⟨d,.pick c x y,ty,pos,af,g⟩).run P w=.ok (.value (bif b then ev N f x else ev N f y)) w:=by
  simp only [execOp,hc,boo,asBool]
  cases b <;> rfl
section
variable {x y:Operand} {a b:Int} {T T':TypeId} (hx:ev N f x=int a) (hy:ev N f y=int b)
include hx hy
theorem R.add:(execOp (ev N f) ⟨d,.binOp .add T x y T',ty,pos,af,g⟩).run P w=.ok (.value (int (wr (a+b)))) w:=by simp [execOp,eqGuard,hx,hy,int,binOp,Op.intArith,wr]
theorem R.sub:(execOp (ev N f) ⟨d,.binOp .sub T x y T',ty,pos,af,g⟩).run P w=.ok (.value (int (wr (a - b)))) w:=by simp [execOp,eqGuard,hx,hy,int,binOp,Op.intArith,wr]
theorem R.mul:(execOp (ev N f) ⟨d,.binOp .mul T x y T',ty,pos,af,g⟩).run P w=.ok (.value (int (wr (a*b)))) w:=by simp [execOp,eqGuard,hx,hy,int,binOp,Op.intArith,wr]
theorem R.quo (h0:b≠0):(execOp (ev N f) ⟨d,.binOp .quo T x y T',ty,pos,af,g⟩).run P w=.ok (.value (int (wr (a.tdiv b)))) w:=by simp [execOp,eqGuard,hx,hy,int,binOp,Op.intDiv,wr,h0]
theorem R.rem (h0:b≠0):(execOp (ev N f) ⟨d,.binOp .rem T x y T',ty,pos,af,g⟩).run P w=.ok (.value (int (a.tmod b))) w:=by simp [execOp,eqGuard,hx,hy,int,binOp,Op.intDiv,h0]
theorem R.lss:(execOp (ev N f) ⟨d,.binOp .lss T x y T',ty,pos,af,g⟩).run P w=.ok (.value (boo (decide (a<b)))) w:=by simp [execOp,eqGuard,hx,hy,int,boo,binOp,Op.intCmp]
theorem R.leq:(execOp (ev N f) ⟨d,.binOp .leq T x y T',ty,pos,af,g⟩).run P w=.ok (.value (boo (decide (a≤b)))) w:=by simp [execOp,eqGuard,hx,hy,int,boo,binOp,Op.intCmp]
theorem R.gtr:(execOp (ev N f) ⟨d,.binOp .gtr T x y T',ty,pos,af,g⟩).run P w=.ok (.value (boo (decide (b<a)))) w:=by simp [execOp,eqGuard,hx,hy,int,boo,binOp,Op.intCmp]
theorem R.geq:(execOp (ev N f) ⟨d,.binOp .geq T x y T',ty,pos,af,g⟩).run P w=.ok (.value (boo (decide (b≤a)))) w:=by simp [execOp,eqGuard,hx,hy,int,boo,binOp,Op.intCmp]
theorem R.eql:(execOp (ev N f) ⟨d,.binOp .eql T x y T',ty,pos,af,g⟩).run P w=.ok (.value (boo (a==b))) w:=by simp [execOp,eqGuard,hx,hy,int,boo,binOp,Op.intCmp]
theorem R.neq:(execOp (ev N f) ⟨d,.binOp .neq T x y T',ty,pos,af,g⟩).run P w=.ok (.value (boo (a !=b))) w:=by simp [execOp,eqGuard,hx,hy,int,boo,binOp,Op.intCmp]
end
section
variable {x y:Operand} {a b:UInt8} {T T':TypeId} (hx:ev N f x=byt a) (hy:ev N f y=byt b)
include hx hy
theorem R.add8:(execOp (ev N f) ⟨d,.binOp .add T x y T',ty,pos,af,g⟩).run P w=.ok (.value (byt (a+b))) w:=by
  have:IntKind.wrap .u8 ((a.toNat:Int)+b.toNat)=((a+b).toNat:Int):=by
    rw [wrap_u8,toU8,UInt8.toNat_add,UInt8.toNat_ofNat']; omega
  simp [execOp,eqGuard,hx,hy,byt,binOp,Op.intArith,this]
theorem R.sub8:(execOp (ev N f) ⟨d,.binOp .sub T x y T',ty,pos,af,g⟩).run P w=.ok (.value (byt (a - b))) w:=by
  have:IntKind.wrap .u8 ((a.toNat:Int) - b.toNat)=((a - b).toNat:Int):=by
    have h1:=a.toNat_lt; have h2:=b.toNat_lt
    rw [wrap_u8,toU8,UInt8.toNat_sub,UInt8.toNat_ofNat']; omega
  simp [execOp,eqGuard,hx,hy,byt,binOp,Op.intArith,this]
theorem R.lss8:(execOp (ev N f) ⟨d,.binOp .lss T x y T',ty,pos,af,g⟩).run P w=.ok (.value (boo (decide (a<b)))) w:=by simp [execOp,eqGuard,hx,hy,byt,boo,binOp,Op.intCmp,UInt8.lt_iff_toNat_lt]
theorem R.leq8:(execOp (ev N f) ⟨d,.binOp .leq T x y T',ty,pos,af,g⟩).run P w=.ok (.value (boo (decide (a≤b)))) w:=by simp [execOp,eqGuard,hx,hy,byt,boo,binOp,Op.intCmp,UInt8.le_iff_toNat_le]
theorem R.gtr8:(execOp (ev N f) ⟨d,.binOp .gtr T x y T',ty,pos,af,g⟩).run P w=.ok (.value (boo (decide (b<a)))) w:=by simp [execOp,eqGuard,hx,hy,byt,boo,binOp,Op.intCmp,UInt8.lt_iff_toNat_lt]
theorem R.geq8:(execOp (ev N f) ⟨d,.binOp .geq T x y T',ty,pos,af,g⟩).run P w=.ok (.value (boo (decide (b≤a)))) w:=by simp [execOp,eqGuard,hx,hy,byt,boo,binOp,Op.intCmp,UInt8.le_iff_toNat_le]
theorem R.eql8:(execOp (ev N f) ⟨d,.binOp .eql T x y T',ty,pos,af,g⟩).run P w=.ok (.value (boo (a==b))) w:=by simp [execOp,eqGuard,hx,hy,byt,boo,binOp,Op.intCmp,beq8]
theorem R.neq8:(execOp (ev N f) ⟨d,.binOp .neq T x y T',ty,pos,af,g⟩).run P w=.ok (.value (boo (a !=b))) w:=by simp [execOp,eqGuard,hx,hy,byt,boo,binOp,Op.intCmp,beq8,bne]
end
theorem R.not {x:Operand} {b:Bool} {T:TypeId} (hx:ev N f x=boo b):(execOp (ev N f) ⟨d,.unOp .not T x,ty,pos,af,g⟩).run P w=.ok (.value (boo (!b))) w:=by
  cases b <;> simp [execOp,hx,boo,Op.unary]
theorem R.neg {x:Operand} {a:Int} {T:TypeId} (hx:ev N f x=int a):(execOp (ev N f) ⟨d,.unOp .neg T x,ty,pos,af,g⟩).run P w=.ok (.value (int (wr (-a)))) w:=by
  simp [execOp,hx,int,Op.unary,Op.intArith,wr]
section
variable {x y:Operand} {a b:Bool} {T T':TypeId} (hx:ev N f x=boo a) (hy:ev N f y=boo b) (hT:P.underlying T=some .bool)
include hx hy hT
theorem R.eqlB:(execOp (ev N f) ⟨d,.binOp .eql T x y T',ty,pos,af,g⟩).run P w=.ok (.value (boo (a==b))) w:=by
  have h:(Op.equalIn 10000 T (.bool a) (.bool b)).run P w=.ok (a==b) w:=run_equalIn_bool' w 9999 T a b hT
  simp [execOp,eqGuard,hx,hy,boo,binOp,Op.equal,Op.maxDepth,h]
theorem R.neqB:(execOp (ev N f) ⟨d,.binOp .neq T x y T',ty,pos,af,g⟩).run P w=.ok (.value (boo (a !=b))) w:=by
  have h:(Op.equalIn 10000 T (.bool a) (.bool b)).run P w=.ok (a==b) w:=run_equalIn_bool' w 9999 T a b hT
  simp [execOp,eqGuard,hx,hy,boo,binOp,Op.equal,Op.maxDepth,h,bne]
end
theorem zFh (l:Str):(⟨⟨l⟩⟩:ByteArray).size=l.length:=rfl
def xcat (a b:Str):Option Str:=if (a.length+b.length:Int)≤9223372036854775807 then some (a++b) else none
section
variable {x y:Operand} {a b:Str} {T T':TypeId} (hx:ev N f x=str a) (hy:ev N f y=str b)
include hx hy
theorem R.cat {c:Str} (h:xcat a b=some c):(execOp (ev N f) ⟨d,.binOp .add T x y T',ty,pos,af,g⟩).run P w=.ok (.value (str c)) w:=by
  unfold xcat at h
  split at h
  · rename_i hl
    simp only [Option.some.injEq] at h
    subst h
    have e:(⟨⟨a⟩⟩:ByteArray)++⟨⟨b⟩⟩=⟨⟨a++b⟩⟩:=by
      apply ByteArray.ext
      simp [ByteArray.data_append]
    simp [execOp,eqGuard,hx,hy,str,binOp,Op.stringOp,e]
    rw [zFh,zFh]; exact hl
  · cases h
theorem R.eqlS:(execOp (ev N f) ⟨d,.binOp .eql T x y T',ty,pos,af,g⟩).run P w=.ok (.value (boo (a==b))) w:=by simp [execOp,eqGuard,hx,hy,str,boo,binOp,Op.stringOp]
theorem R.neqS:(execOp (ev N f) ⟨d,.binOp .neq T x y T',ty,pos,af,g⟩).run P w=.ok (.value (boo (a !=b))) w:=by simp [execOp,eqGuard,hx,hy,str,boo,binOp,Op.stringOp,bne]
theorem R.lssS:(execOp (ev N f) ⟨d,.binOp .lss T x y T',ty,pos,af,g⟩).run P w=.ok (.value (boo (Op.bytesLess a b))) w:=by simp [execOp,eqGuard,hx,hy,str,boo,binOp,Op.stringOp]
theorem R.leqS:(execOp (ev N f) ⟨d,.binOp .leq T x y T',ty,pos,af,g⟩).run P w=.ok (.value (boo (Op.bytesLess a b||a==b))) w:=by simp [execOp,eqGuard,hx,hy,str,boo,binOp,Op.stringOp]
theorem R.gtrS:(execOp (ev N f) ⟨d,.binOp .gtr T x y T',ty,pos,af,g⟩).run P w=.ok (.value (boo (!(Op.bytesLess a b||a==b)))) w:=by simp [execOp,eqGuard,hx,hy,str,boo,binOp,Op.stringOp]
theorem R.geqS:(execOp (ev N f) ⟨d,.binOp .geq T x y T',ty,pos,af,g⟩).run P w=.ok (.value (boo (!Op.bytesLess a b))) w:=by simp [execOp,eqGuard,hx,hy,str,boo,binOp,Op.stringOp]
end
theorem R.lenS {x : Operand} {a : Str} {T : TypeId} (hx : ev N f x = str a) (hT : P.underlying T = some .string) :
    (execOp (ev N f) ⟨d,.call ⟨.builtin .len,#[x],#[T]⟩,ty,pos,af,g⟩).run P w=.ok (.value (int a.length)) w:=by
  simp [execOp,resolve,invoke,builtin,Builtin.len_,hx,str,int,run_underlying hT,goInt,zFh]
theorem R.lenV {x : Operand} {q : Option Addr} {n c : Nat} {T e : TypeId} (hx : ev N f x = .slice q n c) (hT : P.underlying T = some (.slice e)) :
    (execOp (ev N f) ⟨d,.call ⟨.builtin .len,#[x],#[T]⟩,ty,pos,af,g⟩).run P w=.ok (.value (int n)) w:=by
  simp [execOp,resolve,invoke,builtin,Builtin.len_,hx,int,run_underlying hT,goInt]
theorem R.lenL {α : Type} [Enc α] {x : Operand} {v : Value} {xs : List α} {H : Hp} {T e : TypeId} (R : Sl H v xs) (hx : ev N f x = v) (hT : P.underlying T = some (.slice e)) :
    (execOp (ev N f) ⟨d,.call ⟨.builtin .len,#[x],#[T]⟩,ty,pos,af,g⟩).run P w=.ok (.value (int xs.length)) w:=by
  obtain ⟨q,c,rfl,_⟩:=R
  exact R.lenV hx hT
theorem R.min {x y : Operand} {a b : Int} {ts : Array TypeId} (hx : ev N f x = int a) (hy : ev N f y = int b) :
    (execOp (ev N f) ⟨d,.call ⟨.builtin .min,#[x,y],ts⟩,ty,pos,af,g⟩).run P w=.ok (.value (int (if b<a then b else a))) w:=by
  simp [execOp,resolve,invoke,builtin,Builtin.min_,Builtin.min2,hx,hy,int]
theorem R.max {x y : Operand} {a b : Int} {ts : Array TypeId} (hx : ev N f x = int a) (hy : ev N f y = int b) :
    (execOp (ev N f) ⟨d,.call ⟨.builtin .max,#[x,y],ts⟩,ty,pos,af,g⟩).run P w=.ok (.value (int (if a<b then b else a))) w:=by
  simp [execOp,resolve,invoke,builtin,Builtin.max_,Builtin.max2,hx,hy,int]
theorem R.idxS {x i : Operand} {a : Str} {n : Int} {c : UInt8} {T : TypeId} (hx : ev N f x = str a) (hi : ev N f i = int n) (hT : P.underlying T = some .string) (h : xnth a n = some c) :
    (execOp (ev N f) ⟨d,.index T x i,ty,pos,af,g⟩).run P w=.ok (.value (byt c)) w:=by
  unfold xnth at h
  split at h
  · rename_i h0
    have e:(⟨⟨a⟩⟩:ByteArray)[n.toNat]?=some c:=by
      obtain ⟨hl,he⟩:=List.getElem?_eq_some_iff.1 h
      have:n.toNat<(⟨⟨a⟩⟩:ByteArray).size:=hl
      rw [getElem?_pos (⟨⟨a⟩⟩:ByteArray) n.toNat this]
      simp only [Option.some.injEq]
      exact he
    simp [execOp,Instr.index,asIntOf,hx,hi,str,int,byt,run_underlying hT,h0,e]
  · cases h
def lo (i:Option Int):Int:=i.getD 0
theorem R.subS {x i j : Operand} {a b : Str} {n m : Int} {T : TypeId} (hx : ev N f x = str a) (hi : ev N f i = int n) (hj : ev N f j = int m) (hT : P.underlying T = some .string) (h : xsub a n m = some b) :
    (execOp (ev N f) ⟨d,.slice T x (some i) (some j) none,ty,pos,af,g⟩).run P w=.ok (.value (str b)) w:=by
  unfold xsub at h
  split at h
  · rename_i h0
    simp only [Option.some.injEq] at h
    subst h
    have e:(⟨⟨a⟩⟩:ByteArray).extract n.toNat m.toNat=⟨⟨(a.take m.toNat).drop n.toNat⟩⟩:=by
      rw [Lib.extract_eq]
      congr 1
      simp only [List.drop_take]
    have hj:0≤m∧m≤(a.length:Int):=⟨by omega,h0.2.2⟩
    have hk:0≤n∧n≤((m.toNat:Nat):Int):=⟨h0.1,by omega⟩
    have hl:n≤m∨n≤0:=.inl h0.2.1
    simp [execOp,Instr.sliceAt,Instr.slice,Instr.sliceBounds,Instr.sliceBound,asIntOf, *,str,int,run_underlying hT,zFh]
    intro hc; omega
  · cases h
theorem R.subSlo {x i : Operand} {a b : Str} {n : Int} {T : TypeId} (hx : ev N f x = str a) (hi : ev N f i = int n) (hT : P.underlying T = some .string) (h : xsub a n a.length = some b) :
    (execOp (ev N f) ⟨d,.slice T x (some i) none none,ty,pos,af,g⟩).run P w=.ok (.value (str b)) w:=by
  unfold xsub at h
  split at h
  · rename_i h0
    simp only [Option.some.injEq] at h
    subst h
    have e:(⟨⟨a⟩⟩:ByteArray).extract n.toNat a.length=⟨⟨(a.take (a.length:Int).toNat).drop n.toNat⟩⟩:=by
      rw [Lib.extract_eq]
      congr 1
      simp only [List.drop_take,Int.toNat_natCast]
    simp [execOp,Instr.sliceAt,Instr.slice,Instr.sliceBounds,Instr.sliceBound,asIntOf, *,str,int,run_underlying hT,zFh]
  · cases h
theorem R.subShi {x j : Operand} {a b : Str} {m : Int} {T : TypeId} (hx : ev N f x = str a) (hj : ev N f j = int m) (hT : P.underlying T = some .string) (h : xsub a 0 m = some b) :
    (execOp (ev N f) ⟨d,.slice T x none (some j) none,ty,pos,af,g⟩).run P w=.ok (.value (str b)) w:=by
  unfold xsub at h
  split at h
  · rename_i h0
    simp only [Option.some.injEq] at h
    subst h
    have e:(⟨⟨a⟩⟩:ByteArray).extract 0 m.toNat=⟨⟨(a.take m.toNat).drop (0:Int).toNat⟩⟩:=by
      rw [Lib.extract_eq]
      congr 1
    have hj:0≤m∧m≤(a.length:Int):=⟨by omega,h0.2.2⟩
    simp [execOp,Instr.sliceAt,Instr.slice,Instr.sliceBounds,Instr.sliceBound,asIntOf, *,str,int,run_underlying hT,zFh]
  · cases h
theorem R.i64of8 {x : Operand} {a : UInt8} {T T' : TypeId} {u : TypeDesc} (hx : ev N f x = byt a) (hT : P.underlying T = some u) (hT' : P.underlying T' = some (.int .i64)) :
    (execOp (ev N f) ⟨d,.convert T T' x,ty,pos,af,g⟩).run P w=.ok (.value (int a.toNat)) w:=by
  have:IntKind.wrap .i64 (a.toNat:Int)=a.toNat:=wr_eq (by have:=a.toNat_lt; omega)
  simp [execOp,convert,hx,byt,int,run_underlying hT,run_underlying hT',Conv.intToInt,this]
theorem R.u8of64 {x : Operand} {a : Int} {T T' : TypeId} {u : TypeDesc} (hx : ev N f x = int a) (hT : P.underlying T = some u) (hT' : P.underlying T' = some (.int .u8)) :
    (execOp (ev N f) ⟨d,.convert T T' x,ty,pos,af,g⟩).run P w=.ok (.value (byt (toU8 a))) w:=by
  simp [execOp,convert,hx,byt,int,run_underlying hT,run_underlying hT',Conv.intToInt,wrap_u8]
theorem R.i64of64 {x : Operand} {a : Int} {T T' : TypeId} {u : TypeDesc} (hx : ev N f x = int a) (hT : P.underlying T = some u) (hT' : P.underlying T' = some (.int .i64)) :
    (execOp (ev N f) ⟨d,.convert T T' x,ty,pos,af,g⟩).run P w=.ok (.value (int (wr a))) w:=by
  simp [execOp,convert,hx,int,run_underlying hT,run_underlying hT',Conv.intToInt,wr]
theorem R.ext {x:Operand} {vs:List Value} {i:Nat} {v:Value} (hx:ev N f x=.tuple ⟨vs⟩) (h:vs[i]?=some v):(execOp (ev N f) ⟨d,.extract x i,ty,pos,af,g⟩).run P w=.ok (.value v) w:=by
  have:(⟨vs⟩:Array Value)[i]?=some v:=by simpa using h
  simp [execOp,Instr.extract,hx,this]
end
end Go.Eng
namespace Go.Eng
open Go
def fld (P:Program) (T:TypeId) (k:Nat):Option Nat :=
  match P.underlying T with
  | some (.struct fs)=>match fs[k]? with
    | some g=>if P.cellsOf g.type=0 then none else some g.offset
    | none=>none
  | _=>none
def zer (P:Program) (T:TypeId):Option (List Value):=((P.info? T).bind (·.zero)).map (·.cells.toList)
section
variable {P:Program} {N:Frm} {f:Fr} {w w0:World} {H0 H:Hp} {L:List Ent} {ops:Array Oper} {rest:List Oper} {Q:Fr→World→Prop} {d:Nat} {od:Option Nat} {ty:TypeId} {pos:String} {af:Array Edge} {g:Option (Nat×Bool)}
theorem zNv {T:TypeId} {v:Value} {cs:List Value} (hc:v.cells.toList=cs):(Instr.box T v).run P w=.ok (ptr w.heap.size 0) (w.alloc (.cells cs.toArray T)):=by
  subst hc
  simp [Instr.box,newVar,newRow,ptr]
theorem W.box {T : TypeId} {x : Operand} {v : Value} (cs : List Value) (S : St w0 H0 w H L) (hx : ev N f x = v) (hc : v.cells.toList = cs)
    (k:∀ b w',St w0 H0 w' H (.box b T cs :: L)→WL P N ops rest Q (upd f d (ptr b 0)) w'):WL P N ops (⟨some d,.box T x,ty,pos,af,none⟩ :: rest) Q f w:=by
  refine WL.w (v:=ptr w.heap.size 0) (w':=w.alloc (.cells cs.toArray T)) ?_ (k _ _ (S.box T cs.toArray (0,0) cs [] (by simp) (by intro i _ h; exact Nat.not_lt_zero _ h.2)))
  simp only [execOp,hx,Sem.run_bind,zNv hc,Result.andThen_ok,Sem.run_pure]
theorem W.alloc {T : TypeId} (cs : List Value) (S : St w0 H0 w H L) (hc : zer P T = some cs)
    (k:∀ b w',St w0 H0 w' H (.box b T cs :: L)→WL P N ops rest Q (upd f d (ptr b 0)) w'):WL P N ops (⟨some d,.alloc T,ty,pos,af,none⟩ :: rest) Q f w:=by
  unfold zer at hc
  cases hi:P.info? T with
  | none=>rw [hi] at hc; cases hc
  | some i =>
    rw [hi] at hc
    cases hz:i.zero with
    | none=>simp [hz] at hc
    | some z =>
      simp [hz] at hc
      refine WL.w (v:=ptr w.heap.size 0) (w':=w.alloc (.cells cs.toArray T)) ?_ (k _ _ (S.box T cs.toArray (0,0) cs [] (by simp) (by intro i _ h; exact Nat.not_lt_zero _ h.2)))
      subst hc
      simp [execOp,Instr.alloc,zeroValue,typeInfo,hi,hz,newVar,newRow,ptr]
theorem BoxOk.cell {b:Nat} {T:TypeId} {cs:List Value} (h:BoxOk w H b T cs) {o:Nat} {v:Value} (hv:cs[o]?=some v):w.cell? ⟨b,o,none⟩=some v:=by
  obtain ⟨_,arr,fz,hc,⟨r,hr⟩,_⟩:=h
  rw [cell_of_row w b o arr T fz hc,← Array.getElem?_toList,hr,List.getElem?_append_left (List.getElem?_eq_some_iff.1 hv).1]
  exact hv
theorem St.boxOk (S:St w0 H0 w H L) {i b:Nat} {T:TypeId} {cs:List Value} (hi:L[i]?=some (.box b T cs)):BoxOk w H b T cs:=S.ents _ (List.mem_of_getElem? hi)
theorem R.load1 {T : TypeId} {x : Operand} {a : Addr} {v : Value} (hx : ev N f x = .pointer (some a)) (hT : lay P T = some (false, 1)) (hv : w.cell? a = some v) :
    (execOp (ev N f) ⟨od,.load T x,ty,pos,af,g⟩).run P w=.ok (.value v) w:=by
  obtain ⟨h1,_⟩:=zC7 (w:=w) hT
  simp [execOp,Instr.loadAt,Instr.sureAddr,hx,loadVar,h1,hv]
theorem R.loadN {T : TypeId} {x : Operand} {a : Addr} {n : Nat} {vs : List Value} (hx : ev N f x = .pointer (some a)) (hT : lay P T = some (true, n)) (hn : vs.length = n) (hv : ∀ j v, vs[j]? = some v → w.cell? (a.add j) = some v) :
    (execOp (ev N f) ⟨od,.load T x,ty,pos,af,g⟩).run P w=.ok (.value (agg vs)) w:=by
  obtain ⟨h1,h2⟩:=zC7 (w:=w) hT
  have h3:=run_loadCells_list (P:=P) (w:=w) a vs hv
  rw [hn] at h3
  simp [execOp,Instr.loadAt,Instr.sureAddr,hx,loadVar,h1,h2,h3,agg]
theorem R.loadB {T T' : TypeId} {x : Operand} {b o i : Nat} {cs : List Value} {v : Value} (S : St w0 H0 w H L) (hx : ev N f x = ptr b o) (hi : L[i]? = some (.box b T' cs)) (hT : lay P T = some (false, 1)) (hv : cs[o]? = some v) :
    (execOp (ev N f) ⟨od,.load T x,ty,pos,af,g⟩).run P w=.ok (.value v) w:=R.load1 hx hT ((S.boxOk hi).cell hv)
theorem R.loadBN {T T' : TypeId} {x : Operand} {b o i n : Nat} {cs vs : List Value} (S : St w0 H0 w H L) (hx : ev N f x = ptr b o) (hi : L[i]? = some (.box b T' cs)) (hT : lay P T = some (true, n)) (hn : vs.length = n) (hv : (cs.drop o).take n = vs) :
    (execOp (ev N f) ⟨od,.load T x,ty,pos,af,g⟩).run P w=.ok (.value (agg vs)) w:=by
  refine R.loadN hx hT hn fun j v hj=>?_
  rw [Addr.add_lit]
  refine (S.boxOk hi).cell ?_
  rw [← hv,List.getElem?_take,List.getElem?_drop] at hj
  split at hj
  · exact hj
  · cases hj
theorem R.loadH {T : TypeId} {x : Operand} {a : Addr} {cs : List Value} {v : Value} (S : St w0 H0 w H L) (hx : ev N f x = .pointer (some a)) (hA : At H a cs) (hT : lay P T = some (false, 1)) (hv : cs[0]? = some v) :
    (execOp (ev N f) ⟨od,.load T x,ty,pos,af,g⟩).run P w=.ok (.value v) w:=by
  refine R.load1 hx hT ?_
  have:=hA.cell S.holds hv
  simpa [Addr.add] using this
theorem R.loadHN {T : TypeId} {x : Operand} {a : Addr} {n : Nat} {cs vs : List Value} (S : St w0 H0 w H L) (hx : ev N f x = .pointer (some a)) (hA : At H a cs) (hT : lay P T = some (true, n)) (hn : vs.length = n) (hv : cs.take n = vs) :
    (execOp (ev N f) ⟨od,.load T x,ty,pos,af,g⟩).run P w=.ok (.value (agg vs)) w:=by
  refine R.loadN hx hT hn fun j v hj=>?_
  refine hA.cell S.holds ?_
  rw [← hv,List.getElem?_take] at hj
  split at hj
  · exact hj
  · cases hj
theorem R.field {T : TypeId} {x : Operand} {a : Addr} {k off : Nat} (hx : ev N f x = .pointer (some a)) (hF : fld P T k = some off) :
    (execOp (ev N f) ⟨od,.fieldAddr T x k,ty,pos,af,g⟩).run P w=.ok (.value (.pointer (some (a.add off)))) w:=by
  unfold fld at hF
  split at hF
  · rename_i fs hT
    split at hF
    · rename_i fi hk
      split at hF
      · cases hF
      · rename_i hsz
        simp at hF
        subst hF
        have:(sizeOf fi.type).run P w=.ok (P.cellsOf fi.type) w∨P.info? fi.type=none:=by
          unfold Program.cellsOf
          cases hi:P.info? fi.type with
          | none=>exact .inr rfl
          | some i=>simp [sizeOf,typeInfo,hi]
        rcases this with h | h
        · simp [execOp,Instr.fieldAt,Instr.sureAddr,hx,run_underlying hT,hk,fieldPlace,h,hsz]
        · exact absurd (by simp [Program.cellsOf,h]) hsz
    · cases hF
  · cases hF
theorem R.fieldB {T : TypeId} {x : Operand} {b o k off : Nat} (hx : ev N f x = ptr b o) (hF : fld P T k = some off) :
    (execOp (ev N f) ⟨od,.fieldAddr T x k,ty,pos,af,g⟩).run P w=.ok (.value (ptr b (o+off))) w:=by
  have:=R.field (P:=P) (w:=w) (od:=od) (ty:=ty) (pos:=pos) (af:=af) (g:=g) hx hF
  rwa [Addr.add_lit] at this
theorem zDf (b o : Nat) (T : TypeId) (fz : Nat × Nat) : ∀ (vs : List Value) (i : Nat) (arr : Array Value) (w : World), w.heap[b]? = some (.cells arr T fz) → o + i + vs.length ≤ arr.size → (∀ v ∈ vs, v.oneCell' = true) →
    (∀ j,o+i≤j→j<o+i+vs.length→¬ (fz.1≤j∧j<fz.2)) →
    ∃ w' arr',(storeCells ⟨b,o,none⟩ vs i).run P w=.ok () w'∧(∀ k,k≠b→w'.heap[k]?=w.heap[k]?)∧w'.heap.size=w.heap.size∧(w'.os=w.os∧w'.tape=w.tape∧w'.output=w.output) ∧
      w'.heap[b]?=some (.cells arr' T fz)∧arr'.toList=arr.toList.take (o+i)++vs++arr.toList.drop (o+i+vs.length)
  | [],i,arr,w,hb,_,_,_=>⟨w,arr,rfl,fun _ _=>rfl,rfl,⟨rfl,rfl,rfl⟩,hb,by simp⟩
  | v :: vs,i,arr,w,hb,hl,h1,hf=>by
    have hlen:o+i<arr.size:=by simp at hl; omega
    have hcell:w.cell? ((⟨b,o,none⟩:Addr).add i)=some arr[o+i]:=by
      rw [Addr.add_lit,cell_of_row w b (o+i) arr T fz hb]; simp [hlen]
    have hfr:w.frozen? ((⟨b,o,none⟩:Addr).add i)=false:=by
      rw [Addr.add_lit]
      have:=hf (o+i) (Nat.le_refl _) (by simp)
      have h2:w.frozen? ⟨b,o+i,none⟩=(decide (fz.1≤o+i)&&decide (o+i<fz.2)):=by
        unfold World.frozen?
        rw [hb]
      rw [h2]
      by_cases ha:fz.1≤o+i <;> by_cases hb':o+i<fz.2 <;> simp_all
    have hw1:(w.setCell ((⟨b,o,none⟩:Addr).add i) v).heap[b]?=some (.cells (arr.setIfInBounds (o+i) v) T fz):=by
      rw [Addr.add_lit]
      simp only [World.setCell,Array.getElem?_modify,if_true,hb,Option.map_some]
      rfl
    obtain ⟨w',arr',hr,hoth,hsz,hos,hb',harr⟩:=zDf b o T fz vs (i+1) (arr.setIfInBounds (o+i) v) _ hw1 (by simp at hl ⊢; omega) (fun u hu=>h1 u (List.mem_cons_of_mem _ hu)) (fun j h2 h3=>hf j (by omega) (by simp at h3 ⊢; omega))
    refine ⟨w',arr',?_,?_,?_,?_,hb',?_⟩
    · simp only [storeCells,Sem.run_bind]
      rw [run_store P w _ v _ (h1 v List.mem_cons_self),hcell]
      simp only [hfr,Bool.false_eq_true,if_false,Result.andThen_ok]
      exact hr
    · intro k hk
      rw [hoth k hk]
      exact heap_setCell_other w _ k v (by rw [Addr.add_lit]; exact hk)
    · rw [hsz]; simp
    · exact ⟨hos.1,hos.2.1,hos.2.2⟩
    · have hlen':o+i<arr.toList.length:=by simpa using hlen
      have e1:(arr.toList.set (o+i) v).take (o+(i+1))=arr.toList.take (o+i)++[v]:=by
        rw [← Nat.add_assoc,List.take_add_one,List.take_set_of_le (Nat.le_refl _),List.getElem?_set_self hlen']
        rfl
      have e2:(arr.toList.set (o+i) v).drop (o+(i+1)+vs.length)=arr.toList.drop (o+i+(vs.length+1)):=by
        rw [List.drop_set_of_lt (by omega)]
        congr 1; omega
      rw [harr,Array.toList_setIfInBounds,e1,e2]
      simp [List.append_assoc]
theorem W.store {T T' : TypeId} {a x : Operand} {b o i n : Nat} {bb : Bool} {v : Value} {cs : List Value} (cs' : List Value) (S : St w0 H0 w H L) (ha : ev N f a = ptr b o) (hx : ev N f x = v) (hi : L[i]? = some (.box b T' cs)) (hT : lay P T = some (bb, n))
    (hn:v.cells.size=n) (h1:v.cells.toList.all Value.oneCell'=true) (ho:o+n≤cs.length) (hc:zC9 cs o v.cells.toList=cs')
    (k:∀ w',St w0 H0 w' H (L.set i (.box b T' cs'))→WL P N ops rest Q (updo f od undef) w'):WL P N ops (⟨od,.store T a x,ty,pos,af,none⟩ :: rest) Q f w:=by
  obtain ⟨_,h2⟩:=zC7 (w:=w) hT
  obtain ⟨_,arr,fz,hb,⟨r,hr⟩,hf⟩:=S.boxOk hi
  have hlen:v.cells.toList.length=n:=by simpa using hn
  have harrl:arr.size=cs.length+r.length:=by rw [← Array.length_toList,hr,List.length_append]
  obtain ⟨w',arr',hrun,hoth,hsz,hos,hb',harr⟩:=zDf (P:=P) b o T' fz v.cells.toList 0 arr w hb (by omega) (fun u hu=>List.all_eq_true.1 h1 u hu) (fun j _ h4=>hf j (by omega))
  refine WL.skipw (w':=w') ?_ (k w' (S.stored hi ?_ hoth hsz hos ?_))
  · simp only [execOp,Instr.storeAt,Instr.sureAddr,ha,hx,ptr,storeVar,Sem.run_bind,Sem.run_pure,Result.andThen_ok,h2,hn,ne_eq,not_true_eq_false,if_false,hrun]
  · rw [← hc]; simp [zC9]; omega
  · intro arr2 fz2 r2 hb2 hr2
    rw [hb] at hb2
    simp only [Option.some.injEq,Obj.cells.injEq,true_and] at hb2
    obtain ⟨rfl,rfl⟩:=hb2
    refine ⟨arr',hb',?_⟩
    have hrr:r2=r:=by rw [hr] at hr2; exact (List.append_cancel_left hr2).symm
    subst hrr
    rw [harr,← hc,zC9,hr,Nat.add_zero,List.take_append_of_le_length (by omega),List.drop_append_of_le_length (by omega)]
    simp only [List.append_assoc]
theorem W.idx {α : Type} [Enc α] {T e : TypeId} {x i : Operand} {v : Value} {xs : List α} {n : Int} {c : α} (hR : Sl H v xs) (hx : ev N f x = v) (hi : ev N f i = int n) (hE : Elem P T e (Enc.sz α)) (h : xnth xs n = some c)
    (k:∀ a cs,At H a cs→Enc.cells H cs c→WL P N ops rest Q (upd f d (.pointer (some a))) w):WL P N ops (⟨some d,.indexAddr T x i,ty,pos,af,none⟩ :: rest) Q f w:=by
  unfold xnth at h
  split at h
  case isFalse=>cases h
  rename_i h0
  obtain ⟨a,cp,rfl,h1,h2,h3⟩:=hR
  obtain ⟨hlt,hc⟩:=List.getElem?_eq_some_iff.1 h
  rcases h3 with rfl | ⟨b,off,cs,rfl,hat,hC⟩
  · simp at hlt
  obtain ⟨cs1,r,hr,hcs1⟩:=hC.get h
  have hE':=hE
  obtain ⟨ht,inf,z,hinf,_,hsize,_⟩:=hE'
  have hat':At H ⟨b,off+n.toNat*Enc.sz α,none⟩ cs1:=by
    obtain ⟨T',l,_,hH,r',hr'⟩:=hat
    refine ⟨T',l,rfl,hH,r++r',?_⟩
    show l.drop (off+n.toNat*Enc.sz α)=_
    have hle:n.toNat*Enc.sz α≤cs.length:=by
      rw [hC.length]; exact Nat.mul_le_mul_right _ (by omega)
    rw [← List.drop_drop,show List.drop off l=cs++r' from hr',List.drop_append_of_le_length hle,hr,List.append_assoc]
  refine WL.w (v:=.pointer (some ⟨b,off+n.toNat*Enc.sz α,none⟩)) (w':=w) ?_ (k _ _ hat' hcs1)
  have hr:0≤n∧n<(xs.length:Int):=⟨h0,by omega⟩
  simp [execOp,Instr.indexAt,asIntOf,hx,hi,int,run_underlying ht,hr,sizeOf,typeInfo,hinf,hsize,Addr.add_lit]
theorem Sl.sub {α : Type} [Enc α] {a : Option Addr} {xs ys : List α} {c : Nat} (hR : Sl H (.slice a xs.length c) xs) {n m : Int} (h : xsub xs n m = some ys) :
    Sl H (.slice (if c=n.toNat then a else a.map (·.add (n.toNat*Enc.sz α))) (m.toNat - n.toNat) (c - n.toNat)) ys:=by
  unfold xsub at h
  split at h
  case isFalse=>cases h
  rename_i h0
  simp only [Option.some.injEq] at h
  subst h
  obtain ⟨a',c',hv,h1,h2,h3⟩:=hR
  simp only [Value.slice.injEq,true_and] at hv
  obtain ⟨rfl,rfl⟩:=hv
  have hlen:((xs.take m.toNat).drop n.toNat).length=m.toNat - n.toNat:=by simp; omega
  refine ⟨_,c - n.toNat,by rw [hlen],by rw [hlen]; omega,by omega,?_⟩
  by_cases hnm:n.toNat=m.toNat
  · left; exact List.eq_nil_of_length_eq_zero (by rw [hlen]; omega)
  · right
    rcases h3 with rfl | ⟨b,off,cs,rfl,hat,hC⟩
    · simp at h0; omega
    · have hne:¬ (c=n.toNat):=by omega
      have hCt:=(hC.take m.toNat (by omega)).drop n.toNat (by simp; omega)
      refine ⟨b,off+n.toNat*Enc.sz α,_,?_,?_,hCt⟩
      · simp [hne,Addr.add_lit]
      · obtain ⟨T',l,_,hH,r',hr'⟩:=hat
        refine ⟨T',l,rfl,hH,cs.drop (m.toNat*Enc.sz α)++r',?_⟩
        have hml:m.toNat*Enc.sz α≤cs.length:=by rw [hC.length]; exact Nat.mul_le_mul_right _ (by omega)
        have hnl:n.toNat*Enc.sz α≤m.toNat*Enc.sz α:=Nat.mul_le_mul_right _ (by omega)
        show l.drop (off+n.toNat*Enc.sz α)=_
        rw [← List.drop_drop,show List.drop off l=cs++r' from hr',List.drop_append_of_le_length (by omega),← List.append_assoc]
        congr 1
        conv=>lhs; rw [← List.take_append_drop (m.toNat*Enc.sz α) cs]
        rw [List.drop_append_of_le_length (by simp; omega)]
theorem W.sub {α : Type} [Enc α] {T e : TypeId} {x i j : Operand} {v : Value} {xs ys : List α} {n m : Int} (hR : Sl H v xs) (hx : ev N f x = v) (hi : ev N f i = int n) (hj : ev N f j = int m) (hE : Elem P T e (Enc.sz α)) (h : xsub xs n m = some ys)
    (k:∀ v',Sl H v' ys→WL P N ops rest Q (upd f d v') w):WL P N ops (⟨some d,.slice T x (some i) (some j) none,ty,pos,af,none⟩ :: rest) Q f w:=by
  obtain ⟨a,c,rfl,h1,h2,h3⟩:=hR
  have hs:=Sl.sub (⟨a,c,rfl,h1,h2,h3⟩) h
  refine WL.w (w':=w) ?_ (k _ hs)
  obtain ⟨ht,inf,z,hinf,_,hsize,_⟩:=hE
  unfold xsub at h
  split at h
  case isFalse=>cases h
  rename_i h0
  have g1:0≤m∧m≤(c:Int):=⟨by omega,by omega⟩
  simp [execOp,Instr.sliceAt,Instr.slice,Instr.sliceBounds,Instr.sliceBound,asIntOf,hx,hi,hj,int,run_underlying ht,g1,h0.1,sizeOf,typeInfo,hinf,hsize]
  intro hc; omega
theorem W.subLo {α : Type} [Enc α] {T e : TypeId} {x i : Operand} {v : Value} {xs ys : List α} {n : Int} (hR : Sl H v xs) (hx : ev N f x = v) (hi : ev N f i = int n) (hE : Elem P T e (Enc.sz α)) (h : xsub xs n xs.length = some ys)
    (k:∀ v',Sl H v' ys→WL P N ops rest Q (upd f d v') w):WL P N ops (⟨some d,.slice T x (some i) none none,ty,pos,af,none⟩ :: rest) Q f w:=by
  obtain ⟨a,c,rfl,h1,h2,h3⟩:=hR
  have hs:=Sl.sub (⟨a,c,rfl,h1,h2,h3⟩) h
  refine WL.w (w':=w) ?_ (k _ hs)
  obtain ⟨ht,inf,z,hinf,_,hsize,_⟩:=hE
  unfold xsub at h
  split at h
  case isFalse=>cases h
  rename_i h0
  simp [execOp,Instr.sliceAt,Instr.slice,Instr.sliceBounds,Instr.sliceBound,asIntOf,hx,hi,int,run_underlying ht,h0.1,h0.2.1,sizeOf,typeInfo,hinf,hsize]
theorem W.subHi {α : Type} [Enc α] {T e : TypeId} {x j : Operand} {v : Value} {xs ys : List α} {m : Int} (hR : Sl H v xs) (hx : ev N f x = v) (hj : ev N f j = int m) (hE : Elem P T e (Enc.sz α)) (h : xsub xs 0 m = some ys)
    (k:∀ v',Sl H v' ys→WL P N ops rest Q (upd f d v') w):WL P N ops (⟨some d,.slice T x none (some j) none,ty,pos,af,none⟩ :: rest) Q f w:=by
  obtain ⟨a,c,rfl,h1,h2,h3⟩:=hR
  have hs:=Sl.sub (⟨a,c,rfl,h1,h2,h3⟩) h
  refine WL.w (w':=w) ?_ (k _ hs)
  obtain ⟨ht,inf,z,hinf,_,hsize,_⟩:=hE
  unfold xsub at h
  split at h
  case isFalse=>cases h
  rename_i h0
  have g1:0≤m∧m≤(c:Int):=⟨by omega,by omega⟩
  simp [execOp,Instr.sliceAt,Instr.slice,Instr.sliceBounds,Instr.sliceBound,asIntOf,hx,hj,int,run_underlying ht,g1,sizeOf,typeInfo,hinf]
theorem W.app {α : Type} [Enc α] {T e : TypeId} {x y : Operand} {v u : Value} {xs ys zs : List α} {i : Nat} (S : St w0 H0 w H L) (hE : Elem P T e (Enc.sz α)) (hi : L[i]? = some (.row v e (Enc.sz α) xs.length))
    (hx:ev N f x=v) (hy:ev N f y=u) (hX:Sl H v xs) (hY:Sl H u ys) (h:xapp xs ys=some zs)
    (k:∀ v' w' H',H.le H'→Sl H' v' zs→St w0 H0 w' H' (L.set i (.row v' e (Enc.sz α) zs.length))→WL P N ops rest Q (upd f d v') w'):WL P N ops (⟨some d,.call ⟨.builtin .append,#[x,y],#[T,T]⟩,ty,pos,af,none⟩ :: rest) Q f w:=by
  obtain ⟨v',w',H',hr,hle,hsl,hst⟩:=S.append (P:=P) (t:=T) (ty:=ty) hE hi hX hY h
  refine WL.w (v:=v') (w':=w') ?_ (k v' w' H' hle hsl hst)
  simp only [execOp,resolve,invoke,builtin,Sem.run_bind,Sem.run_pure,Result.andThen_ok,List.map_toArray,List.map_cons,List.map_nil,hx,hy,hr]
theorem zLn (off : Nat) : ∀ (l : List Value) (k : Nat) (arr : Array Value), off + k + l.length ≤ arr.size →
    ((l.zipIdx k).foldl (fun (cs:Array Value) (x:Value×Nat)=>cs.setIfInBounds (off+x.2) x.1) arr).toList=arr.toList.take (off+k)++l++arr.toList.drop (off+k+l.length)
  | [],k,arr,_=>by simp
  | v :: l,k,arr,h=>by
    simp only [List.zipIdx_cons,List.foldl_cons]
    rw [zLn off l (k+1) _ (by simp at h ⊢; omega)]
    simp only [Array.toList_setIfInBounds,List.length_cons]
    have hlen:off+k<arr.toList.length:=by simp at h ⊢; omega
    have e1:(arr.toList.set (off+k) v).take (off+(k+1))=arr.toList.take (off+k)++[v]:=by
      rw [← Nat.add_assoc,List.take_add_one,List.take_set_of_le (Nat.le_refl _),List.getElem?_set_self hlen]
      rfl
    have e2:(arr.toList.set (off+k) v).drop (off+(k+1)+l.length)=arr.toList.drop (off+k+(l.length+1)):=by
      rw [List.drop_set_of_lt (by omega)]
      congr 1; omega
    rw [e1,e2]
    simp [List.append_assoc]
theorem zMz (sz : Nat) (hsz : 0 < sz) : ∀ (vs : List Value) (i : Nat) (arr : Array Value), (∀ v ∈ vs, v.cells.size = sz) → arr.size = (i + vs.length) * sz →
    ∃ arr',Instr.fill (fun i=>some (i*sz,sz)) arr ((vs.zipIdx i).map fun x=>(x.2,x.1))=some arr'∧arr'.toList=arr.toList.take (i*sz)++(vs.flatMap fun v=>v.cells.toList)
  | [],i,arr,_,hl=>by
    refine ⟨arr,rfl,?_⟩
    have:arr.toList.length≤i*sz:=by simp at hl ⊢; omega
    simp [List.take_of_length_le this]
  | v :: vs,i,arr,hv,hl=>by
    have h1:v.cells.size=sz:=hv v List.mem_cons_self
    have hbound:i*sz+sz≤arr.size:=by rw [hl,List.length_cons]; calc i*sz+sz=(i+1)*sz:=by rw [Nat.succ_mul]
      _≤_:=Nat.mul_le_mul_right _ (by omega)
    simp only [List.zipIdx_cons,List.map_cons,Instr.fill]
    have hno:¬ ((v.cells.size≠sz||decide (i*sz+v.cells.size > arr.size))=true):=by
      simp [h1]; omega
    rw [if_neg hno]
    have hf:=zLn (i*sz) v.cells.toList 0 arr (by simp [h1]; omega)
    rw [← Array.foldl_toList,Array.toList_zipIdx]
    generalize hA:List.foldl (fun (cs:Array Value) (x:Value×Nat)=>cs.setIfInBounds (i*sz+x.2) x.1) arr (v.cells.toList.zipIdx 0)=A at hf
    have hAs:A.size=arr.size:=by
      have:=congrArg List.length hf
      simp [h1] at this
      omega
    obtain ⟨arr',hr,ha⟩:=zMz sz hsz vs (i+1) A (fun u hu=>hv u (List.mem_cons_of_mem _ hu)) (by rw [hAs,hl,List.length_cons]; congr 1; omega)
    refine ⟨arr',?_,?_⟩
    · rw [← hr]
    · rw [ha,hf]
      have e:((arr.toList.take (i*sz+0)++v.cells.toList++arr.toList.drop (i*sz+0+v.cells.toList.length))).take ((i+1)*sz)=arr.toList.take (i*sz)++v.cells.toList:=by
        rw [Nat.add_zero]
        apply List.take_left'
        simp [h1,Nat.succ_mul]
        omega
      rw [e]
      simp [List.append_assoc]
end
end Go.Eng
namespace Go.Eng
open Go
def Con (P:Program) (k:FuncId) (args:List Value) (w:World) (H:Hp) (R:Hp→Value→Prop):Prop :=
  (∀ w,(callFunc k args.toArray).run P w=.ok (.enter k args.toArray) w) ∧
  Calls P k args.toArray w (fun e w'=>∃ v H',e=.returned v∧Post w H w' H'∧R H' v)
def Out (P:Program) (fn:Func) (N:Frm) (w0:World) (H0:Hp) (R:Hp→Value→Prop):Exit→Fr→World→Prop:=fun e f w =>
  (e=.ret∨e=.normal)∧∃ v,(results fn (tm N f)).run P w=.ok v w∧∃ H,Post w0 H0 w H∧R H v
theorem Con.mono {P:Program} {k:FuncId} {args:List Value} {w:World} {H:Hp} {R R':Hp→Value→Prop} (h:Con P k args w H R) (hr:∀ H v,R H v→R' H v):Con P k args w H R' :=
  ⟨h.1,Calls.mono h.2 fun _ _ ⟨v,H',he,hp,hv⟩=>⟨v,H',he,hp,hr _ _ hv⟩⟩
section
variable {P:Program} {N:Frm} {f:Fr} {w w0:World} {H0 H:Hp} {L:List Ent} {ops:Array Oper} {rest:List Oper} {Q:Fr→World→Prop} {d:Nat} {od:Option Nat} {ty:TypeId} {pos:String} {af:Array Edge} {g:Option (Nat×Bool)}
theorem Con.mk {N : Nat} {fn : Func} {c : Code} {k : FuncId} {args : List Value} {R : Hp → Value → Prop} (hf : P.funcs[k]? = some fn) (hb : fn.body = some c) (hn : fn.ntmps = N) (hname : (fn.name == "runtime.NumGoroutine") = false)
    (hsz:Nat.ble args.length N=true) (h:WP P ⟨N,[]⟩ c (Out P fn ⟨N,[]⟩ w H R) (init args) w):Con P k args w H R:=by
  refine ⟨fun w=>?_,?_⟩
  · simp only [callFunc,Sem.run_bind,run_program,Result.andThen_ok,hf,hname,hb]
    rfl
  · refine calls_of_wp hf hb ?_
    have hle:args.length≤N:=Nat.le_of_ble_eq_true hsz
    have e:({ tmps:=args.toArray++Array.replicate (fn.ntmps - args.toArray.size) undef,defers:=[] }:Act)=act ⟨N,[]⟩ (init args):=by
      simp only [act]
      congr 1
      apply Array.ext_getElem?
      intro t
      rw [zE6,hn,Array.getElem?_append]
      simp only [List.size_toArray,List.getElem?_toArray,init,List.getD_eq_getElem?_getD]
      by_cases h1:t<args.length
      · simp [h1,show t<N from by omega]
      · simp only [h1,if_false]
        rw [Array.getElem?_replicate]
        by_cases h2:t<N
        · rw [if_pos (by omega),if_pos h2,List.getElem?_eq_none (by omega)]; rfl
        · rw [if_neg (by omega),if_neg h2]
    rw [e]
    refine Code.wp_mono (fun e a w' ⟨f',ha,he,v,hv,H',hp,hr⟩=>?_) h
    subst ha
    rcases he with rfl | rfl
    · exact ⟨rfl,v,hv,v,H',rfl,hp,hr⟩
    · exact ⟨rfl,v,hv,v,H',rfl,hp,hr⟩
theorem W.call {k : FuncId} {xs : List Operand} {ats : Array TypeId} {args : List Value} {R : Hp → Value → Prop} (S : St w0 H0 w H L) (ha : xs.map (ev N f) = args) (C : Con P k args w H R)
    (K:∀ v w' H',H.le H'→St w0 H0 w' H' L→R H' v→WL P N ops rest Q (updo f od v) w'):WL P N ops (⟨od,.call ⟨.value (.func k),xs.toArray,ats⟩,ty,pos,af,none⟩ :: rest) Q f w:=by
  refine WL.enterw (w':=w) (k:=k) (args:=args.toArray) ?_ (Calls.mono C.2 fun e w' ⟨v,H',he,hp,hv⟩=>⟨v,he,K v w' H' hp.le (S.call hp) hv⟩)
  have:(execOp (ev N f) ⟨od,.call ⟨.value (.func k),xs.toArray,ats⟩,ty,pos,af,none⟩)=callFunc k (#[]++xs.toArray.map (ev N f)++#[]):=rfl
  rw [this]
  have e:(#[]++xs.toArray.map (ev N f)++#[])=args.toArray:=by simp [ha]
  rw [e]
  exact C.1 w
theorem W.callv {k : FuncId} {x : Operand} {xs : List Operand} {ats : Array TypeId} {args caps : List Value} {R : Hp → Value → Prop} (S : St w0 H0 w H L) (hx : ev N f x = .func (.func k) #[] caps.toArray) (ha : xs.map (ev N f) = args) (C : Con P k (args ++ caps) w H R)
    (K:∀ v w' H',H.le H'→St w0 H0 w' H' L→R H' v→WL P N ops rest Q (updo f od v) w'):WL P N ops (⟨od,.call ⟨.value x,xs.toArray,ats⟩,ty,pos,af,none⟩ :: rest) Q f w:=by
  refine WL.enterw (w':=w) (k:=k) (args:=(args++caps).toArray) ?_ (Calls.mono C.2 fun e w' ⟨v,H',he,hp,hv⟩=>⟨v,he,K v w' H' hp.le (S.call hp) hv⟩)
  have e:xs.toArray.map (ev N f)++caps.toArray=(args++caps).toArray:=by simp [ha]
  have:(execOp (ev N f) ⟨od,.call ⟨.value x,xs.toArray,ats⟩,ty,pos,af,none⟩).run P w=(callFunc k (#[]++xs.toArray.map (ev N f)++caps.toArray)).run P w:=by
    simp [execOp,resolve,hx,Deferred.ofValue,invoke]
  rw [this,Array.empty_append,e]
  exact C.1 w
theorem zL2 {fn:Func} {t:Nat} (hr:fn.results=#[.tmp t]) (tmps:Array Value):(results fn tmps).run P w=.ok (tmps.getD t undef) w:=by
  simp [results,hr]
theorem zMp (N:Frm) (f:Fr) (t:Nat):(tm N f).getD t undef=ev N f (.tmp t):=by
  have:=zHi N f (.tmp t)
  simpa [Act.eval,act] using this
def Res (P:Program) (N:Frm) (f:Fr) (w:World):ResultVar→Value→Prop
  | .tmp t,v=>ev N f (.tmp t)=v
  | .cell a t,v=>∃ b,ev N f (.tmp a)=.pointer (some b)∧(loadVar t b).run P w=.ok v w
def zIu (tmps:Array Value):ResultVar→Sem Value
  | .tmp t=>pure (tmps.getD t undef)
  | .cell a t=>do loadVar t (← asAddr (tmps.getD a undef))
theorem zCw (fn:Func) (tmps:Array Value):results fn tmps=(fn.results.mapM (zIu tmps) >>= fun vs=>(pure (if h:vs.size=1 then vs[0] else .tuple vs):Sem Value)):=by
  unfold results
  congr 1
theorem zAm {r:ResultVar} {v:Value} (h:Res P N f w r v):(zIu (tm N f) r).run P w=.ok v w:=by
  cases r with
  | tmp t =>
    have h':ev N f (.tmp t)=v:=h
    simp only [zIu,zMp,h']; rfl
  | cell a t =>
    obtain ⟨b,h1,h2⟩:=h
    simp only [zIu,zMp,h1,asAddr,Sem.run_bind,Sem.run_pure,Result.andThen_ok,h2]
theorem Out.one {fn:Func} {r:ResultVar} {v:Value} {R:Hp→Value→Prop} (hr:fn.results=#[r]) (S:St w0 H0 w H L) (h:Res P N f w r v) (hR:R H v):Out P fn N w0 H0 R .ret f w:=by
  refine ⟨.inl rfl,v,?_,H,S.post,hR⟩
  have:=zAm h
  rw [zCw,hr]
  simp only [List.mapM_toArray,List.mapM_cons,List.mapM_nil,Sem.run_bind,Sem.run_map,this,Result.andThen_ok,Sem.run_pure]
  rfl
theorem Out.two {fn:Func} {r1 r2:ResultVar} {v1 v2:Value} {R:Hp→Value→Prop} (hr:fn.results=#[r1,r2]) (S:St w0 H0 w H L) (h1:Res P N f w r1 v1) (h2:Res P N f w r2 v2) (hR:R H (.tuple ⟨[v1,v2]⟩)):Out P fn N w0 H0 R .ret f w:=by
  refine ⟨.inl rfl,_,?_,H,S.post,hR⟩
  have h1:=zAm h1
  have h2:=zAm h2
  rw [zCw,hr]
  simp only [List.mapM_toArray,List.mapM_cons,List.mapM_nil,Sem.run_bind,Sem.run_map,h1,h2,Result.andThen_ok,Sem.run_pure]
  rfl
theorem Out.four {fn:Func} {r1 r2 r3 r4:ResultVar} {v1 v2 v3 v4:Value} {R:Hp→Value→Prop} (hr:fn.results=#[r1,r2,r3,r4]) (S:St w0 H0 w H L) (h1:Res P N f w r1 v1) (h2:Res P N f w r2 v2) (h3:Res P N f w r3 v3) (h4:Res P N f w r4 v4) (hR:R H (.tuple ⟨[v1,v2,v3,v4]⟩)):Out P fn N w0 H0 R .ret f w:=by
  refine ⟨.inl rfl,_,?_,H,S.post,hR⟩
  have h1:=zAm h1
  have h2:=zAm h2
  have h3:=zAm h3
  have h4:=zAm h4
  rw [zCw,hr]
  simp only [List.mapM_toArray,List.mapM_cons,List.mapM_nil,Sem.run_bind,Sem.run_map,h1,h2,h3,h4,Result.andThen_ok,Sem.run_pure]
  rfl
theorem Res.cellB {T T' a b i n:Nat} {bb:Bool} {cs:List Value} (S:St w0 H0 w H L) (hx:ev N f (.tmp a)=ptr b 0) (hi:L[i]?=some (.box b T' cs)) (hT:lay P T=some (true,n)) (hn:cs.length=n) (_hb:bb=true):Res P N f w (.cell a T) (agg cs):=by
  refine ⟨⟨b,0,none⟩,hx,?_⟩
  obtain ⟨h1,h2⟩:=zC7 (w:=w) hT
  have h3:=run_loadCells_list (P:=P) (w:=w) ⟨b,0,none⟩ cs (fun j v hj=>by rw [Addr.add_lit]; exact (S.boxOk hi).cell (by simpa using hj))
  rw [hn] at h3
  simp [loadVar,h1,h2,h3,agg]
theorem W.bslice {α : Type} [Enc α] {T e : TypeId} {n : Nat} {ps : List (Nat × Operand)} (vs : List Value) (xs : List α) (S : St w0 H0 w H L) (hE : Elem P T e (Enc.sz α))
    (hp:(ps.map fun p=>(p.1,ev N f p.2))=(vs.zipIdx.map fun x=>(x.2,x.1))) (hn:vs.length=n) (hx:xs.length=n) (hbig:n*Enc.sz α≤16777216)
    (hC:∀ (i:Nat) (v:Value) (x:α),vs[i]?=some v→xs[i]?=some x→v.cells.size=Enc.sz α∧Enc.cells H v.cells.toList x)
    (K:∀ u w' H',H.le H'→Sl H' u xs→St w0 H0 w' H' (.row u e (Enc.sz α) xs.length :: L)→WL P N ops rest Q (upd f d u) w'):WL P N ops (⟨some d,.buildSlice T n ps.toArray,ty,pos,af,none⟩ :: rest) Q f w:=by
  have hsz:=Enc.pos (α:=α)
  have hE':=hE
  obtain ⟨ht,inf,z,hinf,hz,hsize,hzs,hbytes⟩:=hE'
  have hvs:∀ v ∈ vs,v.cells.size=Enc.sz α:=by
    intro v hv
    obtain ⟨i,hi⟩:=List.mem_iff_getElem?.1 hv
    have hlt:i<xs.length:=by rw [hx,← hn]; exact (List.getElem?_eq_some_iff.1 hi).1
    exact (hC i v xs[i] hi (List.getElem?_eq_getElem hlt)).1
  generalize hzero:((Array.range (n*Enc.sz α)).map (z.cells[· % z.cells.size]!))=zs
  have hzsz:zs.size=(0+vs.length)*Enc.sz α:=by rw [← hzero]; simp [hn]
  obtain ⟨arr',hfill,harr⟩:=zMz (Enc.sz α) hsz vs 0 zs hvs hzsz
  have harr2:arr'.toList=vs.flatMap fun v=>v.cells.toList:=by simpa using harr
  have hCells:∀ (vs:List Value) (xs:List α),vs.length=xs.length→(∀ (i:Nat) (v:Value) (x:α),vs[i]?=some v→xs[i]?=some x→v.cells.size=Enc.sz α∧Enc.cells H v.cells.toList x)→Cells H (vs.flatMap fun v=>v.cells.toList) xs:=by
    intro vs
    induction vs with
    | nil=>intro xs hl _; cases xs with
      | nil=>rfl
      | cons _ _=>cases hl
    | cons v vs ih =>
      intro xs hl h
      cases xs with
      | nil=>cases hl
      | cons x xs =>
        exact ⟨_,_,rfl,(h 0 v x rfl rfl).2,ih xs (by simpa using hl) fun i v x hv hx=>h (i+1) v x (by simpa using hv) (by simpa using hx)⟩
  have hcells:=hCells vs xs (by rw [hn,hx]) hC
  have hclen:=hcells.length
  have harrs:arr'.size=n*Enc.sz α:=by rw [← Array.length_toList,harr2,hclen,hx]
  have S1:=S.box e arr' (0,0) arr'.toList [] (by simp) (by intro i _ h; exact Nat.not_lt_zero _ h.2)
  obtain ⟨H',hle,hHn,hHo,S2⟩:=S1.settle (i:=0) rfl
  simp only [List.eraseIdx_cons_zero] at S2
  have hmax:n≤maxLen:=by
    have:n*1≤n*Enc.sz α:=Nat.mul_le_mul_left _ hsz
    simp only [maxLen]; omega
  have hSl:Sl H' (.slice (some ⟨w.heap.size,0,none⟩) n n) xs :=
    ⟨some ⟨w.heap.size,0,none⟩,n,by rw [hx],by omega,hmax,.inr ⟨w.heap.size,0,arr'.toList,rfl,⟨e,_,rfl,hHn,[],by simp⟩,by rw [harr2]; exact hcells.mono hle⟩⟩
  have hrow:RowOk (w.alloc (.cells arr' e)) H' (.slice (some ⟨w.heap.size,0,none⟩) n n) e (Enc.sz α) xs.length :=
    .inr ⟨w.heap.size,n,arr',by rw [hx],heap_alloc_new w _,by omega,hmax,harrs,by rw [hHn,hx,List.take_of_length_le (by rw [Array.length_toList,harrs]; exact Nat.le_refl _)]⟩
  have S3:St w0 H0 (w.alloc (.cells arr' e)) H' (.row (.slice (some ⟨w.heap.size,0,none⟩) n n) e (Enc.sz α) xs.length :: L):=by
    refine ⟨S2.post,?_,?_,?_⟩
    · intro x hxm
      rcases List.mem_cons.1 hxm with rfl | hxm
      · exact hrow
      · exact S2.ents x hxm
    · intro x hxm b hb
      rcases List.mem_cons.1 hxm with rfl | hxm
      · simp [Ent.blk,Value.ownBlock] at hb; subst hb; exact S.post.below.size
      · exact S2.own x hxm b hb
    · have:(Ent.row (.slice (some ⟨w.heap.size,0,none⟩) n n) e (Enc.sz α) xs.length).blk=some w.heap.size:=rfl
      rw [List.filterMap_cons,this]
      exact List.nodup_cons.2 ⟨fun hm=>Nat.lt_irrefl _ (S.lt hm),S.nodup⟩
  refine WL.w (v:=.slice (some ⟨w.heap.size,0,none⟩) n n) (w':=w.alloc (.cells arr' e)) ?_ (K _ _ H' hle hSl S3)
  have hps:ps.toArray.map (fun x=>(x.1,ev N f x.2))=(vs.zipIdx.map fun x=>(x.2,x.1)).toArray:=by rw [List.map_toArray,hp]
  have hno:¬ (2 ^ 24<n*inf.size):=by rw [hsize]; omega
  have hz0:∀ (b:Bool),True:=fun _=>trivial
  by_cases h0:n*Enc.sz α=0
  · have hn0 : n = 0 := by
      rcases Nat.mul_eq_zero.1 h0 with h | h
      · exact h
      · omega
    subst hn0
    have hv0:vs=[]:=List.eq_nil_of_length_eq_zero hn
    subst hv0
    have ha0:arr'=#[]:=by
      apply Array.ext_getElem?
      intro i
      rw [Array.getElem?_eq_none (by rw [harrs]; omega)]
      simp
    subst ha0
    have hps0:ps=[]:=by
      cases ps with
      | nil=>rfl
      | cons _ _=>simp at hp
    subst hps0
    simp [execOp,Instr.buildSlice,run_underlying ht,sizeOf,typeInfo,hinf,newRow,Instr.fill]
    have e0:∀ g:Nat→Value,(Array.range 0).map g=#[]:=fun g=>Array.eq_empty_of_size_eq_zero (by simp)
    rw [e0]
  · have hmatch:(fun x:Nat×Operand=>match x with | (i,x)=>(i,ev N f x))=fun x=>(x.1,ev N f x.2):=by funext x; rfl
    simp only [execOp,Instr.buildSlice,hps,run_underlying ht,sizeOf,typeInfo,hinf,Sem.run_bind,run_program,Result.andThen_ok,Sem.run_pure,zeroValue,hsize]
    rw [if_neg (by omega)]
    simp only [h0,if_false,Sem.run_bind,run_program,hinf,hz,Result.andThen_ok,Sem.run_pure]
    rw [hzero,hfill]
    simp [newRow]
theorem W.bytes {T T' e : TypeId} {x : Operand} {s : Str} (S : St w0 H0 w H L) (hx : ev N f x = str s) (hs : P.underlying T = some .string) (hd : P.underlying T' = some (.slice e)) (he : P.underlying e = some (.int .u8))
    (K:∀ b c w',s.length≤c→St w0 H0 w' H (.box b e (s.map byt) :: L)→WL P N ops rest Q (upd f d (.slice (some ⟨b,0,none⟩) s.length c)) w'):WL P N ops (⟨some d,.convert T T' x,ty,pos,af,none⟩ :: rest) Q f w:=by
  have hr:=run_bytes_of_string (P:=P) w T T' e ⟨⟨s⟩⟩ hs hd he
  have hcap:=grownCap_ge w s.length 0 e
  have e1:(bytesRow ⟨⟨s⟩⟩ (grownCap w s.length 0 e)).toList=s.map byt++List.replicate (grownCap w s.length 0 e - s.length) (.int .u8 0):=by
    simp only [bytesRow,Array.toList_append,Array.toList_map,Array.toList_replicate,zFh]
    rfl
  have hlen:s.length≤(bytesRow ⟨⟨s⟩⟩ (grownCap w s.length 0 e)).size:=by rw [← Array.length_toList,e1]; simp
  have S1:=S.drew.box e (bytesRow ⟨⟨s⟩⟩ (grownCap w s.length 0 e)) ((bytesRow ⟨⟨s⟩⟩ (grownCap w s.length 0 e)).size,(bytesRow ⟨⟨s⟩⟩ (grownCap w s.length 0 e)).size+1) (s.map byt) _ e1 (by
    intro i hi h
    simp only [List.length_map] at hi
    have:=h.1
    simp only at this
    omega)
  refine WL.w (v:=.slice (some ⟨w.heap.size,0,none⟩) s.length (grownCap w s.length 0 e)) ?_ (K w.heap.size _ _ hcap S1)
  rw [show (Value.string ⟨⟨s⟩⟩)=ev N f x from hx.symm] at hr
  simp only [execOp,Sem.run_bind,hr]
  rfl
theorem R.idxB {T e : TypeId} {x i : Operand} {b n c : Nat} {m : Int} (hx : ev N f x = .slice (some ⟨b, 0, none⟩) n c) (hi : ev N f i = int m) (hE : Elem P T e 1) (h : 0 ≤ m ∧ m < n) :
    (execOp (ev N f) ⟨od,.indexAddr T x i,ty,pos,af,g⟩).run P w=.ok (.value (ptr b m.toNat)) w:=by
  obtain ⟨ht,inf,z,hinf,_,hsize,_⟩:=hE
  simp [execOp,Instr.indexAt,asIntOf,hx,hi,int,run_underlying ht,h,sizeOf,typeInfo,hinf,hsize,Addr.add_lit,ptr]
theorem zCI {s:Str} {m:Int} {c:UInt8} (h:xnth s m=some c):(s.map byt)[m.toNat]?=some (byt c)∧0≤m∧m<s.length:=by
  unfold xnth at h
  split at h
  · rename_i h0
    obtain ⟨hl,he⟩:=List.getElem?_eq_some_iff.1 h
    exact ⟨by rw [List.getElem?_map,h]; rfl,h0,by omega⟩
  · cases h
theorem zN6 (s:Str) (i:Nat) (c:UInt8) (h:i<s.length):zC9 (s.map byt) i [byt c]=(s.set i c).map byt:=by
  unfold zC9
  rw [List.map_set,List.set_eq_take_append_cons_drop,if_pos (by simpa using h)]
  simp
theorem zKU {H:Hp} (hw:Holds w H) {a:Addr} {s:Str} (hA:At H a (s.map byt)):(loadCells a s.length).run P w=.ok (s.map byt).toArray w:=by
  have:=run_loadCells_list (P:=P) (w:=w) a (s.map byt) (fun j v hj=>hA.cell hw hj)
  simpa using this
theorem zHR {a:Addr} {s:Str} {c:Nat} (h:(loadCells a s.length).run P w=.ok (s.map byt).toArray w):(Conv.bytesToString (.slice (some a) s.length c)).run P w=.ok (str s) w:=by
  have e:(s.map byt).toArray=((s.map fun c=>(c.toNat:Int)).map (Value.int .u8)).toArray:=by
    simp [byt]
  rw [e] at h
  have hr:=run_bytesToString (P:=P) w a s.length c (s.map fun c=>(c.toNat:Int)) h
  rw [hr]
  congr 1
  unfold str
  congr 1
  have key:∀ (l:Str) (r:ByteArray),(l.map fun c=>(c.toNat:Int)).foldl (fun r n=>r.push (UInt8.ofNat n.toNat)) r=⟨⟨r.data.toList++l⟩⟩:=by
    intro l
    induction l with
    | nil=>intro r; simp
    | cons c l ih =>
      intro r
      simp only [List.map_cons,List.foldl_cons]
      rw [ih]
      congr 1
      congr 1
      simp [ByteArray.push]
  exact (key s ByteArray.empty).trans (by simp [ByteArray.empty,ByteArray.emptyWithCapacity]; rfl)
theorem R.strB {T T' e : TypeId} {x : Operand} {b c i : Nat} {s : Str} (S : St w0 H0 w H L) (hx : ev N f x = .slice (some ⟨b, 0, none⟩) s.length c) (hi : L[i]? = some (.box b e (s.map byt))) (hs : P.underlying T = some (.slice e)) (hd : P.underlying T' = some .string) (he : P.underlying e = some (.int .u8)) :
    (execOp (ev N f) ⟨od,.convert T T' x,ty,pos,af,g⟩).run P w=.ok (.value (str s)) w:=by
  have h:(loadCells ⟨b,0,none⟩ s.length).run P w=.ok (s.map byt).toArray w:=by
    have:=run_loadCells_list (P:=P) (w:=w) ⟨b,0,none⟩ (s.map byt) (fun j v hj=>by rw [Addr.add_lit]; exact (S.boxOk hi).cell (by simpa using hj))
    simpa using this
  have:=zHR (c:=c) h
  simp [execOp,convert,hx,run_underlying hs,run_underlying hd,run_underlying he,this]
end
instance:Enc UInt8 where
  sz:=1
  cells _ cs x:=cs=[byt x]
  pos:=Nat.one_pos
  len h:=by rw [h]; rfl
  mono h _:=h
  one h v hv:=by rw [h] at hv; simp at hv; subst hv; rfl
instance:Enc Str where
  sz:=1
  cells _ cs x:=cs=[str x]
  pos:=Nat.one_pos
  len h:=by rw [h]; rfl
  mono h _:=h
  one h v hv:=by rw [h] at hv; simp at hv; subst hv; rfl
instance:Enc Int where
  sz:=1
  cells _ cs x:=cs=[int x]
  pos:=Nat.one_pos
  len h:=by rw [h]; rfl
  mono h _:=h
  one h v hv:=by rw [h] at hv; simp at hv; subst hv; rfl
instance:Enc Bool where
  sz:=1
  cells _ cs x:=cs=[boo x]
  pos:=Nat.one_pos
  len h:=by rw [h]; rfl
  mono h _:=h
  one h v hv:=by rw [h] at hv; simp at hv; subst hv; rfl
section
variable {P:Program} {N:Frm} {f:Fr} {w w0:World} {H0 H:Hp} {L:List Ent} {od:Option Nat} {ty:TypeId} {pos:String} {af:Array Edge} {g:Option (Nat×Bool)}
theorem Cells.bytes:∀ {xs:Str} {l:List Value},Cells (α:=UInt8) H l xs→l=xs.map byt
  | [],_,h=>h
  | x :: xs,_,⟨cs,r,e,hc,hr⟩=>by rw [e,show cs=[byt x] from hc,Cells.bytes hr]; rfl
theorem R.strL {T T' e : TypeId} {x : Operand} {v : Value} {s : Str} (S : St w0 H0 w H L) (hR : Sl (α := UInt8) H v s) (hx : ev N f x = v) (hs : P.underlying T = some (.slice e)) (hd : P.underlying T' = some .string) (he : P.underlying e = some (.int .u8)) :
    (execOp (ev N f) ⟨od,.convert T T' x,ty,pos,af,g⟩).run P w=.ok (.value (str s)) w:=by
  obtain ⟨a,c,rfl,h1,h2,h3⟩:=hR
  cases a with
  | none =>
    have:s=[]:=by
      rcases h3 with h3 | ⟨b,off,cs,ha,_⟩
      · exact h3
      · cases ha
    subst this
    simp [execOp,convert,hx,run_underlying hs,run_underlying hd,run_underlying he,Conv.bytesToString]
    rfl
  | some a =>
    have h:(loadCells a s.length).run P w=.ok (s.map byt).toArray w:=by
      rcases h3 with rfl | ⟨b,off,cs,ha,hat,hC⟩
      · rfl
      · simp at ha; subst ha
        rw [hC.bytes] at hat
        exact zKU S.holds hat
    have:=zHR (c:=c) h
    simp [execOp,convert,hx,run_underlying hs,run_underlying hd,run_underlying he,this]
end
instance (priority:=low) {α:Type} [Enc α]:Enc (List α) where
  sz:=1
  cells H cs x:=∃ v,cs=[v]∧Sl H v x
  pos:=Nat.one_pos
  len:=fun ⟨v,h,_⟩=>by rw [h]; rfl
  mono:=fun ⟨v,h,hs⟩ hl=>⟨v,h,hs.mono hl⟩
  one:=fun ⟨v,h,hs⟩ u hu=>by
    rw [h] at hu; simp at hu; subst hu
    obtain ⟨a,c,rfl,_⟩:=hs; rfl
end Go.Eng
