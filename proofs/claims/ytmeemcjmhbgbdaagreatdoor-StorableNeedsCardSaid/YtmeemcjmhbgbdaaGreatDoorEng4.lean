/- The engine, part 4: what each operation yields. -/
import Derived.Test.YtmeemcjmhbgbdaaGreatDoorEng3
import Derived.Laws.IdiomStrings
import Derived.Lib.Strings
import Derived.IntWalk
namespace Go.Eng
open Go

/-- int's and int64's sums, as they wrap. -/
def wr (n : Int) : Int := IntKind.wrap .i64 n
theorem wr_eq {n : Int} (h : -9223372036854775808 ≤ n ∧ n ≤ 9223372036854775807) : wr n = n := by
  unfold wr; exact IntWalk.i64_in n ⟨by omega, by omega⟩
theorem beq8 (a b : UInt8) : ((a.toNat : Int) == (b.toNat : Int)) = (a == b) := by
  rw [Bool.eq_iff_iff, beq_iff_eq, beq_iff_eq]
  exact ⟨fun h => UInt8.toNat_inj.1 (by omega), fun h => by rw [h]⟩
/-- An int as a byte. -/
def toU8 (n : Int) : UInt8 := UInt8.ofNat (n % 256).toNat
theorem wrap_u8 (n : Int) : IntKind.wrap .u8 n = ((toU8 n).toNat : Int) := by
  unfold IntKind.wrap toU8
  simp only [IntKind.bits, IntKind.signed, Bool.false_and, Bool.false_eq_true, if_false]
  have h1 : (2 : Int) ^ 8 = 256 := by decide
  rw [h1, UInt8.toNat_ofNat']
  omega

section
variable {P : Program} {N : Nat} {f : Fr} {w : World} {d : Option Nat} {ty : TypeId} {pos : String} {af : Array Edge} {g : Option (Nat × Bool)}

theorem R.move {x : Operand} : (execOp (ev N f) ⟨d, .move x, ty, pos, af, g⟩).run P w = .ok (.value (ev N f x)) w := rfl
theorem R.assign {x : Operand} : (execOp (ev N f) ⟨d, .assign x, ty, pos, af, g⟩).run P w = .ok (.value (ev N f x)) w := rfl
theorem R.pick {c x y : Operand} {b : Bool} (hc : ev N f c = boo b) : (execOp (ev N f) ⟨d, .pick c x y, ty, pos, af, g⟩).run P w = .ok (.value (bif b then ev N f x else ev N f y)) w := by
  simp only [execOp, hc, boo, asBool]
  cases b <;> rfl

/-! ints -/
section
variable {x y : Operand} {a b : Int} {T T' : TypeId} (hx : ev N f x = int a) (hy : ev N f y = int b)
include hx hy
theorem R.add : (execOp (ev N f) ⟨d, .binOp .add T x y T', ty, pos, af, g⟩).run P w = .ok (.value (int (wr (a + b)))) w := by simp [execOp, eqGuard, hx, hy, int, binOp, Op.intArith, wr]
theorem R.sub : (execOp (ev N f) ⟨d, .binOp .sub T x y T', ty, pos, af, g⟩).run P w = .ok (.value (int (wr (a - b)))) w := by simp [execOp, eqGuard, hx, hy, int, binOp, Op.intArith, wr]
theorem R.mul : (execOp (ev N f) ⟨d, .binOp .mul T x y T', ty, pos, af, g⟩).run P w = .ok (.value (int (wr (a * b)))) w := by simp [execOp, eqGuard, hx, hy, int, binOp, Op.intArith, wr]
theorem R.quo (h0 : b ≠ 0) : (execOp (ev N f) ⟨d, .binOp .quo T x y T', ty, pos, af, g⟩).run P w = .ok (.value (int (wr (a.tdiv b)))) w := by simp [execOp, eqGuard, hx, hy, int, binOp, Op.intDiv, wr, h0]
theorem R.rem (h0 : b ≠ 0) : (execOp (ev N f) ⟨d, .binOp .rem T x y T', ty, pos, af, g⟩).run P w = .ok (.value (int (a.tmod b))) w := by simp [execOp, eqGuard, hx, hy, int, binOp, Op.intDiv, h0]
theorem R.lss : (execOp (ev N f) ⟨d, .binOp .lss T x y T', ty, pos, af, g⟩).run P w = .ok (.value (boo (decide (a < b)))) w := by simp [execOp, eqGuard, hx, hy, int, boo, binOp, Op.intCmp]
theorem R.leq : (execOp (ev N f) ⟨d, .binOp .leq T x y T', ty, pos, af, g⟩).run P w = .ok (.value (boo (decide (a ≤ b)))) w := by simp [execOp, eqGuard, hx, hy, int, boo, binOp, Op.intCmp]
theorem R.gtr : (execOp (ev N f) ⟨d, .binOp .gtr T x y T', ty, pos, af, g⟩).run P w = .ok (.value (boo (decide (b < a)))) w := by simp [execOp, eqGuard, hx, hy, int, boo, binOp, Op.intCmp]
theorem R.geq : (execOp (ev N f) ⟨d, .binOp .geq T x y T', ty, pos, af, g⟩).run P w = .ok (.value (boo (decide (b ≤ a)))) w := by simp [execOp, eqGuard, hx, hy, int, boo, binOp, Op.intCmp]
theorem R.eql : (execOp (ev N f) ⟨d, .binOp .eql T x y T', ty, pos, af, g⟩).run P w = .ok (.value (boo (a == b))) w := by simp [execOp, eqGuard, hx, hy, int, boo, binOp, Op.intCmp]
theorem R.neq : (execOp (ev N f) ⟨d, .binOp .neq T x y T', ty, pos, af, g⟩).run P w = .ok (.value (boo (a != b))) w := by simp [execOp, eqGuard, hx, hy, int, boo, binOp, Op.intCmp]
end
/-! bytes -/
section
variable {x y : Operand} {a b : UInt8} {T T' : TypeId} (hx : ev N f x = byt a) (hy : ev N f y = byt b)
include hx hy
theorem R.add8 : (execOp (ev N f) ⟨d, .binOp .add T x y T', ty, pos, af, g⟩).run P w = .ok (.value (byt (a + b))) w := by
  have : IntKind.wrap .u8 ((a.toNat : Int) + b.toNat) = ((a + b).toNat : Int) := by
    rw [wrap_u8, toU8, UInt8.toNat_add, UInt8.toNat_ofNat']; omega
  simp [execOp, eqGuard, hx, hy, byt, binOp, Op.intArith, this]
theorem R.sub8 : (execOp (ev N f) ⟨d, .binOp .sub T x y T', ty, pos, af, g⟩).run P w = .ok (.value (byt (a - b))) w := by
  have : IntKind.wrap .u8 ((a.toNat : Int) - b.toNat) = ((a - b).toNat : Int) := by
    have h1 := a.toNat_lt; have h2 := b.toNat_lt
    rw [wrap_u8, toU8, UInt8.toNat_sub, UInt8.toNat_ofNat']; omega
  simp [execOp, eqGuard, hx, hy, byt, binOp, Op.intArith, this]
theorem R.lss8 : (execOp (ev N f) ⟨d, .binOp .lss T x y T', ty, pos, af, g⟩).run P w = .ok (.value (boo (decide (a < b)))) w := by simp [execOp, eqGuard, hx, hy, byt, boo, binOp, Op.intCmp, UInt8.lt_iff_toNat_lt]
theorem R.leq8 : (execOp (ev N f) ⟨d, .binOp .leq T x y T', ty, pos, af, g⟩).run P w = .ok (.value (boo (decide (a ≤ b)))) w := by simp [execOp, eqGuard, hx, hy, byt, boo, binOp, Op.intCmp, UInt8.le_iff_toNat_le]
theorem R.gtr8 : (execOp (ev N f) ⟨d, .binOp .gtr T x y T', ty, pos, af, g⟩).run P w = .ok (.value (boo (decide (b < a)))) w := by simp [execOp, eqGuard, hx, hy, byt, boo, binOp, Op.intCmp, UInt8.lt_iff_toNat_lt]
theorem R.geq8 : (execOp (ev N f) ⟨d, .binOp .geq T x y T', ty, pos, af, g⟩).run P w = .ok (.value (boo (decide (b ≤ a)))) w := by simp [execOp, eqGuard, hx, hy, byt, boo, binOp, Op.intCmp, UInt8.le_iff_toNat_le]
theorem R.eql8 : (execOp (ev N f) ⟨d, .binOp .eql T x y T', ty, pos, af, g⟩).run P w = .ok (.value (boo (a == b))) w := by simp [execOp, eqGuard, hx, hy, byt, boo, binOp, Op.intCmp, beq8]
theorem R.neq8 : (execOp (ev N f) ⟨d, .binOp .neq T x y T', ty, pos, af, g⟩).run P w = .ok (.value (boo (a != b))) w := by simp [execOp, eqGuard, hx, hy, byt, boo, binOp, Op.intCmp, beq8, bne]
end
/-! bools -/
theorem R.not {x : Operand} {b : Bool} {T : TypeId} (hx : ev N f x = boo b) : (execOp (ev N f) ⟨d, .unOp .not T x, ty, pos, af, g⟩).run P w = .ok (.value (boo (!b))) w := by
  cases b <;> simp [execOp, hx, boo, Op.unary]
section
variable {x y : Operand} {a b : Bool} {T T' : TypeId} (hx : ev N f x = boo a) (hy : ev N f y = boo b) (hT : P.underlying T = some .bool)
include hx hy hT
end
theorem size_str (l : Str) : (⟨⟨l⟩⟩ : ByteArray).size = l.length := rfl
section
variable {x y : Operand} {a b : Str} {T T' : TypeId} (hx : ev N f x = str a) (hy : ev N f y = str b)
include hx hy
theorem R.eqlS : (execOp (ev N f) ⟨d, .binOp .eql T x y T', ty, pos, af, g⟩).run P w = .ok (.value (boo (a == b))) w := by simp [execOp, eqGuard, hx, hy, str, boo, binOp, Op.stringOp]
theorem R.neqS : (execOp (ev N f) ⟨d, .binOp .neq T x y T', ty, pos, af, g⟩).run P w = .ok (.value (boo (a != b))) w := by simp [execOp, eqGuard, hx, hy, str, boo, binOp, Op.stringOp, bne]
end
theorem R.lenS {x : Operand} {a : Str} {T : TypeId} (hx : ev N f x = str a) (hT : P.underlying T = some .string) :
    (execOp (ev N f) ⟨d, .call ⟨.builtin .len, #[x], #[T]⟩, ty, pos, af, g⟩).run P w = .ok (.value (int a.length)) w := by
  simp [execOp, resolve, invoke, builtin, Builtin.len_, hx, str, int, run_underlying hT, goInt, size_str]
theorem R.lenV {x : Operand} {q : Option Addr} {n c : Nat} {T e : TypeId} (hx : ev N f x = .slice q n c) (hT : P.underlying T = some (.slice e)) :
    (execOp (ev N f) ⟨d, .call ⟨.builtin .len, #[x], #[T]⟩, ty, pos, af, g⟩).run P w = .ok (.value (int n)) w := by
  simp [execOp, resolve, invoke, builtin, Builtin.len_, hx, int, run_underlying hT, goInt]
theorem R.lenL {α : Type} [Enc α] {x : Operand} {v : Value} {xs : List α} {H : Hp} {T e : TypeId} (R : Sl H v xs) (hx : ev N f x = v) (hT : P.underlying T = some (.slice e)) :
    (execOp (ev N f) ⟨d, .call ⟨.builtin .len, #[x], #[T]⟩, ty, pos, af, g⟩).run P w = .ok (.value (int xs.length)) w := by
  obtain ⟨q, c, rfl, _⟩ := R
  exact R.lenV hx hT
theorem R.min {x y : Operand} {a b : Int} {ts : Array TypeId} (hx : ev N f x = int a) (hy : ev N f y = int b) :
    (execOp (ev N f) ⟨d, .call ⟨.builtin .min, #[x, y], ts⟩, ty, pos, af, g⟩).run P w = .ok (.value (int (if b < a then b else a))) w := by
  simp [execOp, resolve, invoke, builtin, Builtin.min_, Builtin.min2, hx, hy, int]
theorem R.max {x y : Operand} {a b : Int} {ts : Array TypeId} (hx : ev N f x = int a) (hy : ev N f y = int b) :
    (execOp (ev N f) ⟨d, .call ⟨.builtin .max, #[x, y], ts⟩, ty, pos, af, g⟩).run P w = .ok (.value (int (if a < b then b else a))) w := by
  simp [execOp, resolve, invoke, builtin, Builtin.max_, Builtin.max2, hx, hy, int]
theorem R.idxS {x i : Operand} {a : Str} {n : Int} {c : UInt8} {T : TypeId} (hx : ev N f x = str a) (hi : ev N f i = int n) (hT : P.underlying T = some .string) (h : xnth a n = some c) :
    (execOp (ev N f) ⟨d, .index T x i, ty, pos, af, g⟩).run P w = .ok (.value (byt c)) w := by
  unfold xnth at h
  split at h
  · rename_i h0
    have e : (⟨⟨a⟩⟩ : ByteArray)[n.toNat]? = some c := by
      obtain ⟨hl, he⟩ := List.getElem?_eq_some_iff.1 h
      have : n.toNat < (⟨⟨a⟩⟩ : ByteArray).size := hl
      rw [getElem?_pos (⟨⟨a⟩⟩ : ByteArray) n.toNat this]
      simp only [Option.some.injEq]
      exact he
    simp [execOp, Instr.index, asIntOf, hx, hi, str, int, byt, run_underlying hT, h0, e]
  · cases h
theorem R.subS {x i j : Operand} {a b : Str} {n m : Int} {T : TypeId} (hx : ev N f x = str a) (hi : ev N f i = int n) (hj : ev N f j = int m) (hT : P.underlying T = some .string) (h : xsub a n m = some b) :
    (execOp (ev N f) ⟨d, .slice T x (some i) (some j) none, ty, pos, af, g⟩).run P w = .ok (.value (str b)) w := by
  unfold xsub at h
  split at h
  · rename_i h0
    simp only [Option.some.injEq] at h
    subst h
    have e : (⟨⟨a⟩⟩ : ByteArray).extract n.toNat m.toNat = ⟨⟨(a.take m.toNat).drop n.toNat⟩⟩ := by
      rw [Lib.extract_eq]
      congr 1
      simp only [List.drop_take]
    have hj : 0 ≤ m ∧ m ≤ (a.length : Int) := ⟨by omega, h0.2.2⟩
    have hk : 0 ≤ n ∧ n ≤ ((m.toNat : Nat) : Int) := ⟨h0.1, by omega⟩
    have hl : n ≤ m ∨ n ≤ 0 := .inl h0.2.1
    simp [execOp, Instr.sliceAt, Instr.slice, Instr.sliceBounds, Instr.sliceBound, asIntOf, *, str, int, run_underlying hT, size_str]
    intro hc; omega
  · cases h
theorem R.subSlo {x i : Operand} {a b : Str} {n : Int} {T : TypeId} (hx : ev N f x = str a) (hi : ev N f i = int n) (hT : P.underlying T = some .string) (h : xsub a n a.length = some b) :
    (execOp (ev N f) ⟨d, .slice T x (some i) none none, ty, pos, af, g⟩).run P w = .ok (.value (str b)) w := by
  unfold xsub at h
  split at h
  · rename_i h0
    simp only [Option.some.injEq] at h
    subst h
    have e : (⟨⟨a⟩⟩ : ByteArray).extract n.toNat a.length = ⟨⟨(a.take (a.length : Int).toNat).drop n.toNat⟩⟩ := by
      rw [Lib.extract_eq]
      congr 1
      simp only [List.drop_take, Int.toNat_natCast]
    simp [execOp, Instr.sliceAt, Instr.slice, Instr.sliceBounds, Instr.sliceBound, asIntOf, *, str, int, run_underlying hT, size_str]
  · cases h
theorem R.subShi {x j : Operand} {a b : Str} {m : Int} {T : TypeId} (hx : ev N f x = str a) (hj : ev N f j = int m) (hT : P.underlying T = some .string) (h : xsub a 0 m = some b) :
    (execOp (ev N f) ⟨d, .slice T x none (some j) none, ty, pos, af, g⟩).run P w = .ok (.value (str b)) w := by
  unfold xsub at h
  split at h
  · rename_i h0
    simp only [Option.some.injEq] at h
    subst h
    have e : (⟨⟨a⟩⟩ : ByteArray).extract 0 m.toNat = ⟨⟨(a.take m.toNat).drop (0 : Int).toNat⟩⟩ := by
      rw [Lib.extract_eq]
      congr 1
    have hj : 0 ≤ m ∧ m ≤ (a.length : Int) := ⟨by omega, h0.2.2⟩
    simp [execOp, Instr.sliceAt, Instr.slice, Instr.sliceBounds, Instr.sliceBound, asIntOf, *, str, int, run_underlying hT, size_str]
  · cases h
/-! conversions -/
theorem R.i64of8 {x : Operand} {a : UInt8} {T T' : TypeId} {u : TypeDesc} (hx : ev N f x = byt a) (hT : P.underlying T = some u) (hT' : P.underlying T' = some (.int .i64)) :
    (execOp (ev N f) ⟨d, .convert T T' x, ty, pos, af, g⟩).run P w = .ok (.value (int a.toNat)) w := by
  have : IntKind.wrap .i64 (a.toNat : Int) = a.toNat := wr_eq (by have := a.toNat_lt; omega)
  simp [execOp, convert, hx, byt, int, run_underlying hT, run_underlying hT', Conv.intToInt, this]
theorem R.ext {x : Operand} {vs : List Value} {i : Nat} {v : Value} (hx : ev N f x = .tuple ⟨vs⟩) (h : vs[i]? = some v) : (execOp (ev N f) ⟨d, .extract x i, ty, pos, af, g⟩).run P w = .ok (.value v) w := by
  have : (⟨vs⟩ : Array Value)[i]? = some v := by simpa using h
  simp [execOp, Instr.extract, hx, this]
end
end Go.Eng
