/- The engine, part 11: contracts out of the shelf; arrays that are cut; sets of bytes; slices written out, more. -/
import Derived.Test.YtmeemcjmhbgbdaaGreatDoorEng10
import Derived.Lib.AsciiSet
import Derived.Lib.Join
import Derived.Lib.Bytealg
import Derived.Lib.TrimByte
namespace Go.Eng
open Go Go.RowKit

/-! contracts out of the shelf -/
theorem enter_of {P : Program} {k : FuncId} {fn : Func} {c : Code} (hf : P.funcs[k]? = some fn) (hb : fn.body = some c) (hname : (fn.name == "runtime.NumGoroutine") = false) (args : Array Value) (w : World) : (callFunc k args).run P w = .ok (.enter k args) w := by
  simp only [callFunc, Sem.run_bind, run_program, Result.andThen_ok, hf, hname, hb]
  rfl
theorem Post.of_below {w w' : World} {H : Hp} (hw : Holds w H) (hb : Below w.heap.size w w') : Post w H w' H := by
  refine ⟨hb, Hp.le.refl _, fun _ _ => rfl, fun b T l h => ?_⟩
  obtain ⟨cs, fz, hc, hr⟩ := hw b T l h
  exact ⟨cs, fz, by rw [hb.block b (Array.getElem?_eq_some_iff.1 hc).1]; exact hc, hr⟩
theorem Con.of_calls {P : Program} {k : FuncId} {fn : Func} {c : Code} {args : List Value} {w : World} {H : Hp} {v : Value} (hf : P.funcs[k]? = some fn) (hb : fn.body = some c) (hname : (fn.name == "runtime.NumGoroutine") = false) (hw : Holds w H)
    (h : Calls P k args.toArray w fun e w' => e = .returned v ∧ Below w.heap.size w w') : Con P k args w H (fun _ u => u = v) :=
  ⟨enter_of hf hb hname _, Calls.mono h fun _ _ ⟨he, hp⟩ => ⟨v, H, he, Post.of_below hw hp, rfl⟩⟩
theorem Con.of_calls_same {P : Program} {k : FuncId} {fn : Func} {c : Code} {args : List Value} {w : World} {H : Hp} {v : Value} (hf : P.funcs[k]? = some fn) (hb : fn.body = some c) (hname : (fn.name == "runtime.NumGoroutine") = false) (hw : Holds w H)
    (h : Calls P k args.toArray w fun e w' => e = .returned v ∧ w' = w) : Con P k args w H (fun _ u => u = v) :=
  Con.of_calls hf hb hname hw (Calls.mono h fun _ _ ⟨he, hp⟩ => ⟨he, by subst hp; exact Below.refl _ _⟩)

/-! strings of a slice, cell by cell -/
theorem Cells.strs {H : Hp} : ∀ {xs : List Str} {l : List Value}, Cells (α := Str) H l xs → l = xs.map str
  | [], _, h => h
  | x :: xs, _, ⟨cs, r, e, hc, hr⟩ => by rw [e, show cs = [str x] from hc, Cells.strs hr]; rfl
theorem Cells.ints {H : Hp} : ∀ {xs : List Int}, Cells (α := Int) H (xs.map int) xs
  | [] => rfl
  | x :: xs => ⟨[int x], xs.map int, rfl, rfl, Cells.ints⟩

noncomputable def strings_makeASCIISet (cs : Str) : Option Unit := bif cs.all (fun c => decide (c < 128)) && decide (cs.length ≤ big / 128) then some () else none
noncomputable def strings_asciiSet_contains (cs : Str) (c : UInt8) : Option Bool := some (cs.contains c)

/-! a set of bytes -/
def setc (cs : Str) : List Value := (Lib.setCells cs).toList
theorem setc_len (cs : Str) : (setc cs).length = 256 := by
  have key : ∀ (l : Str) (a : Array Value), (l.foldl (fun a c => a.setIfInBounds c.toNat (.bool true)) a).size = a.size := by
    intro l
    induction l with
    | nil => intro a; rfl
    | cons x l ih => intro a; rw [List.foldl_cons, ih]; simp
  simp only [setc, Array.length_toList, Lib.setCells, key]
  simp
theorem setc_at (cs : Str) (x : UInt8) : (setc cs)[x.toNat]? = some (boo (cs.contains x)) := by
  have := Lib.setCells_at cs x
  simpa [setc, boo] using this
theorem setc_one (cs : Str) : (setc cs).all Value.oneCell' = true := by
  rw [List.all_eq_true]
  intro v hv
  obtain ⟨i, hi⟩ := List.mem_iff_getElem?.1 hv
  have hlt : i < 256 := by rw [← setc_len cs]; exact (List.getElem?_eq_some_iff.1 hi).1
  have := setc_at cs (UInt8.ofNat i)
  have e : (UInt8.ofNat i).toNat = i := by simp; omega
  rw [e, hi] at this
  simp at this
  subst this; rfl
theorem At.set {w : World} {H : Hp} {b : Nat} {cs : Str} (h : At H ⟨b, 0, none⟩ (setc cs)) (hw : Holds w H) (x : UInt8) : w.cell? ⟨b, x.toNat, none⟩ = some (.bool (cs.contains x)) := by
  have := h.cell hw (setc_at cs x)
  rwa [Addr.add_lit, Nat.zero_add] at this

section
variable {P : Program} {N : Nat} {f : Fr} {w w0 : World} {H0 H : Hp} {L : List Ent} {ops : Array Oper} {rest : List Oper} {Q : Fr → World → Prop} {d : Nat} {od : Option Nat} {ty : TypeId} {pos : String} {af : Array Edge} {g : Option (Nat × Bool)}
end

/-! slices written out: what each element's cells are -/
section
variable {α : Type} [Enc α] {H : Hp}
abbrev EncOk (H : Hp) (v : Value) (x : α) : Prop := v.cells.size = Enc.sz α ∧ Enc.cells H v.cells.toList x
theorem encS {v1 : Value} {x1 : α} {vs : List Value} {xs : List α} (h1 : EncOk H v1 x1) (h : ∀ (i : Nat) (v : Value) (x : α), vs[i]? = some v → xs[i]? = some x → v.cells.size = Enc.sz α ∧ Enc.cells H v.cells.toList x) :
    ∀ (i : Nat) (v : Value) (x : α), (v1 :: vs)[i]? = some v → (x1 :: xs)[i]? = some x → v.cells.size = Enc.sz α ∧ Enc.cells H v.cells.toList x := by
  intro i v x hv hx
  match i with
  | 0 => simp at hv hx; subst hv; subst hx; exact h1
  | n + 1 => exact h n v x (by simpa using hv) (by simpa using hx)
theorem enc0 : ∀ (i : Nat) (v : Value) (x : α), ([] : List Value)[i]? = some v → ([] : List α)[i]? = some x → v.cells.size = Enc.sz α ∧ Enc.cells H v.cells.toList x := by
  intro i v x hv; simp at hv
theorem Sl.oneC {v : Value} {xs : List α} (h : Sl H v xs) : v.oneCell' = true := by
  obtain ⟨a, c, rfl, _⟩ := h; rfl
end
/-- All are of one cell. -/
inductive AllOne : List Value → Prop
  | nil : AllOne []
  | cons {v : Value} {l : List Value} : v.oneCell' = true → AllOne l → AllOne (v :: l)
theorem AllOne.mem {l : List Value} (h : AllOne l) : ∀ v ∈ l, v.oneCell' = true := by
  induction h with
  | nil => intro v hv; cases hv
  | cons h1 _ ih =>
    intro v hv
    rcases List.mem_cons.1 hv with rfl | hv
    · exact h1
    · exact ih v hv
theorem AllOne.all {l : List Value} (h : AllOne l) : l.all Value.oneCell' = true := List.all_eq_true.2 h.mem

theorem mkSetCon {P : Program} {k : FuncId} {fn : Func} {c : Code} {w : World} {H : Hp} {s : Str} {T : TypeId} {r : Unit} (hf : P.funcs[k]? = some fn) (hb : fn.body = some c) (hname : (fn.name == "runtime.NumGoroutine") = false) (hw : Holds w H) (h : strings_makeASCIISet s = some r)
    (hc : ∀ (chars : ByteArray) (w : World), chars.size < 4294967281 → (∀ (j : Nat) b, chars.data.toList[j]? = some b → b.toNat < 128) →
      Calls P k #[.string chars] w fun e w' => e = .returned (.tuple #[.agg (Lib.setCells chars.data.toList), .bool true]) ∧ w' = w.alloc (.cells (Lib.setCells chars.data.toList) T)) :
    Con P k [str s] w H (fun _ u => u = .tuple ⟨[.agg (Lib.setCells s), boo true]⟩) := by
  unfold strings_makeASCIISet at h
  have hg : (s.all (fun c => decide (c < 128)) && decide (s.length ≤ big / 128)) = true := by
    cases hh : (s.all (fun c => decide (c < 128)) && decide (s.length ≤ big / 128)) with
    | true => rfl
    | false => rw [hh] at h; cases h
  simp only [Bool.and_eq_true, List.all_eq_true, decide_eq_true_eq] at hg
  have h1 : big / 128 < 4294967281 := by decide
  have hh := hc ⟨⟨s⟩⟩ w (by show s.length < _; exact Nat.lt_of_le_of_lt hg.2 h1) (fun j b hj => by
    have := hg.1 b (List.mem_of_getElem? hj)
    exact UInt8.lt_iff_toNat_lt.1 this)
  refine Con.of_calls hf hb hname hw (Calls.mono hh fun _ _ ⟨he, hp⟩ => ⟨he, ?_⟩)
  subst hp
  exact (Below.refl _ _).alloc (Nat.le_refl _) _
theorem inSetCon {P : Program} {k : FuncId} {fn : Func} {c : Code} {w : World} {H : Hp} {cs : Str} {b : Nat} {x : UInt8} {r : Bool} (hf : P.funcs[k]? = some fn) (hb : fn.body = some c) (hname : (fn.name == "runtime.NumGoroutine") = false) (hw : Holds w H)
    (hA : At H ⟨b, 0, none⟩ (setc cs)) (h : strings_asciiSet_contains cs x = some r)
    (hc : ∀ (b : Nat) (x : UInt8) (v : Bool) (w : World), w.cell? ⟨b, x.toNat, none⟩ = some (.bool v) → Calls P k #[.pointer (some ⟨b, 0, none⟩), .int .u8 x.toNat] w fun e w' => e = .returned (.bool v) ∧ w' = w) :
    Con P k [ptr b 0, byt x] w H (fun _ u => u = boo r) := by
  simp only [strings_asciiSet_contains, Option.some.injEq] at h
  subst h
  exact Con.of_calls_same hf hb hname hw (hc b x _ w (hA.set hw x))
theorem R.mkFunc {P : Program} {N : Nat} {f : Fr} {w : World} {od : Option Nat} {ty : TypeId} {pos : String} {af : Array Edge} {g : Option (Nat × Bool)} {k : FuncId} {xs : List Operand} {vs : List Value} (h : xs.map (ev N f) = vs) :
    (execOp (ev N f) ⟨od, .makeFunc (.func k) #[] xs.toArray, ty, pos, af, g⟩).run P w = .ok (.value (.func (.func k) #[] vs.toArray)) w := by
  subst h
  simp [execOp, Instr.makeFunc]
theorem splice_all {cs vs : List Value} (h : vs.length = cs.length) : splice cs 0 vs = vs := by
  simp [splice, h]
section
variable {P : Program} {N : Nat} {f : Fr} {w : World} {od : Option Nat} {ty : TypeId} {pos : String} {af : Array Edge} {g : Option (Nat × Bool)}
/-- An array written out. -/
theorem R.buildArr {T e n m : Nat} {bb : Bool} {ps : List (Nat × Operand)} {zs : List Value} (vs : List (Nat × Value)) (cs : List Value) (hT : P.underlying T = some (.array n e)) (he : lay P e = some (bb, m)) (hz : zer P T = some zs) (hv : (ps.map fun p => (p.1, ev N f p.2)) = vs)
    (hf : (Instr.fill (fun i => some (i * m, m)) zs.toArray vs) = some cs.toArray) : (execOp (ev N f) ⟨od, .build T ps.toArray, ty, pos, af, g⟩).run P w = .ok (.value (agg cs)) w := by
  obtain ⟨_, h2⟩ := run_isAgg (w := w) he
  unfold zer at hz
  cases hi : P.info? T with
  | none => rw [hi] at hz; cases hz
  | some i =>
    rw [hi] at hz
    cases hzz : i.zero with
    | none => simp [hzz] at hz
    | some z =>
      simp [hzz] at hz
      have hzs : z.cells = zs.toArray := by rw [← hz]
      have hvs : ps.toArray.map (fun x => (x.1, ev N f x.2)) = vs.toArray := by rw [List.map_toArray, hv]
      have hg : ∀ K : Array (Nat × Value), (Instr.build T K).run P w = (match Instr.fill (fun i => some (i * m, m)) z.cells K.toList with | some cells => .ok (.agg cells) w | none => (stuck "build: a part of the wrong size" : Sem Value).run P w) := by
        intro K
        simp only [Instr.build, zeroValue, typeInfo, Sem.run_bind, run_underlying hT, Result.andThen_ok, hi, hzz, h2, run_program, Sem.run_pure]
        cases Instr.fill (fun i => some (i * m, m)) z.cells K.toList <;> rfl
      have hm : (fun (x : Nat × Operand) => match x with | (i, x) => (i, ev N f x)) = fun x => (x.1, ev N f x.2) := by funext x; rfl
      have hl : vs.toArray.toList = vs := rfl
      simp only [execOp, Sem.run_bind, hg, hvs, hzs, hl, hf, Result.andThen_ok, Sem.run_pure, agg]
end
end Go.Eng
