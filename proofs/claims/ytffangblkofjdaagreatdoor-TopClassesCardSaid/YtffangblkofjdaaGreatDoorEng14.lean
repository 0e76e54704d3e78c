/- A part. -/
import Derived.Test.YtffangblkofjdaaGreatDoorEng10
import Derived.Lib.AsciiSet
import Derived.Lib.Join
import Derived.Lib.Bytealg
import Derived.Lib.TrimByte
import Derived.StillTail
import Derived.Maps.Keyed
set_option linter.unusedVariables false
namespace Go.Eng
open Go Go.RowKit
theorem zFQ {P:Program} {k:FuncId} {fn:Func} {c:Code} (hf:P.funcs[k]?=some fn) (hb:fn.body=some c) (hname:(fn.name== "runtime.NumGoroutine")=false) (args:Array Value) (w:World):(callFunc k args).run P w=.ok (.enter k args) w:=by
  simp only [callFunc,Sem.run_bind,run_program,Result.andThen_ok,hf,hname,hb]
  rfl
theorem Post.of_below {w w':World} {H:Hp} (hw:Holds w H) (hb:Below w.heap.size w w'):Post w H w' H:=by
  refine ⟨hb,Hp.le.refl _,fun _ _=>rfl,fun b T l h=>?_⟩
  obtain ⟨cs,fz,hc,hr⟩:=hw b T l h
  exact ⟨cs,fz,by rw [hb.block b (Array.getElem?_eq_some_iff.1 hc).1]; exact hc,hr⟩
theorem Con.of_calls {P : Program} {k : FuncId} {fn : Func} {c : Code} {args : List Value} {w : World} {H : Hp} {v : Value} (hf : P.funcs[k]? = some fn) (hb : fn.body = some c) (hname : (fn.name == "runtime.NumGoroutine") = false) (hw : Holds w H)
    (h:Calls P k args.toArray w fun e w'=>e=.returned v∧Below w.heap.size w w'):Con P k args w H (fun _ u=>u=v) :=
  ⟨zFQ hf hb hname _,Calls.mono h fun _ _ ⟨he,hp⟩=>⟨v,H,he,Post.of_below hw hp,rfl⟩⟩
theorem Con.of_calls_same {P : Program} {k : FuncId} {fn : Func} {c : Code} {args : List Value} {w : World} {H : Hp} {v : Value} (hf : P.funcs[k]? = some fn) (hb : fn.body = some c) (hname : (fn.name == "runtime.NumGoroutine") = false) (hw : Holds w H)
    (h:Calls P k args.toArray w fun e w'=>e=.returned v∧w'=w):Con P k args w H (fun _ u=>u=v) :=
  Con.of_calls hf hb hname hw (Calls.mono h fun _ _ ⟨he,hp⟩=>⟨he,by subst hp; exact Below.refl _ _⟩)
theorem Cells.strs {H:Hp}:∀ {xs:List Str} {l:List Value},Cells (α:=Str) H l xs→l=xs.map str
  | [],_,h=>h
  | x :: xs,_,⟨cs,r,e,hc,hr⟩=>by rw [e,show cs=[str x] from hc,Cells.strs hr]; rfl
theorem Cells.ints {H:Hp}:∀ {xs:List Int},Cells (α:=Int) H (xs.map int) xs
  | []=>rfl
  | x :: xs=>⟨[int x],xs.map int,rfl,rfl,Cells.ints⟩
def jo (l:List Str) (sep:Str):Str:=Lib.join l sep
def strings_Join (l:List Str) (sep:Str):Option Str:=if (jo l sep).length≤big∧l.length≤big then some (jo l sep) else none
def strings_IndexByte (s:Str) (c:UInt8):Option Int:=some (Lib.indexByte s c)
def strings_makeASCIISet (cs:Str):Option Unit:=bif cs.all (fun c=>decide (c<128))&&decide (cs.length≤big / 128) then some () else none
def zAX (cs:Str) (c:UInt8):Option Bool:=some (cs.contains c)
def setc (cs:Str):List Value:=(Lib.setCells cs).toList
theorem zEe (cs:Str):(setc cs).length=256:=by
  have key:∀ (l:Str) (a:Array Value),(l.foldl (fun a c=>a.setIfInBounds c.toNat (.bool true)) a).size=a.size:=by
    intro l
    induction l with
    | nil=>intro a; rfl
    | cons x l ih=>intro a; rw [List.foldl_cons,ih]; simp
  simp only [setc,Array.length_toList,Lib.setCells,key]
  simp
theorem zPA (cs:Str) (x:UInt8):(setc cs)[x.toNat]?=some (boo (cs.contains x)):=by
  have:=Lib.setCells_at cs x
  simpa [setc,boo] using this
theorem zM9 (cs:Str):(setc cs).all Value.oneCell'=true:=by
  rw [List.all_eq_true]
  intro v hv
  obtain ⟨i,hi⟩:=List.mem_iff_getElem?.1 hv
  have hlt:i<256:=by rw [← zEe cs]; exact (List.getElem?_eq_some_iff.1 hi).1
  have:=zPA cs (UInt8.ofNat i)
  have e:(UInt8.ofNat i).toNat=i:=by simp; omega
  rw [e,hi] at this
  simp at this
  subst this; rfl
theorem At.set {w:World} {H:Hp} {b:Nat} {cs:Str} (h:At H ⟨b,0,none⟩ (setc cs)) (hw:Holds w H) (x:UInt8):w.cell? ⟨b,x.toNat,none⟩=some (.bool (cs.contains x)):=by
  have:=h.cell hw (zPA cs x)
  rwa [Addr.add_lit,Nat.zero_add] at this
section
variable {P:Program} {N:Frm} {f:Fr} {w w0:World} {H0 H:Hp} {L:List Ent} {ops:Array Oper} {rest:List Oper} {Q:Fr→World→Prop} {d:Nat} {od:Option Nat} {ty:TypeId} {pos:String} {af:Array Edge} {g:Option (Nat×Bool)}
theorem W.arrHi {α : Type} [Enc α] {T e n : Nat} {x j : Operand} {b : Nat} {cs : List Value} {xs ys : List α} {m : Int} (hA : At H ⟨b, 0, none⟩ cs) (hC : Cells H cs xs) (hx : ev N f x = ptr b 0) (hj : ev N f j = int m)
    (hT:P.underlying T=some (.array n e)) (hE:∃ i,P.info? e=some i) (hn:xs.length=n) (hsz:n≤maxLen) (h:xsub xs 0 m=some ys)
    (k:∀ v',Sl H v' ys→WL P N ops rest Q (upd f d v') w):WL P N ops (⟨some d,.slice T x none (some j) none,ty,pos,af,none⟩ :: rest) Q f w:=by
  have h':=h
  unfold xsub at h'
  split at h'
  case isFalse=>cases h'
  rename_i h0
  simp only [Option.some.injEq] at h'
  obtain ⟨inf,hinf⟩:=hE
  have hS:Sl H (.slice (some ⟨b,0,none⟩) xs.length n) xs:=by
    refine ⟨some ⟨b,0,none⟩,n,rfl,by omega,hsz,.inr ⟨b,0,cs,rfl,hA,hC⟩⟩
  have hs:=Sl.sub hS h
  refine WL.w (v:=.slice (if n=(0:Int).toNat then some ⟨b,0,none⟩ else (some (⟨b,0,none⟩:Addr)).map (·.add ((0:Int).toNat*Enc.sz α))) (m.toNat - (0:Int).toNat) (n - (0:Int).toNat)) (w':=w) ?_ (k _ hs)
  have g1:0≤m∧m≤(n:Int):=⟨by omega,by omega⟩
  simp [execOp,Instr.sliceAt,Instr.sureAddr,Instr.sliceBounds,Instr.sliceBound,asIntOf,hx,hj,int,ptr,run_underlying hT,g1,sizeOf,typeInfo,hinf]
  split <;> rfl
end
section
variable {α:Type} [Enc α] {H:Hp}
abbrev EncOk (H:Hp) (v:Value) (x:α):Prop:=v.cells.size=Enc.sz α∧Enc.cells H v.cells.toList x
theorem enc1 {v1:Value} {x1:α} (h1:EncOk H v1 x1):∀ (i:Nat) (v:Value) (x:α),[v1][i]?=some v→[x1][i]?=some x→v.cells.size=Enc.sz α∧Enc.cells H v.cells.toList x:=by
  intro i v x hv hx
  match i with
  | 0=>simp at hv hx; subst hv; subst hx; exact h1
  | n+1=>simp at hv
theorem encS {v1 : Value} {x1 : α} {vs : List Value} {xs : List α} (h1 : EncOk H v1 x1) (h : ∀ (i : Nat) (v : Value) (x : α), vs[i]? = some v → xs[i]? = some x → v.cells.size = Enc.sz α ∧ Enc.cells H v.cells.toList x) :
    ∀ (i:Nat) (v:Value) (x:α),(v1 :: vs)[i]?=some v→(x1 :: xs)[i]?=some x→v.cells.size=Enc.sz α∧Enc.cells H v.cells.toList x:=by
  intro i v x hv hx
  match i with
  | 0=>simp at hv hx; subst hv; subst hx; exact h1
  | n+1=>exact h n v x (by simpa using hv) (by simpa using hx)
theorem enc0:∀ (i:Nat) (v:Value) (x:α),([]:List Value)[i]?=some v→([]:List α)[i]?=some x→v.cells.size=Enc.sz α∧Enc.cells H v.cells.toList x:=by
  intro i v x hv; simp at hv
theorem Sl.oneC {v:Value} {xs:List α} (h:Sl H v xs):v.oneCell'=true:=by
  obtain ⟨a,c,rfl,_⟩:=h; rfl
theorem Sl.cellsOne {v:Value} {xs:List α} (h:Sl H v xs):v.cells=#[v]:=by
  obtain ⟨a,c,rfl,_⟩:=h; rfl
end
inductive AllOne:List Value→Prop
  | nil:AllOne []
  | cons {v:Value} {l:List Value}:v.oneCell'=true→AllOne l→AllOne (v :: l)
theorem AllOne.mem {l:List Value} (h:AllOne l):∀ v ∈ l,v.oneCell'=true:=by
  induction h with
  | nil=>intro v hv; cases hv
  | cons h1 _ ih =>
    intro v hv
    rcases List.mem_cons.1 hv with rfl | hv
    · exact h1
    · exact ih v hv
theorem AllOne.all {l:List Value} (h:AllOne l):l.all Value.oneCell'=true:=List.all_eq_true.2 h.mem
theorem zOc (c:UInt8):((c.toNat:Int)).toNat.toUInt8=c:=by simp
theorem zRg {P : Program} {k : FuncId} {fn : Func} {c : Code} {w : World} {H : Hp} {l : List Str} {sep r : Str} {v : Value} (hf : P.funcs[k]? = some fn) (hb : fn.body = some c) (hname : (fn.name == "runtime.NumGoroutine") = false) (hw : Holds w H)
    (R:Sl (α:=Str) H v l) (h:strings_Join l sep=some r)
    (hnone:∀ (a:Option Addr) (c:Nat) (sep:ByteArray) (w:World),Calls P k #[.slice a 0 c,.string sep] w fun e w'=>e=.returned (.string ⟨#[]⟩)∧w'=w)
    (hsome:∀ (bk o c:Nat) (xs:List ByteArray) (sep:ByteArray) (w:World),(∀ (j:Nat) x,xs[j]?=some x→w.cell? ⟨bk,o+j,none⟩=some (.string x))→bk<w.heap.size→xs.length≤140737488355328→xs.length≤c →
      (Lib.join (xs.map (·.data.toList)) sep.data.toList).length≤140737488355328 →
      Calls P k #[.slice (some ⟨bk,o,none⟩) xs.length c,.string sep] w fun e w'=>e=.returned (.string ⟨(Lib.join (xs.map (·.data.toList)) sep.data.toList).toArray⟩)∧Below w.heap.size w w') :
    Con P k [v,str sep] w H (fun _ u=>u=str r):=by
  unfold strings_Join at h
  split at h
  case isFalse=>cases h
  rename_i hbig
  simp only [Option.some.injEq] at h
  subst h
  obtain ⟨a,cp,rfl,h1,h2,h3⟩:=R
  rcases h3 with rfl | ⟨b,off,cs,rfl,hat,hC⟩
  · exact Con.of_calls_same hf hb hname hw (hnone a cp ⟨⟨sep⟩⟩ w)
  · have hcs:=hC.strs
    subst hcs
    by_cases hl:l=[]
    · subst hl
      exact Con.of_calls_same hf hb hname hw (hnone _ cp ⟨⟨sep⟩⟩ w)
    · have hm:(l.map fun x=>(⟨⟨x⟩⟩:ByteArray)).map (·.data.toList)=l:=by simp [Function.comp_def]
      have hlt:b<w.heap.size:=by
        obtain ⟨T,l',_,hH,_⟩:=hat
        obtain ⟨_,_,hc,_⟩:=hw _ _ _ hH
        exact (Array.getElem?_eq_some_iff.1 hc).1
      have hbg:big≤140737488355328:=by decide
      have hh:=hsome b off cp (l.map fun x=>(⟨⟨x⟩⟩:ByteArray)) ⟨⟨sep⟩⟩ w (fun j x hx=>by
        rw [List.getElem?_map] at hx
        obtain ⟨y,hy,rfl⟩:=Option.map_eq_some_iff.1 hx
        have:=hat.cell hw (j:=j) (v:=str y) (by rw [List.getElem?_map,hy]; rfl)
        rwa [Addr.add_lit] at this) hlt (by simp; omega) (by simpa using h1) (by rw [hm]; exact Nat.le_trans hbig.1 hbg)
      rw [hm] at hh
      refine Con.of_calls (v:=str (jo l sep)) hf hb hname hw ?_
      simpa [str,jo] using hh
theorem zP5 {P : Program} {k : FuncId} {fn : Func} {c : Code} {w : World} {H : Hp} {s : Str} {b : UInt8} {r : Int} (hf : P.funcs[k]? = some fn) (hb : fn.body = some c) (hname : (fn.name == "runtime.NumGoroutine") = false) (hw : Holds w H) (h : strings_IndexByte s b = some r)
    (hc:∀ (s:ByteArray) (c:Int) (w:World),Calls P k #[.string s,.int .u8 c] w fun e w'=>e=.returned (.int .i64 (Lib.indexByte s.data.toList c.toNat.toUInt8))∧w'=w) :
    Con P k [str s,byt b] w H (fun _ u=>u=int r):=by
  simp only [strings_IndexByte,Option.some.injEq] at h
  subst h
  have:=hc ⟨⟨s⟩⟩ (b.toNat:Int) w
  rw [zOc] at this
  exact Con.of_calls_same hf hb hname hw this
theorem zQV {P : Program} {k : FuncId} {fn : Func} {c : Code} {w : World} {H : Hp} {s : Str} {T : TypeId} {r : Unit} (hf : P.funcs[k]? = some fn) (hb : fn.body = some c) (hname : (fn.name == "runtime.NumGoroutine") = false) (hw : Holds w H) (h : strings_makeASCIISet s = some r)
    (hc:∀ (chars:ByteArray) (w:World),chars.size<4294967281→(∀ (j:Nat) b,chars.data.toList[j]?=some b→b.toNat<128) →
      Calls P k #[.string chars] w fun e w'=>e=.returned (.tuple #[.agg (Lib.setCells chars.data.toList),.bool true])∧w'=w.alloc (.cells (Lib.setCells chars.data.toList) T)) :
    Con P k [str s] w H (fun _ u=>u=.tuple ⟨[.agg (Lib.setCells s),boo true]⟩):=by
  unfold strings_makeASCIISet at h
  have hg:(s.all (fun c=>decide (c<128))&&decide (s.length≤big / 128))=true:=by
    cases hh:(s.all (fun c=>decide (c<128))&&decide (s.length≤big / 128)) with
    | true=>rfl
    | false=>rw [hh] at h; cases h
  simp only [Bool.and_eq_true,List.all_eq_true,decide_eq_true_eq] at hg
  have h1:big / 128<4294967281:=by decide
  have hh:=hc ⟨⟨s⟩⟩ w (by show s.length<_; exact Nat.lt_of_le_of_lt hg.2 h1) (fun j b hj=>by
    have:=hg.1 b (List.mem_of_getElem? hj)
    exact UInt8.lt_iff_toNat_lt.1 this)
  refine Con.of_calls hf hb hname hw (Calls.mono hh fun _ _ ⟨he,hp⟩=>⟨he,?_⟩)
  subst hp
  exact (Below.refl _ _).alloc (Nat.le_refl _) _
theorem zQe {P : Program} {k : FuncId} {fn : Func} {c : Code} {w : World} {H : Hp} {cs : Str} {b : Nat} {x : UInt8} {r : Bool} (hf : P.funcs[k]? = some fn) (hb : fn.body = some c) (hname : (fn.name == "runtime.NumGoroutine") = false) (hw : Holds w H)
    (hA:At H ⟨b,0,none⟩ (setc cs)) (h:zAX cs x=some r)
    (hc:∀ (b:Nat) (x:UInt8) (v:Bool) (w:World),w.cell? ⟨b,x.toNat,none⟩=some (.bool v)→Calls P k #[.pointer (some ⟨b,0,none⟩),.int .u8 x.toNat] w fun e w'=>e=.returned (.bool v)∧w'=w) :
    Con P k [ptr b 0,byt x] w H (fun _ u=>u=boo r):=by
  simp only [zAX,Option.some.injEq] at h
  subst h
  exact Con.of_calls_same hf hb hname hw (hc b x _ w (hA.set hw x))
theorem R.mkFunc {P : Program} {N : Frm} {f : Fr} {w : World} {od : Option Nat} {ty : TypeId} {pos : String} {af : Array Edge} {g : Option (Nat × Bool)} {k : FuncId} {xs : List Operand} {vs : List Value} (h : xs.map (ev N f) = vs) :
    (execOp (ev N f) ⟨od,.makeFunc (.func k) #[] xs.toArray,ty,pos,af,g⟩).run P w=.ok (.value (.func (.func k) #[] vs.toArray)) w:=by
  subst h
  simp [execOp,Instr.makeFunc]
theorem zKM {cs vs:List Value} (h:vs.length=cs.length):zC9 cs 0 vs=vs:=by
  simp [zC9,h]
section
variable {P:Program} {N:Frm} {f:Fr} {w:World} {od:Option Nat} {ty:TypeId} {pos:String} {af:Array Edge} {g:Option (Nat×Bool)}
theorem R.buildArr {T e n m : Nat} {bb : Bool} {ps : List (Nat × Operand)} {zs : List Value} (vs : List (Nat × Value)) (cs : List Value) (hT : P.underlying T = some (.array n e)) (he : lay P e = some (bb, m)) (hz : zer P T = some zs) (hv : (ps.map fun p => (p.1, ev N f p.2)) = vs)
    (hf:(Instr.fill (fun i=>some (i*m,m)) zs.toArray vs)=some cs.toArray):(execOp (ev N f) ⟨od,.build T ps.toArray,ty,pos,af,g⟩).run P w=.ok (.value (agg cs)) w:=by
  obtain ⟨_,h2⟩:=zC7 (w:=w) he
  unfold zer at hz
  cases hi:P.info? T with
  | none=>rw [hi] at hz; cases hz
  | some i =>
    rw [hi] at hz
    cases hzz:i.zero with
    | none=>simp [hzz] at hz
    | some z =>
      simp [hzz] at hz
      have hzs:z.cells=zs.toArray:=by rw [← hz]
      have hvs:ps.toArray.map (fun x=>(x.1,ev N f x.2))=vs.toArray:=by rw [List.map_toArray,hv]
      have hg:∀ K:Array (Nat×Value),(Instr.build T K).run P w=(match Instr.fill (fun i=>some (i*m,m)) z.cells K.toList with | some cells=>.ok (.agg cells) w | none=>(stuck "build: a part of the wrong size" : Sem Value).run P w):=by
        intro K
        simp only [Instr.build,zeroValue,typeInfo,Sem.run_bind,run_underlying hT,Result.andThen_ok,hi,hzz,h2,run_program,Sem.run_pure]
        cases Instr.fill (fun i=>some (i*m,m)) z.cells K.toList <;> rfl
      have hm:(fun (x:Nat×Operand)=>match x with | (i,x)=>(i,ev N f x))=fun x=>(x.1,ev N f x.2):=by funext x; rfl
      simp only [execOp,Sem.run_bind,hg,hvs,hzs,hf,Result.andThen_ok,Sem.run_pure,agg]
end
end Go.Eng
namespace Go.Eng
open Go
theorem zQr {α β γ:Type} {o:Option (α×List β×γ)} (h:o.map (fun x=>x.2.1.isEmpty)=some true):∃ ds places,o=some (ds,[],places):=by
  cases o with
  | none=>cases h
  | some x =>
    obtain ⟨ds,gs,ps⟩:=x
    simp at h
    subst h
    exact ⟨ds,ps,rfl⟩
end Go.Eng
namespace Go.Eng
open Go
section
variable {w0 w:World} {H0 H:Hp} {L:List Ent}
theorem St.addNilV {v:Value} (hv:v=.slice none 0 0) (S:St w0 H0 w H L) (T:TypeId) (sz:Nat):St w0 H0 w H (.row v T sz 0 :: L):=by
  subst hv; exact S.addNil T sz
end
end Go.Eng
namespace Go.Eng
open Go Go.ChangeMaps
set_option linter.unusedVariables false
set_option linter.unusedSimpArgs false
section
variable {P:Program} {N:Frm} {f:Fr} {w w' w0:World} {H0 H:Hp} {L:List Ent} {ops:Array Oper} {rest:List Oper} {Q:Fr→World→Prop} {d:Nat} {od:Option Nat} {ty:TypeId} {pos:String} {af:Array Edge} {g:Option (Nat×Bool)}
theorem St.new (S:St w0 H0 w H L) (o:Obj) (e:Ent) (hb:e.blk=some w.heap.size) (hok:e.ok (w.alloc o) H):St w0 H0 (w.alloc o) H (e :: L):=by
  have hsz:w0.heap.size≤w.heap.size:=S.post.below.size
  have hold:∀ i,i<w.heap.size→(w.alloc o).heap[i]?=w.heap[i]?:=fun i hi=>RowKit.Below.heap_alloc w _ i hi
  refine ⟨⟨S.post.below.alloc hsz _,S.post.le,S.post.eqb,fun b T' l hbb=>?_⟩,?_,?_,?_⟩
  · obtain ⟨cs',fz',hc,hr'⟩:=S.holds b T' l hbb
    exact ⟨cs',fz',by rw [hold b (Array.getElem?_eq_some_iff.1 hc).1]; exact hc,hr'⟩
  · intro e' he
    rcases List.mem_cons.1 he with rfl | he
    · exact hok
    · exact Ent.ok_keep (S.ents e' he) fun b hb=>⟨hold b (Ent.ok_lt (S.ents e' he) hb),rfl⟩
  · intro e' he b hbb
    rcases List.mem_cons.1 he with rfl | he
    · rw [hb] at hbb; cases hbb; exact hsz
    · exact S.own e' he b hbb
  · rw [List.filterMap_cons,hb]
    exact List.nodup_cons.2 ⟨fun hm=>Nat.lt_irrefl _ (S.lt hm),S.nodup⟩
theorem St.renew (S : St w0 H0 w H L) {i b : Nat} {e e' : Ent} (hi : L[i]? = some e) (hb : e.blk = some b) (hb' : e'.blk = some b) (hH : H b = none)
    (hoth:∀ k,k≠b→w'.heap[k]?=w.heap[k]?) (hsz:w'.heap.size=w.heap.size) (hos:w'.os=w.os∧w'.tape=w.tape∧w'.output=w.output) (hok:e'.ok w' H):St w0 H0 w' H (L.set i e'):=by
  have hmem:=List.mem_of_getElem? hi
  have hown:w0.heap.size≤b:=S.own _ hmem b hb
  refine ⟨⟨S.post.below.trans ⟨hos.1,hos.2.1,hos.2.2,by omega,fun k hk=>hoth k (by omega)⟩,S.post.le,S.post.eqb,?_⟩,?_,?_,?_⟩
  · intro k T' l hk
    have hne:k≠b:=fun h=>by subst h; rw [hH] at hk; cases hk
    rw [hoth k hne]; exact S.holds k T' l hk
  · intro e2 he
    obtain ⟨j,hj⟩:=List.mem_iff_getElem?.1 he
    by_cases hij:i=j
    · subst hij
      have hlt:=(List.getElem?_eq_some_iff.1 hi).1
      rw [List.getElem?_set_self hlt] at hj
      simp at hj; subst hj
      exact hok
    · rw [List.getElem?_set_ne hij] at hj
      refine Ent.ok_keep (S.ents e2 (List.mem_of_getElem? hj)) fun k hk=>⟨hoth k ?_,rfl⟩
      exact S.blk_ne hj hi hk hb (Ne.symm hij)
  · intro e2 he k hk
    obtain ⟨j,hj⟩:=List.mem_iff_getElem?.1 he
    by_cases hij:i=j
    · subst hij
      have hlt:=(List.getElem?_eq_some_iff.1 hi).1
      rw [List.getElem?_set_self hlt] at hj
      simp at hj; subst hj
      rw [hb'] at hk; cases hk; exact hown
    · rw [List.getElem?_set_ne hij] at hj
      exact S.own e2 (List.mem_of_getElem? hj) k hk
  · rw [zCW (e':=e') hi (hb'.trans hb.symm)]; exact S.nodup
def mapv (b:Nat):Value:=.map (some b)
theorem St.mpOk (S:St w0 H0 w H L) {i b:Nat} {kvs:List (Value×Value)} (hi:L[i]?=some (.mp b kvs)):MpOk w H b kvs:=S.ents _ (List.mem_of_getElem? hi)
theorem W.makeMap {T:TypeId} (S:St w0 H0 w H L) (k:∀ b w',St w0 H0 w' H (.mp b [] :: L)→WL P N ops rest Q (upd f d (mapv b)) w'):WL P N ops (⟨some d,.makeMap T none,ty,pos,af,none⟩ :: rest) Q f w:=by
  refine WL.w (v:=mapv w.heap.size) (w':=w.alloc (.map #[] 0)) ?_ (k _ _ (S.new (.map #[] 0) (.mp w.heap.size []) rfl ⟨S.holds.none_of_size (Nat.le_refl _),#[],0,heap_alloc_new w _,rfl⟩))
  simp [execOp,Instr.makeMap,mapv]
def mget {β:Type} (m:List (Str×β)) (k:Str) (z:β):β×Bool:=match m.lookup k with | some v=>(v,true) | none=>(z,false)
def mset {β:Type}:List (Str×β)→Str→β→List (Str×β)
  | [],k,v=>[(k,v)]
  | p :: r,k,v=>if k==p.1 then (k,v) :: r else p :: mset r k v
def mdel {β:Type}:List (Str×β)→Str→List (Str×β)
  | [],_=>[]
  | p :: r,k=>if k==p.1 then r else p :: mdel r k
def encm {β:Type} (F:β→Value) (m:List (Str×β)):List (Value×Value):=m.map fun p=>(str p.1,F p.2)
theorem zIt (a b:Str):((⟨⟨a⟩⟩:ByteArray)==(⟨⟨b⟩⟩:ByteArray))=(a==b):=by
  show ((⟨a⟩:Array UInt8)==⟨b⟩)=_
  rw [Bool.eq_iff_iff,beq_iff_eq,beq_iff_eq]
  exact ⟨fun h=>by injection h,fun h=>by rw [h]⟩
theorem zEW {β : Type} (F : β → Value) (k : Str) : ∀ (m : List (Str × β)) (es : List MapEntry) (i : Nat), es.map (fun e => (e.key, e.val)) = encm F m →
    ∃ r,Instr.findNow .string (str k) es i=some r∧r.map (·.2)=(m.lookup k).map F∧(∀ j v,r=some (j,v)→i≤j∧j - i<es.length ∧
      ((es.modify (j - i) fun e=>{ e with key:=str k,val:=v })).map (fun e=>(e.key,e.val))=encm F m)
     ∧(∀ j v (u:β),r=some (j,v)→(es.modify (j - i) fun e=>{ e with key:=str k,val:=F u }).map (fun e=>(e.key,e.val))=encm F (mset m k u))
     ∧(r=none→∀ u,mset m k u=m++[(k,u)])
     ∧(∀ j v,r=some (j,v)→(es.eraseIdx (j - i)).map (fun e=>(e.key,e.val))=encm F (mdel m k))∧(r=none→mdel m k=m)∧(∀ j v,r=some (j,v)→(es[j - i]?).map (·.key)=some (str k)):=by
  intro m
  induction m with
  | nil =>
    intro es i h
    obtain rfl:es=[]:=by cases es with
      | nil=>rfl
      | cons _ _=>simp [encm] at h
    exact ⟨none,rfl,rfl,fun _ _ h=>by simp at h,fun _ _ _ h=>by simp at h,fun _ _=>rfl,fun _ _ h=>by simp at h,fun _=>rfl,fun _ _ h=>by simp at h⟩
  | cons p m ih =>
    intro es i h
    cases es with
    | nil=>simp [encm] at h
    | cons e es =>
      have h':(e.key,e.val)=(str p.1,F p.2)∧es.map (fun e=>(e.key,e.val))=encm F m:=by
        simp only [encm,List.map_cons,List.cons.injEq] at h; exact h
      obtain ⟨h1,h2⟩:=h'
      obtain ⟨hk,hv⟩:=Prod.mk.inj h1
      by_cases hkp:k=p.1
      · subst hkp
        refine ⟨some (i,e.val),?_,?_,?_,?_,?_,?_,?_,?_⟩
        · have : Instr.sameNow .string (str p.1) e.key = some true := by
            rw [hk]; simp only [str,Instr.sameNow]
            rw [zIt]; simp
          rw [Instr.findNow,this]
        · simp [hv,List.lookup]
        · intro j v hj
          obtain ⟨rfl,rfl⟩:=Prod.mk.inj (Option.some.inj hj)
          refine ⟨Nat.le_refl _,by simp,?_⟩
          rw [Nat.sub_self]
          simp [encm,h2,hv]
        · intro j v u hj
          obtain ⟨rfl,rfl⟩:=Prod.mk.inj (Option.some.inj hj)
          rw [Nat.sub_self]
          simp [List.modify,encm,mset]
          exact h2
        · intro hn; cases hn
        · intro j v hj
          obtain ⟨rfl,rfl⟩:=Prod.mk.inj (Option.some.inj hj)
          rw [Nat.sub_self]
          simp [mdel]
          exact h2
        · intro hn; cases hn
        · intro j v hj
          obtain ⟨rfl,rfl⟩:=Prod.mk.inj (Option.some.inj hj)
          rw [Nat.sub_self]
          simp [hk]
      · obtain ⟨r,hr1,hr2,hr3,hr4,hr5,hr6,hr7,hr8⟩:=ih es (i+1) h2
        have hne:(k==p.1)=false:=by simpa using hkp
        refine ⟨r,?_,?_,?_,?_,?_,?_,?_,?_⟩
        · have : Instr.sameNow .string (str k) e.key = some false := by
            rw [hk]; simp only [str,Instr.sameNow]
            rw [zIt,hne]
          rw [Instr.findNow,this]; exact hr1
        · rw [hr2,List.lookup,hne]
        · intro j v hj
          obtain ⟨g1,g2,g3⟩:=hr3 j v hj
          refine ⟨by omega,by simp; omega,?_⟩
          have e1:j - i=(j - (i+1))+1:=by omega
          rw [e1,List.modify_succ_cons,List.map_cons,g3]
          simp [encm,hk,hv]
        · intro j v u hj
          obtain ⟨g1,_,_⟩:=hr3 j v hj
          have e1:j - i=(j - (i+1))+1:=by omega
          rw [e1,List.modify_succ_cons,List.map_cons,hr4 j v u hj,mset,hne]
          simp [encm,hk,hv]
        · intro hn u
          rw [mset,hne,hr5 hn]; rfl
        · intro j v hj
          obtain ⟨g1,_,_⟩:=hr3 j v hj
          have e1:j - i=(j - (i+1))+1:=by omega
          rw [e1,List.eraseIdx_cons_succ,List.map_cons,hr6 j v hj,mdel,hne]
          simp [encm,hk,hv]
        · intro hn
          rw [mdel,hne,hr7 hn]; rfl
        · intro j v hj
          obtain ⟨g1,_,_⟩:=hr3 j v hj
          have e1:j - i=(j - (i+1))+1:=by omega
          rw [e1,List.getElem?_cons_succ]; exact hr8 j v hj
theorem run_checkKey {T:TypeId} (hT:P.underlying T=some .string) (e:Bool) (v:Value):(Instr.checkKey e 10000 T v).run P w=.ok () w:=by
  unfold Instr.checkKey
  rw [Sem.run_bind,run_underlying hT,Result.andThen_ok]
  rfl
theorem run_findKey {β : Type} {T : TypeId} (hT : P.underlying T = some .string) (F : β → Value) (k : Str) (m : List (Str × β)) (es : List MapEntry) (h : es.map (fun e => (e.key, e.val)) = encm F m) {r : Option (Nat × Value)} (hr : Instr.findNow .string (str k) es 0 = some r) :
    (Instr.findKey T (str k) es).run P w=.ok r w:=by
  unfold Instr.findKey
  rw [Sem.run_bind,run_underlying hT,Result.andThen_ok,hr]
  rfl
theorem R.lookup {β : Type} (F : β → Value) {T K E : TypeId} {x y : Operand} {b i : Nat} {m : List (Str × β)} {k : Str} {z : β} {zc : Value} (S : St w0 H0 w H L) (hx : ev N f x = mapv b) (hy : ev N f y = str k) (hi : L[i]? = some (.mp b (encm F m)))
    (hT:P.underlying T=some (.map K E)) (hK:P.underlying K=some .string) (hz:((P.info? E).bind (·.zero))=some zc) (hF:zc=F z) :
    (execOp (ev N f) ⟨od,.lookup T x y true,ty,pos,af,g⟩).run P w=.ok (.value (.tuple ⟨[F (mget m k z).1,boo (mget m k z).2]⟩)) w:=by
  obtain ⟨_,es,cl,hc,he⟩:=S.mpOk hi
  obtain ⟨r,hr1,hr2,_⟩:=zEW F k m es.toList 0 he
  have hg:(getObj b).run P w=.ok (.map es cl) w:=MapKept.run_getObj_map hc
  have hz':(zeroValue E).run P w=.ok (F z) w:=by
    cases hE:P.info? E with
    | none=>rw [hE] at hz; cases hz
    | some inf=>rw [hE] at hz; simp at hz; simp [zeroValue,typeInfo,hE,hz,hF]
  have hfk:=run_findKey (w:=w) hK F k m es.toList he hr1
  unfold mget
  cases hm:m.lookup k with
  | none =>
    rw [hm] at hr2
    have hr:r=none:=by cases r with
      | none=>rfl
      | some _=>simp at hr2
    subst hr
    simp [execOp,Instr.lookup,hx,hy,mapv,run_underlying hT,hg,run_checkKey hK,hfk,hz',Result.andThen,boo]
  | some v =>
    rw [hm] at hr2
    obtain ⟨j,u,rfl,hu⟩:∃ j u,r=some (j,u)∧u=F v:=by
      cases r with
      | none=>simp at hr2
      | some q=>exact ⟨q.1,q.2,rfl,by simpa using hr2⟩
    subst hu
    simp [execOp,Instr.lookup,hx,hy,mapv,run_underlying hT,hg,run_checkKey hK,hfk,Result.andThen,boo]
theorem R.lookup1 {β : Type} (F : β → Value) {T K E : TypeId} {x y : Operand} {b i : Nat} {m : List (Str × β)} {k : Str} {z : β} {zc : Value} (S : St w0 H0 w H L) (hx : ev N f x = mapv b) (hy : ev N f y = str k) (hi : L[i]? = some (.mp b (encm F m)))
    (hT:P.underlying T=some (.map K E)) (hK:P.underlying K=some .string) (hz:((P.info? E).bind (·.zero))=some zc) (hF:zc=F z) :
    (execOp (ev N f) ⟨od,.lookup T x y false,ty,pos,af,g⟩).run P w=.ok (.value (F (mget m k z).1)) w:=by
  obtain ⟨_,es,cl,hc,he⟩:=S.mpOk hi
  obtain ⟨r,hr1,hr2,_⟩:=zEW F k m es.toList 0 he
  have hg:(getObj b).run P w=.ok (.map es cl) w:=MapKept.run_getObj_map hc
  have hz':(zeroValue E).run P w=.ok (F z) w:=by
    cases hE:P.info? E with
    | none=>rw [hE] at hz; cases hz
    | some inf=>rw [hE] at hz; simp at hz; simp [zeroValue,typeInfo,hE,hz,hF]
  have hfk:=run_findKey (w:=w) hK F k m es.toList he hr1
  unfold mget
  cases hm:m.lookup k with
  | none =>
    rw [hm] at hr2
    have hr:r=none:=by cases r with
      | none=>rfl
      | some _=>simp at hr2
    subst hr
    simp [execOp,Instr.lookup,hx,hy,mapv,run_underlying hT,hg,run_checkKey hK,hfk,hz',Result.andThen]
  | some v =>
    rw [hm] at hr2
    obtain ⟨j,u,rfl,hu⟩:∃ j u,r=some (j,u)∧u=F v:=by
      cases r with
      | none=>simp at hr2
      | some q=>exact ⟨q.1,q.2,rfl,by simpa using hr2⟩
    subst hu
    simp [execOp,Instr.lookup,hx,hy,mapv,run_underlying hT,hg,run_checkKey hK,hfk,Result.andThen]
theorem zMJ (w:World) (b:Nat) (o:Obj) (k:Nat) (h:k≠b):(setBlock w b o).heap[k]?=w.heap[k]?:=by
  simp [setBlock,Array.getElem?_setIfInBounds,Ne.symm h]
theorem St.setMp (S : St w0 H0 w H L) {i b : Nat} {kvs kvs' : List (Value × Value)} {es : Array MapEntry} {cl : Nat} (hi : L[i]? = some (.mp b kvs)) (he : es.toList.map (fun e => (e.key, e.val)) = kvs') :
    St w0 H0 (setBlock w b (.map es cl)) H (L.set i (.mp b kvs')):=by
  obtain ⟨hH,es0,cl0,hc,_⟩:=S.mpOk hi
  have hlt:=(Array.getElem?_eq_some_iff.1 hc).1
  refine S.renew hi rfl rfl hH (fun k hk=>zMJ w b _ k hk) (by simp [setBlock]) ⟨rfl,rfl,rfl⟩ ⟨hH,es,cl,?_,he⟩
  simp [setBlock,Array.getElem?_setIfInBounds,hlt]
theorem W.mapUpdate {β : Type} (F : β → Value) {T K E : TypeId} {x y z : Operand} {b i : Nat} {m : List (Str × β)} {k : Str} {v : Value} (u : β) (S : St w0 H0 w H L) (hx : ev N f x = mapv b) (hy : ev N f y = str k) (hz : ev N f z = v) (hv : v = F u) (hi : L[i]? = some (.mp b (encm F m)))
    (hT:P.underlying T=some (.map K E)) (hK:P.underlying K=some .string)
    (kk:∀ w',St w0 H0 w' H (L.set i (.mp b (encm F (mset m k u))))→WL P N ops rest Q (updo f od undef) w'):WL P N ops (⟨od,.mapUpdate T x y z,ty,pos,af,none⟩ :: rest) Q f w:=by
  obtain ⟨hH,es,cl,hc,he⟩:=S.mpOk hi
  obtain ⟨r,hr1,hr2,hr3,hr4,hr5,_,_,hr8⟩:=zEW F k m es.toList 0 he
  have hg:(getObj b).run P w=.ok (.map es cl) w:=MapKept.run_getObj_map hc
  have hfk:=run_findKey (w:=w) hK F k m es.toList he hr1
  have hset:∀ es' cl',(setObj b (.map es' cl')).run P w=.ok () (setBlock w b (.map es' cl')):=fun es' cl'=>MapKept.run_setObj_map _ hc
  cases r with
  | none =>
    refine WL.skipw (w':=setBlock w b (.map (es.push { key:=str k,val:=v,born:=cl }) (cl+1))) ?_ (kk _ (S.setMp hi ?_))
    · simp [execOp,Instr.mapUpdate,hx,hy,hz,mapv,run_underlying hT,hg,run_checkKey hK,hfk,hset,Result.andThen]
    · rw [Array.toList_push,List.map_append,he,hr5 rfl]
      simp [encm,hv]
  | some q =>
    obtain ⟨j,u0⟩:=q
    have h8:=hr8 j u0 rfl
    have hk8:(((es[j]?).map (·.key)).getD (str k))=str k:=by
      rw [← Array.getElem?_toList]
      have:(es.toList[j]?).map (·.key)=some (str k):=h8
      rw [this]; rfl
    have hst:(Instr.keyThatStays (str k) (str k)).run P w=.ok (str k) w:=by
      have hb:Instr.sameBits 10000 (str k) (str k)=true:=by
        unfold Instr.sameBits
        exact (zIt k k).trans (by simp)
      simp [Instr.keyThatStays,hb]
    refine WL.skipw (w':=setBlock w b (.map (es.modify j fun e=>{ e with key:=str k,val:=v }) cl)) ?_ (kk _ (S.setMp hi ?_))
    · simp [execOp,Instr.mapUpdate,hx,hy,hz,mapv,run_underlying hT,hg,run_checkKey hK,hfk,hset,Result.andThen,hk8,hst]
    · rw [Array.toList_modify]
      have:=hr4 j u0 u rfl
      subst hv
      exact this
end
theorem R.ofEq {r:Result Next} {w:World} {v v':Value} (h:r=.ok (.value v) w) (e:v=v'):r=.ok (.value v') w:=by subst e; exact h
def RD (P:Program) (N:Frm) (c:Code) (Q:Exit→Fr→World→Prop) (n:Nat) (f:Fr) (w:World):Prop :=
  Code.rounds P c (fun e a w'=>∃ f',a=act N f'∧Q e f' w') n (act N f) w
section
variable {P:Program} {N:Frm} {f:Fr} {w w' w0:World} {H0 H:Hp} {L:List Ent} {ops:Array Oper} {rest:List Oper} {d:Nat} {od:Option Nat} {ty:TypeId} {pos:String} {af:Array Edge} {g:Option (Nat×Bool)}
theorem WP.loopRd {c:Code} {Q:Exit→Fr→World→Prop} (n:Nat) (h:RD P N c Q n f w):WP P N (.loop c) Q f w:=wp_loop_rounds n h
theorem RD.succ {c:Code} {Q:Exit→Fr→World→Prop} {n:Nat} (h:WP P N c (fun e f w=>match e with | .normal=>RD P N c Q n f w | e=>Q e f w) f w):RD P N c Q (n+1) f w:=by
  unfold RD
  rw [rounds_succ]
  refine Code.wp_mono (fun e a w ⟨f',ha,hq⟩=>?_) h
  subst ha
  cases e with
  | normal=>exact hq
  | _=>exact ⟨f',rfl,hq⟩
theorem zQv {α β:Type} {F:α→β} {l:List α} {n:Int} {c:α} (h:xnth l n=some c):0≤n∧n<l.length∧(l.map F)[n.toNat]?=some (F c):=by
  unfold xnth at h
  split at h
  · rename_i h0
    obtain ⟨hl,he⟩:=List.getElem?_eq_some_iff.1 h
    exact ⟨h0,by omega,by rw [List.getElem?_map,h]; rfl⟩
  · cases h
theorem R.idxA {α : Type} (F : α → Value) {T e n : Nat} {x y : Operand} {l : List α} {i : Int} {c : α} (hx : ev N f x = agg (l.map F)) (hy : ev N f y = int i) (hT : P.underlying T = some (.array n e)) (he : lay P e = some (false, 1)) (hn : l.length = n) (h : xnth l i = some c) :
    (execOp (ev N f) ⟨od,.index T x y,ty,pos,af,g⟩).run P w=.ok (.value (F c)) w:=by
  obtain ⟨h0,h1,h2⟩:=zQv (F:=F) h
  obtain ⟨g1,g2⟩:=zC7 (w:=w) he
  have h3:i<(n:Int):=by omega
  simp [execOp,Instr.index,asIntOf,hx,hy,int,agg,run_underlying hT,h0,h3,part,g1,g2,Result.andThen]
  rw [List.getElem?_map] at h2
  rw [h2]; rfl
theorem R.idxAddrA {T e n m : Nat} {bb : Bool} {x y : Operand} {b o : Nat} {i : Int} (hx : ev N f x = ptr b o) (hy : ev N f y = int i) (hT : P.underlying T = some (.array n e)) (he : lay P e = some (bb, m)) (h : 0 ≤ i ∧ i < n) :
    (execOp (ev N f) ⟨od,.indexAddr T x y,ty,pos,af,g⟩).run P w=.ok (.value (ptr b (o+i.toNat*m))) w:=by
  obtain ⟨_,g2⟩:=zC7 (w:=w) he
  simp [execOp,Instr.indexAt,Instr.sureAddr,asIntOf,hx,hy,int,ptr,run_underlying hT,h.1,h.2,g2,Result.andThen,Addr.add_lit]
theorem R.nilCheck {x:Operand} {a:Addr} (hx:ev N f x=.pointer (some a)):(execOp (ev N f) ⟨od,.nilCheck x,ty,pos,af,g⟩).run P w=.ok (.value (.pointer (some a))) w:=by
  simp [execOp,hx]
theorem R.nilCheckB {x:Operand} {b o:Nat} (hx:ev N f x=ptr b o):(execOp (ev N f) ⟨od,.nilCheck x,ty,pos,af,g⟩).run P w=.ok (.value (ptr b o)) w:=by
  simp [execOp,hx,ptr]
def ftype (P:Program) (T:TypeId) (k:Nat):Option (TypeId×Nat) :=
  match P.underlying T with
  | some (.struct fs)=>(fs[k]?).map fun g=>(g.type,g.offset)
  | _=>none
def partV (bb:Bool) (cs:List Value) (off m:Nat):Value:=bif bb then agg ((cs.drop off).take m) else cs.getD off undef
theorem R.fieldV {T t k off m : Nat} {bb : Bool} {x : Operand} {cs : List Value} {v : Value} (hx : ev N f x = agg cs) (hf : ftype P T k = some (t, off)) (ht : lay P t = some (bb, m)) (hv : (decide (off < cs.length) && true, partV bb cs off m) = (true, v)) :
    (execOp (ev N f) ⟨od,.field T x k,ty,pos,af,g⟩).run P w=.ok (.value v) w:=by
  obtain ⟨hlt,hv⟩:=Prod.mk.inj hv
  obtain ⟨g1,g2⟩:=zC7 (w:=w) ht
  unfold ftype at hf
  split at hf
  case h_2=>cases hf
  rename_i fs hT
  cases hg:fs[k]? with
  | none=>rw [hg] at hf; cases hf
  | some q =>
    rw [hg] at hf
    simp only [Option.map_some,Option.some.injEq,Prod.mk.injEq] at hf
    obtain ⟨rfl,rfl⟩:=hf
    subst hv
    have hlt':q.offset<cs.length:=by simpa using hlt
    unfold partV
    cases bb with
    | true=>simp [execOp,Instr.field,hx,agg,run_underlying hT,hg,asAgg,part,g1,g2,Result.andThen,List.drop_take]
    | false=>simp [execOp,Instr.field,hx,agg,run_underlying hT,hg,asAgg,part,g1,Result.andThen,List.getElem?_eq_getElem hlt']
structure Raw (n:Nat) where
  l:List Value
  len:l.length=n
  one:l.all Value.oneCell'=true
instance (n:Nat):Enc (Raw (n+1)) where
  sz:=n+1
  cells H cs x:=cs=x.l
  pos:=Nat.succ_pos _
  len:=fun {H cs x} h=>by rw [h]; exact x.len
  mono:=fun h _=>h
  one:=fun {H cs x} h v hv=>by rw [h] at hv; exact List.all_eq_true.1 x.one v hv
def anyH (P:Program) (md:Region.Mode) (ops:Array Oper) (C:World→Prop) (n:Nat) (Lq:Array Bool→Act→Prop):Nat→Array Bool→Act→Prop
  | 0,listed,a=>Lq listed a
  | k+1,listed,a=>Region.ready md ops listed≠[]∧∀ i ∈ Region.ready md ops listed,i<n∧qOp P ops C i (anyH P md ops C n Lq k (listed.setIfInBounds i true)) a
variable {md:Region.Mode} {C:World→Prop} {n m:Nat} {Lq:Array Bool→Act→Prop}
theorem zNf {Q':Exit→Act→World→Prop} (hL:∀ listed a w,C w→Lq listed a→wpAny P md ops Q' m listed a w):∀ (k:Nat) (listed:Array Bool) (a:Act) (w:World),C w→anyH P md ops C n Lq k listed a→wpAny P md ops Q' (k+m) listed a w
  | 0,listed,a,w,hw,h=>by rw [Nat.zero_add]; exact hL _ _ _ hw h
  | k+1,listed,a,w,hw,h=>by
    have e:k+1+m=(k+m)+1:=by omega
    rw [e]
    exact ⟨fun h0=>absurd h0 h.1,fun i hi=>wpOp_of_qOp hw (fun a' w' hw' h'=>zNf hL k _ a' w' hw' h') (h.2 i hi).2⟩
theorem zOU {i : Nat} {oi : Oper} {v : Value} (hi : ops[i]? = some oi) (hsel : ∀ (j : Nat) (o : Oper) cs b, ops[j]? = some o → o.op ≠ .select cs b)
    (hs:Region.sinkB md ops n=true) (hc:Region.chainB md ops n=true) (hn:n<ops.size) (hin:i<n) (hdone:∀ listed a,Lq listed a→∀ j ∈ Region.ready md ops listed,n≤j) :
    ∀ (k:Nat) (listed:Array Bool) (a:Act),HeadInv md ops n listed →
      (∀ j oj,ops[j]?=some oj→j≠i→listed.getD j true=false→(∀ e ∈ oj.after,Region.binds md e=true→e.on≠i)→oi.apart ops oj=true) →
      i ∈ Region.ready md ops listed→YieldsIn P ops C oi v a→anyH P md ops C n Lq k (listed.setIfInBounds i true) (a.put oi.dst v)→anyH P md ops C n Lq (k+1) listed a:=by
  intro k
  induction k with
  | zero =>
    intro listed a inv _ hr hy H
    have hun:=(mem_ready.1 hr).1
    refine ⟨fun h=>by rw [h] at hr; exact absurd hr (List.not_mem_nil),fun j hj=>?_⟩
    have hjn:j<n:=Nat.lt_of_not_le fun h=>absurd hj (tail_waits hs hc hn inv _ i rfl hin hun j h)
    by_cases hji:j=i
    · subst hji; exact ⟨hjn,hy.qOp hi H⟩
    · exact absurd (hdone _ _ H j (ready_mono hj hji)) (by omega)
  | succ k ih =>
    intro listed a inv hfree hr hy H
    have hun:=(mem_ready.1 hr).1
    refine ⟨fun h=>by rw [h] at hr; exact absurd hr (List.not_mem_nil),fun j hj=>?_⟩
    have hjn:j<n:=Nat.lt_of_not_le fun h=>absurd hj (tail_waits hs hc hn inv _ i rfl hin hun j h)
    refine ⟨hjn,?_⟩
    by_cases hji:j=i
    · subst hji; exact hy.qOp hi H
    · obtain ⟨hjun,oj,hoj,hall⟩:=mem_ready.1 hj
      have hnot:∀ e ∈ oj.after,Region.binds md e=true→e.on≠i:=fun e he hb heq=>by
        have h1:=hall e he hb
        rw [heq,getD_both hun] at h1
        cases h1
      refine qOp_mono (fun a' h3=>ih (listed.setIfInBounds j true) a' (inv.set hj hjn) (fun x ox hx hxi hxu hxn=>?_) (ready_mono hr (Ne.symm hji)) h3.1 ?_)
        (qOp_put hoj (hfree j oj hoj hji hjun hnot) (fun cs b=>hsel i oi cs b hi) (fun cs b=>hsel j oj cs b hoj) hy (H.2 j (ready_mono hj hji)).2)
      · refine hfree x ox hx hxi ?_ hxn
        by_cases hjx:j=x
        · subst hjx; exact hjun
        · rw [getD_set_ne true hjx] at hxu; exact hxu
      · rw [Array.setIfInBounds_comm _ _ hji]
        exact h3.2
theorem zM5 {Qa : Act → Prop} (hsel : Region.noSelect ops = true) (hs : Region.sinkB md ops n = true) (hc : Region.chainB md ops n = true) (hn : n < ops.size) :
    ∀ (l:List Oper) (k:Nat) (listed:Array Bool) (a:Act),(∀ j,j<l.length→l[j]?=ops[k+j]?)→k+l.length=n→HeadInv md ops n listed →
    Region.lexHead md ops m l.length k listed=true→wpQuiet P ops C Qa l a →
    anyH P md ops C n (fun listed' a'=>Region.seqB md ops m n listed'=true∧Qa a') l.length listed a
  | [],k,listed,a,_,hk,_,hB,h=>by
    obtain rfl:k=n:=by simpa using hk
    exact ⟨by simpa [Region.lexHead] using hB,h⟩
  | o :: l,k,listed,a,hl,hk,inv,hB,h=>by
    have h0:ops[k]?=some o:=by simpa using (hl 0 (by simp)).symm
    simp only [List.length_cons,Region.lexHead,Bool.and_eq_true] at hB
    obtain ⟨⟨hr,hf⟩,hB'⟩:=hB
    have hkn:k<n:=by simp only [List.length_cons] at hk; omega
    have hr':k ∈ Region.ready md ops listed:=by simpa using hr
    have hst:qOp P ops C k (wpQuiet P ops C Qa l) a:=by unfold qOp; simp only [h0]; exact h
    obtain ⟨v,hy,hK⟩:=yieldsIn_of_qOp h0 hst
    refine zOU h0 (Region.noSelect_spec hsel) hs hc hn hkn (fun listed' a' hL=>seqB_ready hL.1) l.length listed a inv (Region.free_spec h0 hf) hr' hy ?_
    refine zM5 hsel hs hc hn l (k+1) _ _ (fun j hj=>?_) (by simp only [List.length_cons] at hk; omega) (inv.set hr' hkn) hB' hK
    have:=hl (j+1) (by simp; omega)
    simpa [Nat.add_assoc,Nat.add_comm 1 j] using this
theorem WL.all {l:List Oper} {Q:Exit→Fr→World→Prop} (h:WL P N ops l (fun f w=>Q .normal f w) f w):wpList P ops (fun e a w'=>∃ f',a=act N f'∧Q e f' w') l (act N f) w:=by
  have key:∀ (l:List Oper) (a:Act) (w:World),wpList P ops (fun e a w'=>∃ f',a=act N f'∧e=.normal∧Q .normal f' w') l a w→wpList P ops (fun e a w'=>∃ f',a=act N f'∧Q e f' w') l a w:=by
    intro l
    induction l with
    | nil=>intro a w ⟨f',ha,_,q⟩; exact ⟨f',ha,q⟩
    | cons o rest ih =>
      intro a w h
      unfold wpList at h ⊢
      split
      · rename_i hw
        rw [if_pos hw] at h
        rcases h with h | ⟨_,a0,w0,f0,_,hc,_⟩
        · refine .inl (Oper.wp_monoQ (fun a w hk=>ih _ _ hk) (fun e a w hne ⟨f',ha,he,_⟩=>absurd he hne) h)
        · cases hc
      · rename_i hw
        rw [if_neg hw] at h
        exact ih _ _ h
  exact key _ _ _ h.out
theorem WP.quietTail {id : Nat} {l : List Oper} {Q : Exit → Fr → World → Prop} (n : Nat) (S : St w0 H0 w H L) (hm : P.follows .mixedOrders = true) (hB : Region.lexTailB .any l.toArray n = true)
    (h:WQ P N l.toArray (Cl w0 H0 H L) (l.take n) (fun f'=>∀ w' H',H.le H'→St w0 H0 w' H' L→WL P N l.toArray (l.drop n) (fun f w=>Q .normal f w) f' w') f):WP P N (.region id l.toArray true) Q f w:=by
  simp only [Region.lexTailB,Bool.and_eq_true,decide_eq_true_eq] at hB
  obtain ⟨⟨⟨⟨hsel,hn⟩,hs⟩,hc⟩,hlex⟩:=hB
  have hn':n<l.length:=by simpa using hn
  have htl:(l.take n).length=n:=by simp; omega
  have hdl:(l.drop n).length=l.toArray.size - n:=by simp
  have inv0:HeadInv .any l.toArray n (Array.replicate l.toArray.size false) :=
    ⟨by simp,fun j oj _ hl=>(by rw [getD_replicate_false] at hl; cases hl),fun t _ ht=>getD_in (by simpa using ht) (getD_replicate_false _ _)⟩
  have hh:=zM5 (P:=P) (C:=Cl w0 H0 H L) (md:=.any) (m:=l.toArray.size - n) hsel hs hc hn (l.take n) 0 _ (act N f) (fun j hj=>by
    have hj':j<n:=by rw [htl] at hj; exact hj
    simp [hj']) (by simpa using htl) inv0 (by rw [htl]; exact hlex) h.out
  refine wp_region_any hm ?_
  have:=zNf (m:=l.toArray.size - n) (Q':=fun e a w'=>∃ f',a=act N f'∧Q e f' w') (fun listed a' w' hw' hL=>by
    obtain ⟨H',hle,S'⟩:=hw'
    obtain ⟨f',ha,hq⟩:=hL.2
    subst ha
    have:=wpAny_of_seq (md:=.any) (Q':=fun e a w'=>∃ f',a=act N f'∧Q e f' w') (l.drop n) n listed (act N f') w' (fun j=>by simp [List.getElem?_drop]) (by rw [hdl]; exact hL.1) (WL.all (hq w' H' hle S'))
    rwa [hdl] at this) _ _ _ w.drew ⟨H,Hp.le.refl _,S.drew⟩ hh
  rw [htl,show n+(l.toArray.size - n)=l.toArray.size by omega] at this
  exact this
end
end Go.Eng
