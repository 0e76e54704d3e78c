/- A part of the proof of laws of the seat. -/
import Derived.Test.YtipgfplekgdoiaaGreatDoorEng10
import Derived.Lib.AsciiSet
import Derived.Lib.Join
import Derived.Lib.Bytealg
import Derived.Lib.TrimByte
import Derived.StillTail
import Derived.Maps.Keyed
import Derived.Sort.Grow
import Derived.Sort.EncStr
import Derived.Lib.SlicesCompact
import Derived.Lib.LaidTab
import Derived.Lib.ItoaNum
namespace Go.Eng
open Go Go.RowKit
theorem zGy {P:Program} {k:FuncId} {fn:Func} {c:Code} (hf:P.funcs[k]?=some fn) (hb:fn.body=some c) (hname:(fn.name== "runtime.NumGoroutine")=false) (args:Array Value) (w:World):(callFunc k args).run P w=.ok (.enter k args) w:=by
  simp only [callFunc,Sem.run_bind,run_program,Result.andThen_ok,hf,hname,hb]
  rfl
theorem Post.of_below {w w':World} {H:Hp} (hw:Holds w H) (hb:Below w.heap.size w w'):Post w H w' H:=by
  refine ⟨hb,Hp.le.refl _,fun _ _=>rfl,fun b T l h=>?_⟩
  obtain ⟨cs,fz,hc,hr⟩:=hw b T l h
  exact ⟨cs,fz,by rw [hb.block b (Array.getElem?_eq_some_iff.1 hc).1]; exact hc,hr⟩
theorem Con.of_calls {P : Program} {k : FuncId} {fn : Func} {c : Code} {args : List Value} {w : World} {H : Hp} {v : Value} (hf : P.funcs[k]? = some fn) (hb : fn.body = some c) (hname : (fn.name == "runtime.NumGoroutine") = false) (hw : Holds w H)
    (h:Calls P k args.toArray w fun e w'=>e=.returned v∧Below w.heap.size w w'):Con P k args w H (fun _ u=>u=v) :=
  ⟨zGy hf hb hname _,Calls.mono h fun _ _ ⟨he,hp⟩=>⟨v,H,he,Post.of_below hw hp,rfl⟩⟩
theorem Con.of_calls_same {P : Program} {k : FuncId} {fn : Func} {c : Code} {args : List Value} {w : World} {H : Hp} {v : Value} (hf : P.funcs[k]? = some fn) (hb : fn.body = some c) (hname : (fn.name == "runtime.NumGoroutine") = false) (hw : Holds w H)
    (h:Calls P k args.toArray w fun e w'=>e=.returned v∧w'=w):Con P k args w H (fun _ u=>u=v) :=
  Con.of_calls hf hb hname hw (Calls.mono h fun _ _ ⟨he,hp⟩=>⟨he,by subst hp; exact Below.refl _ _⟩)
theorem Cells.strs {H:Hp}:∀ {xs:List Str} {l:List Value},Cells (α:=Str) H l xs→l=xs.map str
  | [],_,h=>h
  | x :: xs,_,⟨cs,r,e,hc,hr⟩=>by rw [e,show cs=[str x] from hc,Cells.strs hr]; rfl
theorem Cells.ints {H:Hp}:∀ {xs:List Int},Cells (α:=Int) H (xs.map int) xs
  | []=>rfl
  | x :: xs=>⟨[int x],xs.map int,rfl,rfl,Cells.ints⟩
def jo (l:List Str) (sep:Str):Str:=Lib.join l sep
noncomputable def strings_Join (l:List Str) (sep:Str):Option Str:=if (jo l sep).length≤big∧l.length≤big then some (jo l sep) else none
noncomputable def strings_IndexByte (s:Str) (c:UInt8):Option Int:=some (Lib.indexByte s c)
noncomputable def strings_makeASCIISet (cs:Str):Option Unit:=bif cs.all (fun c=>decide (c<128))&&decide (cs.length≤big / 128) then some () else none
noncomputable def zAj (cs:Str) (c:UInt8):Option Bool:=some (cs.contains c)
def setc (cs:Str):List Value:=(Lib.setCells cs).toList
theorem zFu (cs:Str):(setc cs).length=256:=by
  have key:∀ (l:Str) (a:Array Value),(l.foldl (fun a c=>a.setIfInBounds c.toNat (.bool true)) a).size=a.size:=by
    intro l
    induction l with
    | nil=>intro a; rfl
    | cons x l ih=>intro a; rw [List.foldl_cons,ih]; simp
  simp only [setc,Array.length_toList,Lib.setCells,key]
  simp
theorem zPj (cs:Str) (x:UInt8):(setc cs)[x.toNat]?=some (boo (cs.contains x)):=by
  have:=Lib.setCells_at cs x
  simpa [setc,boo] using this
theorem zNP (cs:Str):(setc cs).all Value.oneCell'=true:=by
  rw [List.all_eq_true]
  intro v hv
  obtain ⟨i,hi⟩:=List.mem_iff_getElem?.1 hv
  have hlt:i<256:=by rw [← zFu cs]; exact (List.getElem?_eq_some_iff.1 hi).1
  have:=zPj cs (UInt8.ofNat i)
  have e:(UInt8.ofNat i).toNat=i:=by simp; omega
  rw [e,hi] at this
  simp at this
  subst this; rfl
theorem At.set {w:World} {H:Hp} {b:Nat} {cs:Str} (h:At H ⟨b,0,none⟩ (setc cs)) (hw:Holds w H) (x:UInt8):w.cell? ⟨b,x.toNat,none⟩=some (.bool (cs.contains x)):=by
  have:=h.cell hw (zPj cs x)
  rwa [Addr.add_lit,Nat.zero_add] at this
section
variable {P:Program} {N:Frm} {f:Fr} {w w0:World} {H0 H:Hp} {L:List Ent} {ops:Array Oper} {rest:List Oper} {Q:Fr→World→Prop} {d:Nat} {od:Option Nat} {ty:TypeId} {pos:String} {af:Array Edge} {g:Option (Nat×Bool)}
theorem W.arrHi {α : Type} [Enc α] {T e n : Nat} {x j : Operand} {b : Nat} {cs : List Value} {xs ys : List α} {m : Int} (hA : At H ⟨b, 0, none⟩ cs) (hC : Cells H cs xs) (hx : ev N f x = ptr b 0) (hj : ev N f j = int m)
    (hT:P.underlying T=some (.array n e)) (hE:∃ i,P.info? e=some i) (hn:xs.length=n) (hsz:n≤maxLen) (h:xsub xs 0 m=some ys)
    (k:∀ v',Sl H v' ys→WL P N ops rest Q (upd f d v') w):WL P N ops (⟨some d,.slice T x none (some j) none,ty,pos,af,none⟩ :: rest) Q f w:=by
  have h':=h
  unfold xsub at h'
  split at h'
  case isFalse=>cases h'
  rename_i h0
  simp only [Option.some.injEq] at h'
  obtain ⟨inf,hinf⟩:=hE
  have hS:Sl H (.slice (some ⟨b,0,none⟩) xs.length n) xs:=by
    refine ⟨some ⟨b,0,none⟩,n,rfl,by omega,hsz,.inr ⟨b,0,cs,rfl,hA,hC⟩⟩
  have hs:=Sl.sub hS h
  refine WL.w (v:=.slice (if n=(0:Int).toNat then some ⟨b,0,none⟩ else (some (⟨b,0,none⟩:Addr)).map (·.add ((0:Int).toNat*Enc.sz α))) (m.toNat - (0:Int).toNat) (n - (0:Int).toNat)) (w':=w) ?_ (k _ hs)
  have g1:0≤m∧m≤(n:Int):=⟨by omega,by omega⟩
  simp [execOp,Instr.sliceAt,Instr.sureAddr,Instr.sliceBounds,Instr.sliceBound,asIntOf,hx,hj,int,ptr,run_underlying hT,g1,sizeOf,typeInfo,hinf]
  split <;> rfl
end
section
variable {α:Type} [Enc α] {H:Hp}
abbrev EncOk (H:Hp) (v:Value) (x:α):Prop:=v.cells.size=Enc.sz α∧Enc.cells H v.cells.toList x
theorem enc1 {v1:Value} {x1:α} (h1:EncOk H v1 x1):∀ (i:Nat) (v:Value) (x:α),[v1][i]?=some v→[x1][i]?=some x→v.cells.size=Enc.sz α∧Enc.cells H v.cells.toList x:=by
  intro i v x hv hx
  match i with
  | 0=>simp at hv hx; subst hv; subst hx; exact h1
  | n+1=>simp at hv
theorem encS {v1 : Value} {x1 : α} {vs : List Value} {xs : List α} (h1 : EncOk H v1 x1) (h : ∀ (i : Nat) (v : Value) (x : α), vs[i]? = some v → xs[i]? = some x → v.cells.size = Enc.sz α ∧ Enc.cells H v.cells.toList x) :
    ∀ (i:Nat) (v:Value) (x:α),(v1 :: vs)[i]?=some v→(x1 :: xs)[i]?=some x→v.cells.size=Enc.sz α∧Enc.cells H v.cells.toList x:=by
  intro i v x hv hx
  match i with
  | 0=>simp at hv hx; subst hv; subst hx; exact h1
  | n+1=>exact h n v x (by simpa using hv) (by simpa using hx)
theorem enc0:∀ (i:Nat) (v:Value) (x:α),([]:List Value)[i]?=some v→([]:List α)[i]?=some x→v.cells.size=Enc.sz α∧Enc.cells H v.cells.toList x:=by
  intro i v x hv; simp at hv
theorem Sl.oneC {v:Value} {xs:List α} (h:Sl H v xs):v.oneCell'=true:=by
  obtain ⟨a,c,rfl,_⟩:=h; rfl
theorem Sl.cellsOne {v:Value} {xs:List α} (h:Sl H v xs):v.cells=#[v]:=by
  obtain ⟨a,c,rfl,_⟩:=h; rfl
end
inductive AllOne:List Value→Prop
  | nil:AllOne []
  | cons {v:Value} {l:List Value}:v.oneCell'=true→AllOne l→AllOne (v :: l)
theorem AllOne.mem {l:List Value} (h:AllOne l):∀ v ∈ l,v.oneCell'=true:=by
  induction h with
  | nil=>intro v hv; cases hv
  | cons h1 _ ih =>
    intro v hv
    rcases List.mem_cons.1 hv with rfl | hv
    · exact h1
    · exact ih v hv
theorem AllOne.all {l:List Value} (h:AllOne l):l.all Value.oneCell'=true:=List.all_eq_true.2 h.mem
theorem zRr {P : Program} {k : FuncId} {fn : Func} {c : Code} {w : World} {H : Hp} {l : List Str} {sep r : Str} {v : Value} (hf : P.funcs[k]? = some fn) (hb : fn.body = some c) (hname : (fn.name == "runtime.NumGoroutine") = false) (hw : Holds w H)
    (R:Sl (α:=Str) H v l) (h:strings_Join l sep=some r)
    (hnone:∀ (a:Option Addr) (c:Nat) (sep:ByteArray) (w:World),Calls P k #[.slice a 0 c,.string sep] w fun e w'=>e=.returned (.string ⟨#[]⟩)∧w'=w)
    (hsome:∀ (bk o c:Nat) (xs:List ByteArray) (sep:ByteArray) (w:World),(∀ (j:Nat) x,xs[j]?=some x→w.cell? ⟨bk,o+j,none⟩=some (.string x))→bk<w.heap.size→xs.length≤140737488355328→xs.length≤c →
      (Lib.join (xs.map (·.data.toList)) sep.data.toList).length≤140737488355328 →
      Calls P k #[.slice (some ⟨bk,o,none⟩) xs.length c,.string sep] w fun e w'=>e=.returned (.string ⟨(Lib.join (xs.map (·.data.toList)) sep.data.toList).toArray⟩)∧Below w.heap.size w w') :
    Con P k [v,str sep] w H (fun _ u=>u=str r):=by
  unfold strings_Join at h
  split at h
  case isFalse=>cases h
  rename_i hbig
  simp only [Option.some.injEq] at h
  subst h
  obtain ⟨a,cp,rfl,h1,h2,h3⟩:=R
  rcases h3 with rfl | ⟨b,off,cs,rfl,hat,hC⟩
  · exact Con.of_calls_same hf hb hname hw (hnone a cp ⟨⟨sep⟩⟩ w)
  · have hcs:=hC.strs
    subst hcs
    by_cases hl:l=[]
    · subst hl
      exact Con.of_calls_same hf hb hname hw (hnone _ cp ⟨⟨sep⟩⟩ w)
    · have hm:(l.map fun x=>(⟨⟨x⟩⟩:ByteArray)).map (·.data.toList)=l:=by simp [Function.comp_def]
      have hlt:b<w.heap.size:=by
        obtain ⟨T,l',_,hH,_⟩:=hat
        obtain ⟨_,_,hc,_⟩:=hw _ _ _ hH
        exact (Array.getElem?_eq_some_iff.1 hc).1
      have hbg:big≤140737488355328:=by decide
      have hh:=hsome b off cp (l.map fun x=>(⟨⟨x⟩⟩:ByteArray)) ⟨⟨sep⟩⟩ w (fun j x hx=>by
        rw [List.getElem?_map] at hx
        obtain ⟨y,hy,rfl⟩:=Option.map_eq_some_iff.1 hx
        have:=hat.cell hw (j:=j) (v:=str y) (by rw [List.getElem?_map,hy]; rfl)
        rwa [Addr.add_lit] at this) hlt (by simp; omega) (by simpa using h1) (by rw [hm]; exact Nat.le_trans hbig.1 hbg)
      rw [hm] at hh
      refine Con.of_calls (v:=str (jo l sep)) hf hb hname hw ?_
      simpa [str,jo] using hh
theorem zRA {P : Program} {k : FuncId} {fn : Func} {c : Code} {w : World} {H : Hp} {s : Str} {T : TypeId} {r : Unit} (hf : P.funcs[k]? = some fn) (hb : fn.body = some c) (hname : (fn.name == "runtime.NumGoroutine") = false) (hw : Holds w H) (h : strings_makeASCIISet s = some r)
    (hc:∀ (chars:ByteArray) (w:World),chars.size<4294967281→(∀ (j:Nat) b,chars.data.toList[j]?=some b→b.toNat<128) →
      Calls P k #[.string chars] w fun e w'=>e=.returned (.tuple #[.agg (Lib.setCells chars.data.toList),.bool true])∧w'=w.alloc (.cells (Lib.setCells chars.data.toList) T)) :
    Con P k [str s] w H (fun _ u=>u=.tuple ⟨[.agg (Lib.setCells s),boo true]⟩):=by
  unfold strings_makeASCIISet at h
  have hg:(s.all (fun c=>decide (c<128))&&decide (s.length≤big / 128))=true:=by
    cases hh:(s.all (fun c=>decide (c<128))&&decide (s.length≤big / 128)) with
    | true=>rfl
    | false=>rw [hh] at h; cases h
  simp only [Bool.and_eq_true,List.all_eq_true,decide_eq_true_eq] at hg
  have h1:big / 128<4294967281:=by decide
  have hh:=hc ⟨⟨s⟩⟩ w (by show s.length<_; exact Nat.lt_of_le_of_lt hg.2 h1) (fun j b hj=>by
    have:=hg.1 b (List.mem_of_getElem? hj)
    exact UInt8.lt_iff_toNat_lt.1 this)
  refine Con.of_calls hf hb hname hw (Calls.mono hh fun _ _ ⟨he,hp⟩=>⟨he,?_⟩)
  subst hp
  exact (Below.refl _ _).alloc (Nat.le_refl _) _
theorem zQ2 {P : Program} {k : FuncId} {fn : Func} {c : Code} {w : World} {H : Hp} {cs : Str} {b : Nat} {x : UInt8} {r : Bool} (hf : P.funcs[k]? = some fn) (hb : fn.body = some c) (hname : (fn.name == "runtime.NumGoroutine") = false) (hw : Holds w H)
    (hA:At H ⟨b,0,none⟩ (setc cs)) (h:zAj cs x=some r)
    (hc:∀ (b:Nat) (x:UInt8) (v:Bool) (w:World),w.cell? ⟨b,x.toNat,none⟩=some (.bool v)→Calls P k #[.pointer (some ⟨b,0,none⟩),.int .u8 x.toNat] w fun e w'=>e=.returned (.bool v)∧w'=w) :
    Con P k [ptr b 0,byt x] w H (fun _ u=>u=boo r):=by
  simp only [zAj,Option.some.injEq] at h
  subst h
  exact Con.of_calls_same hf hb hname hw (hc b x _ w (hA.set hw x))
theorem R.mkFunc {P : Program} {N : Frm} {f : Fr} {w : World} {od : Option Nat} {ty : TypeId} {pos : String} {af : Array Edge} {g : Option (Nat × Bool)} {k : FuncId} {xs : List Operand} {vs : List Value} (h : xs.map (ev N f) = vs) :
    (execOp (ev N f) ⟨od,.makeFunc (.func k) #[] xs.toArray,ty,pos,af,g⟩).run P w=.ok (.value (.func (.func k) #[] vs.toArray)) w:=by
  subst h
  simp [execOp,Instr.makeFunc]
theorem zKu {cs vs:List Value} (h:vs.length=cs.length):zHb cs 0 vs=vs:=by
  simp [zHb,h]
section
variable {P:Program} {N:Frm} {f:Fr} {w:World} {od:Option Nat} {ty:TypeId} {pos:String} {af:Array Edge} {g:Option (Nat×Bool)}
theorem R.buildArr {T e n m : Nat} {bb : Bool} {ps : List (Nat × Operand)} {zs : List Value} (vs : List (Nat × Value)) (cs : List Value) (hT : P.underlying T = some (.array n e)) (he : lay P e = some (bb, m)) (hz : zer P T = some zs) (hv : (ps.map fun p => (p.1, ev N f p.2)) = vs)
    (hf:(Instr.fill (fun i=>some (i*m,m)) zs.toArray vs)=some cs.toArray):(execOp (ev N f) ⟨od,.build T ps.toArray,ty,pos,af,g⟩).run P w=.ok (.value (agg cs)) w:=by
  obtain ⟨_,h2⟩:=zGT (w:=w) he
  unfold zer at hz
  cases hi:P.info? T with
  | none=>rw [hi] at hz; cases hz
  | some i =>
    rw [hi] at hz
    cases hzz:i.zero with
    | none=>simp [hzz] at hz
    | some z =>
      simp [hzz] at hz
      have hzs:z.cells=zs.toArray:=by rw [← hz]
      have hvs:ps.toArray.map (fun x=>(x.1,ev N f x.2))=vs.toArray:=by rw [List.map_toArray,hv]
      have hg:∀ K:Array (Nat×Value),(Instr.build T K).run P w=(match Instr.fill (fun i=>some (i*m,m)) z.cells K.toList with | some cells=>.ok (.agg cells) w | none=>(stuck "build: a part of the wrong size" : Sem Value).run P w):=by
        intro K
        simp only [Instr.build,zeroValue,typeInfo,Sem.run_bind,run_underlying hT,Result.andThen_ok,hi,hzz,h2,run_program,Sem.run_pure]
        cases Instr.fill (fun i=>some (i*m,m)) z.cells K.toList <;> rfl
      have hm:(fun (x:Nat×Operand)=>match x with | (i,x)=>(i,ev N f x))=fun x=>(x.1,ev N f x.2):=by funext x; rfl
      simp only [execOp,Sem.run_bind,hg,hvs,hzs,hf,Result.andThen_ok,Sem.run_pure,agg]
end
end Go.Eng
namespace Go.Eng
open Go
theorem zQI {α β γ:Type} {o:Option (α×List β×γ)} (h:o.map (fun x=>x.2.1.isEmpty)=some true):∃ ds places,o=some (ds,[],places):=by
  cases o with
  | none=>cases h
  | some x =>
    obtain ⟨ds,gs,ps⟩:=x
    simp at h
    subst h
    exact ⟨ds,ps,rfl⟩
end Go.Eng
namespace Go.Eng
open Go
section
variable {w0 w:World} {H0 H:Hp} {L:List Ent}
theorem St.addNilV {v:Value} (hv:v=.slice none 0 0) (S:St w0 H0 w H L) (T:TypeId) (sz:Nat):St w0 H0 w H (.row v T sz 0 :: L):=by
  subst hv; exact S.addNil T sz
end
end Go.Eng
namespace Go.Eng
open Go Go.ChangeMaps
set_option linter.unusedVariables false
set_option linter.unusedSimpArgs false
section
variable {P:Program} {N:Frm} {f:Fr} {w w' w0:World} {H0 H:Hp} {L:List Ent} {ops:Array Oper} {rest:List Oper} {Q:Fr→World→Prop} {d:Nat} {od:Option Nat} {ty:TypeId} {pos:String} {af:Array Edge} {g:Option (Nat×Bool)}
theorem St.new (S:St w0 H0 w H L) (o:Obj) (e:Ent) (hb:e.blk=some w.heap.size) (hok:e.ok (w.alloc o) H):St w0 H0 (w.alloc o) H (e :: L):=by
  have hsz:w0.heap.size≤w.heap.size:=S.post.below.size
  have hold:∀ i,i<w.heap.size→(w.alloc o).heap[i]?=w.heap[i]?:=fun i hi=>RowKit.Below.heap_alloc w _ i hi
  refine ⟨⟨S.post.below.alloc hsz _,S.post.le,S.post.eqb,fun b T' l hbb=>?_⟩,?_,?_,?_⟩
  · obtain ⟨cs',fz',hc,hr'⟩:=S.holds b T' l hbb
    exact ⟨cs',fz',by rw [hold b (Array.getElem?_eq_some_iff.1 hc).1]; exact hc,hr'⟩
  · intro e' he
    rcases List.mem_cons.1 he with rfl | he
    · exact hok
    · exact Ent.ok_keep (S.ents e' he) fun b hb=>⟨hold b (Ent.ok_lt (S.ents e' he) hb),rfl⟩
  · intro e' he b hbb
    rcases List.mem_cons.1 he with rfl | he
    · rw [hb] at hbb; cases hbb; exact hsz
    · exact S.own e' he b hbb
  · rw [List.filterMap_cons,hb]
    exact List.nodup_cons.2 ⟨fun hm=>Nat.lt_irrefl _ (S.lt hm),S.nodup⟩
theorem St.renew (S : St w0 H0 w H L) {i b : Nat} {e e' : Ent} (hi : L[i]? = some e) (hb : e.blk = some b) (hb' : e'.blk = some b) (hH : H b = none)
    (hoth:∀ k,k≠b→w'.heap[k]?=w.heap[k]?) (hsz:w'.heap.size=w.heap.size) (hos:w'.os=w.os∧w'.tape=w.tape∧w'.output=w.output) (hok:e'.ok w' H):St w0 H0 w' H (L.set i e'):=by
  have hmem:=List.mem_of_getElem? hi
  have hown:w0.heap.size≤b:=S.own _ hmem b hb
  refine ⟨⟨S.post.below.trans ⟨hos.1,hos.2.1,hos.2.2,by omega,fun k hk=>hoth k (by omega)⟩,S.post.le,S.post.eqb,?_⟩,?_,?_,?_⟩
  · intro k T' l hk
    have hne:k≠b:=fun h=>by subst h; rw [hH] at hk; cases hk
    rw [hoth k hne]; exact S.holds k T' l hk
  · intro e2 he
    obtain ⟨j,hj⟩:=List.mem_iff_getElem?.1 he
    by_cases hij:i=j
    · subst hij
      have hlt:=(List.getElem?_eq_some_iff.1 hi).1
      rw [List.getElem?_set_self hlt] at hj
      simp at hj; subst hj
      exact hok
    · rw [List.getElem?_set_ne hij] at hj
      refine Ent.ok_keep (S.ents e2 (List.mem_of_getElem? hj)) fun k hk=>⟨hoth k ?_,rfl⟩
      exact S.blk_ne hj hi hk hb (Ne.symm hij)
  · intro e2 he k hk
    obtain ⟨j,hj⟩:=List.mem_iff_getElem?.1 he
    by_cases hij:i=j
    · subst hij
      have hlt:=(List.getElem?_eq_some_iff.1 hi).1
      rw [List.getElem?_set_self hlt] at hj
      simp at hj; subst hj
      rw [hb'] at hk; cases hk; exact hown
    · rw [List.getElem?_set_ne hij] at hj
      exact S.own e2 (List.mem_of_getElem? hj) k hk
  · rw [zC9 (e':=e') hi (hb'.trans hb.symm)]; exact S.nodup
def mapv (b:Nat):Value:=.map (some b)
theorem St.mpOk (S:St w0 H0 w H L) {i b:Nat} {kvs:List (Value×Value)} (hi:L[i]?=some (.mp b kvs)):MpOk w H b kvs:=S.ents _ (List.mem_of_getElem? hi)
theorem W.makeMap {T:TypeId} (S:St w0 H0 w H L) (k:∀ b w',St w0 H0 w' H (.mp b [] :: L)→WL P N ops rest Q (upd f d (mapv b)) w'):WL P N ops (⟨some d,.makeMap T none,ty,pos,af,none⟩ :: rest) Q f w:=by
  refine WL.w (v:=mapv w.heap.size) (w':=w.alloc (.map #[] 0)) ?_ (k _ _ (S.new (.map #[] 0) (.mp w.heap.size []) rfl ⟨S.holds.none_of_size (Nat.le_refl _),#[],0,heap_alloc_new w _,rfl⟩))
  simp [execOp,Instr.makeMap,mapv]
def mget {β:Type} (m:List (Str×β)) (k:Str) (z:β):β×Bool:=match m.lookup k with | some v=>(v,true) | none=>(z,false)
def mset {β:Type}:List (Str×β)→Str→β→List (Str×β)
  | [],k,v=>[(k,v)]
  | p :: r,k,v=>if k==p.1 then (k,v) :: r else p :: mset r k v
def mdel {β:Type}:List (Str×β)→Str→List (Str×β)
  | [],_=>[]
  | p :: r,k=>if k==p.1 then r else p :: mdel r k
def encm {β:Type} (F:β→Value) (m:List (Str×β)):List (Value×Value):=m.map fun p=>(str p.1,F p.2)
theorem zJd (a b:Str):((⟨⟨a⟩⟩:ByteArray)==(⟨⟨b⟩⟩:ByteArray))=(a==b):=by
  show ((⟨a⟩:Array UInt8)==⟨b⟩)=_
  rw [Bool.eq_iff_iff,beq_iff_eq,beq_iff_eq]
  exact ⟨fun h=>by injection h,fun h=>by rw [h]⟩
theorem zGi {β : Type} (F : β → Value) (k : Str) : ∀ (m : List (Str × β)) (es : List MapEntry) (i : Nat), es.map (fun e => (e.key, e.val)) = encm F m →
    ∃ r,Instr.findNow .string (str k) es i=some r∧r.map (·.2)=(m.lookup k).map F∧(∀ j v,r=some (j,v)→i≤j∧j - i<es.length ∧
      ((es.modify (j - i) fun e=>{ e with key:=str k,val:=v })).map (fun e=>(e.key,e.val))=encm F m)
     ∧(∀ j v (u:β),r=some (j,v)→(es.modify (j - i) fun e=>{ e with key:=str k,val:=F u }).map (fun e=>(e.key,e.val))=encm F (mset m k u))
     ∧(r=none→∀ u,mset m k u=m++[(k,u)])
     ∧(∀ j v,r=some (j,v)→(es.eraseIdx (j - i)).map (fun e=>(e.key,e.val))=encm F (mdel m k))∧(r=none→mdel m k=m)∧(∀ j v,r=some (j,v)→(es[j - i]?).map (·.key)=some (str k)):=by
  intro m
  induction m with
  | nil =>
    intro es i h
    obtain rfl:es=[]:=by cases es with
      | nil=>rfl
      | cons _ _=>simp [encm] at h
    exact ⟨none,rfl,rfl,fun _ _ h=>by simp at h,fun _ _ _ h=>by simp at h,fun _ _=>rfl,fun _ _ h=>by simp at h,fun _=>rfl,fun _ _ h=>by simp at h⟩
  | cons p m ih =>
    intro es i h
    cases es with
    | nil=>simp [encm] at h
    | cons e es =>
      have h':(e.key,e.val)=(str p.1,F p.2)∧es.map (fun e=>(e.key,e.val))=encm F m:=by
        simp only [encm,List.map_cons,List.cons.injEq] at h; exact h
      obtain ⟨h1,h2⟩:=h'
      obtain ⟨hk,hv⟩:=Prod.mk.inj h1
      by_cases hkp:k=p.1
      · subst hkp
        refine ⟨some (i,e.val),?_,?_,?_,?_,?_,?_,?_,?_⟩
        · have : Instr.sameNow .string (str p.1) e.key = some true := by
            rw [hk]; simp only [str,Instr.sameNow]
            rw [zJd]; simp
          rw [Instr.findNow,this]
        · simp [hv,List.lookup]
        · intro j v hj
          obtain ⟨rfl,rfl⟩:=Prod.mk.inj (Option.some.inj hj)
          refine ⟨Nat.le_refl _,by simp,?_⟩
          rw [Nat.sub_self]
          simp [encm,h2,hv]
        · intro j v u hj
          obtain ⟨rfl,rfl⟩:=Prod.mk.inj (Option.some.inj hj)
          rw [Nat.sub_self]
          simp [List.modify,encm,mset]
          exact h2
        · intro hn; cases hn
        · intro j v hj
          obtain ⟨rfl,rfl⟩:=Prod.mk.inj (Option.some.inj hj)
          rw [Nat.sub_self]
          simp [mdel]
          exact h2
        · intro hn; cases hn
        · intro j v hj
          obtain ⟨rfl,rfl⟩:=Prod.mk.inj (Option.some.inj hj)
          rw [Nat.sub_self]
          simp [hk]
      · obtain ⟨r,hr1,hr2,hr3,hr4,hr5,hr6,hr7,hr8⟩:=ih es (i+1) h2
        have hne:(k==p.1)=false:=by simpa using hkp
        refine ⟨r,?_,?_,?_,?_,?_,?_,?_,?_⟩
        · have : Instr.sameNow .string (str k) e.key = some false := by
            rw [hk]; simp only [str,Instr.sameNow]
            rw [zJd,hne]
          rw [Instr.findNow,this]; exact hr1
        · rw [hr2,List.lookup,hne]
        · intro j v hj
          obtain ⟨g1,g2,g3⟩:=hr3 j v hj
          refine ⟨by omega,by simp; omega,?_⟩
          have e1:j - i=(j - (i+1))+1:=by omega
          rw [e1,List.modify_succ_cons,List.map_cons,g3]
          simp [encm,hk,hv]
        · intro j v u hj
          obtain ⟨g1,_,_⟩:=hr3 j v hj
          have e1:j - i=(j - (i+1))+1:=by omega
          rw [e1,List.modify_succ_cons,List.map_cons,hr4 j v u hj,mset,hne]
          simp [encm,hk,hv]
        · intro hn u
          rw [mset,hne,hr5 hn]; rfl
        · intro j v hj
          obtain ⟨g1,_,_⟩:=hr3 j v hj
          have e1:j - i=(j - (i+1))+1:=by omega
          rw [e1,List.eraseIdx_cons_succ,List.map_cons,hr6 j v hj,mdel,hne]
          simp [encm,hk,hv]
        · intro hn
          rw [mdel,hne,hr7 hn]; rfl
        · intro j v hj
          obtain ⟨g1,_,_⟩:=hr3 j v hj
          have e1:j - i=(j - (i+1))+1:=by omega
          rw [e1,List.getElem?_cons_succ]; exact hr8 j v hj
theorem zC0 {T:TypeId} (hT:P.underlying T=some .string) (e:Bool) (v:Value):(Instr.checkKey e 10000 T v).run P w=.ok () w:=by
  unfold Instr.checkKey
  rw [Sem.run_bind,run_underlying hT,Result.andThen_ok]
  rfl
theorem zGe {β : Type} {T : TypeId} (hT : P.underlying T = some .string) (F : β → Value) (k : Str) (m : List (Str × β)) (es : List MapEntry) (h : es.map (fun e => (e.key, e.val)) = encm F m) {r : Option (Nat × Value)} (hr : Instr.findNow .string (str k) es 0 = some r) :
    (Instr.findKey T (str k) es).run P w=.ok r w:=by
  unfold Instr.findKey
  rw [Sem.run_bind,run_underlying hT,Result.andThen_ok,hr]
  rfl
theorem R.lookup1 {β : Type} (F : β → Value) {T K E : TypeId} {x y : Operand} {b i : Nat} {m : List (Str × β)} {k : Str} {z : β} {zc : Value} (S : St w0 H0 w H L) (hx : ev N f x = mapv b) (hy : ev N f y = str k) (hi : L[i]? = some (.mp b (encm F m)))
    (hT:P.underlying T=some (.map K E)) (hK:P.underlying K=some .string) (hz:((P.info? E).bind (·.zero))=some zc) (hF:zc=F z) :
    (execOp (ev N f) ⟨od,.lookup T x y false,ty,pos,af,g⟩).run P w=.ok (.value (F (mget m k z).1)) w:=by
  obtain ⟨_,es,cl,hc,he⟩:=S.mpOk hi
  obtain ⟨r,hr1,hr2,_⟩:=zGi F k m es.toList 0 he
  have hg:(getObj b).run P w=.ok (.map es cl) w:=MapKept.run_getObj_map hc
  have hz':(zeroValue E).run P w=.ok (F z) w:=by
    cases hE:P.info? E with
    | none=>rw [hE] at hz; cases hz
    | some inf=>rw [hE] at hz; simp at hz; simp [zeroValue,typeInfo,hE,hz,hF]
  have hfk:=zGe (w:=w) hK F k m es.toList he hr1
  unfold mget
  cases hm:m.lookup k with
  | none =>
    rw [hm] at hr2
    have hr:r=none:=by cases r with
      | none=>rfl
      | some _=>simp at hr2
    subst hr
    simp [execOp,Instr.lookup,hx,hy,mapv,run_underlying hT,hg,zC0 hK,hfk,hz',Result.andThen]
  | some v =>
    rw [hm] at hr2
    obtain ⟨j,u,rfl,hu⟩:∃ j u,r=some (j,u)∧u=F v:=by
      cases r with
      | none=>simp at hr2
      | some q=>exact ⟨q.1,q.2,rfl,by simpa using hr2⟩
    subst hu
    simp [execOp,Instr.lookup,hx,hy,mapv,run_underlying hT,hg,zC0 hK,hfk,Result.andThen]
theorem zMv (w:World) (b:Nat) (o:Obj) (k:Nat) (h:k≠b):(setBlock w b o).heap[k]?=w.heap[k]?:=by
  simp [setBlock,Array.getElem?_setIfInBounds,Ne.symm h]
theorem St.setMp (S : St w0 H0 w H L) {i b : Nat} {kvs kvs' : List (Value × Value)} {es : Array MapEntry} {cl : Nat} (hi : L[i]? = some (.mp b kvs)) (he : es.toList.map (fun e => (e.key, e.val)) = kvs') :
    St w0 H0 (setBlock w b (.map es cl)) H (L.set i (.mp b kvs')):=by
  obtain ⟨hH,es0,cl0,hc,_⟩:=S.mpOk hi
  have hlt:=(Array.getElem?_eq_some_iff.1 hc).1
  refine S.renew hi rfl rfl hH (fun k hk=>zMv w b _ k hk) (by simp [setBlock]) ⟨rfl,rfl,rfl⟩ ⟨hH,es,cl,?_,he⟩
  simp [setBlock,Array.getElem?_setIfInBounds,hlt]
theorem W.mapUpdate {β : Type} (F : β → Value) {T K E : TypeId} {x y z : Operand} {b i : Nat} {m : List (Str × β)} {k : Str} {v : Value} (u : β) (S : St w0 H0 w H L) (hx : ev N f x = mapv b) (hy : ev N f y = str k) (hz : ev N f z = v) (hv : v = F u) (hi : L[i]? = some (.mp b (encm F m)))
    (hT:P.underlying T=some (.map K E)) (hK:P.underlying K=some .string)
    (kk:∀ w',St w0 H0 w' H (L.set i (.mp b (encm F (mset m k u))))→WL P N ops rest Q (updo f od undef) w'):WL P N ops (⟨od,.mapUpdate T x y z,ty,pos,af,none⟩ :: rest) Q f w:=by
  obtain ⟨hH,es,cl,hc,he⟩:=S.mpOk hi
  obtain ⟨r,hr1,hr2,hr3,hr4,hr5,_,_,hr8⟩:=zGi F k m es.toList 0 he
  have hg:(getObj b).run P w=.ok (.map es cl) w:=MapKept.run_getObj_map hc
  have hfk:=zGe (w:=w) hK F k m es.toList he hr1
  have hset:∀ es' cl',(setObj b (.map es' cl')).run P w=.ok () (setBlock w b (.map es' cl')):=fun es' cl'=>MapKept.run_setObj_map _ hc
  cases r with
  | none =>
    refine WL.skipw (w':=setBlock w b (.map (es.push { key:=str k,val:=v,born:=cl }) (cl+1))) ?_ (kk _ (S.setMp hi ?_))
    · simp [execOp,Instr.mapUpdate,hx,hy,hz,mapv,run_underlying hT,hg,zC0 hK,hfk,hset,Result.andThen]
    · rw [Array.toList_push,List.map_append,he,hr5 rfl]
      simp [encm,hv]
  | some q =>
    obtain ⟨j,u0⟩:=q
    have h8:=hr8 j u0 rfl
    have hk8:(((es[j]?).map (·.key)).getD (str k))=str k:=by
      rw [← Array.getElem?_toList]
      have:(es.toList[j]?).map (·.key)=some (str k):=h8
      rw [this]; rfl
    have hst:(Instr.keyThatStays (str k) (str k)).run P w=.ok (str k) w:=by
      have hb:Instr.sameBits 10000 (str k) (str k)=true:=by
        unfold Instr.sameBits
        exact (zJd k k).trans (by simp)
      simp [Instr.keyThatStays,hb]
    refine WL.skipw (w':=setBlock w b (.map (es.modify j fun e=>{ e with key:=str k,val:=v }) cl)) ?_ (kk _ (S.setMp hi ?_))
    · simp [execOp,Instr.mapUpdate,hx,hy,hz,mapv,run_underlying hT,hg,zC0 hK,hfk,hset,Result.andThen,hk8,hst]
    · rw [Array.toList_modify]
      have:=hr4 j u0 u rfl
      subst hv
      exact this
end
theorem R.ofEq {r:Result Next} {w:World} {v v':Value} (h:r=.ok (.value v) w) (e:v=v'):r=.ok (.value v') w:=by subst e; exact h
def RD (P:Program) (N:Frm) (c:Code) (Q:Exit→Fr→World→Prop) (n:Nat) (f:Fr) (w:World):Prop :=
  Code.rounds P c (fun e a w'=>∃ f',a=act N f'∧Q e f' w') n (act N f) w
section
variable {P:Program} {N:Frm} {f:Fr} {w w' w0:World} {H0 H:Hp} {L:List Ent} {ops:Array Oper} {rest:List Oper} {d:Nat} {od:Option Nat} {ty:TypeId} {pos:String} {af:Array Edge} {g:Option (Nat×Bool)}
theorem WP.loopRd {c:Code} {Q:Exit→Fr→World→Prop} (n:Nat) (h:RD P N c Q n f w):WP P N (.loop c) Q f w:=wp_loop_rounds n h
theorem RD.succ {c:Code} {Q:Exit→Fr→World→Prop} {n:Nat} (h:WP P N c (fun e f w=>match e with | .normal=>RD P N c Q n f w | e=>Q e f w) f w):RD P N c Q (n+1) f w:=by
  unfold RD
  rw [rounds_succ]
  refine Code.wp_mono (fun e a w ⟨f',ha,hq⟩=>?_) h
  subst ha
  cases e with
  | normal=>exact hq
  | _=>exact ⟨f',rfl,hq⟩
theorem R.nilCheckB {x:Operand} {b o:Nat} (hx:ev N f x=ptr b o):(execOp (ev N f) ⟨od,.nilCheck x,ty,pos,af,g⟩).run P w=.ok (.value (ptr b o)) w:=by
  simp [execOp,hx,ptr]
structure Raw (n:Nat) where
  l:List Value
  len:l.length=n
  one:l.all Value.oneCell'=true
instance (n:Nat):Enc (Raw (n+1)) where
  sz:=n+1
  cells H cs x:=cs=x.l
  pos:=Nat.succ_pos _
  len:=fun {H cs x} h=>by rw [h]; exact x.len
  mono:=fun h _=>h
  one:=fun {H cs x} h v hv=>by rw [h] at hv; exact List.all_eq_true.1 x.one v hv
def anyH (P:Program) (md:Region.Mode) (ops:Array Oper) (C:World→Prop) (n:Nat) (Lq:Array Bool→Act→Prop):Nat→Array Bool→Act→Prop
  | 0,listed,a=>Lq listed a
  | k+1,listed,a=>Region.ready md ops listed≠[]∧∀ i ∈ Region.ready md ops listed,i<n∧qOp P ops C i (anyH P md ops C n Lq k (listed.setIfInBounds i true)) a
variable {md:Region.Mode} {C:World→Prop} {n m:Nat} {Lq:Array Bool→Act→Prop}
theorem zN5 {Q':Exit→Act→World→Prop} (hL:∀ listed a w,C w→Lq listed a→wpAny P md ops Q' m listed a w):∀ (k:Nat) (listed:Array Bool) (a:Act) (w:World),C w→anyH P md ops C n Lq k listed a→wpAny P md ops Q' (k+m) listed a w
  | 0,listed,a,w,hw,h=>by rw [Nat.zero_add]; exact hL _ _ _ hw h
  | k+1,listed,a,w,hw,h=>by
    have e:k+1+m=(k+m)+1:=by omega
    rw [e]
    exact ⟨fun h0=>absurd h0 h.1,fun i hi=>wpOp_of_qOp hw (fun a' w' hw' h'=>zN5 hL k _ a' w' hw' h') (h.2 i hi).2⟩
theorem zON {i : Nat} {oi : Oper} {v : Value} (hi : ops[i]? = some oi) (hsel : ∀ (j : Nat) (o : Oper) cs b, ops[j]? = some o → o.op ≠ .select cs b)
    (hs:Region.sinkB md ops n=true) (hc:Region.chainB md ops n=true) (hn:n<ops.size) (hin:i<n) (hdone:∀ listed a,Lq listed a→∀ j ∈ Region.ready md ops listed,n≤j) :
    ∀ (k:Nat) (listed:Array Bool) (a:Act),HeadInv md ops n listed →
      (∀ j oj,ops[j]?=some oj→j≠i→listed.getD j true=false→(∀ e ∈ oj.after,Region.binds md e=true→e.on≠i)→oi.apart ops oj=true) →
      i ∈ Region.ready md ops listed→YieldsIn P ops C oi v a→anyH P md ops C n Lq k (listed.setIfInBounds i true) (a.put oi.dst v)→anyH P md ops C n Lq (k+1) listed a:=by
  intro k
  induction k with
  | zero =>
    intro listed a inv _ hr hy H
    have hun:=(mem_ready.1 hr).1
    refine ⟨fun h=>by rw [h] at hr; exact absurd hr (List.not_mem_nil),fun j hj=>?_⟩
    have hjn:j<n:=Nat.lt_of_not_le fun h=>absurd hj (tail_waits hs hc hn inv _ i rfl hin hun j h)
    by_cases hji:j=i
    · subst hji; exact ⟨hjn,hy.qOp hi H⟩
    · exact absurd (hdone _ _ H j (ready_mono hj hji)) (by omega)
  | succ k ih =>
    intro listed a inv hfree hr hy H
    have hun:=(mem_ready.1 hr).1
    refine ⟨fun h=>by rw [h] at hr; exact absurd hr (List.not_mem_nil),fun j hj=>?_⟩
    have hjn:j<n:=Nat.lt_of_not_le fun h=>absurd hj (tail_waits hs hc hn inv _ i rfl hin hun j h)
    refine ⟨hjn,?_⟩
    by_cases hji:j=i
    · subst hji; exact hy.qOp hi H
    · obtain ⟨hjun,oj,hoj,hall⟩:=mem_ready.1 hj
      have hnot:∀ e ∈ oj.after,Region.binds md e=true→e.on≠i:=fun e he hb heq=>by
        have h1:=hall e he hb
        rw [heq,getD_both hun] at h1
        cases h1
      refine qOp_mono (fun a' h3=>ih (listed.setIfInBounds j true) a' (inv.set hj hjn) (fun x ox hx hxi hxu hxn=>?_) (ready_mono hr (Ne.symm hji)) h3.1 ?_)
        (qOp_put hoj (hfree j oj hoj hji hjun hnot) (fun cs b=>hsel i oi cs b hi) (fun cs b=>hsel j oj cs b hoj) hy (H.2 j (ready_mono hj hji)).2)
      · refine hfree x ox hx hxi ?_ hxn
        by_cases hjx:j=x
        · subst hjx; exact hjun
        · rw [getD_set_ne true hjx] at hxu; exact hxu
      · rw [Array.setIfInBounds_comm _ _ hji]
        exact h3.2
theorem zN0 {Qa : Act → Prop} (hsel : Region.noSelect ops = true) (hs : Region.sinkB md ops n = true) (hc : Region.chainB md ops n = true) (hn : n < ops.size) :
    ∀ (l:List Oper) (k:Nat) (listed:Array Bool) (a:Act),(∀ j,j<l.length→l[j]?=ops[k+j]?)→k+l.length=n→HeadInv md ops n listed →
    Region.lexHead md ops m l.length k listed=true→wpQuiet P ops C Qa l a →
    anyH P md ops C n (fun listed' a'=>Region.seqB md ops m n listed'=true∧Qa a') l.length listed a
  | [],k,listed,a,_,hk,_,hB,h=>by
    obtain rfl:k=n:=by simpa using hk
    exact ⟨by simpa [Region.lexHead] using hB,h⟩
  | o :: l,k,listed,a,hl,hk,inv,hB,h=>by
    have h0:ops[k]?=some o:=by simpa using (hl 0 (by simp)).symm
    simp only [List.length_cons,Region.lexHead,Bool.and_eq_true] at hB
    obtain ⟨⟨hr,hf⟩,hB'⟩:=hB
    have hkn:k<n:=by simp only [List.length_cons] at hk; omega
    have hr':k ∈ Region.ready md ops listed:=by simpa using hr
    have hst:qOp P ops C k (wpQuiet P ops C Qa l) a:=by unfold qOp; simp only [h0]; exact h
    obtain ⟨v,hy,hK⟩:=yieldsIn_of_qOp h0 hst
    refine zON h0 (Region.noSelect_spec hsel) hs hc hn hkn (fun listed' a' hL=>seqB_ready hL.1) l.length listed a inv (Region.free_spec h0 hf) hr' hy ?_
    refine zN0 hsel hs hc hn l (k+1) _ _ (fun j hj=>?_) (by simp only [List.length_cons] at hk; omega) (inv.set hr' hkn) hB' hK
    have:=hl (j+1) (by simp; omega)
    simpa [Nat.add_assoc,Nat.add_comm 1 j] using this
theorem WL.all {l:List Oper} {Q:Exit→Fr→World→Prop} (h:WL P N ops l (fun f w=>Q .normal f w) f w):wpList P ops (fun e a w'=>∃ f',a=act N f'∧Q e f' w') l (act N f) w:=by
  have key:∀ (l:List Oper) (a:Act) (w:World),wpList P ops (fun e a w'=>∃ f',a=act N f'∧e=.normal∧Q .normal f' w') l a w→wpList P ops (fun e a w'=>∃ f',a=act N f'∧Q e f' w') l a w:=by
    intro l
    induction l with
    | nil=>intro a w ⟨f',ha,_,q⟩; exact ⟨f',ha,q⟩
    | cons o rest ih =>
      intro a w h
      unfold wpList at h ⊢
      split
      · rename_i hw
        rw [if_pos hw] at h
        rcases h with h | ⟨_,a0,w0,f0,_,hc,_⟩
        · refine .inl (Oper.wp_monoQ (fun a w hk=>ih _ _ hk) (fun e a w hne ⟨f',ha,he,_⟩=>absurd he hne) h)
        · cases hc
      · rename_i hw
        rw [if_neg hw] at h
        exact ih _ _ h
  exact key _ _ _ h.out
theorem WP.quietTail {id : Nat} {l : List Oper} {Q : Exit → Fr → World → Prop} (n : Nat) (S : St w0 H0 w H L) (hm : P.follows .mixedOrders = true) (hB : Region.lexTailB .any l.toArray n = true)
    (h:WQ P N l.toArray (Cl w0 H0 H L) (l.take n) (fun f'=>∀ w' H',H.le H'→St w0 H0 w' H' L→WL P N l.toArray (l.drop n) (fun f w=>Q .normal f w) f' w') f):WP P N (.region id l.toArray true) Q f w:=by
  simp only [Region.lexTailB,Bool.and_eq_true,decide_eq_true_eq] at hB
  obtain ⟨⟨⟨⟨hsel,hn⟩,hs⟩,hc⟩,hlex⟩:=hB
  have hn':n<l.length:=by simpa using hn
  have htl:(l.take n).length=n:=by simp; omega
  have hdl:(l.drop n).length=l.toArray.size - n:=by simp
  have inv0:HeadInv .any l.toArray n (Array.replicate l.toArray.size false) :=
    ⟨by simp,fun j oj _ hl=>(by rw [getD_replicate_false] at hl; cases hl),fun t _ ht=>getD_in (by simpa using ht) (getD_replicate_false _ _)⟩
  have hh:=zN0 (P:=P) (C:=Cl w0 H0 H L) (md:=.any) (m:=l.toArray.size - n) hsel hs hc hn (l.take n) 0 _ (act N f) (fun j hj=>by
    have hj':j<n:=by rw [htl] at hj; exact hj
    simp [hj']) (by simpa using htl) inv0 (by rw [htl]; exact hlex) h.out
  refine wp_region_any hm ?_
  have:=zN5 (m:=l.toArray.size - n) (Q':=fun e a w'=>∃ f',a=act N f'∧Q e f' w') (fun listed a' w' hw' hL=>by
    obtain ⟨H',hle,S'⟩:=hw'
    obtain ⟨f',ha,hq⟩:=hL.2
    subst ha
    have:=wpAny_of_seq (md:=.any) (Q':=fun e a w'=>∃ f',a=act N f'∧Q e f' w') (l.drop n) n listed (act N f') w' (fun j=>by simp [List.getElem?_drop]) (by rw [hdl]; exact hL.1) (WL.all (hq w' H' hle S'))
    rwa [hdl] at this) _ _ _ w.drew ⟨H,Hp.le.refl _,S.drew⟩ hh
  rw [htl,show n+(l.toArray.size - n)=l.toArray.size by omega] at this
  exact this
end
end Go.Eng
namespace Go.Eng
open Go Go.RowKit
section
variable {P:Program} {N:Frm} {f:Fr} {w w' w0:World} {H0 H:Hp} {L:List Ent} {ops:Array Oper} {rest:List Oper} {Q:Fr→World→Prop} {d:Nat} {od:Option Nat} {ty:TypeId} {pos:String} {af:Array Edge}
theorem St.turnRow (S : St w0 H0 w H L) (hw : Holds w0 H0) {i g n n' cap sz : Nat} {T : TypeId} {cur' : Array Value}
    (hi:L[i]?=some (.row (.slice (some ⟨g,0,none⟩) n cap) T sz n)) (hoth:∀ k,k≠g→k<w.heap.size→w'.heap[k]?=w.heap[k]?) (hsz:w.heap.size≤w'.heap.size)
    (hos:w'.os=w.os∧w'.tape=w.tape∧w'.output=w.output) (hg:w'.heap[g]?=some (.cells cur' T (0,0))) (hc:cur'.size=cap*sz) (hn:n'≤cap) (hcap:cap≤maxLen) :
    ∃ H',H0.le H'∧H' g=some (T,cur'.toList.take (n'*sz))∧St w0 H0 w' H' (L.set i (.row (.slice (some ⟨g,0,none⟩) n' cap) T sz n')):=by
  have hmem:=List.mem_of_getElem? hi
  have hown:w0.heap.size≤g:=S.own _ hmem g rfl
  have hgl:g<w.heap.size:=S.lt (List.mem_filterMap.2 ⟨_,hmem,rfl⟩)
  have h0g:H0 g=none:=hw.none_of_size hown
  have hle:H0.le (fun k=>if k=g then some (T,cur'.toList.take (n'*sz)) else H k):=by
    intro k T' l hk
    by_cases h:k=g
    · subst h; rw [h0g] at hk; cases hk
    · obtain ⟨l',hl'⟩:=S.post.le k T' l hk
      exact ⟨l',by simp only [if_neg h]; exact hl'⟩
  refine ⟨fun k=>if k=g then some (T,cur'.toList.take (n'*sz)) else H k,hle,by simp,?_⟩
  refine ⟨⟨S.post.below.trans ⟨hos.1,hos.2.1,hos.2.2,hsz,fun k hk=>hoth k (by omega) (by have:=S.post.below.size; omega)⟩,hle,fun k hk=>?_,?_⟩,?_,?_,?_⟩
  · show (if k=g then _ else H k)=H0 k
    rw [if_neg (by omega)]; exact S.post.eqb k hk
  · intro k T' l hk
    by_cases h:k=g
    · subst h
      simp at hk
      obtain ⟨rfl,rfl⟩:=hk
      exact ⟨cur',(0,0),hg,cur'.toList.drop (n'*sz),(List.take_append_drop _ _).symm⟩
    · simp only [if_neg h] at hk
      obtain ⟨cs,fz,hc',hr⟩:=S.holds k T' l hk
      exact ⟨cs,fz,by rw [hoth k h (Array.getElem?_eq_some_iff.1 hc').1]; exact hc',hr⟩
  · intro e he
    obtain ⟨j,hj⟩:=List.mem_iff_getElem?.1 he
    by_cases hij:i=j
    · subst hij
      have hlt:=(List.getElem?_eq_some_iff.1 hi).1
      rw [List.getElem?_set_self hlt] at hj
      simp at hj; subst hj
      exact .inr ⟨g,cap,cur',rfl,hg,hn,hcap,hc,by simp⟩
    · rw [List.getElem?_set_ne hij] at hj
      refine Ent.ok_keep (S.ents e (List.mem_of_getElem? hj)) fun k hk=>?_
      have hne:k≠g:=S.blk_ne hj hi hk rfl (Ne.symm hij)
      exact ⟨hoth k hne (Ent.ok_lt (S.ents e (List.mem_of_getElem? hj)) hk),if_neg hne⟩
  · intro e he k hk
    obtain ⟨j,hj⟩:=List.mem_iff_getElem?.1 he
    by_cases hij:i=j
    · subst hij
      have hlt:=(List.getElem?_eq_some_iff.1 hi).1
      rw [List.getElem?_set_self hlt] at hj
      simp at hj; subst hj
      simp [Ent.blk,Value.ownBlock] at hk; omega
    · rw [List.getElem?_set_ne hij] at hj
      exact S.own e (List.mem_of_getElem? hj) k hk
  · rw [zC9 (e':=.row (.slice (some ⟨g,0,none⟩) n' cap) T sz n') hi rfl]; exact S.nodup
theorem zMH {w : World} {g : Nat} {cur : Array Value} {T : TypeId} {fz : Nat × Nat} {d : Array Str} (h : w.heap[g]? = some (.cells cur T fz)) (hd : d.size ≤ cur.size) :
    ∃ cur',(Sort.putRow Proofs.encStr w g 0 d).heap[g]?=some (.cells cur' T fz)∧cur'.size=cur.size∧cur'.toList.take d.size=d.toList.map str:=by
  refine ⟨Sort.putCells Proofs.encStr 0 d cur,?_,by simp [Sort.putCells],?_⟩
  · simp [Sort.putRow,Sort.mapBlock,Array.getElem?_modify,h,Sort.onCells]
  · apply List.ext_getElem?
    intro k
    by_cases hk:k<d.size
    · rw [List.getElem?_take_of_lt hk]
      have h2:k<cur.size:=by omega
      simp [Sort.putCells,hk,h2,str,Proofs.encStr]
    · rw [List.getElem?_eq_none (by simp; omega),List.getElem?_eq_none (by simp; omega)]
theorem zKl {w:World} {g k:Nat} {d:Array Str} (h:k≠g):(Sort.putRow Proofs.encStr w g 0 d).heap[k]?=w.heap[k]?:=by
  simp [Sort.putRow,Sort.mapBlock,Array.getElem?_modify,Ne.symm h]
theorem zMN {w : World} {H : Hp} {g : Nat} {cur : Array Value} {T : TypeId} {xs : List Str} {cap : Nat} (hw : Holds w H) (hg : w.heap[g]? = some (.cells cur T (0, 0))) (hR : Sl H (.slice (some ⟨g, 0, none⟩) xs.length cap) xs) :
    Sort.Holds Proofs.encStr w g 0 xs.toArray:=by
  intro j hj
  have hj:j<xs.length:=by simpa using hj
  obtain ⟨a,c,hv,_,_,h3⟩:=hR
  rcases h3 with h3 | ⟨b,off,cs,ha,hat,hC⟩
  · subst h3; simp at hj
  · subst ha
    simp only [Value.slice.injEq,Option.some.injEq,Addr.mk.injEq] at hv
    obtain ⟨⟨rfl,rfl,_⟩,_⟩:=hv
    have hcs:=hC.strs
    have hget:cs[j]?=some (str xs[j]):=by rw [hcs]; simp [hj]
    refine ⟨?_,?_⟩
    · have:=hat.cell hw hget
      rw [Addr.add_lit,Nat.zero_add] at this
      rw [Nat.zero_add,this]
      simp [hj,str,Proofs.encStr]
    · simp [World.frozen?,hg]
structure SortCon (P:Program) (k:FuncId):Prop where
  enter:∀ (args:Array Value) (w:World),(callFunc k args).run P w=.ok (.enter k args) w
  none:∀ (p:Option Addr) (cap:Nat) (w:World),Calls P k #[.slice p 0 cap] w fun e w'=>e=.returned (.tuple #[])∧w'=w
  some:∀ (blk off cap:Nat) (ss:List Str) (w:World),Sort.Holds Proofs.encStr w blk off ss.toArray→blk<w.heap.size→ss.length<4611686018427387904 →
    Calls P k #[.slice (some ⟨blk,off,.none⟩) ss.length cap] w fun e w'=>e=.returned (.tuple #[])∧∃ n os,w'=Sort.grow (Sort.putRow Proofs.encStr (Sort.ahead w n) blk off (ss.mergeSort fun x y=>decide (x≤y)).toArray) os
def sortS (l:List Str):List Str:=l.mergeSort fun x y=>decide (x≤y)
theorem zGY (l:List Str):(sortS l).length=l.length:=List.length_mergeSort l
noncomputable def slices_Sort_string (l:List Str):Option (List Str):=if l.length≤big then some (sortS l) else none
noncomputable def slices_Compact_string (l:List Str):Option (List Str):=some (Lib.compact l)
theorem zI2 {H:Hp}:∀ {xs:List Str},Cells (α:=Str) H (xs.map str) xs
  | []=>rfl
  | x :: xs=>⟨[str x],xs.map str,rfl,rfl,zI2⟩
theorem W.sortRow {k : FuncId} {x : Operand} {ats : Array TypeId} {v : Value} {xs ys : List Str} {i : Nat} {T : TypeId} (C : SortCon P k) (hw : Holds w0 H0) (S : St w0 H0 w H L) (hi : L[i]? = some (.row v T 1 xs.length)) (hx : ev N f x = v) (hR : Sl H v xs)
    (h:slices_Sort_string xs=some ys)
    (K:∀ w' H',H0.le H'→Sl H' v ys→St w0 H0 w' H' (L.set i (.row v T 1 ys.length))→WL P N ops rest Q (updo f od (.tuple #[])) w'):WL P N ops (⟨od,.call ⟨.value (.func k),#[x],ats⟩,ty,pos,af,none⟩ :: rest) Q f w:=by
  have hbig:xs.length≤big:=by
    unfold slices_Sort_string at h
    split at h
    · assumption
    · cases h
  obtain rfl:sortS xs=ys:=by
    unfold slices_Sort_string at h
    rw [if_pos hbig] at h
    exact Option.some.inj h
  have hset:L.set i (.row v T 1 (sortS xs).length)=L:=by
    rw [zGY]
    apply List.ext_getElem?
    intro j
    by_cases hij:i=j
    · subst hij; rw [List.getElem?_set_self (List.getElem?_eq_some_iff.1 hi).1,hi]
    · rw [List.getElem?_set_ne hij]
  have hrun:∀ w,(execOp (ev N f) ⟨od,.call ⟨.value (.func k),#[x],ats⟩,ty,pos,af,.none⟩).run P w=.ok (.enter k #[v]) w:=by
    intro w
    have e1:(execOp (ev N f) ⟨od,.call ⟨.value (.func k),#[x],ats⟩,ty,pos,af,.none⟩)=callFunc k (#[]++#[x].map (ev N f)++#[]):=rfl
    have e:(#[]++#[x].map (ev N f)++#[])=#[v]:=by simp [hx]
    rw [e1,e]; exact C.enter _ _
  rcases (show RowOk w H v T 1 xs.length from S.ents _ (List.mem_of_getElem? hi)) with ⟨rfl,hn⟩ | ⟨g,cap,cur,rfl,hc,hnc,hcm,hcs,hH⟩
  · refine WL.enterw (w':=w) (hrun w) (Calls.mono (C.none _ _ _) fun e w' ⟨he,hw'⟩=>⟨_,he,?_⟩)
    subst hw'
    have hxs:xs=[]:=List.length_eq_zero_iff.1 hn
    subst hxs
    refine K _ H S.post.le ?_ (by rw [hset]; exact S)
    simpa [sortS] using hR
  · have hrow:=zMN S.holds hc hR
    have hg:g<w.heap.size:=(Array.getElem?_eq_some_iff.1 hc).1
    refine WL.enterw (w':=w) (hrun w) (Calls.mono (C.some g 0 cap xs w hrow hg (by simp only [big] at hbig; omega)) fun e w' ⟨he,n,os,hw'⟩=>⟨_,he,?_⟩)
    have hd:(sortS xs).toArray.size=xs.length:=by simp [zGY]
    obtain ⟨cur',hg',hsz',htk⟩:=zMH (w:=Sort.ahead w n) (g:=g) (d:=(sortS xs).toArray) hc (by rw [hd]; omega)
    have hsz2:w'.heap.size=w.heap.size+os.size:=by rw [hw']; simp
    have hgrow:∀ k,k<w.heap.size→w'.heap[k]?=(Sort.putRow Proofs.encStr (Sort.ahead w n) g 0 (sortS xs).toArray).heap[k]?:=by
      intro k hk
      rw [hw']
      show (_++os)[k]?=_
      rw [Array.getElem?_append_left (by simpa using hk)]
      rfl
    obtain ⟨H',hle,hH',S'⟩:=S.turnRow hw hi (w':=w') (n':=xs.length) (cur':=cur') (fun k hk hlt=>by rw [hgrow k hlt,zKl hk]; rfl) (by omega) (by rw [hw']; exact ⟨rfl,rfl,rfl⟩) (by rw [hgrow g hg]; exact hg') (by rw [hsz',hcs]) hnc hcm
    refine K w' H' hle ?_ (by rw [zGY]; exact S')
    refine ⟨some ⟨g,0,none⟩,cap,by rw [zGY],by rw [zGY]; exact hnc,hcm,?_⟩
    refine .inr ⟨g,0,(sortS xs).map str,rfl,⟨T,_,rfl,hH',[],?_⟩,zI2⟩
    rw [hd] at htk
    rw [List.drop_zero,Nat.mul_one,htk,List.append_nil]
structure CompactCon (P:Program) (k:FuncId):Prop where
  enter:∀ (args:Array Value) (w:World),(callFunc k args).run P w=.ok (.enter k args) w
  none:∀ (a:Option Addr) (cap:Nat) (w:World),Calls P k #[.slice a 0 cap] w fun e w'=>e=.returned (.slice a 0 cap)∧w'=w
  some:∀ (blk off cap:Nat) (zs:List Str) (w:World),Sort.Holds Proofs.encStr w blk off zs.toArray→zs.length≤9223372036854775807→zs.length≤cap →
    Calls P k #[.slice (some ⟨blk,off,.none⟩) zs.length cap] w fun e w'=>e=.returned (.slice (some ⟨blk,off,.none⟩) (Lib.compact zs).length cap)∧∃ q,w'=Sort.putRow Proofs.encStr (Sort.ahead w q) blk off (Lib.compact zs++List.replicate (zs.length - (Lib.compact zs).length) []).toArray
theorem zJm (l:List Str):(Lib.compact l).length≤l.length:=by
  unfold Lib.compact Lib.compactUpTo
  rw [List.length_map]
  exact Nat.le_trans (List.length_filter_le _ _) (by simp)
theorem W.compactRow {k : FuncId} {x : Operand} {ats : Array TypeId} {v : Value} {xs ys : List Str} {i : Nat} {T : TypeId} (C : CompactCon P k) (hw : Holds w0 H0) (S : St w0 H0 w H L) (hi : L[i]? = some (.row v T 1 xs.length)) (hx : ev N f x = v) (hR : Sl H v xs)
    (h:slices_Compact_string xs=some ys)
    (K:∀ v' w' H',H0.le H'→Sl H' v' ys→St w0 H0 w' H' (L.set i (.row v' T 1 ys.length))→WL P N ops rest Q (updo f od v') w'):WL P N ops (⟨od,.call ⟨.value (.func k),#[x],ats⟩,ty,pos,af,none⟩ :: rest) Q f w:=by
  obtain rfl:Lib.compact xs=ys:=by unfold slices_Compact_string at h; exact Option.some.inj h
  have hrun:∀ w,(execOp (ev N f) ⟨od,.call ⟨.value (.func k),#[x],ats⟩,ty,pos,af,.none⟩).run P w=.ok (.enter k #[v]) w:=by
    intro w
    have e1:(execOp (ev N f) ⟨od,.call ⟨.value (.func k),#[x],ats⟩,ty,pos,af,.none⟩)=callFunc k (#[]++#[x].map (ev N f)++#[]):=rfl
    have e:(#[]++#[x].map (ev N f)++#[])=#[v]:=by simp [hx]
    rw [e1,e]; exact C.enter _ _
  rcases (show RowOk w H v T 1 xs.length from S.ents _ (List.mem_of_getElem? hi)) with ⟨rfl,hn⟩ | ⟨g,cap,cur,rfl,hc,hnc,hcm,hcs,hH⟩
  · refine WL.enterw (w':=w) (hrun w) (Calls.mono (C.none _ _ _) fun e w' ⟨he,hw'⟩=>⟨_,he,?_⟩)
    subst hw'
    have hxs:xs=[]:=List.length_eq_zero_iff.1 hn
    subst hxs
    have hz:Lib.compact ([]:List Str)=[]:=rfl
    have hset:L.set i (.row (.slice none 0 0) T 1 (Lib.compact ([]:List Str)).length)=L:=by
      apply List.ext_getElem?
      intro j
      by_cases hij:i=j
      · subst hij; rw [List.getElem?_set_self (List.getElem?_eq_some_iff.1 hi).1,hi]; rfl
      · rw [List.getElem?_set_ne hij]
    exact K _ _ H S.post.le (by rw [hz]; exact hR) (by rw [hset]; exact S)
  · have hrow:=zMN S.holds hc hR
    have hg:g<w.heap.size:=(Array.getElem?_eq_some_iff.1 hc).1
    refine WL.enterw (w':=w) (hrun w) (Calls.mono (C.some g 0 cap xs w hrow (by simp only [maxLen] at hcm; omega) hnc) fun e w' ⟨he,n,hw'⟩=>⟨_,he,?_⟩)
    have hcl:=zJm xs
    have hd:(Lib.compact xs++List.replicate (xs.length - (Lib.compact xs).length) ([]:Str)).toArray.size=xs.length:=by simp; omega
    obtain ⟨cur',hg',hsz',htk⟩:=zMH (w:=Sort.ahead w n) (g:=g) (d:=(Lib.compact xs++List.replicate (xs.length - (Lib.compact xs).length) ([]:Str)).toArray) hc (by rw [hd]; omega)
    obtain ⟨H',hle,hH',S'⟩:=S.turnRow hw hi (w':=w') (n':=(Lib.compact xs).length) (cur':=cur') (fun k hk hlt=>by rw [hw',zKl hk]; rfl) (by rw [hw']; simp) (by rw [hw']; exact ⟨rfl,rfl,rfl⟩) (by rw [hw']; exact hg') (by rw [hsz',hcs]) (by omega) hcm
    refine K _ w' H' hle ?_ S'
    refine ⟨some ⟨g,0,none⟩,cap,rfl,by omega,hcm,?_⟩
    refine .inr ⟨g,0,(Lib.compact xs).map str,rfl,⟨T,_,rfl,hH',[],?_⟩,zI2⟩
    rw [hd] at htk
    have:cur'.toList.take (Lib.compact xs).length=(Lib.compact xs).map str:=by
      have h2:=congrArg (List.take (Lib.compact xs).length) htk
      rw [List.take_take,Nat.min_eq_left hcl] at h2
      rw [h2]
      simp
    rw [List.drop_zero,Nat.mul_one,this,List.append_nil]
section
variable {n:Nat} {listed:Array Bool}
theorem WA.two {i j : Nat} {o o' : Oper} (l1 l2 : Array Bool) (hi : ops[i]? = some o) (hj : ops[j]? = some o') (hr : Region.ready .any ops listed = [i, j]) (h1 : listed.setIfInBounds i true = l1) (h2 : listed.setIfInBounds j true = l2)
    (k1:WL P N ops [o] (fun f' w'=>WA P N ops n l1 Q f' w') f w) (k2:WL P N ops [o'] (fun f' w'=>WA P N ops n l2 Q f' w') f w):WA P N ops (n+1) listed Q f w:=by
  subst h1; subst h2
  refine wpAny_all hr (by simp) fun q hq=>?_
  have key:∀ (q:Nat) (o:Oper),ops[q]?=some o→WL P N ops [o] (fun f' w'=>WA P N ops n (listed.setIfInBounds q true) Q f' w') f w→wpOp P ops (fun e a w'=>∃ f',a=act N f'∧e=.normal∧Q f' w') q (wpAny P .any ops (fun e a w'=>∃ f',a=act N f'∧e=.normal∧Q f' w') n (listed.setIfInBounds q true)) (act N f) w:=by
    intro q o hq h
    unfold wpOp
    rw [hq]
    have h':wpList P ops (fun e a w'=>∃ f',a=act N f'∧e=.normal∧WA P N ops n (listed.setIfInBounds q true) Q f' w') [o] (act N f) w:=h.out
    unfold wpList at h'
    show if Region.wanted o (yielded ops (act N f).tmps)=true then _ else _
    split
    · rename_i hw
      rw [if_pos hw] at h'
      rcases h' with h' | ⟨_,a0,w0,f0,_,he,_⟩
      · refine .inl (Oper.wp_monoQ (fun a w hk=>?_) (fun e a w hne ⟨f',ha,he,_⟩=>absurd he hne) h')
        obtain ⟨f',ha,_,hq⟩:=hk
        subst ha; exact hq
      · cases he
    · rename_i hw
      rw [if_neg hw] at h'
      obtain ⟨f',ha,_,hq⟩:=h'
      rw [ha]; exact hq
  rcases List.mem_cons.1 hq with rfl | hq
  · exact key _ _ hi k1
  · rcases List.mem_singleton.1 hq with rfl
    exact key _ _ hj k2
end
end
end Go.Eng
