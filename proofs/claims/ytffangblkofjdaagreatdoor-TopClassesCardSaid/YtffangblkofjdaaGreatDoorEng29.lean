/- A part. -/
import Derived.Test.YtffangblkofjdaaGreatDoorEng21
import Derived.Laws.Externs
import Derived.Laws.Pointers
import Derived.WideLaws
import Derived.Laws.Entries
import Derived.Lib.Bytealg
import Derived.Lib.IndexAny
import Derived.RangeFuncRecord
set_option linter.unusedVariables false
namespace Go.Eng
open Go Go.RowKit
theorem zMR {P:Program} {e:TypeId} (hc:0<P.cellsOf e) (count:Nat) (hn:1≤count):liesAt P P.depth e count 0 e 1=true:=by
  have hd:P.depth=(2*(P.types.size+Made.depth)+1)+1:=rfl
  rw [hd]
  simp only [liesAt,Bool.or_eq_true]
  left
  rw [hd]
  simp [rowAt,hn,sameLayout,show P.cellsOf e≠0 by omega]
section
variable {P:Program} {N:Frm} {f:Fr} {w w0:World} {H0 H:Hp} {L:List Ent} {ops:Array Oper} {rest:List Oper} {Q:Fr→World→Prop} {d:Nat} {od:Option Nat} {ty:TypeId} {pos:String} {af:Array Edge} {g:Option (Nat×Bool)}
theorem BoxOk.shape {b:Nat} {T:TypeId} {cs:List Value} (h:BoxOk w H b T cs):∃ n,w.shape? b=some (T,n)∧cs.length≤n:=by
  obtain ⟨_,arr,fz,hc,⟨r,hr⟩,_⟩:=h
  refine ⟨arr.size,by simp [World.shape?,hc],?_⟩
  rw [← Array.length_toList,hr,List.length_append]; omega
theorem R.toUnsafe {T T' t U : TypeId} {x : Operand} {b i n : Nat} {cs : List Value} (S : St w0 H0 w H L) (hi : L[i]? = some (.box b U cs)) (hx : ev N f x = ptr b 0) (hT : P.underlying T = some (.pointer t)) (hT' : P.underlying T' = some .unsafePointer) (hz : lay P t = some (true, n)) (hn : n ≠ 0) (hcs : cs ≠ []) :
    (execOp (ev N f) ⟨od,.convert T T' x,ty,pos,af,g⟩).run P w=.ok (.value (ptr b 0)) w:=by
  obtain ⟨m,hm,hle⟩:=(S.boxOk hi).shape
  have hpos:0<cs.length:=List.length_pos_iff.2 hcs
  obtain ⟨j,hj,hjs⟩:∃ j,P.info? t=some j∧j.size=n:=by
    unfold lay at hz
    split at hz <;> simp_all
  have:=Lib.run_to_unsafe (P:=P) w ⟨b,0,none⟩ hT hT' hj (by rw [hjs]; exact hn) hm (by show 0<m; omega)
  simp only [execOp,hx,ptr,Sem.run_bind,this,Result.andThen_ok,Sem.run_pure]
theorem R.fromUnsafe {T T' U : TypeId} {x : Operand} {b i : Nat} {cs : List Value} (S : St w0 H0 w H L) (hi : L[i]? = some (.box b U cs)) (hx : ev N f x = ptr b 0) (hT : P.underlying T = some .unsafePointer) (hT' : P.underlying T' = some (.pointer U)) (hj : ∃ j, P.info? U = some j) (hc : P.cellsOf U = cs.length) (hcs : cs ≠ []) :
    (execOp (ev N f) ⟨od,.convert T T' x,ty,pos,af,g⟩).run P w=.ok (.value (ptr b 0)) w:=by
  obtain ⟨m,hm,hle⟩:=(S.boxOk hi).shape
  have hpos:0<cs.length:=List.length_pos_iff.2 hcs
  obtain ⟨j,hj⟩:=hj
  have hl:=zMR (P:=P) (e:=U) (by omega) (m / P.cellsOf U) (by rw [hc]; exact (Nat.le_div_iff_mul_le hpos).2 (by omega))
  have:=Lib.run_from_unsafe (P:=P) w ⟨b,0,none⟩ hT hT' hj hm hl
  simp only [execOp,hx,ptr,Sem.run_bind,this,Result.andThen_ok,Sem.run_pure]
theorem W.noEscape {k : FuncId} {fn : Func} {x : Operand} {v : Value} {ats : Array TypeId} (hf : P.funcs[k]? = some fn) (hname : (fn.name == "runtime.NumGoroutine") = false) (hb : fn.body.isNone = true) (hn : Extern.findNext fn = none) (he : Extern.find fn = some Extern.AbiNoEscape.same)
    (hx:ev N f x=v) (h:WL P N ops rest Q (updo f od v) w):WL P N ops (⟨od,.call ⟨.value (.func k),#[x],ats⟩,ty,pos,af,none⟩ :: rest) Q f w:=by
  refine WL.w (w':=w) (v:=v) ?_ h
  have h1:(execOp (ev N f) ⟨od,.call ⟨.value (.func k),#[x],ats⟩,ty,pos,af,none⟩)=callFunc k (#[]++#[x].map (ev N f)++#[]):=rfl
  have h2:(#[]++#[x].map (ev N f)++#[])=#[v]:=by simp [hx]
  rw [h1,h2,run_callFunc_extern hf hname hb hn he,Lib.run_noEscape]
  rfl
theorem R.eqlPN {T T' t : TypeId} {x y : Operand} {p : Option Addr} (hx : ev N f x = .pointer p) (hy : ev N f y = .pointer none) (hT : P.underlying T = some (.pointer t)) :
    (execOp (ev N f) ⟨od,.binOp .eql T x y T',ty,pos,af,g⟩).run P w=.ok (.value (boo p.isNone)) w:=by
  have h:P.underlying T=some (.pointer (P.pointee T)):=by rw [hT]; simp [Program.pointee,hT]
  have:=run_eql_pointer_nil (P:=P) w T p h
  simp [execOp,eqGuard,hx,hy,this,boo]
theorem R.neqPN {T T' t : TypeId} {x y : Operand} {p : Option Addr} (hx : ev N f x = .pointer p) (hy : ev N f y = .pointer none) (hT : P.underlying T = some (.pointer t)) :
    (execOp (ev N f) ⟨od,.binOp .neq T x y T',ty,pos,af,g⟩).run P w=.ok (.value (boo (!p.isNone))) w:=by
  have h:P.underlying T=some (.pointer (P.pointee T)):=by rw [hT]; simp [Program.pointee,hT]
  have:=run_neq_pointer_nil (P:=P) w T p h
  simp [execOp,eqGuard,hx,hy,this,boo]
theorem R.neqPS {T T' t : TypeId} {x y : Operand} {b o : Nat} (hx : ev N f x = ptr b o) (hy : ev N f y = ptr b o) (hT : P.underlying T = some (.pointer t)) (hj : ∃ j, P.info? t = some j) :
    (execOp (ev N f) ⟨od,.binOp .neq T x y T',ty,pos,af,g⟩).run P w=.ok (.value (boo false)) w:=by
  obtain ⟨j,hj⟩:=hj
  have:=Lib.run_neq_ptr_same (P:=P) w ⟨b,o,none⟩ hT hj
  simp [execOp,eqGuard,hx,hy,this,boo,ptr]
theorem R.eqlPS {T T' t : TypeId} {x y : Operand} {b o : Nat} (hx : ev N f x = ptr b o) (hy : ev N f y = ptr b o) (hT : P.underlying T = some (.pointer t)) (hj : ∃ j, P.info? t = some j) :
    (execOp (ev N f) ⟨od,.binOp .eql T x y T',ty,pos,af,g⟩).run P w=.ok (.value (boo true)) w:=by
  obtain ⟨j,hj⟩:=hj
  have:=run_eql_ptr_same (P:=P) (w:=w) ⟨b,o,none⟩ hT hj
  simp [execOp,eqGuard,hx,hy,this,boo,ptr]
def SD (v p:Value):Prop:=∃ a n c q,v=.slice a n c∧p=.pointer q∧(n=0∨q=a)
theorem St.view (S:St w0 H0 w H L) (o:Obj):St w0 H0 (w.alloc o) H L:=by
  have hsz:w0.heap.size≤w.heap.size:=S.post.below.size
  have hold:∀ i,i<w.heap.size→(w.alloc o).heap[i]?=w.heap[i]?:=fun i hi=>RowKit.Below.heap_alloc w _ i hi
  refine ⟨⟨S.post.below.alloc hsz _,S.post.le,S.post.eqb,fun b T' l hb=>?_⟩,?_,S.own,S.nodup⟩
  · obtain ⟨cs',fz',hc,hr'⟩:=S.holds b T' l hb
    exact ⟨cs',fz',by rw [hold b (Array.getElem?_eq_some_iff.1 hc).1]; exact hc,hr'⟩
  · intro e he
    exact Ent.ok_keep (S.ents e he) fun b hb=>⟨hold b (Ent.ok_lt (S.ents e he) hb),rfl⟩
theorem W.sliceData {T e te : TypeId} {x : Operand} {v : Value} {i sz n : Nat} (S : St w0 H0 w H L) (hi : L[i]? = some (.row v e sz n)) (hx : ev N f x = v) (hp : P.underlying ty = some (.pointer te))
    (k:∀ p w',SD v p→St w0 H0 w' H L→WL P N ops rest Q (upd f d p) w'):WL P N ops (⟨some d,.call ⟨.builtin .unsafeSliceData,#[x],#[T]⟩,ty,pos,af,none⟩ :: rest) Q f w:=by
  have hrow:RowOk w H v e sz n:=S.ents _ (List.mem_of_getElem? hi)
  rcases hrow with ⟨rfl,h0⟩ | ⟨g',cap,cur,rfl,hg,hnc,hcm,hcs,hH⟩
  · refine WL.w (v:=.pointer none) (w':=w) ?_ (k _ _ ⟨none,0,0,none,rfl,rfl,.inl rfl⟩ S)
    simp only [execOp,resolve,invoke,builtin,Sem.run_bind,Sem.run_pure,Result.andThen_ok,List.map_toArray,List.map_cons,List.map_nil,hx]
    rfl
  · by_cases hc:cap=0
    · subst hc
      have hz:=Lib.run_unsafeSliceData_zero (P:=P) w #[T] ty te hp ⟨g',0,none⟩ n (e,cur.size) (by simp [World.shape?,hg])
      refine WL.w (v:=.pointer (some ⟨w.heap.size,0,none⟩)) (w':=w.alloc (.view ⟨g',0,none⟩ te)) ?_ (k _ _ ⟨_,n,0,_,rfl,rfl,.inl (by omega)⟩ (S.view _))
      simp only [execOp,resolve,invoke,builtin,Sem.run_bind,Sem.run_pure,Result.andThen_ok,List.map_toArray,List.map_cons,List.map_nil,hx,hz]
    · have hz:=Lib.run_unsafeSliceData_row (P:=P) w #[T] ty ⟨g',0,none⟩ n cap hc
      refine WL.w (v:=.pointer (some ⟨g',0,none⟩)) (w':=w) ?_ (k _ _ ⟨_,n,cap,_,rfl,rfl,.inr rfl⟩ S)
      simp only [execOp,resolve,invoke,builtin,Sem.run_bind,Sem.run_pure,Result.andThen_ok,List.map_toArray,List.map_cons,List.map_nil,hx,hz]
theorem St.freeze (S:St w0 H0 w H L) {i n:Nat} {v:Value} {T:TypeId} {sz g m cap:Nat} (hi:L[i]?=some (.row v T sz n)) (hv:v=.slice (some ⟨g,0,none⟩) m cap):St w0 H0 (w.freeze ⟨g,0,none⟩ n) H (L.eraseIdx i):=by
  have hmem:=List.mem_of_getElem? hi
  have hblk:(Ent.row v T sz n).blk=some g:=by rw [hv]; rfl
  have hown:=S.own _ hmem g hblk
  have hoth:∀ k,k≠g→(w.freeze ⟨g,0,none⟩ n).heap[k]?=w.heap[k]?:=by
    intro k hk
    unfold World.freeze
    split
    · rfl
    · simp only [Array.getElem?_modify]
      rw [if_neg (fun h=>hk h.symm)]
  have hcell:∀ cs fz T',w.heap[g]?=some (.cells cs T' fz)→∃ fz',(w.freeze ⟨g,0,none⟩ n).heap[g]?=some (.cells cs T' fz'):=by
    intro cs fz T' h
    unfold World.freeze
    split
    · exact ⟨fz,h⟩
    · simp only [Array.getElem?_modify,if_true,h,Option.map_some]
      exact ⟨_,rfl⟩
  have hB:Below w0.heap.size w0 (w.freeze ⟨g,0,none⟩ n):=Lib.below_freeze S.post.below hown n
  refine ⟨⟨hB,S.post.le,S.post.eqb,fun b T' l hb=>?_⟩,?_,fun e he=>S.own e ((List.eraseIdx_sublist _ _).subset he),S.nodup.sublist ((List.eraseIdx_sublist _ _).filterMap _)⟩
  · obtain ⟨cs',fz',hc,hr'⟩:=S.holds b T' l hb
    by_cases hbg:b=g
    · subst hbg
      obtain ⟨fz'',h⟩:=hcell _ _ _ hc
      exact ⟨cs',fz'',h,hr'⟩
    · exact ⟨cs',fz',by rw [hoth b hbg]; exact hc,hr'⟩
  · intro e he
    obtain ⟨j,hj⟩:=List.mem_iff_getElem?.1 he
    rw [List.getElem?_eraseIdx] at hj
    split at hj
    · exact Ent.ok_keep (S.ents e (List.mem_of_getElem? hj)) fun k hk=>⟨hoth k (S.blk_ne hj hi hk hblk (by omega)),rfl⟩
    · exact Ent.ok_keep (S.ents e (List.mem_of_getElem? hj)) fun k hk=>⟨hoth k (S.blk_ne hj hi hk hblk (by omega)),rfl⟩
theorem W.strOf {T T' e : TypeId} {x y : Operand} {v p : Value} {i : Nat} {s : Str} (S : St w0 H0 w H L) (hi : L[i]? = some (.row v e 1 s.length)) (R : Sl (α := UInt8) H v s) (hp : SD v p) (hx : ev N f x = p) (hy : ev N f y = int s.length) (hT : P.underlying T = some (.pointer e)) (hce : P.cellsOf e = 1)
    (k:∀ w',St w0 H0 w' H (L.eraseIdx i)→WL P N ops rest Q (upd f d (str s)) w'):WL P N ops (⟨some d,.call ⟨.builtin .unsafeString,#[x,y],#[T,T']⟩,ty,pos,af,none⟩ :: rest) Q f w:=by
  obtain ⟨a,n,c,q,rfl,rfl,hq⟩:=hp
  obtain ⟨a',c',hv,h1,h2,h3⟩:=R
  simp only [Value.slice.injEq] at hv
  obtain ⟨rfl,rfl,rfl⟩:=hv
  by_cases hs:s=[]
  · subst hs
    refine WL.w (v:=str []) (w':=w) ?_ (k w (S.drop _ (List.eraseIdx_sublist _ _)))
    have:=Lib.run_unsafeString_none (P:=P) w T T' ty q
    simp only [execOp,resolve,invoke,builtin,Sem.run_bind,Sem.run_pure,Result.andThen_ok,List.map_toArray,List.map_cons,List.map_nil,hx,show ev N f y=.int .i64 0 from hy,this]
    rfl
  · have hlen:s.length≠0:=by simpa using hs
    rcases h3 with h3 | ⟨b,off,cs,rfl,hat,hC⟩
    · exact absurd h3 hs
    obtain rfl:q=some ⟨b,off,none⟩:=hq.resolve_left hlen
    have hrow:RowOk w H (.slice (some ⟨b,off,none⟩) s.length c) e 1 s.length:=S.ents _ (List.mem_of_getElem? hi)
    rcases hrow with ⟨h,_⟩ | ⟨g',cap,cur,hv,hg,hnc,hcm,hcs,hH⟩
    · cases h
    simp only [Value.slice.injEq,Option.some.injEq,Addr.mk.injEq,and_true,true_and] at hv
    obtain ⟨⟨rfl,rfl⟩,rfl⟩:=hv
    have hbytes:=hC.bytes
    subst hbytes
    have:=Lib.run_unsafeString_row (P:=P) w T T' ty e hT hce b cur.size (by simp [World.shape?,hg]) s hs (by rw [hcs]; omega) (by have:=h1; simp only [maxLen] at h2; omega) (fun j x hj=>by
      have h:=hat.cell S.holds (j:=j) (v:=byt x) (by rw [List.getElem?_map,hj]; rfl)
      exact h)
    refine WL.w (v:=str s) (w':=w.freeze ⟨b,0,none⟩ s.length) ?_ (k _ (S.freeze hi rfl))
    simp only [execOp,resolve,invoke,builtin,Sem.run_bind,Sem.run_pure,Result.andThen_ok,List.map_toArray,List.map_cons,List.map_nil,hx,hy,int,this]
    rfl
theorem ConS.mono {k:FuncId} {args:List Value} {H1:Hp} {L2:List Ent} {R R':Hp→Value→List Ent→Prop} (h:ConS P k args w0 H0 w H1 L2 R) (hr:∀ H v L,R H v L→R' H v L):ConS P k args w0 H0 w H1 L2 R' :=
  ⟨h.1,Calls.mono h.2 fun _ _ ⟨v,H',L',he,hl,hS,hv⟩=>⟨v,H',L',he,hl,hS,hr _ _ _ hv⟩⟩
theorem zEm {T:TypeId} {ms:Array (String×TypeId)} (hT:P.underlying T=some (.interface ms)):P.underlying T=some (.interface (P.methodsAt T)):=by
  rw [hT]; simp [Program.methodsAt,hT]
theorem R.eqlNI {T T' : TypeId} {ms : Array (String × TypeId)} {x : Operand} {c : Value} (hx : ev N f x = .nilIface) (hc : c = .nilIface) (hT : P.underlying T = some (.interface ms)) :
    (execOp (ev N f) ⟨od,.binOp .eql T x (.const c) T',ty,pos,af,g⟩).run P w=.ok (.value (boo true)) w:=by
  subst hc
  have h2:=run_equal_nil_nil (P:=P) (w:=w) T (zEm hT)
  have e:ev N f (.const .nilIface)=.nilIface:=rfl
  simp only [execOp,hx,e,eqGuard_nil_constR,Sem.run_bind,Sem.run_pure,Result.andThen_ok,binOp,h2,boo]
theorem R.neqNI {T T' : TypeId} {ms : Array (String × TypeId)} {x : Operand} {c : Value} (hx : ev N f x = .nilIface) (hc : c = .nilIface) (hT : P.underlying T = some (.interface ms)) :
    (execOp (ev N f) ⟨od,.binOp .neq T x (.const c) T',ty,pos,af,g⟩).run P w=.ok (.value (boo false)) w:=by
  subst hc
  have h2:=run_equal_nil_nil (P:=P) (w:=w) T (zEm hT)
  have e:ev N f (.const .nilIface)=.nilIface:=rfl
  simp only [execOp,hx,e,eqGuard_nil_constR,Sem.run_bind,Sem.run_pure,Result.andThen_ok,binOp,h2,boo,Bool.not_true]
end
def zAt (s sub:Str):Option Int:=match sub with | [c]=>strings_IndexByte s c | _=>none
theorem zQs {P : Program} {k : FuncId} {fn : Func} {c : Code} {w : World} {H : Hp} {s sub : Str} {r : Int} (hf : P.funcs[k]? = some fn) (hb : fn.body = some c) (hname : (fn.name == "runtime.NumGoroutine") = false) (hw : Holds w H) (h : zAt s sub = some r)
    (hc:∀ (s:ByteArray) (c:UInt8) (w:World),Calls P k #[.string s,.string ⟨#[c]⟩] w fun e w'=>e=.returned (.int .i64 (Lib.indexByte s.data.toList c))∧w'=w) :
    Con P k [str s,str sub] w H (fun _ u=>u=int r):=by
  unfold zAt at h
  split at h
  case h_2=>cases h
  rename_i c
  have hh:=hc ⟨⟨s⟩⟩ c w
  simp only [strings_IndexByte,Option.some.injEq] at h
  subst h
  exact Con.of_calls_same hf hb hname hw hh
end Go.Eng
namespace Go.Eng
open Go
theorem mapN {N:Frm} {f:Fr}:([]:List Operand).map (ev N f)=[]:=rfl
theorem mapC {N:Frm} {f:Fr} {x:Operand} {xs:List Operand} {v:Value} {vs:List Value} (h:ev N f x=v) (k:xs.map (ev N f)=vs):(x :: xs).map (ev N f)=v :: vs:=by
  rw [List.map_cons,h,k]
end Go.Eng
namespace Go.Eng
open Go
def ConI (P:Program) (m:String) (recv:Value) (args:List Value) (w:World) (H:Hp) (R:Hp→Value→Prop):Prop :=
  ∃ k as',(∀ w,(callMethod recv m args.toArray).run P w=.ok (.enter k as') w) ∧
    Calls P k as' w (fun e w'=>∃ v H',e=.returned v∧Post w H w' H'∧R H' v)
section
variable {P:Program} {N:Frm} {f:Fr} {w w0:World} {H0 H:Hp} {L:List Ent} {ops:Array Oper} {rest:List Oper} {Q:Fr→World→Prop} {d:Nat} {od:Option Nat} {ty:TypeId} {pos:String} {af:Array Edge} {g:Option (Nat×Bool)}
theorem ConI.mk {m:String} {k:FuncId} {recv v:Value} {args:List Value} {R:Hp→Value→Prop} (hm:∀ w,(callMethod recv m args.toArray).run P w=.ok (.enter k (v :: args).toArray) w) (C:Con P k (v :: args) w H R):ConI P m recv args w H R:=⟨k,_,hm,C.2⟩
theorem W.invoke {m : String} {x : Operand} {xs : List Operand} {ats : Array TypeId} {args : List Value} {rv : Value} {R : Hp → Value → Prop} (S : St w0 H0 w H L) (hx : ev N f x = rv) (ha : xs.map (ev N f) = args) (C : ConI P m rv args w H R)
    (K:∀ v w' H',H.le H'→St w0 H0 w' H' L→R H' v→WL P N ops rest Q (updo f od v) w'):WL P N ops (⟨od,.call ⟨.invoke x m,xs.toArray,ats⟩,ty,pos,af,none⟩ :: rest) Q f w:=by
  obtain ⟨k,as',hm,hc⟩:=C
  refine WL.enterw (w':=w) (k:=k) (args:=as') ?_ (Calls.mono hc fun e w' ⟨v,H',he,hp,hv⟩=>⟨v,he,K v w' H' hp.le (S.call hp) hv⟩)
  subst ha; subst hx
  have e:(#[ev N f x]++xs.toArray.map (ev N f)).extract 1 (#[ev N f x]++xs.toArray.map (ev N f)).size=(xs.map (ev N f)).toArray:=by
    simp [List.take_of_length_le]
  have a0:(#[ev N f x]++xs.toArray.map (ev N f))[0]?=some (ev N f x):=by simp
  have:(execOp (ev N f) ⟨od,.call ⟨.invoke x m,xs.toArray,ats⟩,ty,pos,af,none⟩).run P w=(callMethod (ev N f x) m (xs.map (ev N f)).toArray).run P w:=by
    show (Go.invoke (.fn (.method m) #[]) (#[ev N f x]++xs.toArray.map (ev N f))).run P w=_
    unfold Go.invoke
    simp only [a0,e]
  rw [this]
  exact hm w
theorem R.mkIface {T : TypeId} {D : TypeDesc} {x : Operand} {v : Value} (hx : ev N f x = v) (hT : P.underlying T = some D) (hd : ∀ ms, D ≠ .interface ms) :
    (execOp (ev N f) ⟨od,.makeInterface T x,ty,pos,af,g⟩).run P w=.ok (.value (.iface T v)) w:=by
  simp only [execOp,Instr.makeInterface,Sem.run_bind,run_underlying hT,Result.andThen_ok,hx]
  cases D <;> first | rfl | exact absurd rfl (hd _)
end
end Go.Eng
namespace Go.Eng
open Go
set_option linter.unusedSimpArgs false
def Ms {α:Type} [Enc α] (H:Hp) (ms:List Value) (xs:List α):Prop:=Enc.sz α=1∧Cells H ms xs∧xs.length≤1048576
def xmake {α:Type} (n:Int) (z:α):Option (List α):=if 0≤n∧n≤1048576 then some (List.replicate n.toNat z) else none
def xput {α:Type} (xs:List α) (i:Int) (x:α):Option (List α):=if 0≤i∧i<xs.length then some (xs.set i.toNat x) else none
section
variable {α:Type} [Enc α] {H H':Hp} {ms:List Value} {xs:List α}
theorem Ms.mono (h:Ms H ms xs) (hl:H.le H'):Ms H' ms xs:=⟨h.1,h.2.1.mono hl,h.2.2⟩
theorem Ms.length (h:Ms H ms xs):ms.length=xs.length:=by rw [h.2.1.length,h.1,Nat.mul_one]
theorem Ms.get (h:Ms H ms xs) {i:Int} {x:α} (hx:xnth xs i=some x):0≤i∧i<xs.length∧∃ v,ms[i.toNat]?=some v∧Enc.cells H [v] x:=by
  unfold xnth at hx
  split at hx
  · rename_i h0
    obtain ⟨hlt,_⟩:=List.getElem?_eq_some_iff.1 hx
    obtain ⟨cs,r,e,hc⟩:=Cells.get h.2.1 hx
    have hl:=Enc.len hc
    rw [h.1] at hl
    rw [h.1,Nat.mul_one] at e
    match cs,hl with
    | [v],_ =>
      refine ⟨h0,by omega,v,?_,hc⟩
      have:=congrArg (fun l=>l[0]?) e
      simpa using this
  · cases hx
theorem Cells.set1 (h1:Enc.sz α=1) {v:Value} {x:α} (hv:Enc.cells H [v] x):∀ {xs:List α} {ms:List Value} (i:Nat),Cells H ms xs→i<xs.length→Cells H (ms.set i v) (xs.set i x)
  | [],_,_,_,hi=>absurd hi (by simp)
  | y :: ys,_,0,⟨cs,r,e,hc,hr⟩,_=>by
    have hl:=Enc.len hc
    rw [h1] at hl
    match cs,hl with
    | [u],_=>subst e; exact ⟨[v],r,rfl,hv,hr⟩
  | y :: ys,_,i+1,⟨cs,r,e,hc,hr⟩,hi=>by
    have hl:=Enc.len hc
    rw [h1] at hl
    match cs,hl with
    | [u],_=>subst e; exact ⟨[u],r.set i v,rfl,hc,Cells.set1 h1 hv i hr (by simpa using hi)⟩
theorem Ms.set (h:Ms H ms xs) {i:Int} {x:α} {v:Value} {ys:List α} (hv:Enc.cells H [v] x) (hx:xput xs i x=some ys):Ms H (ms.set i.toNat v) ys:=by
  unfold xput at hx
  split at hx
  · rename_i h0
    injection hx with hx
    subst hx
    exact ⟨h.1,Cells.set1 h.1 hv _ h.2.1 (by omega),by rw [List.length_set]; exact h.2.2⟩
  · cases hx
omit [Enc α] in
theorem zEp {i:Int} {x:α} {ys:List α} (hx:xput xs i x=some ys):ys.length=xs.length∧0≤i∧i<xs.length:=by
  unfold xput at hx
  split at hx
  · rename_i h0; injection hx with hx; subst hx; exact ⟨List.length_set,h0.1,h0.2⟩
  · cases hx
theorem Ms.sl {b:Nat} (h:Ms H ms xs) {n:Nat} (hn:xs.length=n) (hA:At H ⟨b,0,none⟩ ms):Sl H (.slice (some ⟨b,0,none⟩) n n) xs:=by
  subst hn
  have hm:xs.length≤maxLen:=by have:=h.2.2; unfold maxLen; omega
  exact ⟨_,_,rfl,Nat.le_refl _,hm,.inr ⟨b,0,ms,rfl,hA,h.2.1⟩⟩
theorem Cells.rep {z:α} {zv:Value} (hc:Enc.cells H [zv] z):∀ n:Nat,Cells H (List.replicate n zv) (List.replicate n z)
  | 0=>rfl
  | n+1=>⟨[zv],List.replicate n zv,rfl,hc,Cells.rep hc n⟩
end
section
variable {P:Program} {N:Frm} {f:Fr} {w w0:World} {H0 H:Hp} {L:List Ent} {ops:Array Oper} {rest:List Oper} {Q:Fr→World→Prop} {d:Nat} {od:Option Nat} {ty:TypeId} {pos:String} {af:Array Edge} {g:Option (Nat×Bool)}
theorem W.makeSlice {α : Type} [Enc α] {T e : TypeId} {x y : Operand} {n : Int} {z : α} {zv : Value} {xs : List α} (S : St w0 H0 w H L) (hE : Elem P T e 1) (h1 : Enc.sz α = 1) (hx : ev N f x = int n) (hy : ev N f y = int n) (hz : zer P e = some [zv]) (hc : Enc.cells H [zv] z)
    (h:xmake n z=some xs) (K:∀ b w' ms n,xs.length=n→Ms H ms xs→St w0 H0 w' H (.box b e ms :: L)→WL P N ops rest Q (upd f d (.slice (some ⟨b,0,none⟩) n n)) w') :
    WL P N ops (⟨some d,.makeSlice T x y,ty,pos,af,none⟩ :: rest) Q f w:=by
  unfold xmake at h
  split at h
  case isFalse=>cases h
  rename_i h0
  injection h with h
  subst h
  obtain ⟨ht,inf,zz,hinf,hzz,hsize,hzs,hbytes⟩:=hE
  have hzc:zz.cells.toList=[zv]:=by
    unfold zer at hz
    rw [hinf] at hz
    simpa [hzz] using hz
  have hza:zz.cells=#[zv]:=by
    apply Array.toList_inj.1; simpa using hzc
  have hrow:((Array.range (n.toNat*1)).map (zz.cells[· % zz.cells.size]!)).toList=List.replicate n.toNat zv:=by
    rw [hza]
    apply List.ext_getElem?
    intro i
    simp only [Nat.mul_one,Array.toList_map,Array.toList_range,List.getElem?_map,List.getElem?_replicate]
    by_cases hi:i<n.toNat
    · simp [hi,Nat.mod_one]
    · simp [hi]
  have S1:=S.box e ((Array.range (n.toNat*1)).map (zz.cells[· % zz.cells.size]!)) (0,0) (List.replicate n.toNat zv) [] (by rw [hrow]; simp) (by intro i _ h; exact Nat.not_lt_zero _ h.2)
  have K1:=K w.heap.size _ _ n.toNat List.length_replicate ⟨h1,Cells.rep hc n.toNat,by rw [List.length_replicate]; omega⟩ S1
  refine WL.w (v:=.slice (some ⟨w.heap.size,0,none⟩) n.toNat n.toNat) (w':=w.alloc (.cells ((Array.range (n.toNat*1)).map (zz.cells[· % zz.cells.size]!)) e)) ?_ K1
  have hw:IntKind.i64.wrap n=n:=wr_eq ⟨by omega,by omega⟩
  have hb:¬ ((inf.bytes:Int)*n > 2 ^ 48):=by
    have h1:(inf.bytes:Int)≤512:=by omega
    have:(inf.bytes:Int)*n≤512*1048576:=Int.mul_le_mul h1 h0.2 h0.1 (by omega)
    omega
  have hroom:¬ (n.toNat*inf.bytes > roomBytes):=by
    have:n.toNat*inf.bytes≤1048576*512:=Nat.mul_le_mul (by omega) hbytes
    unfold roomBytes; omega
  have e0:ev N f x=.int .i64 n:=hx
  have e1:ev N f y=.int .i64 n:=hy
  have hne:¬ ((decide (n<0)||decide ((inf.bytes:Int)*n > 2 ^ 48))||decide (n<0)||decide (n > n))=true:=by
    simp only [Bool.or_eq_true,decide_eq_true_eq]; omega
  simp only [execOp,Instr.makeSlice,run_underlying ht,asInt,asIntOf,e0,e1,typeInfo,hinf,Sem.run_bind,run_program,Result.andThen_ok,Sem.run_pure,hw]
  rw [if_neg (by simpa using hne)]
  simp only [askRoom,hroom,if_false,Sem.run_bind,Sem.run_pure,Result.andThen_ok,sizeOf,typeInfo,run_program,hinf,hsize,zeroValue,hzz]
  by_cases hn:n.toNat*1=0
  · simp only [hn,if_true,Sem.run_pure,Result.andThen_ok,newRow]
    simp
    have e0:∀ g:Nat→Value,(Array.range 0).map g=#[]:=fun g=>Array.eq_empty_of_size_eq_zero (by simp)
    rw [e0,e0]
  · simp only [hn,if_false,Sem.run_bind,run_program,hinf,hzz,Sem.run_pure,Result.andThen_ok,newRow]
    simp
theorem zOe {ms:List Value} {o:Nat} {v:Value} (h:o<ms.length):zC9 ms o [v]=ms.set o v:=by
  unfold zC9
  rw [List.set_eq_take_append_cons_drop,if_pos h]
  simp
theorem W.storeM {α : Type} [Enc α] {T T' : TypeId} {a x : Operand} {b i : Nat} {m : Int} {v : Value} {xs ys : List α} {y : α} {ms : List Value} (S : St w0 H0 w H L) (hM : Ms H ms xs) (ha : ev N f a = ptr b m.toNat) (hx : ev N f x = v) (hi : L[i]? = some (.box b T' ms))
    (hT:lay P T=some (false,1)) (hv1:v.cells=#[v]) (hv:Enc.cells H [v] y) (h:xput xs m y=some ys)
    (k:∀ w' ms',Ms H ms' ys→St w0 H0 w' H (L.set i (.box b T' ms'))→WL P N ops rest Q (updo f od undef) w'):WL P N ops (⟨od,.store T a x,ty,pos,af,none⟩ :: rest) Q f w:=by
  obtain ⟨_,h0,h1⟩:=zEp h
  have hl:=hM.length
  refine W.store (i:=i) (ms.set m.toNat v) S ha hx hi hT (by rw [hv1]; rfl) ?_ (by omega) ?_ (fun w' S'=>k w' _ (hM.set hv h) S')
  · rw [hv1]
    exact List.all_eq_true.2 fun u hu=>Enc.one hv u (by simpa using hu)
  · rw [hv1]
    exact zOe (by omega)
theorem R.idxM {α : Type} [Enc α] {T e : TypeId} {x i : Operand} {b n : Nat} {m : Int} {xs : List α} {z : α} (hx : ev N f x = .slice (some ⟨b, 0, none⟩) n n) (hn : xs.length = n) (hi : ev N f i = int m) (hE : Elem P T e 1) (h : xnth xs m = some z) :
    (execOp (ev N f) ⟨od,.indexAddr T x i,ty,pos,af,g⟩).run P w=.ok (.value (ptr b m.toNat)) w:=by
  refine R.idxB hx hi hE ?_
  unfold xnth at h
  split at h
  · rename_i h0
    have:=(List.getElem?_eq_some_iff.1 h).1
    omega
  · cases h
end
end Go.Eng
namespace Go.Eng
open Go
section
variable {P:Program} {N:Frm} {f:Fr} {w w0:World} {H0 H:Hp} {L:List Ent} {ops:Array Oper} {rest:List Oper} {Q:Fr→World→Prop} {d:Nat} {od:Option Nat} {ty:TypeId} {pos:String} {af:Array Edge} {g:Option (Nat×Bool)}
theorem W.countString {k : FuncId} {fn : Func} {x y : Operand} {s : Str} {c : UInt8} {ats : Array TypeId} (hf : P.funcs[k]? = some fn) (hname : (fn.name == "runtime.NumGoroutine") = false) (hb : fn.body.isNone = true) (hn : Extern.findNext fn = none) (he : Extern.find fn = some Extern.BytealgCount.count)
    (hx:ev N f x=str s) (hy:ev N f y=byt c) (h:WL P N ops rest Q (updo f od (int (s.count c:Nat))) w):WL P N ops (⟨od,.call ⟨.value (.func k),#[x,y],ats⟩,ty,pos,af,none⟩ :: rest) Q f w:=by
  refine WL.w (w':=w) (v:=int (s.count c:Nat)) ?_ h
  have h1:(execOp (ev N f) ⟨od,.call ⟨.value (.func k),#[x,y],ats⟩,ty,pos,af,none⟩)=callFunc k (#[]++#[x,y].map (ev N f)++#[]):=rfl
  have h2:(#[]++#[x,y].map (ev N f)++#[])=#[str s,byt c]:=by simp [hx,hy]
  have h3:=Lib.run_countString (P:=P) ⟨⟨s⟩⟩ (c.toNat:Int) w
  have h4:((c.toNat:Int).toNat.toUInt8)=c:=by simp
  rw [h4] at h3
  rw [h1,h2,run_callFunc_extern hf hname hb hn he]
  show ((Extern.BytealgCount.count #[str s,byt c]).run P w).andThen _=_
  rw [show (Extern.BytealgCount.count #[str s,byt c]).run P w=_ from h3]
  rfl
end
end Go.Eng
namespace Go.Eng
open Go
def zBV (s chars:Str):Option Int:=if (chars.all fun c=>decide (c<128))=true∧2≤chars.length∧chars.length≤1000∧s.length≤1073741824 then some (Lib.indexAny s chars) else none
theorem zQK {P : Program} {k : FuncId} {fn : Func} {c : Code} {w : World} {H : Hp} {s chars : Str} {r : Int} (hf : P.funcs[k]? = some fn) (hb : fn.body = some c) (hname : (fn.name == "runtime.NumGoroutine") = false) (hw : Holds w H) (h : zBV s chars = some r)
    (hc:∀ (s chars:ByteArray) (w:World),2≤chars.size→s.size<4294967281→chars.size<4294967281→(∀ (j:Nat) b,chars.data.toList[j]?=some b→b.toNat<128) →
      Calls P k #[.string s,.string chars] w fun e w'=>e=.returned (.int .i64 (Lib.indexAny s.data.toList chars.data.toList))∧RowKit.Below w.heap.size w w') :
    Con P k [str s,str chars] w H (fun _ u=>u=int r):=by
  unfold zBV at h
  split at h
  case isFalse=>cases h
  rename_i hg
  simp only [Option.some.injEq] at h
  subst h
  obtain ⟨h1,h2,h3,h4⟩:=hg
  refine Con.of_calls hf hb hname hw (hc ⟨⟨s⟩⟩ ⟨⟨chars⟩⟩ w h2 (by show s.length<_; omega) (by show chars.length<_; omega) fun j b hj=>?_)
  simp only [List.all_eq_true,decide_eq_true_eq] at h1
  exact UInt8.lt_iff_toNat_lt.1 (h1 b (List.mem_of_getElem? hj))
end Go.Eng
namespace Go.Eng
open Go
set_option linter.unusedVariables false
section
variable {P:Program}
def WPR (P:Program) (n:Nat) (c:Code) (Q:Exit→List Deferred→Fr→World→Prop) (ds:List Deferred) (f:Fr) (w:World):Prop :=
  c.wp P (fun e a w'=>∃ f' ds',a=act ⟨n,ds'⟩ f'∧Q e ds' f' w') (act ⟨n,ds⟩ f) w
variable {n:Nat} {Q:Exit→List Deferred→Fr→World→Prop} {ds:List Deferred} {f:Fr} {w:World}
theorem WPR.of {c:Code} (h:WP P ⟨n,ds⟩ c (fun e f w=>Q e ds f w) f w):WPR P n c Q ds f w :=
  Code.wp_mono (fun e a w ⟨f',ha,q⟩=>⟨f',ds,ha,q⟩) h
theorem WPR.seq {x y:Code} (h:WPR P n x (fun e ds f w=>match e with | .normal=>WPR P n y Q ds f w | e=>Q e ds f w) ds f w):WPR P n (.seq x y) Q ds f w:=by
  refine wp_seq (Code.wp_mono (fun e a w ⟨f',ds',ha,q⟩=>?_) h)
  subst ha
  cases e with
  | normal=>exact q
  | _=>exact ⟨f',ds',rfl,q⟩
theorem WPR.block {id:Nat} {c:Code} (h:WPR P n c (fun e ds f w=>Q (blk id e) ds f w) ds f w):WPR P n (.block id c) Q ds f w:=by
  refine wp_block (Code.wp_mono (fun e a w ⟨f',ds',ha,q⟩=>?_) h)
  subst ha
  cases e with
  | exit i =>
    simp only [Exit.inBlock]
    by_cases hi:i=id
    · subst hi
      simp only [if_true]
      refine ⟨f',ds',rfl,?_⟩
      simpa [blk] using q
    · simp only [hi,if_false]
      refine ⟨f',ds',rfl,?_⟩
      have hb:Nat.beq i id=false:=by
        cases hb:Nat.beq i id with
        | false=>rfl
        | true=>exact absurd (Nat.eq_of_beq_eq_true hb) hi
      simpa [blk,hb] using q
  | _=>exact ⟨f',ds',rfl,q⟩
def mark (D:Nat):Deferred:={ target:=.collected D,args:=#[] }
def OutR (P:Program) (fn:Func) (n:Nat) (w0:World) (H0:Hp) (R:Hp→Value→Prop):Exit→List Deferred→Fr→World→Prop:=fun e ds f w =>
  (e=.ret∨e=.normal)∧∃ (Ds:List Nat) (v:Value) (H:Hp) (L:List Ent),ds=Ds.map mark∧(∀ w,(results fn (tm ⟨n,[]⟩ f)).run P w=.ok v w)∧St w0 H0 w H (Ds.map (fun D=>Ent.obj D (.deferred (some [])))++L)∧R H v
theorem St.renewObj {w0 w:World} {H0 H:Hp} {L:List Ent} (S:St w0 H0 w H L) {i b:Nat} {o:Obj} (hi:L[i]?=some (.obj b o)) (o':Obj):St w0 H0 (w.putObj b o') H (L.set i (.obj b o')):=by
  obtain ⟨hH,hc⟩:ObjOk w H b o:=S.ents _ (List.mem_of_getElem? hi)
  have hlt:=(Array.getElem?_eq_some_iff.1 hc).1
  exact S.renew hi rfl rfl hH (fun k hk=>World.putObj_heap_other hk) World.putObj_size ⟨rfl,rfl,rfl⟩ ⟨hH,World.putObj_heap_same hlt⟩
theorem Con.mkR {N : Nat} {fn : Func} {c : Code} {k : FuncId} {args : List Value} {H : Hp} {R : Hp → Value → Prop} (hf : P.funcs[k]? = some fn) (hb : fn.body = some c) (hn : fn.ntmps = N) (hname : (fn.name == "runtime.NumGoroutine") = false)
    (hsz:Nat.ble args.length N=true) (h:WPR P N c (OutR P fn N w H R) [] (init args) w):Con P k args w H R:=by
  refine ⟨fun w=>?_,?_⟩
  · simp only [callFunc,Sem.run_bind,run_program,Result.andThen_ok,hf,hname,hb]
    rfl
  · refine callsIn_wide.1 (callsIn_of_wp_marks (n:=0) hf hb trivial (wpIn_wide.2 ?_) rfl)
    have hle:args.length≤N:=Nat.le_of_ble_eq_true hsz
    have e:({ tmps:=args.toArray++Array.replicate (fn.ntmps - args.toArray.size) undef,defers:=[] }:Act)=act ⟨N,[]⟩ (init args):=by
      simp only [act]
      congr 1
      apply Array.ext_getElem?
      intro t
      rw [zE6,hn,Array.getElem?_append]
      simp only [List.size_toArray,List.getElem?_toArray,init,List.getD_eq_getElem?_getD]
      by_cases h1:t<args.length
      · simp [h1,show t<N from by omega]
      · simp only [h1,if_false]
        rw [Array.getElem?_replicate]
        by_cases h2:t<N
        · rw [if_pos (by omega),if_pos h2,List.getElem?_eq_none (by omega)]; rfl
        · rw [if_neg (by omega),if_neg h2]
    rw [e]
    refine Code.wp_mono (fun e a w' ⟨f',ds',ha,he,Ds,v,H',L,hds,hv,hS,hr⟩=>?_) h
    subst ha
    have key : ∀ (Ds : List Nat) (w' : World), St w H w' H' (Ds.map (fun D => Ent.obj D (.deferred (some []))) ++ L) →
        LeavesInM Fence.wide 0 P fn (tm ⟨N,ds'⟩ f') (fun e w'=>∃ v,∃ H',e=.returned v∧Post w H w' H'∧R H' v) (Ds.map mark) .returning w':=by
      intro Ds
      induction Ds with
      | nil =>
        intro w' S
        exact ⟨v,hv w',v,H',rfl,S.post,hr⟩
      | cons D Ds ih =>
        intro w' S
        have hok:ObjOk w' H' D (.deferred (some [])):=S.ents (.obj D (.deferred (some []))) (by simp)
        refine ⟨by simp,.inl ⟨D,_,rfl,run_takeDeferred hok.2,ih _ ?_⟩⟩
        have S2:=S.renewObj (i:=0) rfl (.deferred none)
        exact S2.drop _ (by simp)
    subst hds
    rcases he with rfl | rfl
    · exact key Ds w' hS
    · exact key Ds w' hS
abbrev rec0 (fn:FuncId) (n:Nat) (f:Fr) (ps:Array Tmp) (assign body:Code) (D:Nat):Loop :=
  { state:=.ready,pending:=none,fn,tmps:=tm ⟨n,[]⟩ f,params:=ps,assign,body,defers:=D }
theorem WPR.range {w0 : World} {H0 H : Hp} {L : List Ent} {g : Operand} {ps : Array Tmp} {assign body : Code} {gf : Nat} {caps : List Value}
    (S:St w0 H0 w H L) (hg:ev ⟨n,ds⟩ f g=.func (.func gf) #[] caps.toArray) (eg:∀ args w,(callFunc gf args).run P w=.ok (.enter gf args) w)
    (h:∀ (fn D:Nat) (w2:World),St w0 H0 w2 H (.obj (D+1) (.loop (rec0 fn n f ps assign body D)) :: .obj D (.deferred (some [])) :: L) →
      Calls P gf (#[.func (.yield (D+1)) #[] #[]]++caps.toArray) w2 (fun e w'=>∃ v,e=.returned v∧∃ H' L',St w0 H0 w' H' (.obj (D+1) (.loop (rec0 fn n f ps assign body D)) :: L') ∧
        ∀ w'',St w0 H0 w'' H' L'→Q .normal (mark D :: ds) f w'')) :
    WPR P n (.rangeFunc g ps assign body) Q ds f w:=by
  refine (wpIn_wide (n:=0)).1 (wpIn_rangeFunc fun fn _=>?_)
  have S1:=S.new (.deferred (some [])) (.obj w.heap.size (.deferred (some []))) rfl ⟨S.holds.none_of_size (Nat.le_refl _),heap_alloc_new w _⟩
  have hsz:(w.alloc (.deferred (some []))).heap.size=w.heap.size+1:=by simp
  have S2:=S1.new (.loop (rec0 fn n f ps assign body w.heap.size)) (.obj (w.heap.size+1) (.loop (rec0 fn n f ps assign body w.heap.size))) (by rw [hsz]; rfl)
    ⟨S1.holds.none_of_size (by rw [hsz]; exact Nat.le_refl _),by have:=heap_alloc_new (w.alloc (.deferred (some []))) (.loop (rec0 fn n f ps assign body w.heap.size)); rw [hsz] at this; exact this⟩
  have hev:(act ⟨n,ds⟩ f).eval g=.func (.func gf) #[] caps.toArray:=(zHi _ f g).trans hg
  refine ⟨w.heap.size+1,[mark w.heap.size],((w.alloc (.deferred (some []))).alloc (.loop (rec0 fn n f ps assign body w.heap.size))),⟨.fn (.func gf) caps.toArray,#[.func (.yield (w.heap.size+1)) #[] #[]]⟩,((w.alloc (.deferred (some []))).alloc (.loop (rec0 fn n f ps assign body w.heap.size))),gf,#[.func (.yield (w.heap.size+1)) #[] #[]]++caps.toArray,((w.alloc (.deferred (some []))).alloc (.loop (rec0 fn n f ps assign body w.heap.size))),run_enterLoop_outer fn (act ⟨n,ds⟩ f).tmps ps assign body,?_,fun _ _=>trivial,?_,(fun h=>by cases h),callsIn_wide.2 ?_⟩
  · simp only [resolve,hev,Deferred.ofValue]
    simp [Act.eval]
  · simp only [invoke]
    exact eg _ _
  · refine Calls.mono (h fn w.heap.size _ S2) fun e w' ⟨v,he,H',L',S',hq⟩=>?_
    subst he
    have hok:ObjOk w' H' (w.heap.size+1) (.loop (rec0 fn n f ps assign body w.heap.size)):=S'.ents (.obj (w.heap.size+1) (.loop (rec0 fn n f ps assign body w.heap.size))) (by simp)
    refine ⟨none,_,run_endLoop hok.2 (by simp),f,mark w.heap.size :: ds,rfl,hq _ ?_⟩
    have S3:=S'.renewObj (i:=0) rfl (.loop { rec0 fn n f ps assign body w.heap.size with state:=.exhausted })
    exact S3.drop _ (.cons _ (.refl _))
end
section
variable {P:Program} {N:Frm}
structure WY (P:Program) (N:Frm) (ops:Array Oper) (l:List Nat) (Q:Fr→World→Prop) (f:Fr) (w:World):Prop where
  out:wpOpsIn Fence.wide 0 P ops (fun e a w'=>∃ f',a=act N f'∧e=.normal∧Q f' w') l (act N f) w
variable {ops:Array Oper} {rest:List Nat} {Q:Fr→World→Prop} {f:Fr} {w w':World} {d:Option Nat} {op:Op} {ty:TypeId} {pos:String} {af:Array Edge} {i:Nat}
theorem WP.regionY {id:Nat} {Q:Exit→Fr→World→Prop} (l:List Nat) (hl:List.range ops.size=l) (h:WY P N ops l (Q .normal) f w):WP P N (.region id ops false) Q f w:=by
  subst hl
  refine (wpIn_wide (n:=0)).1 (wpIn_region ?_)
  have key:∀ (l:List Nat) (a:Act) (w:World),wpOpsIn Fence.wide 0 P ops (fun e a w'=>∃ f',a=act N f'∧e=.normal∧Q .normal f' w') l a w→wpOpsIn Fence.wide 0 P ops (fun e a w'=>∃ f',a=act N f'∧Q e f' w') l a w:=by
    intro l
    induction l with
    | nil=>intro a w ⟨f',ha,_,q⟩; exact ⟨f',ha,q⟩
    | cons i rest ih =>
      intro a w h
      unfold wpOpsIn at h ⊢
      split
      · rename_i ho
        simp only [ho] at h
        exact ih _ _ h
      · rename_i o ho
        simp only [ho] at h
        split
        · rename_i hw
          rw [if_pos hw] at h
          refine ⟨h.1,?_⟩
          have h2:=h.2
          unfold Oper.uponIn at h2 ⊢
          generalize (Oper.semAt Fence.wide.round a.eval o).run P w=r at h2 ⊢
          cases r with
          | ok nx w' =>
            cases nx with
            | value v=>exact ih _ _ h2
            | skip=>exact ih _ _ h2
            | defer d=>exact ih _ _ h2
            | enter g args =>
              refine ⟨h2.1,CallsIn.mono h2.2 fun e w'' he=>?_⟩
              cases e with
              | returned v=>exact ih _ _ he
              | panicked c=>obtain ⟨f',ha,hc,_⟩:=he; cases hc
              | outgrown=>obtain ⟨a0,w0,f0,_,hc,_⟩:=he; cases hc
            | row r args=>exact ⟨h2.1,RowsIn.mono h2.2 fun v w'' he=>ih _ _ he⟩
            | round l f tmps assign body =>
              refine ⟨h2.1,RoundIn.mono h2.2 fun e w'' he=>?_⟩
              cases e with
              | returned v=>exact ih _ _ he
              | panicked c=>obtain ⟨f',ha,hc,_⟩:=he; cases hc
              | outgrown=>obtain ⟨a0,w0,f0,_,hc,_⟩:=he; cases hc
            | _=>exact h2
          | halt x w' =>
            cases x with
            | panic v=>obtain ⟨f',_,hc,_⟩:=h2; cases hc
            | _=>exact h2
        · rename_i hw
          rw [if_neg hw] at h
          exact ⟨h.1,ih _ _ h.2⟩
  exact key _ _ _ h.out
theorem WY.nil (h:Q f w):WY P N ops [] Q f w:=⟨⟨f,rfl,rfl,h⟩⟩
theorem WY.valw {v:Value} (ho:ops[i]?=some ⟨d,op,ty,pos,af,none⟩) (hr:(execOp (ev N f) ⟨d,op,ty,pos,af,none⟩).run P w=.ok (.value v) w') (h:WY P N ops rest Q (updo f d v) w'):WY P N ops (i :: rest) Q f w:=by
  refine ⟨?_⟩
  unfold wpOpsIn
  simp only [ho]
  rw [if_pos (by simp [Region.wanted])]
  refine ⟨fun _ _=>trivial,?_⟩
  have e:(Oper.semAt Fence.wide.round (act N f).eval ⟨d,op,ty,pos,af,none⟩).run P w=.ok (.value v) w':=by
    rw [zBl]; exact hr
  rw [e,Oper.uponIn_value]
  show wpOpsIn _ _ _ _ _ rest ((act N f).put d v) w'
  rw [zBe]
  exact h.out
theorem WY.yield {x a : Operand} {v : Value} {l : Nat} {r : Loop} {ats : Array TypeId} {K : World → Prop} (ho : ops[i]? = some ⟨d, .call ⟨.value x, #[a], ats⟩, ty, pos, af, none⟩)
    (hx:ev N f x=.func (.yield l) #[] #[]) (ha:ev N f a=v) (hl:w.heap[l]?=some (.loop r)) (hp:r.params.size=1)
    (hR:RoundIn Fence.wide 0 P l r.fn ((r.params.zip #[v]).foldl (fun tmps (t,a)=>tmps.setIfInBounds t a) r.tmps) r.assign r.body w (fun e w'=>e=.returned (.bool true)∧K w'))
    (h:∀ w',K w'→WY P N ops rest Q (updo f d (boo true)) w'):WY P N ops (i :: rest) Q f w:=by
  refine ⟨?_⟩
  unfold wpOpsIn
  simp only [ho]
  rw [if_pos (by simp [Region.wanted])]
  refine ⟨fun _ _=>trivial,?_⟩
  have e:(Oper.semAt Fence.wide.round (act N f).eval ⟨d,.call ⟨.value x,#[a],ats⟩,ty,pos,af,none⟩).run P w=.ok (.round l r.fn ((r.params.zip #[v]).foldl (fun tmps (t,a)=>tmps.setIfInBounds t a) r.tmps) r.assign r.body) w:=by
    rw [zBl,show Fence.wide.round=none from rfl,Oper.semAt_none]
    have hy:=run_yield (P:=P) (args:=#[v]) hl (by rw [hp]; rfl)
    simp [execOp,resolve,hx,ha,Deferred.ofValue,invoke,hy]
  rw [e,Oper.uponIn_round]
  refine ⟨(fun h=>by cases h),RoundIn.mono hR fun e w' ⟨he,hk⟩=>?_⟩
  subst he
  show wpOpsIn _ _ _ _ _ rest ((act N f).put d (.bool true)) w'
  rw [zBe]
  exact (h w' hk).out
def SL (P:Program) (N:Frm):List Oper→(Fr→World→Prop)→Fr→World→Prop
  | [],Q,f,w=>Q f w
  | o :: rest, Q, f, w => o.guard = none ∧ (∀ c, o.op ≠ .defer c) ∧
      ((∃ v w',(execOp (ev N f) o).run P w=.ok (.value v) w'∧SL P N rest Q (updo f o.dst v) w')∨(∃ w',(execOp (ev N f) o).run P w=.ok .skip w'∧SL P N rest Q (updo f o.dst undef) w'))
theorem SL.wpIn {l id : Nat} {ops : List Oper} {Q : Fr → World → Prop} {f : Fr} {w : World} (h : SL P N ops Q f w) :
    (Code.region id ops.toArray false).wpIn (Fence.wide.inRound l) 0 P (fun e a w'=>∃ f',a=act N f'∧e=.normal∧Q f' w') (act N f) w:=by
  refine wpIn_region ?_
  have key : ∀ (k n : Nat) (f : Fr) (w : World), n + k = ops.length → SL P N (ops.drop n) Q f w →
      wpOpsIn (Fence.wide.inRound l) 0 P ops.toArray (fun e a w'=>∃ f',a=act N f'∧e=.normal∧Q f' w') (List.range' n k) (act N f) w:=by
    intro k
    induction k with
    | zero =>
      intro n f w hn h
      have:n=ops.length:=by omega
      subst this
      rw [List.drop_length] at h
      exact ⟨f,rfl,rfl,h⟩
    | succ k ih =>
      intro n f w hn h
      have hlt:n<ops.length:=by omega
      rw [List.drop_eq_getElem_cons hlt] at h
      obtain ⟨hg,hd,h⟩:=h
      have ho:ops.toArray[n]?=some ops[n]:=by simp [hlt]
      rw [List.range'_succ]
      unfold wpOpsIn
      simp only [ho]
      rw [if_pos (by simp [Region.wanted,hg])]
      refine ⟨fun _ _=>trivial,?_⟩
      have es:=Oper.semAt_eq (some l) (act N f).eval ops[n] hd
      rw [show (Fence.wide.inRound l).round=some l from rfl,es,zBl]
      rcases h with ⟨v,w',hr,h⟩ | ⟨w',hr,h⟩
      · rw [hr,Oper.uponIn_value,zBe]
        exact ih (n+1) _ _ (by omega) h
      · rw [hr,Oper.uponIn_skip,zBe]
        exact ih (n+1) _ _ (by omega) h
  have:=key ops.length 0 f w (by omega) (by simpa using h)
  simpa [List.range_eq_range'] using this
theorem zNr {n : Nat} {w0 w : World} {H0 H : Hp} {L : List Ent} {l : Nat} {r : Loop} {ia j ib : Nat} {opa opb : List Oper} {f : Fr} {tmps : Array Value} {K : World → Prop}
    (S:St w0 H0 w H (.obj l (.loop r) :: L)) (hr:r.state=.ready) (hpend:r.pending=none) (ha:r.assign=.region ia opa.toArray false) (hb:r.body=.block j (.region ib opb.toArray false)) (ht:tmps=tm ⟨n,[]⟩ f)
    (h:SL P ⟨n,[]⟩ opa (fun f1 w1=>∃ H1,St w0 H0 w1 H1 (.obj l (.loop r) :: L)∧∀ w2,St w0 H0 w2 H1 (.obj l (.loop { r with state:=.busy }) :: L) →
      SL P ⟨n,[]⟩ opb (fun f3 w3=>∃ H3 L3,St w0 H0 w3 H3 (.obj l (.loop { r with state:=.busy }) :: L3)∧∀ w4,St w0 H0 w4 H3 (.obj l (.loop r) :: L3)→K w4) f1 w2) f w) :
    RoundIn Fence.wide 0 P l r.fn tmps r.assign r.body w (fun e w'=>e=.returned (.bool true)∧K w'):=by
  subst ht
  rw [ha,hb]
  have hr0:{ r with state:=LoopState.ready,pending:=none }=r:=by cases r; simp at hr hpend; subst hr; subst hpend; rfl
  refine roundIn_of_wpIn trivial (wpIn_mono (SL.wpIn h) fun e a w1 ⟨f1,hact,he,H1,S1,hk⟩=>?_)
  subst hact; subst he
  have hok:ObjOk w1 H1 l (.loop r):=S1.ents (.obj l (.loop r)) (by simp)
  refine ⟨_,run_beginRound hok.2 hr,wpIn_block (wpIn_mono (SL.wpIn (hk _ (S1.renewObj (i:=0) rfl _))) fun e a w3 ⟨f3,hact,he,H3,L3,S3,hk3⟩=>?_)⟩
  subst hact; subst he
  have hok3:ObjOk w3 H3 l (.loop { r with state:=.busy }):=S3.ents (.obj l (.loop { r with state:=.busy })) (by simp)
  refine ⟨_,_,run_endRound none hok3.2,rfl,hk3 _ ?_⟩
  have S4:=S3.renewObj (i:=0) rfl (.loop { { r with state:=.busy } with state:=.ready,pending:=none })
  have e2:({ { r with state:=LoopState.busy } with state:=LoopState.ready,pending:=none }:Loop)=r:=hr0
  have goal:St w0 H0 (w3.putObj l (.loop { { r with state:=LoopState.busy } with state:=LoopState.ready,pending:=none })) H3 (.obj l (.loop r) :: L3):=by
    have S5:St w0 H0 (w3.putObj l (.loop { { r with state:=LoopState.busy } with state:=LoopState.ready,pending:=none })) H3 (.obj l (.loop { { r with state:=LoopState.busy } with state:=LoopState.ready,pending:=none }) :: L3):=S4
    rw [e2] at S5 ⊢
    exact S5
  exact goal
end
end Go.Eng
namespace Go.Eng
open Go Go.ChangeMaps
set_option linter.unusedVariables false
set_option linter.unusedSimpArgs false
section
variable {P:Program} {N:Frm} {f:Fr} {w w' w0:World} {H0 H:Hp} {L:List Ent} {ops:Array Oper} {rest:List Oper} {Q:Fr→World→Prop} {d:Nat} {od:Option Nat} {ty:TypeId} {pos:String} {af:Array Edge} {g:Option (Nat×Bool)}
theorem St.runDelete {β : Type} (F : β → Value) {T K E : TypeId} {x y : Operand} {ats : Array TypeId} {b i : Nat} {m : List (Str × β)} {k : Str} (S : St w0 H0 w H L) (hx : ev N f x = mapv b) (hy : ev N f y = str k) (hi : L[i]? = some (.mp b (encm F m)))
    (hat:ats=#[T,K]) (hT:P.underlying T=some (.map K E)) (hK:P.underlying K=some .string) :
    ∃ w',(execOp (ev N f) ⟨od,.call ⟨.builtin .delete,#[x,y],ats⟩,ty,pos,af,g⟩).run P w=.ok (.value (.tuple #[])) w'∧St w0 H0 w' H (L.set i (.mp b (encm F (mdel m k)))):=by
  subst hat
  obtain ⟨hH,es,cl,hc,he⟩:=S.mpOk hi
  obtain ⟨r,hr1,hr2,hr3,hr4,hr5,hr6,hr7,hr8⟩:=zEW F k m es.toList 0 he
  have hg:(getObj b).run P w=.ok (.map es cl) w:=MapKept.run_getObj_map hc
  have hfk:=run_findKey (w:=w) hK F k m es.toList he hr1
  have hset:∀ es' cl',(setObj b (.map es' cl')).run P w=.ok () (setBlock w b (.map es' cl')):=fun es' cl'=>MapKept.run_setObj_map _ hc
  have hck:∀ e,(Instr.checkKey e 10000 K (str k)).run P w=.ok () w:=fun e=>run_checkKey hK e _
  cases r with
  | none =>
    refine ⟨setBlock w b (.map es cl),?_,S.setMp hi ?_⟩
    · simp [execOp,resolve,invoke,builtin,Builtin.delete_,hx,hy,mapv,run_underlying hT,hg,hck,hfk,hset,Result.andThen]
    · rw [he,hr7 rfl]
  | some q =>
    obtain ⟨j,u0⟩:=q
    refine ⟨setBlock w b (.map (es.eraseIdxIfInBounds j) cl),?_,S.setMp hi ?_⟩
    · simp [execOp,resolve,invoke,builtin,Builtin.delete_,hx,hy,mapv,run_underlying hT,hg,hck,hfk,hset,Result.andThen]
    · have h6:=hr6 j u0 rfl
      have h3:=(hr3 j u0 rfl).2.1
      have hj:j<es.size:=by simpa using h3
      rw [Array.eraseIdxIfInBounds,dif_pos hj,Array.toList_eraseIdx]
      exact h6
theorem W.mapDelete {β : Type} (F : β → Value) {T K E : TypeId} {x y : Operand} {ats : Array TypeId} {b i : Nat} {m : List (Str × β)} {k : Str} (S : St w0 H0 w H L) (hx : ev N f x = mapv b) (hy : ev N f y = str k) (hi : L[i]? = some (.mp b (encm F m)))
    (hat:ats=#[T,K]) (hT:P.underlying T=some (.map K E)) (hK:P.underlying K=some .string)
    (kk:∀ w',St w0 H0 w' H (L.set i (.mp b (encm F (mdel m k))))→WL P N ops rest Q (updo f od (.tuple #[])) w'):WL P N ops (⟨od,.call ⟨.builtin .delete,#[x,y],ats⟩,ty,pos,af,none⟩ :: rest) Q f w:=by
  obtain ⟨w',hr,S'⟩:=S.runDelete (od:=od) (ty:=ty) (pos:=pos) (af:=af) (g:=none) F hx hy hi hat hT hK
  exact WL.w hr (kk w' S')
theorem St.runUpdate {β : Type} (F : β → Value) {T K E : TypeId} {x y z : Operand} {b i : Nat} {m : List (Str × β)} {k : Str} {v : Value} (u : β) (S : St w0 H0 w H L) (hx : ev N f x = mapv b) (hy : ev N f y = str k) (hz : ev N f z = v) (hv : v = F u) (hi : L[i]? = some (.mp b (encm F m)))
    (hT:P.underlying T=some (.map K E)) (hK:P.underlying K=some .string) :
    ∃ w',(execOp (ev N f) ⟨od,.mapUpdate T x y z,ty,pos,af,g⟩).run P w=.ok .skip w'∧St w0 H0 w' H (L.set i (.mp b (encm F (mset m k u)))):=by
  obtain ⟨hH,es,cl,hc,he⟩:=S.mpOk hi
  obtain ⟨r,hr1,hr2,hr3,hr4,hr5,_,_,hr8⟩:=zEW F k m es.toList 0 he
  have hg:(getObj b).run P w=.ok (.map es cl) w:=MapKept.run_getObj_map hc
  have hfk:=run_findKey (w:=w) hK F k m es.toList he hr1
  have hset:∀ es' cl',(setObj b (.map es' cl')).run P w=.ok () (setBlock w b (.map es' cl')):=fun es' cl'=>MapKept.run_setObj_map _ hc
  cases r with
  | none =>
    refine ⟨setBlock w b (.map (es.push { key:=str k,val:=v,born:=cl }) (cl+1)),?_,S.setMp hi ?_⟩
    · simp [execOp,Instr.mapUpdate,hx,hy,hz,mapv,run_underlying hT,hg,run_checkKey hK,hfk,hset,Result.andThen]
    · rw [Array.toList_push,List.map_append,he,hr5 rfl]
      simp [encm,hv]
  | some q =>
    obtain ⟨j,u0⟩:=q
    have h8:=hr8 j u0 rfl
    have hk8:(((es[j]?).map (·.key)).getD (str k))=str k:=by
      rw [← Array.getElem?_toList]
      have:(es.toList[j]?).map (·.key)=some (str k):=h8
      rw [this]; rfl
    have hst:(Instr.keyThatStays (str k) (str k)).run P w=.ok (str k) w:=by
      have hb:Instr.sameBits 10000 (str k) (str k)=true:=by
        unfold Instr.sameBits
        exact (zIt k k).trans (by simp)
      simp [Instr.keyThatStays,hb]
    refine ⟨setBlock w b (.map (es.modify j fun e=>{ e with key:=str k,val:=v }) cl),?_,S.setMp hi ?_⟩
    · simp [execOp,Instr.mapUpdate,hx,hy,hz,mapv,run_underlying hT,hg,run_checkKey hK,hfk,hset,Result.andThen,hk8,hst]
    · rw [Array.toList_modify]
      have:=hr4 j u0 u rfl
      subst hv
      exact this
end
section
variable {P:Program} {n:Nat} {f:Fr} {w w0:World} {H0 H:Hp} {L:List Ent}
theorem zKQ (t:Nat) (v:Value):((#[t].zip #[v]).foldl (fun tmps (t,a)=>tmps.setIfInBounds t a) (tm ⟨n,[]⟩ f))=tm ⟨n,[]⟩ (upd f t v):=by
  have h:=congrArg Act.tmps (zBe ⟨n,[]⟩ f (some t) v)
  have e:((#[t].zip #[v]).foldl (fun tmps (t,a)=>tmps.setIfInBounds t a) (tm ⟨n,[]⟩ f))=(tm ⟨n,[]⟩ f).setIfInBounds t v:=by simp
  rw [e]
  exact h
structure RF (n:Nat) (f:Fr) (t s a b x:Nat) (k:Str) (bm q:Nat):Prop where
  h1:ev ⟨n,[]⟩ (upd f t (str k)) (.tmp t)=str k
  h2:ev ⟨n,[]⟩ (upd (upd f t (str k)) s (str k)) (.tmp x)=ptr bm 0
  h3:ev ⟨n,[]⟩ (upd (upd (upd f t (str k)) s (str k)) a (mapv q)) (.tmp s)=str k
  h4:ev ⟨n,[]⟩ (upd (upd (upd (upd f t (str k)) s (str k)) a (mapv q)) b (str k)) (.tmp a)=mapv q
  h5:ev ⟨n,[]⟩ (upd (upd (upd (upd f t (str k)) s (str k)) a (mapv q)) b (str k)) (.tmp b)=str k
variable {fn D l ia j ib t s a b x bm q T K TB:Nat} {k:Str} {od:Option Nat} {m:List (Str×Bool)} {ty1 ty2 ty3 ty4:TypeId} {p1 p2 p3 p4:String} {a1 a2 a3 a4:Array Edge} {ats:Array TypeId} {i1 i2 E:Nat}
theorem Round.del (S : St w0 H0 w H (.obj l (.loop (rec0 fn n f #[t] (.region ia #[⟨some s, .assign (.tmp t), ty1, p1, a1, none⟩] false)
        (.block j (.region ib #[⟨some a,.load T (.tmp x),ty2,p2,a2,none⟩,⟨some b,.move (.tmp s),ty3,p3,a3,none⟩,⟨od,.call ⟨.builtin .delete,#[.tmp a,.tmp b],ats⟩,ty4,p4,a4,none⟩] false)) D)) :: L))
    (hF:RF n f t s a b x k bm q) (h1:L[i1]?=some (.box bm TB [mapv q])) (h2:L[i2]?=some (.mp q (encm boo m))) (hlay:lay P T=some (false,1)) (hat:ats=#[T,K]) (hT:P.underlying T=some (.map K E)) (hK:P.underlying K=some .string) :
    RoundIn Fence.wide 0 P l fn ((#[t].zip #[str k]).foldl (fun tmps (t, a) => tmps.setIfInBounds t a) (tm ⟨n, []⟩ f)) (.region ia #[⟨some s, .assign (.tmp t), ty1, p1, a1, none⟩] false)
        (.block j (.region ib #[⟨some a,.load T (.tmp x),ty2,p2,a2,none⟩,⟨some b,.move (.tmp s),ty3,p3,a3,none⟩,⟨od,.call ⟨.builtin .delete,#[.tmp a,.tmp b],ats⟩,ty4,p4,a4,none⟩] false)) w
      (fun e w'=>e=.returned (.bool true)∧St w0 H0 w' H (.obj l (.loop (rec0 fn n f #[t] (.region ia #[⟨some s,.assign (.tmp t),ty1,p1,a1,none⟩] false)
        (.block j (.region ib #[⟨some a,.load T (.tmp x),ty2,p2,a2,none⟩,⟨some b,.move (.tmp s),ty3,p3,a3,none⟩,⟨od,.call ⟨.builtin .delete,#[.tmp a,.tmp b],ats⟩,ty4,p4,a4,none⟩] false)) D)) :: L.set i2 (.mp q (encm boo (mdel m k))))):=by
  obtain ⟨g1,g2,g3,g4,g5⟩:=hF
  refine zNr S rfl rfl rfl rfl (zKQ t (str k)) ⟨rfl,(fun c h=>by cases h),.inl ⟨str k,w,R.as g1,H,S,fun w2 S2=>?_⟩⟩
  refine ⟨rfl,(fun c h=>by cases h),.inl ⟨mapv q,w2,R.loadB (i:=i1+1) S2 g2 (by rw [List.getElem?_cons_succ]; exact h1) hlay rfl,?_⟩⟩
  refine ⟨rfl,(fun c h=>by cases h),.inl ⟨str k,w2,R.mv g3,?_⟩⟩
  obtain ⟨w3,hr,S3⟩:=S2.runDelete (od:=od) (ty:=ty4) (pos:=p4) (af:=a4) (g:=none) (i:=i2+1) boo g4 g5 (by rw [List.getElem?_cons_succ]; exact h2) hat hT hK
  refine ⟨rfl,(fun c h=>by cases h),.inl ⟨_,w3,hr,H,_,S3,fun w4 S4=>S4⟩⟩
theorem Round.set (S : St w0 H0 w H (.obj l (.loop (rec0 fn n f #[t] (.region ia #[⟨some s, .assign (.tmp t), ty1, p1, a1, none⟩] false)
        (.block j (.region ib #[⟨some a,.load T (.tmp x),ty2,p2,a2,none⟩,⟨some b,.move (.tmp s),ty3,p3,a3,none⟩,⟨od,.mapUpdate T (.tmp a) (.tmp b) (.const (.bool true)),ty4,p4,a4,none⟩] false)) D)) :: L))
    (hF:RF n f t s a b x k bm q) (h1:L[i1]?=some (.box bm TB [mapv q])) (h2:L[i2]?=some (.mp q (encm boo m))) (hlay:lay P T=some (false,1)) (hT:P.underlying T=some (.map K E)) (hK:P.underlying K=some .string) :
    RoundIn Fence.wide 0 P l fn ((#[t].zip #[str k]).foldl (fun tmps (t, a) => tmps.setIfInBounds t a) (tm ⟨n, []⟩ f)) (.region ia #[⟨some s, .assign (.tmp t), ty1, p1, a1, none⟩] false)
        (.block j (.region ib #[⟨some a,.load T (.tmp x),ty2,p2,a2,none⟩,⟨some b,.move (.tmp s),ty3,p3,a3,none⟩,⟨od,.mapUpdate T (.tmp a) (.tmp b) (.const (.bool true)),ty4,p4,a4,none⟩] false)) w
      (fun e w'=>e=.returned (.bool true)∧St w0 H0 w' H (.obj l (.loop (rec0 fn n f #[t] (.region ia #[⟨some s,.assign (.tmp t),ty1,p1,a1,none⟩] false)
        (.block j (.region ib #[⟨some a,.load T (.tmp x),ty2,p2,a2,none⟩,⟨some b,.move (.tmp s),ty3,p3,a3,none⟩,⟨od,.mapUpdate T (.tmp a) (.tmp b) (.const (.bool true)),ty4,p4,a4,none⟩] false)) D)) :: L.set i2 (.mp q (encm boo (mset m k true))))):=by
  obtain ⟨g1,g2,g3,g4,g5⟩:=hF
  refine zNr S rfl rfl rfl rfl (zKQ t (str k)) ⟨rfl,(fun c h=>by cases h),.inl ⟨str k,w,R.as g1,H,S,fun w2 S2=>?_⟩⟩
  refine ⟨rfl,(fun c h=>by cases h),.inl ⟨mapv q,w2,R.loadB (i:=i1+1) S2 g2 (by rw [List.getElem?_cons_succ]; exact h1) hlay rfl,?_⟩⟩
  refine ⟨rfl,(fun c h=>by cases h),.inl ⟨str k,w2,R.mv g3,?_⟩⟩
  obtain ⟨w3,hr,S3⟩:=St.runUpdate (od:=od) (ty:=ty4) (pos:=p4) (af:=a4) (g:=none) (i:=i2+1) boo (z:=.const (.bool true)) (v:=.bool true) true S2 g4 g5 rfl rfl (by rw [List.getElem?_cons_succ]; exact h2) hT hK
  refine ⟨rfl,(fun c h=>by cases h),.inr ⟨w3,hr,H,_,S3,fun w4 S4=>S4⟩⟩
end
end Go.Eng
