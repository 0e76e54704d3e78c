/- A part. -/
import Derived.Test.YtkjgdladeabcfaaGreatDoorEng7
import Derived.Laws.StructEq
import Derived.ProofKit
import Derived.Lib.AsciiSet
import Derived.Lib.Join
import Derived.Lib.Bytealg
import Derived.Lib.TrimByte
import Derived.StillTail
import Derived.Maps.Keyed
import Derived.Sort.Grow
import Derived.Sort.EncStr
import Derived.Lib.SlicesCompact
import Derived.Lib.LaidTab
import Derived.Lib.ItoaNum
namespace Go.Eng
open Go
def Cl (w0:World) (H0 H:Hp) (L:List Ent):World→Prop:=fun w=>∃ H',H.le H'∧St w0 H0 w H' L
structure WQ (P:Program) (N:Frm) (ops:Array Oper) (C:World→Prop) (l:List Oper) (Q:Fr→Prop) (f:Fr):Prop where
  out:wpQuiet P ops C (fun a=>∃ f',a=act N f'∧Q f') l (act N f)
theorem zCJ {P:Program} {ops:Array Oper} {C:World→Prop} {Q Q':Act→Prop} (hq:∀ a,Q a→Q' a):∀ (l:List Oper) (a:Act),wpQuiet P ops C Q l a→wpQuiet P ops C Q' l a:=by
  intro l
  induction l with
  | nil=>intro a h; exact hq a h
  | cons o l ih =>
    intro a h
    unfold wpQuiet at h ⊢
    split
    · rename_i hw; rw [if_pos hw] at h; exact Oper.quiet_mono ih h
    · rename_i hw; rw [if_neg hw] at h; exact ih _ h
section
variable {P:Program} {N:Frm} {f:Fr} {w w0:World} {H0 H:Hp} {L:List Ent} {ops:Array Oper} {rest:List Oper} {C:World→Prop} {Q:Fr→Prop} {d:Nat} {od:Option Nat} {op:Op} {ty:TypeId} {pos:String} {af:Array Edge} {g:Option (Nat×Bool)}
theorem WP.quiet {id : Nat} {Q : Exit → Fr → World → Prop} (S : St w0 H0 w H L) (hm : P.follows .mixedOrders = true) (hB : Region.lexB .any ops = true)
    (h:WQ P N ops (Cl w0 H0 H L) ops.toList (fun f'=>∀ w' H',H.le H'→St w0 H0 w' H' L→Q .normal f' w') f):WP P N (.region id ops true) Q f w:=by
  refine wp_region_quiet (C:=Cl w0 H0 H L) hm hB ⟨H,Hp.le.refl _,S.drew⟩ (zCJ (fun a ⟨f',ha,hq⟩ w' ⟨H',hle,S'⟩=>?_) _ _ h.out)
  subst ha
  exact ⟨f',rfl,hq w' H' hle S'⟩
theorem WQ.nil (h:Q f):WQ P N ops C [] Q f:=⟨⟨f,rfl,h⟩⟩
theorem WQ.val {v:Value} (hr:∀ w,C w→(execOp (ev N f) ⟨od,op,ty,pos,af,none⟩).run P w=.ok (.value v) w) (h:WQ P N ops C rest Q (updo f od v)):WQ P N ops C (⟨od,op,ty,pos,af,none⟩ :: rest) Q f:=by
  have h:=h.out
  refine ⟨?_⟩
  unfold wpQuiet
  rw [if_pos (by simp [Region.wanted])]
  refine ⟨v,fun w hw=>?_,?_⟩
  · unfold Oper.quietAt
    rw [zA7,hr w hw]
    exact ⟨rfl,rfl⟩
  · rw [zBL]; exact h
theorem WQ.call {k : FuncId} {xs : List Operand} {ats : Array TypeId} {args : List Value} {v : Value} (ha : xs.map (ev N f) = args) (hC : ∀ w H', H.le H' → St w0 H0 w H' L → Con P k args w H' (fun _ u => u = v))
    (h:WQ P N ops (Cl w0 H0 H L) rest Q (updo f od v)):WQ P N ops (Cl w0 H0 H L) (⟨od,.call ⟨.value (.func k),xs.toArray,ats⟩,ty,pos,af,none⟩ :: rest) Q f:=by
  have h:=h.out
  refine ⟨?_⟩
  unfold wpQuiet
  rw [if_pos (by simp [Region.wanted])]
  refine ⟨v,fun w ⟨H',hle,S⟩=>?_,?_⟩
  · unfold Oper.quietAt
    rw [zA7]
    have e1:(execOp (ev N f) ⟨od,.call ⟨.value (.func k),xs.toArray,ats⟩,ty,pos,af,none⟩)=callFunc k (#[]++xs.toArray.map (ev N f)++#[]):=rfl
    have e:(#[]++xs.toArray.map (ev N f)++#[])=args.toArray:=by simp [ha]
    have c:=hC w H' hle S
    rw [e1,e,c.1 w]
    exact ⟨rfl,Calls.mono c.2 fun e w'' ⟨u,H'',he,hp,hu⟩=>⟨by rw [he,hu],H'',hle.trans hp.le,S.call hp⟩⟩
  · rw [zBL]; exact h
def zBi (P:Program) (T:TypeId):Option (List (Nat×Nat)) :=
  match P.underlying T with
  | some (.struct fs)=>fs.toList.mapM fun g=>(P.info? g.type).map fun i=>(g.offset,i.size)
  | _=>none
theorem zCb (l:List Field) (pl:List (Nat×Nat)) (h:(l.mapM fun g=>(P.info? g.type).map fun i=>(g.offset,i.size))=some pl):(l.mapM fun g=>(do pure (g.offset,← sizeOf g.type):Sem (Nat×Nat))).run P w=.ok pl w:=by
  induction l generalizing pl with
  | nil=>simp at h; subst h; rfl
  | cons g l ih =>
    simp only [List.mapM_cons,Option.bind_eq_bind,Option.bind_eq_some_iff] at h
    obtain ⟨x,hx,ys,hys,hp⟩:=h
    cases hi:P.info? g.type with
    | none=>rw [hi] at hx; cases hx
    | some i =>
      rw [hi] at hx
      simp at hx hp
      subst hx; subst hp
      have hs:(sizeOf g.type).run P w=.ok i.size w:=by simp [sizeOf,typeInfo,hi]
      have e:=ih ys hys
      simp only [List.mapM_cons,Sem.run_bind,hs,Result.andThen_ok,Sem.run_pure,e]
theorem R.build {T : TypeId} {ps : List (Nat × Operand)} {pl : List (Nat × Nat)} {zs : List Value} (vs : List (Nat × Value)) (cs : List Value) (hp : zBi P T = some pl) (hz : zer P T = some zs) (hv : (ps.map fun p => (p.1, ev N f p.2)) = vs)
    (hf:(Instr.fill (fun i=>pl[i]?) zs.toArray vs)=some cs.toArray):(execOp (ev N f) ⟨od,.build T ps.toArray,ty,pos,af,g⟩).run P w=.ok (.value (agg cs)) w:=by
  unfold zBi at hp
  split at hp
  case h_2=>cases hp
  rename_i fs hT
  unfold zer at hz
  cases hi:P.info? T with
  | none=>rw [hi] at hz; cases hz
  | some i =>
    rw [hi] at hz
    cases hzz:i.zero with
    | none=>simp [hzz] at hz
    | some z =>
      simp [hzz] at hz
      have hzs:z.cells=zs.toArray:=by rw [← hz]
      have hpl:=zCb (P:=P) (w:=w) fs.toList pl hp
      have hpl2:(fs.mapM fun g=>(do pure (g.offset,← sizeOf g.type):Sem (Nat×Nat))).run P w=.ok pl.toArray w:=by
        rw [Array.mapM_eq_mapM_toList]
        simp only [Sem.run_map,hpl,Result.andThen_ok]
      have hvs:ps.toArray.map (fun x=>(x.1,ev N f x.2))=vs.toArray:=by rw [List.map_toArray,hv]
      have hfun:(fun x:Nat=>(pl.toArray)[x]?)=fun i=>pl[i]?:=by funext i; simp
      have hg:∀ K:Array (Nat×Value),(Instr.build T K).run P w=(match Instr.fill (fun x=>pl.toArray[x]?) z.cells K.toList with | some cells=>.ok (.agg cells) w | none=>(stuck "build: no such field, or a part of the wrong size" : Sem Value).run P w):=by
        intro K
        simp only [Instr.build,zeroValue,typeInfo,Sem.run_bind,run_program,hi,hzz,Result.andThen_ok,Sem.run_pure,run_underlying hT,hpl2]
        cases Instr.fill (fun x=>pl.toArray[x]?) z.cells K.toList <;> rfl
      have hm:(fun (x:Nat×Operand)=>match x with | (i,x)=>(i,ev N f x))=fun x=>(x.1,ev N f x.2):=by funext x; rfl
      simp only [execOp,Sem.run_bind,hg,hvs,hfun,hzs,hf,Result.andThen_ok,Sem.run_pure,agg]
inductive EqF:Value→Value→Bool→Prop where
  | int (a b:Int):EqF (int a) (int b) (a==b)
  | boo (a b:Bool):EqF (boo a) (boo b) (a==b)
  | str (a b:Str):EqF (str a) (str b) (a==b)
end
end Go.Eng
namespace Go.Eng
open Go
theorem Oper.wp_monoQ {P:Program} {o:Oper} {a:Act} {w:World} {K K':Act→World→Prop} {Q Q':Exit→Act→World→Prop} (hk:∀ a w,K a w→K' a w) (hq:∀ e a w,e≠.normal→Q e a w→Q' e a w) (h:o.wp P a w K Q):o.wp P a w K' Q':=by
  unfold Oper.wp at *
  generalize (execOp a.eval o).run P w=r at *
  cases r with
  | ok n w' =>
    cases n with
    | enter g args =>
      exact Calls.mono h (fun e w'' he=>by
        cases e with
        | returned v=>exact hk _ _ he
        | panicked c=>exact hq _ _ _ (by simp) he
        | outgrown=>obtain ⟨a0,w0,h0⟩:=he; exact ⟨a0,w0,hq _ _ _ (by simp) h0⟩)
    | row r args=>exact Rows.mono h (fun v w'' he=>hk _ _ he)
    | value v=>exact hk _ _ h
    | skip=>exact hk _ _ h
    | defer d=>exact hk _ _ h
    | _=>exact h
  | halt x w' =>
    cases x with
    | panic v=>exact hq _ _ _ (by simp) h
    | _=>exact h
theorem zCf {P:Program} {ops:Array Oper} {i:Nat} {a:Act} {w:World} {K K':Act→World→Prop} {Q Q':Exit→Act→World→Prop} (hk:∀ a w,K a w→K' a w) (hq:∀ e a w,Q e a w→Q' e a w) (h:wpOp P ops Q i K a w):wpOp P ops Q' i K' a w:=by
  unfold wpOp at *
  split
  · rename_i h0; simp only [h0] at h; exact hk _ _ h
  · rename_i o ho
    simp only [ho] at h
    split
    · rename_i hw
      rw [if_pos hw] at h
      rcases h with h | ⟨h1,a0,w0,h2⟩
      · exact .inl (Oper.wp_monoQ hk (fun e a w _=>hq e a w) h)
      · exact .inr ⟨h1,a0,w0,hq _ _ _ h2⟩
    · rename_i hw; rw [if_neg hw] at h; exact hk _ _ h
theorem zBz {P:Program} {md:Region.Mode} {ops:Array Oper} {Q Q':Exit→Act→World→Prop} (hq:∀ e a w,Q e a w→Q' e a w):∀ (n:Nat) (listed:Array Bool) (a:Act) (w:World),wpAny P md ops Q n listed a w→wpAny P md ops Q' n listed a w
  | 0,_,_,_,h=>⟨h.1,hq _ _ _ h.2⟩
  | n+1,_,_,_,h=>⟨fun h0=>hq _ _ _ (h.1 h0),fun i hi=>zCf (fun a w=>zBz hq n _ a w) hq (h.2 i hi)⟩
def WA (P:Program) (N:Frm) (ops:Array Oper) (n:Nat) (listed:Array Bool) (Q:Fr→World→Prop) (f:Fr) (w:World):Prop :=
  wpAny P .any ops (fun e a w'=>∃ f',a=act N f'∧e=.normal∧Q f' w') n listed (act N f) w
section
variable {P:Program} {N:Frm} {f:Fr} {w:World} {ops:Array Oper} {Q:Fr→World→Prop} {n:Nat} {listed:Array Bool}
theorem WP.draw {id:Nat} {Q:Exit→Fr→World→Prop} (hm:P.follows .mixedOrders=true) (m:Nat) (hn:ops.size=m) (l0:Array Bool) (hl:Array.replicate m false=l0) (h:WA P N ops m l0 (Q .normal) f w.drew):WP P N (.region id ops true) Q f w:=by
  subst hn; subst hl
  refine wp_region_any hm (zBz (fun e a w ⟨f',ha,he,hq⟩=>?_) _ _ _ _ h)
  subst he
  exact ⟨f',ha,hq⟩
theorem WA.take {i : Nat} {d : Option Nat} {op : Op} {ty : TypeId} {pos : String} {af : Array Edge} {v : Value} (listed' : Array Bool) (hi : ops[i]? = some ⟨d, op, ty, pos, af, none⟩) (hs : Region.noSelect ops = true) (hf : Region.free .any ops listed i = true)
    (hr:(Region.ready .any ops listed).contains i=true) (hl:listed.setIfInBounds i true=listed') (hrun:∀ w,(execOp (ev N f) ⟨d,op,ty,pos,af,none⟩).run P w=.ok (.value v) w)
    (h:WA P N ops n listed' Q (updo f d v) w):WA P N ops (n+1) listed Q f w:=by
  subst hl
  refine wpAny_take hi hs hf hr (fun c a w ⟨f',_,he,_⟩=>by cases he) (v:=v) (.inl ⟨by simp [Region.wanted],fun w=>?_⟩) ?_
  · rw [zA7]; exact hrun w
  · show wpAny P .any ops _ n _ ((act N f).put d v) w
    rw [zBL]; exact h
theorem WA.one {i : Nat} {o : Oper} (listed' : Array Bool) (hi : ops[i]? = some o) (hr : Region.ready .any ops listed = [i]) (hl : listed.setIfInBounds i true = listed')
    (h:WL P N ops [o] (fun f' w'=>WA P N ops n listed' Q f' w') f w):WA P N ops (n+1) listed Q f w:=by
  subst hl
  refine wpAny_all hr (by simp) fun j hj=>?_
  rcases List.mem_singleton.1 hj with rfl
  unfold wpOp
  rw [hi]
  have h':wpList P ops (fun e a w'=>∃ f',a=act N f'∧e=.normal∧WA P N ops n (listed.setIfInBounds j true) Q f' w') [o] (act N f) w:=h.out
  unfold wpList at h'
  show if Region.wanted o (yielded ops (act N f).tmps)=true then _ else _
  split
  · rename_i hw
    rw [if_pos hw] at h'
    rcases h' with h' | ⟨_,a0,w0,f0,_,he,_⟩
    · refine .inl (Oper.wp_monoQ (fun a w hk=>?_) (fun e a w hne ⟨f',ha,he,_⟩=>absurd he hne) h')
      obtain ⟨f',ha,_,hq⟩:=hk
      subst ha; exact hq
    · cases he
  · rename_i hw
    rw [if_neg hw] at h'
    obtain ⟨f',ha,_,hq⟩:=h'
    rw [ha]; exact hq
theorem WA.done (hr:Region.ready .any ops listed=[]) (h:Q f w):WA P N ops n listed Q f w:=wpAny_done hr ⟨f,rfl,rfl,h⟩ n
end
end Go.Eng
namespace Go.Eng
open Go Go.ChangeShapes Go.WideShapes Go.ChangeAt Go.RowKit
def Hp.of (W:World):Hp:=fun b=>match W.heap[b]? with | some (.cells cs T _)=>some (T,cs.toList) | _=>none
theorem Holds.of (W:World):Holds W (Hp.of W):=by
  intro b T l h
  unfold Hp.of at h
  split at h
  · rename_i cs T' fz hc
    simp at h
    obtain ⟨rfl,rfl⟩:=h
    exact ⟨cs,fz,hc,[],by simp⟩
  · cases h
def zA0 (P:Program) (ts:List TypeId):Bool:=ts.all fun t=>P.readableRec t&&decide (t<P.types.size)
section
variable {X:Type} {enc:TypeId×Value→X} {P:Program} {W W':World}
theorem zBd (hl : laidOutB P = true) (hb : Below W.heap.size W W') : ∀ {ts : List TypeId} {vs : List Value} {ds : List (DataW X)} {ps : List MemPlace}, zA0 P ts = true →
    DataW.TrodAll enc P W 0 (fun _=>true) true ts vs ds ps→(∀ x ∈ ps,x.block<W.heap.size)→DataW.TrodAll enc P W' 0 (fun b=>decide (b<W.heap.size)) true ts vs ds ps
  | [],_,_,_,_,h,_=>by obtain ⟨rfl,rfl,rfl⟩:=trodAll_nil h; rfl
  | t :: ts,_,_,_,hr,h,hlt=>by
    obtain ⟨v,vs,d,ds',p,q,rfl,rfl,rfl,hd,hrest⟩:=trodAll_cons h
    simp only [zA0,List.all_cons,Bool.and_eq_true,decide_eq_true_eq] at hr
    exact ⟨p,q,Below.trod hl hr.1.1 hr.1.2 hd hb (fun x hx=>hlt x (List.mem_append.2 (.inl hx))),zBd hl hb (by simpa [zA0] using hr.2) hrest (fun x hx=>hlt x (List.mem_append.2 (.inr hx))),rfl⟩
theorem zCz {fn : Func} {s : ChangeSpec} {args : Array Value} {ds gs : List (DataW X)} {before : List MemPlace} {tb : TypeId} {apart : Bool}
    (hl:laidOutB P=true) (hts:zA0 P fn.params.toList=true) (hv:s.vars=[]) (hW:DataW.Whole enc P fn.params.toList s.vars apart W args.toList ds gs before)
    (hs:(s.fn X (ds++gs)).results=[.lit (.bool true)]∧(s.fn X (ds++gs)).args=ds∧(s.fn X (ds++gs)).vars=[]) (hrt:fn.resultTypes=#[tb]) (hbt:P.underlying tb=some .bool) (hb:Below W.heap.size W W') :
    s.post enc P fn apart true false false W args (boo true) W':=by
  obtain ⟨h1,h2,h3⟩:=hs
  have hlt:∀ p ∈ before,p.block<W.heap.size:=fun p hp=>hW.lt p hp
  have hW':=hW
  obtain ⟨p,q,hA,hV,rfl,_,_⟩:=hW'
  refine ⟨ds,gs,_,[],p,[],hW,?_,?_,?_,hb.frame _,fun h=>by cases h⟩
  · rw [h1,hrt]
    exact trodAll_mk1 (shut_bool hbt true)
  · rw [h2]
    exact zBd hl hb hts hA (fun x hx=>hlt x (List.mem_append.2 (.inl hx)))
  · rw [h3,hv]; rfl
theorem zCo {fn : Func} {k : FuncId} {s : ChangeSpec} {args : Array Value} {vs : List Value} {ds gs : List (DataW X)} {before : List MemPlace} {tb : TypeId} {apart : Bool} (ha : args = vs.toArray)
    (hl:laidOutB P=true) (hts:zA0 P fn.params.toList=true) (hv:s.vars=[]) (hW:DataW.Whole enc P fn.params.toList s.vars apart W args.toList ds gs before)
    (hs:(s.fn X (ds++gs)).results=[.lit (.bool true)]∧(s.fn X (ds++gs)).args=ds∧(s.fn X (ds++gs)).vars=[]) (hrt:fn.resultTypes=#[tb]) (hbt:P.underlying tb=some .bool)
    (C:Con P k vs W (Hp.of W) (fun _ v=>v=boo true)) :
    Calls P k args W fun e W'=>∃ v,e=.returned v∧s.post enc P fn apart true false false W args v W':=by
  subst ha
  refine Calls.mono C.2 fun e W' ⟨v,H',he,hp,hv'⟩=>⟨v,he,?_⟩
  subst hv'
  exact zCz hl hts hv hW hs hrt hbt hp.below
theorem zDS {t:TypeId} {v:Value} {d:DataW X} {p:List MemPlace} {base:Nat} (ht:P.underlying t=some .string) (hv:Value.okWide P W .any base t v) (h:DataW.Trod enc P W 0 (fun _=>true) true t v d p):∃ l:Str,v=str l:=by
  obtain ⟨s,rfl,_⟩:=ChangeMaps.open_string ht hv h
  exact ⟨s.data.toList,rfl⟩
end
def Rd (P:Program) (t:TypeId) (α:Type) [Enc α]:Prop :=
  ∀ (X:Type) (enc:TypeId×Value→X) (W:World) (fuel:Nat) (cs:List Value) (x:DataW X×List MemPlace),DataW.trod enc P W 0 (fun _=>true) true fuel t cs=some x→∃ a:α,Enc.cells (Hp.of W) cs a
theorem Rd.str {P:Program} {t:TypeId} (ht:P.underlying t=some .string):Rd P t Str:=fun _ _ _ _ _ _ h=>by
  obtain ⟨s,rfl,_⟩:=DataW.trod_string ht h
  exact ⟨s.data.toList,rfl⟩
theorem Rd.int {P:Program} {t:TypeId} (ht:P.underlying t=some (.int .i64)):Rd P t Int:=fun _ _ _ _ _ _ h=>by
  obtain ⟨n,rfl,_⟩:=DataW.trod_int ht h
  exact ⟨n,rfl⟩
end Go.Eng
namespace Go.Eng
open Go Go.RowKit
theorem zC0 {P:Program} {k:FuncId} {fn:Func} {c:Code} (hf:P.funcs[k]?=some fn) (hb:fn.body=some c) (hname:(fn.name== "runtime.NumGoroutine")=false) (args:Array Value) (w:World):(callFunc k args).run P w=.ok (.enter k args) w:=by
  simp only [callFunc,Sem.run_bind,run_program,Result.andThen_ok,hf,hname,hb]
  rfl
theorem Post.of_below {w w':World} {H:Hp} (hw:Holds w H) (hb:Below w.heap.size w w'):Post w H w' H:=by
  refine ⟨hb,Hp.le.refl _,fun _ _=>rfl,fun b T l h=>?_⟩
  obtain ⟨cs,fz,hc,hr⟩:=hw b T l h
  exact ⟨cs,fz,by rw [hb.block b (Array.getElem?_eq_some_iff.1 hc).1]; exact hc,hr⟩
theorem Con.of_calls {P : Program} {k : FuncId} {fn : Func} {c : Code} {args : List Value} {w : World} {H : Hp} {v : Value} (hf : P.funcs[k]? = some fn) (hb : fn.body = some c) (hname : (fn.name == "runtime.NumGoroutine") = false) (hw : Holds w H)
    (h:Calls P k args.toArray w fun e w'=>e=.returned v∧Below w.heap.size w w'):Con P k args w H (fun _ u=>u=v) :=
  ⟨zC0 hf hb hname _,Calls.mono h fun _ _ ⟨he,hp⟩=>⟨v,H,he,Post.of_below hw hp,rfl⟩⟩
theorem Con.of_calls_same {P : Program} {k : FuncId} {fn : Func} {c : Code} {args : List Value} {w : World} {H : Hp} {v : Value} (hf : P.funcs[k]? = some fn) (hb : fn.body = some c) (hname : (fn.name == "runtime.NumGoroutine") = false) (hw : Holds w H)
    (h:Calls P k args.toArray w fun e w'=>e=.returned v∧w'=w):Con P k args w H (fun _ u=>u=v) :=
  Con.of_calls hf hb hname hw (Calls.mono h fun _ _ ⟨he,hp⟩=>⟨he,by subst hp; exact Below.refl _ _⟩)
theorem Cells.strs {H:Hp}:∀ {xs:List Str} {l:List Value},Cells (α:=Str) H l xs→l=xs.map str
  | [],_,h=>h
  | x :: xs,_,⟨cs,r,e,hc,hr⟩=>by rw [e,show cs=[str x] from hc,Cells.strs hr]; rfl
def jo (l:List Str) (sep:Str):Str:=Lib.join l sep
noncomputable def strings_Join (l:List Str) (sep:Str):Option Str:=if (jo l sep).length≤big∧l.length≤big then some (jo l sep) else none
noncomputable def zA8 (s:Str) (c:UInt8):Option Int:=some (Lib.indexByte s c)
noncomputable def strings_makeASCIISet (cs:Str):Option Unit:=bif cs.all (fun c=>decide (c<128))&&decide (cs.length≤big / 128) then some () else none
noncomputable def zAG (cs:Str) (c:UInt8):Option Bool:=some (cs.contains c)
def setc (cs:Str):List Value:=(Lib.setCells cs).toList
theorem zBN (cs:Str):(setc cs).length=256:=by
  have key:∀ (l:Str) (a:Array Value),(l.foldl (fun a c=>a.setIfInBounds c.toNat (.bool true)) a).size=a.size:=by
    intro l
    induction l with
    | nil=>intro a; rfl
    | cons x l ih=>intro a; rw [List.foldl_cons,ih]; simp
  simp only [setc,Array.length_toList,Lib.setCells,key]
  simp
theorem zCt (cs:Str) (x:UInt8):(setc cs)[x.toNat]?=some (boo (cs.contains x)):=by
  have:=Lib.setCells_at cs x
  simpa [setc,boo] using this
theorem zC7 (cs:Str):(setc cs).all Value.oneCell'=true:=by
  rw [List.all_eq_true]
  intro v hv
  obtain ⟨i,hi⟩:=List.mem_iff_getElem?.1 hv
  have hlt:i<256:=by rw [← zBN cs]; exact (List.getElem?_eq_some_iff.1 hi).1
  have:=zCt cs (UInt8.ofNat i)
  have e:(UInt8.ofNat i).toNat=i:=by simp; omega
  rw [e,hi] at this
  simp at this
  subst this; rfl
theorem At.set {w:World} {H:Hp} {b:Nat} {cs:Str} (h:At H ⟨b,0,none⟩ (setc cs)) (hw:Holds w H) (x:UInt8):w.cell? ⟨b,x.toNat,none⟩=some (.bool (cs.contains x)):=by
  have:=h.cell hw (zCt cs x)
  rwa [Addr.add_lit,Nat.zero_add] at this
section
variable {P:Program} {N:Frm} {f:Fr} {w w0:World} {H0 H:Hp} {L:List Ent} {ops:Array Oper} {rest:List Oper} {Q:Fr→World→Prop} {d:Nat} {od:Option Nat} {ty:TypeId} {pos:String} {af:Array Edge} {g:Option (Nat×Bool)}
end
section
variable {α:Type} [Enc α] {H:Hp}
abbrev EncOk (H:Hp) (v:Value) (x:α):Prop:=v.cells.size=Enc.sz α∧Enc.cells H v.cells.toList x
theorem enc1 {v1:Value} {x1:α} (h1:EncOk H v1 x1):∀ (i:Nat) (v:Value) (x:α),[v1][i]?=some v→[x1][i]?=some x→v.cells.size=Enc.sz α∧Enc.cells H v.cells.toList x:=by
  intro i v x hv hx
  match i with
  | 0=>simp at hv hx; subst hv; subst hx; exact h1
  | n+1=>simp at hv
theorem encS {v1 : Value} {x1 : α} {vs : List Value} {xs : List α} (h1 : EncOk H v1 x1) (h : ∀ (i : Nat) (v : Value) (x : α), vs[i]? = some v → xs[i]? = some x → v.cells.size = Enc.sz α ∧ Enc.cells H v.cells.toList x) :
    ∀ (i:Nat) (v:Value) (x:α),(v1 :: vs)[i]?=some v→(x1 :: xs)[i]?=some x→v.cells.size=Enc.sz α∧Enc.cells H v.cells.toList x:=by
  intro i v x hv hx
  match i with
  | 0=>simp at hv hx; subst hv; subst hx; exact h1
  | n+1=>exact h n v x (by simpa using hv) (by simpa using hx)
theorem enc0:∀ (i:Nat) (v:Value) (x:α),([]:List Value)[i]?=some v→([]:List α)[i]?=some x→v.cells.size=Enc.sz α∧Enc.cells H v.cells.toList x:=by
  intro i v x hv; simp at hv
theorem Sl.oneC {v:Value} {xs:List α} (h:Sl H v xs):v.oneCell'=true:=by
  obtain ⟨a,c,rfl,_⟩:=h; rfl
theorem Sl.cellsOne {v:Value} {xs:List α} (h:Sl H v xs):v.cells=#[v]:=by
  obtain ⟨a,c,rfl,_⟩:=h; rfl
end
inductive AllOne:List Value→Prop
  | nil:AllOne []
  | cons {v:Value} {l:List Value}:v.oneCell'=true→AllOne l→AllOne (v :: l)
theorem AllOne.mem {l:List Value} (h:AllOne l):∀ v ∈ l,v.oneCell'=true:=by
  induction h with
  | nil=>intro v hv; cases hv
  | cons h1 _ ih =>
    intro v hv
    rcases List.mem_cons.1 hv with rfl | hv
    · exact h1
    · exact ih v hv
theorem AllOne.all {l:List Value} (h:AllOne l):l.all Value.oneCell'=true:=List.all_eq_true.2 h.mem
theorem zDN {P : Program} {k : FuncId} {fn : Func} {c : Code} {w : World} {H : Hp} {l : List Str} {sep r : Str} {v : Value} (hf : P.funcs[k]? = some fn) (hb : fn.body = some c) (hname : (fn.name == "runtime.NumGoroutine") = false) (hw : Holds w H)
    (R:Sl (α:=Str) H v l) (h:strings_Join l sep=some r)
    (hnone:∀ (a:Option Addr) (c:Nat) (sep:ByteArray) (w:World),Calls P k #[.slice a 0 c,.string sep] w fun e w'=>e=.returned (.string ⟨#[]⟩)∧w'=w)
    (hsome:∀ (bk o c:Nat) (xs:List ByteArray) (sep:ByteArray) (w:World),(∀ (j:Nat) x,xs[j]?=some x→w.cell? ⟨bk,o+j,none⟩=some (.string x))→bk<w.heap.size→xs.length≤140737488355328→xs.length≤c →
      (Lib.join (xs.map (·.data.toList)) sep.data.toList).length≤140737488355328 →
      Calls P k #[.slice (some ⟨bk,o,none⟩) xs.length c,.string sep] w fun e w'=>e=.returned (.string ⟨(Lib.join (xs.map (·.data.toList)) sep.data.toList).toArray⟩)∧Below w.heap.size w w') :
    Con P k [v,str sep] w H (fun _ u=>u=str r):=by
  unfold strings_Join at h
  split at h
  case isFalse=>cases h
  rename_i hbig
  simp only [Option.some.injEq] at h
  subst h
  obtain ⟨a,cp,rfl,h1,h2,h3⟩:=R
  rcases h3 with rfl | ⟨b,off,cs,rfl,hat,hC⟩
  · exact Con.of_calls_same hf hb hname hw (hnone a cp ⟨⟨sep⟩⟩ w)
  · have hcs:=hC.strs
    subst hcs
    by_cases hl:l=[]
    · subst hl
      exact Con.of_calls_same hf hb hname hw (hnone _ cp ⟨⟨sep⟩⟩ w)
    · have hm:(l.map fun x=>(⟨⟨x⟩⟩:ByteArray)).map (·.data.toList)=l:=by simp [Function.comp_def]
      have hlt:b<w.heap.size:=by
        obtain ⟨T,l',_,hH,_⟩:=hat
        obtain ⟨_,_,hc,_⟩:=hw _ _ _ hH
        exact (Array.getElem?_eq_some_iff.1 hc).1
      have hbg:big≤140737488355328:=by decide
      have hh:=hsome b off cp (l.map fun x=>(⟨⟨x⟩⟩:ByteArray)) ⟨⟨sep⟩⟩ w (fun j x hx=>by
        rw [List.getElem?_map] at hx
        obtain ⟨y,hy,rfl⟩:=Option.map_eq_some_iff.1 hx
        have:=hat.cell hw (j:=j) (v:=str y) (by rw [List.getElem?_map,hy]; rfl)
        rwa [Addr.add_lit] at this) hlt (by simp; omega) (by simpa using h1) (by rw [hm]; exact Nat.le_trans hbig.1 hbg)
      rw [hm] at hh
      refine Con.of_calls (v:=str (jo l sep)) hf hb hname hw ?_
      simpa [str,jo] using hh
theorem zCx {P : Program} {k : FuncId} {fn : Func} {c : Code} {w : World} {H : Hp} {s : Str} {T : TypeId} {r : Unit} (hf : P.funcs[k]? = some fn) (hb : fn.body = some c) (hname : (fn.name == "runtime.NumGoroutine") = false) (hw : Holds w H) (h : strings_makeASCIISet s = some r)
    (hc:∀ (chars:ByteArray) (w:World),chars.size<4294967281→(∀ (j:Nat) b,chars.data.toList[j]?=some b→b.toNat<128) →
      Calls P k #[.string chars] w fun e w'=>e=.returned (.tuple #[.agg (Lib.setCells chars.data.toList),.bool true])∧w'=w.alloc (.cells (Lib.setCells chars.data.toList) T)) :
    Con P k [str s] w H (fun _ u=>u=.tuple ⟨[.agg (Lib.setCells s),boo true]⟩):=by
  unfold strings_makeASCIISet at h
  have hg:(s.all (fun c=>decide (c<128))&&decide (s.length≤big / 128))=true:=by
    cases hh:(s.all (fun c=>decide (c<128))&&decide (s.length≤big / 128)) with
    | true=>rfl
    | false=>rw [hh] at h; cases h
  simp only [Bool.and_eq_true,List.all_eq_true,decide_eq_true_eq] at hg
  have h1:big / 128<4294967281:=by decide
  have hh:=hc ⟨⟨s⟩⟩ w (by show s.length<_; exact Nat.lt_of_le_of_lt hg.2 h1) (fun j b hj=>by
    have:=hg.1 b (List.mem_of_getElem? hj)
    exact UInt8.lt_iff_toNat_lt.1 this)
  refine Con.of_calls hf hb hname hw (Calls.mono hh fun _ _ ⟨he,hp⟩=>⟨he,?_⟩)
  subst hp
  exact (Below.refl _ _).alloc (Nat.le_refl _) _
theorem zC6 {P : Program} {k : FuncId} {fn : Func} {c : Code} {w : World} {H : Hp} {cs : Str} {b : Nat} {x : UInt8} {r : Bool} (hf : P.funcs[k]? = some fn) (hb : fn.body = some c) (hname : (fn.name == "runtime.NumGoroutine") = false) (hw : Holds w H)
    (hA:At H ⟨b,0,none⟩ (setc cs)) (h:zAG cs x=some r)
    (hc:∀ (b:Nat) (x:UInt8) (v:Bool) (w:World),w.cell? ⟨b,x.toNat,none⟩=some (.bool v)→Calls P k #[.pointer (some ⟨b,0,none⟩),.int .u8 x.toNat] w fun e w'=>e=.returned (.bool v)∧w'=w) :
    Con P k [ptr b 0,byt x] w H (fun _ u=>u=boo r):=by
  simp only [zAG,Option.some.injEq] at h
  subst h
  exact Con.of_calls_same hf hb hname hw (hc b x _ w (hA.set hw x))
theorem zCg {cs vs:List Value} (h:vs.length=cs.length):zB5 cs 0 vs=vs:=by
  simp [zB5,h]
section
variable {P:Program} {N:Frm} {f:Fr} {w:World} {od:Option Nat} {ty:TypeId} {pos:String} {af:Array Edge} {g:Option (Nat×Bool)}
end
end Go.Eng
namespace Go.Eng
open Go
theorem zC5 {α β γ:Type} {o:Option (α×List β×γ)} (h:o.map (fun x=>x.2.1.isEmpty)=some true):∃ ds places,o=some (ds,[],places):=by
  cases o with
  | none=>cases h
  | some x =>
    obtain ⟨ds,gs,ps⟩:=x
    simp at h
    subst h
    exact ⟨ds,ps,rfl⟩
end Go.Eng
namespace Go.Eng
open Go
section
variable {w0 w:World} {H0 H:Hp} {L:List Ent}
theorem St.addNilV {v:Value} (hv:v=.slice none 0 0) (S:St w0 H0 w H L) (T:TypeId) (sz:Nat):St w0 H0 w H (.row v T sz 0 :: L):=by
  subst hv; exact S.addNil T sz
end
end Go.Eng
namespace Go.Eng
open Go Go.ChangeMaps
set_option linter.unusedVariables false
set_option linter.unusedSimpArgs false
section
variable {P:Program} {N:Frm} {f:Fr} {w w' w0:World} {H0 H:Hp} {L:List Ent} {ops:Array Oper} {rest:List Oper} {Q:Fr→World→Prop} {d:Nat} {od:Option Nat} {ty:TypeId} {pos:String} {af:Array Edge} {g:Option (Nat×Bool)}
theorem St.new (S:St w0 H0 w H L) (o:Obj) (e:Ent) (hb:e.blk=some w.heap.size) (hok:e.ok (w.alloc o) H):St w0 H0 (w.alloc o) H (e :: L):=by
  have hsz:w0.heap.size≤w.heap.size:=S.post.below.size
  have hold:∀ i,i<w.heap.size→(w.alloc o).heap[i]?=w.heap[i]?:=fun i hi=>RowKit.Below.heap_alloc w _ i hi
  refine ⟨⟨S.post.below.alloc hsz _,S.post.le,S.post.eqb,fun b T' l hbb=>?_⟩,?_,?_,?_⟩
  · obtain ⟨cs',fz',hc,hr'⟩:=S.holds b T' l hbb
    exact ⟨cs',fz',by rw [hold b (Array.getElem?_eq_some_iff.1 hc).1]; exact hc,hr'⟩
  · intro e' he
    rcases List.mem_cons.1 he with rfl | he
    · exact hok
    · exact Ent.ok_keep (S.ents e' he) fun b hb=>⟨hold b (Ent.ok_lt (S.ents e' he) hb),rfl⟩
  · intro e' he b hbb
    rcases List.mem_cons.1 he with rfl | he
    · rw [hb] at hbb; cases hbb; exact hsz
    · exact S.own e' he b hbb
  · rw [List.filterMap_cons,hb]
    exact List.nodup_cons.2 ⟨fun hm=>Nat.lt_irrefl _ (S.lt hm),S.nodup⟩
def mapv (b:Nat):Value:=.map (some b)
theorem W.makeMap {T:TypeId} (S:St w0 H0 w H L) (k:∀ b w',St w0 H0 w' H (.mp b [] :: L)→WL P N ops rest Q (upd f d (mapv b)) w'):WL P N ops (⟨some d,.makeMap T none,ty,pos,af,none⟩ :: rest) Q f w:=by
  refine WL.w (v:=mapv w.heap.size) (w':=w.alloc (.map #[] 0)) ?_ (k _ _ (S.new (.map #[] 0) (.mp w.heap.size []) rfl ⟨S.holds.none_of_size (Nat.le_refl _),#[],0,heap_alloc_new w _,rfl⟩))
  simp [execOp,Instr.makeMap,mapv]
end
theorem R.ofEq {r:Result Next} {w:World} {v v':Value} (h:r=.ok (.value v) w) (e:v=v'):r=.ok (.value v') w:=by subst e; exact h
section
variable {P:Program} {N:Frm} {f:Fr} {w w' w0:World} {H0 H:Hp} {L:List Ent} {ops:Array Oper} {rest:List Oper} {d:Nat} {od:Option Nat} {ty:TypeId} {pos:String} {af:Array Edge} {g:Option (Nat×Bool)}
theorem R.nilCheckB {x:Operand} {b o:Nat} (hx:ev N f x=ptr b o):(execOp (ev N f) ⟨od,.nilCheck x,ty,pos,af,g⟩).run P w=.ok (.value (ptr b o)) w:=by
  simp [execOp,hx,ptr]
structure Raw (n:Nat) where
  l:List Value
  len:l.length=n
  one:l.all Value.oneCell'=true
instance (n:Nat):Enc (Raw (n+1)) where
  sz:=n+1
  cells H cs x:=cs=x.l
  pos:=Nat.succ_pos _
  len:=fun {H cs x} h=>by rw [h]; exact x.len
  mono:=fun h _=>h
  one:=fun {H cs x} h v hv=>by rw [h] at hv; exact List.all_eq_true.1 x.one v hv
def anyH (P:Program) (md:Region.Mode) (ops:Array Oper) (C:World→Prop) (n:Nat) (Lq:Array Bool→Act→Prop):Nat→Array Bool→Act→Prop
  | 0,listed,a=>Lq listed a
  | k+1,listed,a=>Region.ready md ops listed≠[]∧∀ i ∈ Region.ready md ops listed,i<n∧qOp P ops C i (anyH P md ops C n Lq k (listed.setIfInBounds i true)) a
variable {md:Region.Mode} {C:World→Prop} {n m:Nat} {Lq:Array Bool→Act→Prop}
theorem zCW {Q':Exit→Act→World→Prop} (hL:∀ listed a w,C w→Lq listed a→wpAny P md ops Q' m listed a w):∀ (k:Nat) (listed:Array Bool) (a:Act) (w:World),C w→anyH P md ops C n Lq k listed a→wpAny P md ops Q' (k+m) listed a w
  | 0,listed,a,w,hw,h=>by rw [Nat.zero_add]; exact hL _ _ _ hw h
  | k+1,listed,a,w,hw,h=>by
    have e:k+1+m=(k+m)+1:=by omega
    rw [e]
    exact ⟨fun h0=>absurd h0 h.1,fun i hi=>wpOp_of_qOp hw (fun a' w' hw' h'=>zCW hL k _ a' w' hw' h') (h.2 i hi).2⟩
theorem zCd {i : Nat} {oi : Oper} {v : Value} (hi : ops[i]? = some oi) (hsel : ∀ (j : Nat) (o : Oper) cs b, ops[j]? = some o → o.op ≠ .select cs b)
    (hs:Region.sinkB md ops n=true) (hc:Region.chainB md ops n=true) (hn:n<ops.size) (hin:i<n) (hdone:∀ listed a,Lq listed a→∀ j ∈ Region.ready md ops listed,n≤j) :
    ∀ (k:Nat) (listed:Array Bool) (a:Act),HeadInv md ops n listed →
      (∀ j oj,ops[j]?=some oj→j≠i→listed.getD j true=false→(∀ e ∈ oj.after,Region.binds md e=true→e.on≠i)→oi.apart ops oj=true) →
      i ∈ Region.ready md ops listed→YieldsIn P ops C oi v a→anyH P md ops C n Lq k (listed.setIfInBounds i true) (a.put oi.dst v)→anyH P md ops C n Lq (k+1) listed a:=by
  intro k
  induction k with
  | zero =>
    intro listed a inv _ hr hy H
    have hun:=(mem_ready.1 hr).1
    refine ⟨fun h=>by rw [h] at hr; exact absurd hr (List.not_mem_nil),fun j hj=>?_⟩
    have hjn:j<n:=Nat.lt_of_not_le fun h=>absurd hj (tail_waits hs hc hn inv _ i rfl hin hun j h)
    by_cases hji:j=i
    · subst hji; exact ⟨hjn,hy.qOp hi H⟩
    · exact absurd (hdone _ _ H j (ready_mono hj hji)) (by omega)
  | succ k ih =>
    intro listed a inv hfree hr hy H
    have hun:=(mem_ready.1 hr).1
    refine ⟨fun h=>by rw [h] at hr; exact absurd hr (List.not_mem_nil),fun j hj=>?_⟩
    have hjn:j<n:=Nat.lt_of_not_le fun h=>absurd hj (tail_waits hs hc hn inv _ i rfl hin hun j h)
    refine ⟨hjn,?_⟩
    by_cases hji:j=i
    · subst hji; exact hy.qOp hi H
    · obtain ⟨hjun,oj,hoj,hall⟩:=mem_ready.1 hj
      have hnot:∀ e ∈ oj.after,Region.binds md e=true→e.on≠i:=fun e he hb heq=>by
        have h1:=hall e he hb
        rw [heq,getD_both hun] at h1
        cases h1
      refine qOp_mono (fun a' h3=>ih (listed.setIfInBounds j true) a' (inv.set hj hjn) (fun x ox hx hxi hxu hxn=>?_) (ready_mono hr (Ne.symm hji)) h3.1 ?_)
        (qOp_put hoj (hfree j oj hoj hji hjun hnot) (fun cs b=>hsel i oi cs b hi) (fun cs b=>hsel j oj cs b hoj) hy (H.2 j (ready_mono hj hji)).2)
      · refine hfree x ox hx hxi ?_ hxn
        by_cases hjx:j=x
        · subst hjx; exact hjun
        · rw [getD_set_ne true hjx] at hxu; exact hxu
      · rw [Array.setIfInBounds_comm _ _ hji]
        exact h3.2
theorem zCa {Qa : Act → Prop} (hsel : Region.noSelect ops = true) (hs : Region.sinkB md ops n = true) (hc : Region.chainB md ops n = true) (hn : n < ops.size) :
    ∀ (l:List Oper) (k:Nat) (listed:Array Bool) (a:Act),(∀ j,j<l.length→l[j]?=ops[k+j]?)→k+l.length=n→HeadInv md ops n listed →
    Region.lexHead md ops m l.length k listed=true→wpQuiet P ops C Qa l a →
    anyH P md ops C n (fun listed' a'=>Region.seqB md ops m n listed'=true∧Qa a') l.length listed a
  | [],k,listed,a,_,hk,_,hB,h=>by
    obtain rfl:k=n:=by simpa using hk
    exact ⟨by simpa [Region.lexHead] using hB,h⟩
  | o :: l,k,listed,a,hl,hk,inv,hB,h=>by
    have h0:ops[k]?=some o:=by simpa using (hl 0 (by simp)).symm
    simp only [List.length_cons,Region.lexHead,Bool.and_eq_true] at hB
    obtain ⟨⟨hr,hf⟩,hB'⟩:=hB
    have hkn:k<n:=by simp only [List.length_cons] at hk; omega
    have hr':k ∈ Region.ready md ops listed:=by simpa using hr
    have hst:qOp P ops C k (wpQuiet P ops C Qa l) a:=by unfold qOp; simp only [h0]; exact h
    obtain ⟨v,hy,hK⟩:=yieldsIn_of_qOp h0 hst
    refine zCd h0 (Region.noSelect_spec hsel) hs hc hn hkn (fun listed' a' hL=>seqB_ready hL.1) l.length listed a inv (Region.free_spec h0 hf) hr' hy ?_
    refine zCa hsel hs hc hn l (k+1) _ _ (fun j hj=>?_) (by simp only [List.length_cons] at hk; omega) (inv.set hr' hkn) hB' hK
    have:=hl (j+1) (by simp; omega)
    simpa [Nat.add_assoc,Nat.add_comm 1 j] using this
theorem WL.all {l:List Oper} {Q:Exit→Fr→World→Prop} (h:WL P N ops l (fun f w=>Q .normal f w) f w):wpList P ops (fun e a w'=>∃ f',a=act N f'∧Q e f' w') l (act N f) w:=by
  have key:∀ (l:List Oper) (a:Act) (w:World),wpList P ops (fun e a w'=>∃ f',a=act N f'∧e=.normal∧Q .normal f' w') l a w→wpList P ops (fun e a w'=>∃ f',a=act N f'∧Q e f' w') l a w:=by
    intro l
    induction l with
    | nil=>intro a w ⟨f',ha,_,q⟩; exact ⟨f',ha,q⟩
    | cons o rest ih =>
      intro a w h
      unfold wpList at h ⊢
      split
      · rename_i hw
        rw [if_pos hw] at h
        rcases h with h | ⟨_,a0,w0,f0,_,hc,_⟩
        · refine .inl (Oper.wp_monoQ (fun a w hk=>ih _ _ hk) (fun e a w hne ⟨f',ha,he,_⟩=>absurd he hne) h)
        · cases hc
      · rename_i hw
        rw [if_neg hw] at h
        exact ih _ _ h
  exact key _ _ _ h.out
theorem WP.quietTail {id : Nat} {l : List Oper} {Q : Exit → Fr → World → Prop} (n : Nat) (S : St w0 H0 w H L) (hm : P.follows .mixedOrders = true) (hB : Region.lexTailB .any l.toArray n = true)
    (h:WQ P N l.toArray (Cl w0 H0 H L) (l.take n) (fun f'=>∀ w' H',H.le H'→St w0 H0 w' H' L→WL P N l.toArray (l.drop n) (fun f w=>Q .normal f w) f' w') f):WP P N (.region id l.toArray true) Q f w:=by
  simp only [Region.lexTailB,Bool.and_eq_true,decide_eq_true_eq] at hB
  obtain ⟨⟨⟨⟨hsel,hn⟩,hs⟩,hc⟩,hlex⟩:=hB
  have hn':n<l.length:=by simpa using hn
  have htl:(l.take n).length=n:=by simp; omega
  have hdl:(l.drop n).length=l.toArray.size - n:=by simp
  have inv0:HeadInv .any l.toArray n (Array.replicate l.toArray.size false) :=
    ⟨by simp,fun j oj _ hl=>(by rw [getD_replicate_false] at hl; cases hl),fun t _ ht=>getD_in (by simpa using ht) (getD_replicate_false _ _)⟩
  have hh:=zCa (P:=P) (C:=Cl w0 H0 H L) (md:=.any) (m:=l.toArray.size - n) hsel hs hc hn (l.take n) 0 _ (act N f) (fun j hj=>by
    have hj':j<n:=by rw [htl] at hj; exact hj
    simp [hj']) (by simpa using htl) inv0 (by rw [htl]; exact hlex) h.out
  refine wp_region_any hm ?_
  have:=zCW (m:=l.toArray.size - n) (Q':=fun e a w'=>∃ f',a=act N f'∧Q e f' w') (fun listed a' w' hw' hL=>by
    obtain ⟨H',hle,S'⟩:=hw'
    obtain ⟨f',ha,hq⟩:=hL.2
    subst ha
    have:=wpAny_of_seq (md:=.any) (Q':=fun e a w'=>∃ f',a=act N f'∧Q e f' w') (l.drop n) n listed (act N f') w' (fun j=>by simp [List.getElem?_drop]) (by rw [hdl]; exact hL.1) (WL.all (hq w' H' hle S'))
    rwa [hdl] at this) _ _ _ w.drew ⟨H,Hp.le.refl _,S.drew⟩ hh
  rw [htl,show n+(l.toArray.size - n)=l.toArray.size by omega] at this
  exact this
end
end Go.Eng
namespace Go.Eng
open Go Go.RowKit
section
variable {P:Program} {N:Frm} {f:Fr} {w w' w0:World} {H0 H:Hp} {L:List Ent} {ops:Array Oper} {rest:List Oper} {Q:Fr→World→Prop} {d:Nat} {od:Option Nat} {ty:TypeId} {pos:String} {af:Array Edge}
structure SortCon (P:Program) (k:FuncId):Prop where
  enter:∀ (args:Array Value) (w:World),(callFunc k args).run P w=.ok (.enter k args) w
  none:∀ (p:Option Addr) (cap:Nat) (w:World),Calls P k #[.slice p 0 cap] w fun e w'=>e=.returned (.tuple #[])∧w'=w
  some:∀ (blk off cap:Nat) (ss:List Str) (w:World),Sort.Holds Proofs.encStr w blk off ss.toArray→blk<w.heap.size→ss.length<4611686018427387904 →
    Calls P k #[.slice (some ⟨blk,off,.none⟩) ss.length cap] w fun e w'=>e=.returned (.tuple #[])∧∃ n os,w'=Sort.grow (Sort.putRow Proofs.encStr (Sort.ahead w n) blk off (ss.mergeSort fun x y=>decide (x≤y)).toArray) os
structure CompactCon (P:Program) (k:FuncId):Prop where
  enter:∀ (args:Array Value) (w:World),(callFunc k args).run P w=.ok (.enter k args) w
  none:∀ (a:Option Addr) (cap:Nat) (w:World),Calls P k #[.slice a 0 cap] w fun e w'=>e=.returned (.slice a 0 cap)∧w'=w
  some:∀ (blk off cap:Nat) (zs:List Str) (w:World),Sort.Holds Proofs.encStr w blk off zs.toArray→zs.length≤9223372036854775807→zs.length≤cap →
    Calls P k #[.slice (some ⟨blk,off,.none⟩) zs.length cap] w fun e w'=>e=.returned (.slice (some ⟨blk,off,.none⟩) (Lib.compact zs).length cap)∧∃ q,w'=Sort.putRow Proofs.encStr (Sort.ahead w q) blk off (Lib.compact zs++List.replicate (zs.length - (Lib.compact zs).length) []).toArray
section
variable {n:Nat} {listed:Array Bool}
theorem WA.two {i j : Nat} {o o' : Oper} (l1 l2 : Array Bool) (hi : ops[i]? = some o) (hj : ops[j]? = some o') (hr : Region.ready .any ops listed = [i, j]) (h1 : listed.setIfInBounds i true = l1) (h2 : listed.setIfInBounds j true = l2)
    (k1:WL P N ops [o] (fun f' w'=>WA P N ops n l1 Q f' w') f w) (k2:WL P N ops [o'] (fun f' w'=>WA P N ops n l2 Q f' w') f w):WA P N ops (n+1) listed Q f w:=by
  subst h1; subst h2
  refine wpAny_all hr (by simp) fun q hq=>?_
  have key:∀ (q:Nat) (o:Oper),ops[q]?=some o→WL P N ops [o] (fun f' w'=>WA P N ops n (listed.setIfInBounds q true) Q f' w') f w→wpOp P ops (fun e a w'=>∃ f',a=act N f'∧e=.normal∧Q f' w') q (wpAny P .any ops (fun e a w'=>∃ f',a=act N f'∧e=.normal∧Q f' w') n (listed.setIfInBounds q true)) (act N f) w:=by
    intro q o hq h
    unfold wpOp
    rw [hq]
    have h':wpList P ops (fun e a w'=>∃ f',a=act N f'∧e=.normal∧WA P N ops n (listed.setIfInBounds q true) Q f' w') [o] (act N f) w:=h.out
    unfold wpList at h'
    show if Region.wanted o (yielded ops (act N f).tmps)=true then _ else _
    split
    · rename_i hw
      rw [if_pos hw] at h'
      rcases h' with h' | ⟨_,a0,w0,f0,_,he,_⟩
      · refine .inl (Oper.wp_monoQ (fun a w hk=>?_) (fun e a w hne ⟨f',ha,he,_⟩=>absurd he hne) h')
        obtain ⟨f',ha,_,hq⟩:=hk
        subst ha; exact hq
      · cases he
    · rename_i hw
      rw [if_neg hw] at h'
      obtain ⟨f',ha,_,hq⟩:=h'
      rw [ha]; exact hq
  rcases List.mem_cons.1 hq with rfl | hq
  · exact key _ _ hi k1
  · rcases List.mem_singleton.1 hq with rfl
    exact key _ _ hj k2
end
end
end Go.Eng
namespace Go.Eng
open Go Go.RowKit
def strconv_Itoa (n:Int):Option Str:=if -9223372036854775808≤n∧n≤9223372036854775807 then some (Lib.itoa n) else none
theorem zCR (w:World) (k:Nat) (os:Array Obj):Below w.heap.size w (Sort.grow (w.drewN k) os) :=
  ⟨rfl,rfl,rfl,by show w.heap.size≤(w.heap++os).size; rw [Array.size_append]; omega,fun j hj=>by
    show (w.heap++os)[j]?=w.heap[j]?
    rw [Array.getElem?_append_left hj]⟩
theorem zDE {P : Program} {k : FuncId} {fn : Func} {c : Code} {w : World} {H : Hp} {n : Int} {r : Str} (hf : P.funcs[k]? = some fn) (hb : fn.body = some c) (hname : (fn.name == "runtime.NumGoroutine") = false) (hw : Holds w H)
    (htab:Lib.TabIs P w "internal/strconv.uint64pow10" .u64 Lib.pow10Tab) (h:strconv_Itoa n=some r)
    (hc:∀ (n:Int),-9223372036854775808≤n→n≤9223372036854775807→∀ (w:World),Lib.TabIs P w "internal/strconv.uint64pow10" .u64 Lib.pow10Tab →
      Calls P k #[.int .i64 n] w fun e w'=>e=.returned (.string ⟨(Lib.itoa n).toArray⟩)∧∃ k os,w'=Sort.grow (w.drewN k) os) :
    Con P k [int n] w H (fun _ u=>u=str r):=by
  unfold strconv_Itoa at h
  split at h
  case isFalse=>cases h
  rename_i h0
  simp only [Option.some.injEq] at h
  subst h
  refine Con.of_calls hf hb hname hw (Calls.mono (hc n h0.1 h0.2 w htab) fun _ _ ⟨he,q,os,hp⟩=>⟨he,?_⟩)
  subst hp
  exact zCR w q os
theorem zCp {P:Program} {w w':World} {g:Nat} {n:String} {cs:Array Value} {B:Nat} (hg:P.globalNamed n=some g) (h:w.var? P n=some cs) (hb:Below B w w') (hB:g<B):w'.var? P n=some cs:=by
  unfold World.var? at *
  rw [hg] at h ⊢
  simp only [Option.bind_some] at h ⊢
  rw [hb.block g hB]; exact h
theorem zDb {P:Program} {w:World} {g:Nat} {n:String} {cs:Array Value} (hg:P.globalNamed n=some g) (h:w.var? P n=some cs):g<w.heap.size:=by
  unfold World.var? at h
  rw [hg] at h
  simp only [Option.bind_some] at h
  cases hh:w.heap[g]? with
  | none=>rw [hh] at h; cases h
  | some o=>exact (Array.getElem?_eq_some_iff.1 hh).1
theorem zC3 {P:Program} {w0 w:World} {H0 H:Hp} {g:Nat} {n:String} {k:IntKind} {zs:List Int} (hg:P.globalNamed n=some g) (h:Lib.TabIs P w0 n k zs) (p:Post w0 H0 w H):Lib.TabIs P w n k zs :=
  zCp hg h p.below (zDb hg h)
theorem zCI {P : Program} {W : World} {name : String} {k : IntKind} {zs : List Int} {l : List (String × DataW Unit)} {g : Nat} {t e : TypeId} {n : Nat} (hm : (name, Lib.tabData k zs) ∈ l)
    (hg:P.globalNamed name=some g) (hty:(P.globals[g]?).map (·.type)=some t) (ht:P.underlying t=some (.array n e)) (he:P.underlying e=some (.int k)) (hce:P.cellsOf e=1) (hct:P.cellsOf t=n)
    (h:laidMet P l W):Lib.TabIs P W name k zs:=by
  obtain ⟨ps,hl,_⟩:=h
  have key:∀ (l:List (String×DataW Unit)) (ps:List MemPlace),(name,Lib.tabData k zs) ∈ l→DataW.LaidVars P W l ps→∃ ps',DataW.LaidVars P W [(name,Lib.tabData k zs)] ps':=by
    intro l
    induction l with
    | nil=>intro ps hm; cases hm
    | cons x l ih =>
      intro ps hm hl
      obtain ⟨nm,d⟩:=x
      obtain ⟨g,t,cs,fuel,p,q,h1,h2,h3,h4,h5,rfl⟩:=hl
      rcases List.mem_cons.1 hm with hm | hm
      · cases hm
        exact ⟨_,g,t,cs,fuel,p,[],h1,h2,h3,h4,rfl,rfl⟩
      · exact ih q hm h5
  obtain ⟨ps',hl'⟩:=key l ps hm hl
  obtain ⟨g',t',cs,fuel,p,q,hg',ht',hvar,hd,_,_⟩:=hl'
  obtain rfl:=Option.some.inj (hg.symm.trans hg')
  obtain rfl:=Option.some.inj (hty.symm.trans ht')
  unfold Lib.TabIs
  rw [hvar,← Lib.cells_of_tab ht he hce hct hd]
end Go.Eng
namespace Go.Eng
open Go Go.RowKit
def ConS (P:Program) (k:FuncId) (args:List Value) (w0:World) (H0:Hp) (w:World) (H:Hp) (L2:List Ent) (R:Hp→Value→List Ent→Prop):Prop :=
  (∀ w,(callFunc k args.toArray).run P w=.ok (.enter k args.toArray) w) ∧
  Calls P k args.toArray w (fun e w'=>∃ v H' L',e=.returned v∧H.le H'∧St w0 H0 w' H' (L'++L2)∧R H' v L')
def OutS (P:Program) (fn:Func) (N:Frm) (w0:World) (H0 H:Hp) (L2:List Ent) (R:Hp→Value→List Ent→Prop):Exit→Fr→World→Prop:=fun e f w =>
  (e=.ret∨e=.normal)∧∃ v,(results fn (tm N f)).run P w=.ok v w∧∃ H' L',H.le H'∧St w0 H0 w H' (L'++L2)∧R H' v L'
section
variable {P:Program} {N:Frm} {f:Fr} {w w1 w0:World} {H0 H1 H:Hp} {L L2 L':List Ent} {ops:Array Oper} {rest:List Oper} {Q:Fr→World→Prop} {d:Nat} {od:Option Nat} {ty:TypeId} {pos:String} {af:Array Edge} {g:Option (Nat×Bool)}
theorem ConS.mk {N : Nat} {fn : Func} {c : Code} {k : FuncId} {args : List Value} {R : Hp → Value → List Ent → Prop} (hf : P.funcs[k]? = some fn) (hb : fn.body = some c) (hn : fn.ntmps = N) (hname : (fn.name == "runtime.NumGoroutine") = false)
    (hsz:Nat.ble args.length N=true) (h:WP P ⟨N,[]⟩ c (OutS P fn ⟨N,[]⟩ w0 H0 H L2 R) (init args) w):ConS P k args w0 H0 w H L2 R:=by
  refine ⟨fun w=>?_,?_⟩
  · simp only [callFunc,Sem.run_bind,run_program,Result.andThen_ok,hf,hname,hb]
    rfl
  · refine calls_of_wp hf hb ?_
    have hle:args.length≤N:=Nat.le_of_ble_eq_true hsz
    have e:({ tmps:=args.toArray++Array.replicate (fn.ntmps - args.toArray.size) undef,defers:=[] }:Act)=act ⟨N,[]⟩ (init args):=by
      simp only [act]
      congr 1
      apply Array.ext_getElem?
      intro t
      rw [zBl,hn,Array.getElem?_append]
      simp only [List.size_toArray,List.getElem?_toArray,init,List.getD_eq_getElem?_getD]
      by_cases h1:t<args.length
      · simp [h1,show t<N from by omega]
      · simp only [h1,if_false]
        rw [Array.getElem?_replicate]
        by_cases h2:t<N
        · rw [if_pos (by omega),if_pos h2,List.getElem?_eq_none (by omega)]; rfl
        · rw [if_neg (by omega),if_neg h2]
    rw [e]
    refine Code.wp_mono (fun e a w' ⟨f',ha,he,v,hv,H',L',hle,hS,hr⟩=>?_) h
    subst ha
    rcases he with rfl | rfl
    · exact ⟨rfl,v,hv,v,H',L',rfl,hle,hS,hr⟩
    · exact ⟨rfl,v,hv,v,H',L',rfl,hle,hS,hr⟩
theorem W.callS {k : FuncId} {xs : List Operand} {ats : Array TypeId} {args : List Value} {R : Hp → Value → List Ent → Prop} (ha : xs.map (ev N f) = args) (C : ConS P k args w0 H0 w H L2 R)
    (K:∀ v w' H' L',H.le H'→St w0 H0 w' H' (L'++L2)→R H' v L'→WL P N ops rest Q (updo f od v) w'):WL P N ops (⟨od,.call ⟨.value (.func k),xs.toArray,ats⟩,ty,pos,af,none⟩ :: rest) Q f w:=by
  refine WL.enterw (w':=w) (k:=k) (args:=args.toArray) ?_ (Calls.mono C.2 fun e w' ⟨v,H',L',he,hp,hS,hv⟩=>⟨v,he,K v w' H' L' hp hS hv⟩)
  have:(execOp (ev N f) ⟨od,.call ⟨.value (.func k),xs.toArray,ats⟩,ty,pos,af,none⟩)=callFunc k (#[]++xs.toArray.map (ev N f)++#[]):=rfl
  rw [this]
  have e:(#[]++xs.toArray.map (ev N f)++#[])=args.toArray:=by simp [ha]
  rw [e]
  exact C.1 w
theorem zCL {fn:Func} (hr:fn.results=#[]) (tmps:Array Value):(results fn tmps).run P w=.ok (.tuple #[]) w:=by
  rw [zAk,hr]
  simp only [List.mapM_toArray,List.mapM_nil,Sem.run_bind,Sem.run_map,Sem.run_pure,Result.andThen_ok]
  rfl
theorem OutS.zero {fn:Func} {R:Hp→Value→List Ent→Prop} {e:Exit} (he:e=.ret∨e=.normal) (hr:fn.results=#[]) (hle:H1.le H) (S:St w0 H0 w H (L'++L2)) (hR:R H (.tuple #[]) L'):OutS P fn N w0 H0 H1 L2 R e f w :=
  ⟨he,_,zCL hr _,H,L',hle,S,hR⟩
theorem OutS.one {fn:Func} {r:ResultVar} {v:Value} {R:Hp→Value→List Ent→Prop} (hr:fn.results=#[r]) (hle:H1.le H) (S:St w0 H0 w H (L'++L2)) (h:Res P N f w r v) (hR:R H v L'):OutS P fn N w0 H0 H1 L2 R .ret f w:=by
  refine ⟨.inl rfl,v,?_,H,L',hle,S,hR⟩
  have:=zAL h
  rw [zAk,hr]
  simp only [List.mapM_toArray,List.mapM_cons,List.mapM_nil,Sem.run_bind,Sem.run_map,this,Result.andThen_ok,Sem.run_pure]
  rfl
theorem OutS.two {fn:Func} {r1 r2:ResultVar} {v1 v2:Value} {R:Hp→Value→List Ent→Prop} (hr:fn.results=#[r1,r2]) (hle:H1.le H) (S:St w0 H0 w H (L'++L2)) (h1:Res P N f w r1 v1) (h2:Res P N f w r2 v2) (hR:R H (.tuple ⟨[v1,v2]⟩) L'):OutS P fn N w0 H0 H1 L2 R .ret f w:=by
  refine ⟨.inl rfl,_,?_,H,L',hle,S,hR⟩
  have h1:=zAL h1
  have h2:=zAL h2
  rw [zAk,hr]
  simp only [List.mapM_toArray,List.mapM_cons,List.mapM_nil,Sem.run_bind,Sem.run_map,h1,h2,Result.andThen_ok,Sem.run_pure]
  rfl
theorem St.front (S:St w0 H0 w H L) (i:Nat) {e:Ent} (hi:L[i]?=some e):St w0 H0 w H (e :: L.eraseIdx i):=by
  have hm:=List.mem_of_getElem? hi
  refine ⟨S.post,?_,?_,?_⟩
  · intro x hx
    rcases List.mem_cons.1 hx with rfl | hx
    · exact S.ents _ hm
    · exact S.ents _ ((List.eraseIdx_sublist _ _).subset hx)
  · intro x hx
    rcases List.mem_cons.1 hx with rfl | hx
    · exact S.own _ hm
    · exact S.own _ ((List.eraseIdx_sublist _ _).subset hx)
  · have hp : ∀ (L : List Ent) (i : Nat), L[i]? = some e → List.Perm (e :: L.eraseIdx i) L := by
      intro L
      induction L with
      | nil=>intro i hi; simp at hi
      | cons x L ih =>
        intro i hi
        cases i with
        | zero=>simp at hi; subst hi; simp
        | succ i =>
          simp at hi
          rw [List.eraseIdx_cons_succ]
          exact (List.Perm.swap x e _).trans ((ih i hi).cons x)
    exact ((hp L i hi).filterMap Ent.blk).nodup_iff.2 S.nodup
end
end Go.Eng
namespace Go.Eng
open Go
def iand (a b:Int):Int:=IntKind.wrap .i64 ((BitVec.ofInt 64 a &&& BitVec.ofInt 64 b).toNat:Int)
section
variable {P:Program} {N:Frm} {f:Fr} {w:World} {d:Option Nat} {ty:TypeId} {pos:String} {af:Array Edge} {g:Option (Nat×Bool)}
theorem R.and {x y:Operand} {a b:Int} {T T':TypeId} (hx:ev N f x=int a) (hy:ev N f y=int b):(execOp (ev N f) ⟨d,.binOp .and T x y T',ty,pos,af,g⟩).run P w=.ok (.value (int (iand a b))) w:=by
  simp [execOp,eqGuard,hx,hy,int,binOp,Op.intBits,iand]
  rfl
end
end Go.Eng
namespace Go.Eng
open Go
section
variable {P:Program} {N:Frm} {f:Fr} {w w0:World} {H0 H:Hp} {L:List Ent} {ops:Array Oper} {rest:List Oper} {Q:Fr→World→Prop} {d:Nat} {od:Option Nat} {ty:TypeId} {pos:String} {af:Array Edge}
theorem W.storeSl {α : Type} [Enc α] {T T' : TypeId} {a x : Operand} {b o i : Nat} {bb : Bool} {u : Value} {xs : List α} {cs : List Value} (cs' : List Value) (S : St w0 H0 w H L) (R : Sl H u xs) (ha : ev N f a = ptr b o) (hx : ev N f x = u) (hi : L[i]? = some (.box b T' cs)) (hT : lay P T = some (bb, 1))
    (ho:o+1≤cs.length) (hc:zB5 cs o [u]=cs')
    (k:∀ w',St w0 H0 w' H (L.set i (.box b T' cs'))→WL P N ops rest Q (updo f od undef) w'):WL P N ops (⟨od,.store T a x,ty,pos,af,none⟩ :: rest) Q f w :=
  W.store cs' S ha hx hi hT (by rw [Sl.cellsOne R]; rfl) (by rw [Sl.cellsOne R]; simp [Sl.oneC R]) ho (by rw [Sl.cellsOne R]; exact hc) k
end
end Go.Eng
namespace Go.Eng
open Go
variable {P:Program} {md:Region.Mode} {ops:Array Oper} {Q:Exit→Act→World→Prop} {C:World→Prop}
def wpAnyC (P:Program) (md:Region.Mode) (ops:Array Oper) (C:World→Prop) (Q:Exit→Act→World→Prop):Nat→Array Bool→Act→World→Prop
  | 0,listed,a,w=>C w∧Region.ready md ops listed=[]∧Q .normal a w
  | n + 1, listed, a, w => C w ∧ (Region.ready md ops listed = [] → Q .normal a w) ∧
      ∀ i ∈ Region.ready md ops listed,wpOp P ops Q i (wpAnyC P md ops C Q n (listed.setIfInBounds i true)) a w
theorem wpAnyC.any:∀ {n:Nat} {listed:Array Bool} {a:Act} {w:World},wpAnyC P md ops C Q n listed a w→wpAny P md ops Q n listed a w
  | 0,_,_,_,h=>h.2
  | _+1,_,_,_,h=>⟨h.2.1,fun i hi=>wpOp_mono (fun _ _ h=>wpAnyC.any h) (h.2.2 i hi)⟩
structure WC (P:Program) (N:Frm) (ops:Array Oper) (C:World→Prop) (n:Nat) (listed:Array Bool) (Q:Fr→World→Prop) (f:Fr) (w:World):Prop where
  out:wpAnyC P .any ops C (fun e a w'=>∃ f',a=act N f'∧e=.normal∧Q f' w') n listed (act N f) w
section
variable {N:Frm} {f:Fr} {w w0:World} {H0 H:Hp} {L:List Ent} {Q:Fr→World→Prop} {n:Nat} {listed:Array Bool}
end
end Go.Eng
