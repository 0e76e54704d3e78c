/- A part. -/
import Derived.Test.YtljjaiijlaeoeaaGreatDoorEng27
import Derived.RangeFuncRecord
import Derived.WalkSpells
import Derived.Laws.IdiomCopy
namespace Go.Eng
open Go
set_option linter.unusedVariables false
section
variable {P:Program}
def WPR (P:Program) (n:Nat) (c:Code) (Q:Exit→List Deferred→Fr→World→Prop) (ds:List Deferred) (f:Fr) (w:World):Prop :=
  c.wp P (fun e a w'=>∃ f' ds',a=act ⟨n,ds'⟩ f'∧Q e ds' f' w') (act ⟨n,ds⟩ f) w
variable {n:Nat} {Q:Exit→List Deferred→Fr→World→Prop} {ds:List Deferred} {f:Fr} {w:World}
theorem WPR.of {c:Code} (h:WP P ⟨n,ds⟩ c (fun e f w=>Q e ds f w) f w):WPR P n c Q ds f w :=
  Code.wp_mono (fun e a w ⟨f',ha,q⟩=>⟨f',ds,ha,q⟩) h
theorem WPR.seq {x y:Code} (h:WPR P n x (fun e ds f w=>match e with | .normal=>WPR P n y Q ds f w | e=>Q e ds f w) ds f w):WPR P n (.seq x y) Q ds f w:=by
  refine wp_seq (Code.wp_mono (fun e a w ⟨f',ds',ha,q⟩=>?_) h)
  subst ha
  cases e with
  | normal=>exact q
  | _=>exact ⟨f',ds',rfl,q⟩
theorem WPR.block {id:Nat} {c:Code} (h:WPR P n c (fun e ds f w=>Q (blk id e) ds f w) ds f w):WPR P n (.block id c) Q ds f w:=by
  refine wp_block (Code.wp_mono (fun e a w ⟨f',ds',ha,q⟩=>?_) h)
  subst ha
  cases e with
  | exit i =>
    simp only [Exit.inBlock]
    by_cases hi:i=id
    · subst hi
      simp only [if_true]
      refine ⟨f',ds',rfl,?_⟩
      simpa [blk] using q
    · simp only [hi,if_false]
      refine ⟨f',ds',rfl,?_⟩
      have hb:Nat.beq i id=false:=by
        cases hb:Nat.beq i id with
        | false=>rfl
        | true=>exact absurd (Nat.eq_of_beq_eq_true hb) hi
      simpa [blk,hb] using q
  | _=>exact ⟨f',ds',rfl,q⟩
def mark (D:Nat):Deferred:={ target:=.collected D,args:=#[] }
def OutR (P:Program) (fn:Func) (n:Nat) (w0:World) (H0:Hp) (R:Hp→Value→Prop):Exit→List Deferred→Fr→World→Prop:=fun e ds f w =>
  (e=.ret∨e=.normal)∧∃ (Ds:List Nat) (v:Value) (H:Hp) (L:List Ent),ds=Ds.map mark∧(∀ w,(results fn (tm ⟨n,[]⟩ f)).run P w=.ok v w)∧St w0 H0 w H (Ds.map (fun D=>Ent.obj D (.deferred (some [])))++L)∧R H v
theorem St.renewObj {w0 w:World} {H0 H:Hp} {L:List Ent} (S:St w0 H0 w H L) {i b:Nat} {o:Obj} (hi:L[i]?=some (.obj b o)) (o':Obj):St w0 H0 (w.putObj b o') H (L.set i (.obj b o')):=by
  obtain ⟨hH,hc⟩:ObjOk w H b o:=S.ents _ (List.mem_of_getElem? hi)
  have hlt:=(Array.getElem?_eq_some_iff.1 hc).1
  exact S.renew hi rfl rfl hH (fun k hk=>World.putObj_heap_other hk) World.putObj_size ⟨rfl,rfl,rfl⟩ ⟨hH,World.putObj_heap_same hlt⟩
theorem Con.mkR {N : Nat} {fn : Func} {c : Code} {k : FuncId} {args : List Value} {H : Hp} {R : Hp → Value → Prop} (hf : P.funcs[k]? = some fn) (hb : fn.body = some c) (hn : fn.ntmps = N) (hname : (fn.name == "runtime.NumGoroutine") = false)
    (hsz:Nat.ble args.length N=true) (h:WPR P N c (OutR P fn N w H R) [] (init args) w):Con P k args w H R:=by
  refine ⟨fun w=>?_,?_⟩
  · simp only [callFunc,Sem.run_bind,run_program,Result.andThen_ok,hf,hname,hb]
    rfl
  · refine callsIn_wide.1 (callsIn_of_wp_marks (n:=0) hf hb trivial (wpIn_wide.2 ?_) rfl)
    have hle:args.length≤N:=Nat.le_of_ble_eq_true hsz
    have e:({ tmps:=args.toArray++Array.replicate (fn.ntmps - args.toArray.size) undef,defers:=[] }:Act)=act ⟨N,[]⟩ (init args):=by
      simp only [act]
      congr 1
      apply Array.ext_getElem?
      intro t
      rw [zF0,hn,Array.getElem?_append]
      simp only [List.size_toArray,List.getElem?_toArray,init,List.getD_eq_getElem?_getD]
      by_cases h1:t<args.length
      · simp [h1,show t<N from by omega]
      · simp only [h1,if_false]
        rw [Array.getElem?_replicate]
        by_cases h2:t<N
        · rw [if_pos (by omega),if_pos h2,List.getElem?_eq_none (by omega)]; rfl
        · rw [if_neg (by omega),if_neg h2]
    rw [e]
    refine Code.wp_mono (fun e a w' ⟨f',ds',ha,he,Ds,v,H',L,hds,hv,hS,hr⟩=>?_) h
    subst ha
    have key : ∀ (Ds : List Nat) (w' : World), St w H w' H' (Ds.map (fun D => Ent.obj D (.deferred (some []))) ++ L) →
        LeavesInM Fence.wide 0 P fn (tm ⟨N,ds'⟩ f') (fun e w'=>∃ v,∃ H',e=.returned v∧Post w H w' H'∧R H' v) (Ds.map mark) .returning w':=by
      intro Ds
      induction Ds with
      | nil =>
        intro w' S
        exact ⟨v,hv w',v,H',rfl,S.post,hr⟩
      | cons D Ds ih =>
        intro w' S
        have hok:ObjOk w' H' D (.deferred (some [])):=S.ents (.obj D (.deferred (some []))) (by simp)
        refine ⟨by simp,.inl ⟨D,_,rfl,run_takeDeferred hok.2,ih _ ?_⟩⟩
        have S2:=S.renewObj (i:=0) rfl (.deferred none)
        exact S2.drop _ (by simp)
    subst hds
    rcases he with rfl | rfl
    · exact key Ds w' hS
    · exact key Ds w' hS
abbrev rec0 (fn:FuncId) (n:Nat) (f:Fr) (ps:Array Tmp) (assign body:Code) (D:Nat):Loop :=
  { state:=.ready,pending:=none,fn,tmps:=tm ⟨n,[]⟩ f,params:=ps,assign,body,defers:=D }
theorem WPR.range {w0 : World} {H0 H : Hp} {L : List Ent} {g : Operand} {ps : Array Tmp} {assign body : Code} {gf : Nat} {caps : List Value}
    (S:St w0 H0 w H L) (hg:ev ⟨n,ds⟩ f g=.func (.func gf) #[] caps.toArray) (eg:∀ args w,(callFunc gf args).run P w=.ok (.enter gf args) w)
    (h:∀ (fn D:Nat) (w2:World),St w0 H0 w2 H (.obj (D+1) (.loop (rec0 fn n f ps assign body D)) :: .obj D (.deferred (some [])) :: L) →
      Calls P gf (#[.func (.yield (D+1)) #[] #[]]++caps.toArray) w2 (fun e w'=>∃ v,e=.returned v∧∃ H' L',St w0 H0 w' H' (.obj (D+1) (.loop (rec0 fn n f ps assign body D)) :: L') ∧
        ∀ w'',St w0 H0 w'' H' L'→Q .normal (mark D :: ds) f w'')) :
    WPR P n (.rangeFunc g ps assign body) Q ds f w:=by
  refine (wpIn_wide (n:=0)).1 (wpIn_rangeFunc fun fn _=>?_)
  have S1:=S.new (.deferred (some [])) (.obj w.heap.size (.deferred (some []))) rfl ⟨S.holds.none_of_size (Nat.le_refl _),heap_alloc_new w _⟩
  have hsz:(w.alloc (.deferred (some []))).heap.size=w.heap.size+1:=by simp
  have S2:=S1.new (.loop (rec0 fn n f ps assign body w.heap.size)) (.obj (w.heap.size+1) (.loop (rec0 fn n f ps assign body w.heap.size))) (by rw [hsz]; rfl)
    ⟨S1.holds.none_of_size (by rw [hsz]; exact Nat.le_refl _),by have:=heap_alloc_new (w.alloc (.deferred (some []))) (.loop (rec0 fn n f ps assign body w.heap.size)); rw [hsz] at this; exact this⟩
  have hev:(act ⟨n,ds⟩ f).eval g=.func (.func gf) #[] caps.toArray:=(zGM _ f g).trans hg
  refine ⟨w.heap.size+1,[mark w.heap.size],((w.alloc (.deferred (some []))).alloc (.loop (rec0 fn n f ps assign body w.heap.size))),⟨.fn (.func gf) caps.toArray,#[.func (.yield (w.heap.size+1)) #[] #[]]⟩,((w.alloc (.deferred (some []))).alloc (.loop (rec0 fn n f ps assign body w.heap.size))),gf,#[.func (.yield (w.heap.size+1)) #[] #[]]++caps.toArray,((w.alloc (.deferred (some []))).alloc (.loop (rec0 fn n f ps assign body w.heap.size))),run_enterLoop_outer fn (act ⟨n,ds⟩ f).tmps ps assign body,?_,fun _ _=>trivial,?_,(fun h=>by cases h),callsIn_wide.2 ?_⟩
  · simp only [resolve,hev,Deferred.ofValue]
    simp [Act.eval]
  · simp only [invoke]
    exact eg _ _
  · refine Calls.mono (h fn w.heap.size _ S2) fun e w' ⟨v,he,H',L',S',hq⟩=>?_
    subst he
    have hok:ObjOk w' H' (w.heap.size+1) (.loop (rec0 fn n f ps assign body w.heap.size)):=S'.ents (.obj (w.heap.size+1) (.loop (rec0 fn n f ps assign body w.heap.size))) (by simp)
    refine ⟨none,_,run_endLoop hok.2 (by simp),f,mark w.heap.size :: ds,rfl,hq _ ?_⟩
    have S3:=S'.renewObj (i:=0) rfl (.loop { rec0 fn n f ps assign body w.heap.size with state:=.exhausted })
    exact S3.drop _ (.cons _ (.refl _))
end
section
variable {P:Program} {N:Frm}
structure WY (P:Program) (N:Frm) (ops:Array Oper) (l:List Nat) (Q:Fr→World→Prop) (f:Fr) (w:World):Prop where
  out:wpOpsIn Fence.wide 0 P ops (fun e a w'=>∃ f',a=act N f'∧e=.normal∧Q f' w') l (act N f) w
variable {ops:Array Oper} {rest:List Nat} {Q:Fr→World→Prop} {f:Fr} {w w':World} {d:Option Nat} {op:Op} {ty:TypeId} {pos:String} {af:Array Edge} {i:Nat}
theorem WP.regionY {id:Nat} {Q:Exit→Fr→World→Prop} (l:List Nat) (hl:List.range ops.size=l) (h:WY P N ops l (Q .normal) f w):WP P N (.region id ops false) Q f w:=by
  subst hl
  refine (wpIn_wide (n:=0)).1 (wpIn_region ?_)
  have key:∀ (l:List Nat) (a:Act) (w:World),wpOpsIn Fence.wide 0 P ops (fun e a w'=>∃ f',a=act N f'∧e=.normal∧Q .normal f' w') l a w→wpOpsIn Fence.wide 0 P ops (fun e a w'=>∃ f',a=act N f'∧Q e f' w') l a w:=by
    intro l
    induction l with
    | nil=>intro a w ⟨f',ha,_,q⟩; exact ⟨f',ha,q⟩
    | cons i rest ih =>
      intro a w h
      unfold wpOpsIn at h ⊢
      split
      · rename_i ho
        simp only [ho] at h
        exact ih _ _ h
      · rename_i o ho
        simp only [ho] at h
        split
        · rename_i hw
          rw [if_pos hw] at h
          refine ⟨h.1,?_⟩
          have h2:=h.2
          unfold Oper.uponIn at h2 ⊢
          generalize (Oper.semAt Fence.wide.round a.eval o).run P w=r at h2 ⊢
          cases r with
          | ok nx w' =>
            cases nx with
            | value v=>exact ih _ _ h2
            | skip=>exact ih _ _ h2
            | defer d=>exact ih _ _ h2
            | enter g args =>
              refine ⟨h2.1,CallsIn.mono h2.2 fun e w'' he=>?_⟩
              cases e with
              | returned v=>exact ih _ _ he
              | panicked c=>obtain ⟨f',ha,hc,_⟩:=he; cases hc
              | outgrown=>obtain ⟨a0,w0,f0,_,hc,_⟩:=he; cases hc
            | row r args=>exact ⟨h2.1,RowsIn.mono h2.2 fun v w'' he=>ih _ _ he⟩
            | round l f tmps assign body =>
              refine ⟨h2.1,RoundIn.mono h2.2 fun e w'' he=>?_⟩
              cases e with
              | returned v=>exact ih _ _ he
              | panicked c=>obtain ⟨f',ha,hc,_⟩:=he; cases hc
              | outgrown=>obtain ⟨a0,w0,f0,_,hc,_⟩:=he; cases hc
            | _=>exact h2
          | halt x w' =>
            cases x with
            | panic v=>obtain ⟨f',_,hc,_⟩:=h2; cases hc
            | _=>exact h2
        · rename_i hw
          rw [if_neg hw] at h
          exact ⟨h.1,ih _ _ h.2⟩
  exact key _ _ _ h.out
theorem WY.nil (h:Q f w):WY P N ops [] Q f w:=⟨⟨f,rfl,rfl,h⟩⟩
theorem WY.valw {v:Value} (ho:ops[i]?=some ⟨d,op,ty,pos,af,none⟩) (hr:(execOp (ev N f) ⟨d,op,ty,pos,af,none⟩).run P w=.ok (.value v) w') (h:WY P N ops rest Q (updo f d v) w'):WY P N ops (i :: rest) Q f w:=by
  refine ⟨?_⟩
  unfold wpOpsIn
  simp only [ho]
  rw [if_pos (by simp [Region.wanted])]
  refine ⟨fun _ _=>trivial,?_⟩
  have e:(Oper.semAt Fence.wide.round (act N f).eval ⟨d,op,ty,pos,af,none⟩).run P w=.ok (.value v) w':=by
    rw [zBX]; exact hr
  rw [e,Oper.uponIn_value]
  show wpOpsIn _ _ _ _ _ rest ((act N f).put d v) w'
  rw [zBN]
  exact h.out
theorem WY.yield {x a : Operand} {v : Value} {l : Nat} {r : Loop} {ats : Array TypeId} {K : World → Prop} (ho : ops[i]? = some ⟨d, .call ⟨.value x, #[a], ats⟩, ty, pos, af, none⟩)
    (hx:ev N f x=.func (.yield l) #[] #[]) (ha:ev N f a=v) (hl:w.heap[l]?=some (.loop r)) (hp:r.params.size=1)
    (hR:RoundIn Fence.wide 0 P l r.fn ((r.params.zip #[v]).foldl (fun tmps (t,a)=>tmps.setIfInBounds t a) r.tmps) r.assign r.body w (fun e w'=>e=.returned (.bool true)∧K w'))
    (h:∀ w',K w'→WY P N ops rest Q (updo f d (boo true)) w'):WY P N ops (i :: rest) Q f w:=by
  refine ⟨?_⟩
  unfold wpOpsIn
  simp only [ho]
  rw [if_pos (by simp [Region.wanted])]
  refine ⟨fun _ _=>trivial,?_⟩
  have e:(Oper.semAt Fence.wide.round (act N f).eval ⟨d,.call ⟨.value x,#[a],ats⟩,ty,pos,af,none⟩).run P w=.ok (.round l r.fn ((r.params.zip #[v]).foldl (fun tmps (t,a)=>tmps.setIfInBounds t a) r.tmps) r.assign r.body) w:=by
    rw [zBX,show Fence.wide.round=none from rfl,Oper.semAt_none]
    have hy:=run_yield (P:=P) (args:=#[v]) hl (by rw [hp]; rfl)
    simp [execOp,resolve,hx,ha,Deferred.ofValue,invoke,hy]
  rw [e,Oper.uponIn_round]
  refine ⟨(fun h=>by cases h),RoundIn.mono hR fun e w' ⟨he,hk⟩=>?_⟩
  subst he
  show wpOpsIn _ _ _ _ _ rest ((act N f).put d (.bool true)) w'
  rw [zBN]
  exact (h w' hk).out
def SL (P:Program) (N:Frm):List Oper→(Fr→World→Prop)→Fr→World→Prop
  | [],Q,f,w=>Q f w
  | o :: rest, Q, f, w => o.guard = none ∧ (∀ c, o.op ≠ .defer c) ∧
      ((∃ v w',(execOp (ev N f) o).run P w=.ok (.value v) w'∧SL P N rest Q (updo f o.dst v) w')∨(∃ w',(execOp (ev N f) o).run P w=.ok .skip w'∧SL P N rest Q (updo f o.dst undef) w'))
theorem SL.wpIn {l id : Nat} {ops : List Oper} {Q : Fr → World → Prop} {f : Fr} {w : World} (h : SL P N ops Q f w) :
    (Code.region id ops.toArray false).wpIn (Fence.wide.inRound l) 0 P (fun e a w'=>∃ f',a=act N f'∧e=.normal∧Q f' w') (act N f) w:=by
  refine wpIn_region ?_
  have key : ∀ (k n : Nat) (f : Fr) (w : World), n + k = ops.length → SL P N (ops.drop n) Q f w →
      wpOpsIn (Fence.wide.inRound l) 0 P ops.toArray (fun e a w'=>∃ f',a=act N f'∧e=.normal∧Q f' w') (List.range' n k) (act N f) w:=by
    intro k
    induction k with
    | zero =>
      intro n f w hn h
      have:n=ops.length:=by omega
      subst this
      rw [List.drop_length] at h
      exact ⟨f,rfl,rfl,h⟩
    | succ k ih =>
      intro n f w hn h
      have hlt:n<ops.length:=by omega
      rw [List.drop_eq_getElem_cons hlt] at h
      obtain ⟨hg,hd,h⟩:=h
      have ho:ops.toArray[n]?=some ops[n]:=by simp [hlt]
      rw [List.range'_succ]
      unfold wpOpsIn
      simp only [ho]
      rw [if_pos (by simp [Region.wanted,hg])]
      refine ⟨fun _ _=>trivial,?_⟩
      have es:=Oper.semAt_eq (some l) (act N f).eval ops[n] hd
      rw [show (Fence.wide.inRound l).round=some l from rfl,es,zBX]
      rcases h with ⟨v,w',hr,h⟩ | ⟨w',hr,h⟩
      · rw [hr,Oper.uponIn_value,zBN]
        exact ih (n+1) _ _ (by omega) h
      · rw [hr,Oper.uponIn_skip,zBN]
        exact ih (n+1) _ _ (by omega) h
  have:=key ops.length 0 f w (by omega) (by simpa using h)
  simpa [List.range_eq_range'] using this
theorem zHs {n : Nat} {w0 w : World} {H0 H : Hp} {L : List Ent} {l : Nat} {r : Loop} {ia j ib : Nat} {opa opb : List Oper} {f : Fr} {tmps : Array Value} {K : World → Prop}
    (S:St w0 H0 w H (.obj l (.loop r) :: L)) (hr:r.state=.ready) (hpend:r.pending=none) (ha:r.assign=.region ia opa.toArray false) (hb:r.body=.block j (.region ib opb.toArray false)) (ht:tmps=tm ⟨n,[]⟩ f)
    (h:SL P ⟨n,[]⟩ opa (fun f1 w1=>∃ H1,St w0 H0 w1 H1 (.obj l (.loop r) :: L)∧∀ w2,St w0 H0 w2 H1 (.obj l (.loop { r with state:=.busy }) :: L) →
      SL P ⟨n,[]⟩ opb (fun f3 w3=>∃ H3 L3,St w0 H0 w3 H3 (.obj l (.loop { r with state:=.busy }) :: L3)∧∀ w4,St w0 H0 w4 H3 (.obj l (.loop r) :: L3)→K w4) f1 w2) f w) :
    RoundIn Fence.wide 0 P l r.fn tmps r.assign r.body w (fun e w'=>e=.returned (.bool true)∧K w'):=by
  subst ht
  rw [ha,hb]
  have hr0:{ r with state:=LoopState.ready,pending:=none }=r:=by cases r; simp at hr hpend; subst hr; subst hpend; rfl
  refine roundIn_of_wpIn trivial (wpIn_mono (SL.wpIn h) fun e a w1 ⟨f1,hact,he,H1,S1,hk⟩=>?_)
  subst hact; subst he
  have hok:ObjOk w1 H1 l (.loop r):=S1.ents (.obj l (.loop r)) (by simp)
  refine ⟨_,run_beginRound hok.2 hr,wpIn_block (wpIn_mono (SL.wpIn (hk _ (S1.renewObj (i:=0) rfl _))) fun e a w3 ⟨f3,hact,he,H3,L3,S3,hk3⟩=>?_)⟩
  subst hact; subst he
  have hok3:ObjOk w3 H3 l (.loop { r with state:=.busy }):=S3.ents (.obj l (.loop { r with state:=.busy })) (by simp)
  refine ⟨_,_,run_endRound none hok3.2,rfl,hk3 _ ?_⟩
  have S4:=S3.renewObj (i:=0) rfl (.loop { { r with state:=.busy } with state:=.ready,pending:=none })
  have e2:({ { r with state:=LoopState.busy } with state:=LoopState.ready,pending:=none }:Loop)=r:=hr0
  have goal:St w0 H0 (w3.putObj l (.loop { { r with state:=LoopState.busy } with state:=LoopState.ready,pending:=none })) H3 (.obj l (.loop r) :: L3):=by
    have S5:St w0 H0 (w3.putObj l (.loop { { r with state:=LoopState.busy } with state:=LoopState.ready,pending:=none })) H3 (.obj l (.loop { { r with state:=LoopState.busy } with state:=LoopState.ready,pending:=none }) :: L3):=S4
    rw [e2] at S5 ⊢
    exact S5
  exact goal
end
end Go.Eng
namespace Go.Eng
open Go Go.ChangeMaps
set_option linter.unusedVariables false
set_option linter.unusedSimpArgs false
section
variable {P:Program} {N:Frm} {f:Fr} {w w' w0:World} {H0 H:Hp} {L:List Ent} {ops:Array Oper} {rest:List Oper} {Q:Fr→World→Prop} {d:Nat} {od:Option Nat} {ty:TypeId} {pos:String} {af:Array Edge} {g:Option (Nat×Bool)}
theorem St.runDelete {β : Type} (F : β → Value) {T K E : TypeId} {x y : Operand} {ats : Array TypeId} {b i : Nat} {m : List (Str × β)} {k : Str} (S : St w0 H0 w H L) (hx : ev N f x = mapv b) (hy : ev N f y = str k) (hi : L[i]? = some (.mp b (encm F m)))
    (hat:ats=#[T,K]) (hT:P.underlying T=some (.map K E)) (hK:P.underlying K=some .string) :
    ∃ w',(execOp (ev N f) ⟨od,.call ⟨.builtin .delete,#[x,y],ats⟩,ty,pos,af,g⟩).run P w=.ok (.value (.tuple #[])) w'∧St w0 H0 w' H (L.set i (.mp b (encm F (mdel m k)))):=by
  subst hat
  obtain ⟨hH,es,cl,hc,he⟩:=S.mpOk hi
  obtain ⟨r,hr1,hr2,hr3,hr4,hr5,hr6,hr7,hr8⟩:=zDN F k m es.toList 0 he
  have hg:(getObj b).run P w=.ok (.map es cl) w:=MapKept.run_getObj_map hc
  have hfk:=zDc (w:=w) hK F k m es.toList he hr1
  have hset:∀ es' cl',(setObj b (.map es' cl')).run P w=.ok () (setBlock w b (.map es' cl')):=fun es' cl'=>MapKept.run_setObj_map _ hc
  have hck:∀ e,(Instr.checkKey e 10000 K (str k)).run P w=.ok () w:=fun e=>zA2 hK e _
  cases r with
  | none =>
    refine ⟨setBlock w b (.map es cl),?_,S.setMp hi ?_⟩
    · simp [execOp,resolve,invoke,builtin,Builtin.delete_,hx,hy,mapv,run_underlying hT,hg,hck,hfk,hset,Result.andThen]
    · rw [he,hr7 rfl]
  | some q =>
    obtain ⟨j,u0⟩:=q
    refine ⟨setBlock w b (.map (es.eraseIdxIfInBounds j) cl),?_,S.setMp hi ?_⟩
    · simp [execOp,resolve,invoke,builtin,Builtin.delete_,hx,hy,mapv,run_underlying hT,hg,hck,hfk,hset,Result.andThen]
    · have h6:=hr6 j u0 rfl
      have h3:=(hr3 j u0 rfl).2.1
      have hj:j<es.size:=by simpa using h3
      rw [Array.eraseIdxIfInBounds,dif_pos hj,Array.toList_eraseIdx]
      exact h6
theorem St.runUpdate {β : Type} (F : β → Value) {T K E : TypeId} {x y z : Operand} {b i : Nat} {m : List (Str × β)} {k : Str} {v : Value} (u : β) (S : St w0 H0 w H L) (hx : ev N f x = mapv b) (hy : ev N f y = str k) (hz : ev N f z = v) (hv : v = F u) (hi : L[i]? = some (.mp b (encm F m)))
    (hT:P.underlying T=some (.map K E)) (hK:P.underlying K=some .string) :
    ∃ w',(execOp (ev N f) ⟨od,.mapUpdate T x y z,ty,pos,af,g⟩).run P w=.ok .skip w'∧St w0 H0 w' H (L.set i (.mp b (encm F (mset m k u)))):=by
  obtain ⟨hH,es,cl,hc,he⟩:=S.mpOk hi
  obtain ⟨r,hr1,hr2,hr3,hr4,hr5,_,_,hr8⟩:=zDN F k m es.toList 0 he
  have hg:(getObj b).run P w=.ok (.map es cl) w:=MapKept.run_getObj_map hc
  have hfk:=zDc (w:=w) hK F k m es.toList he hr1
  have hset:∀ es' cl',(setObj b (.map es' cl')).run P w=.ok () (setBlock w b (.map es' cl')):=fun es' cl'=>MapKept.run_setObj_map _ hc
  cases r with
  | none =>
    refine ⟨setBlock w b (.map (es.push { key:=str k,val:=v,born:=cl }) (cl+1)),?_,S.setMp hi ?_⟩
    · simp [execOp,Instr.mapUpdate,hx,hy,hz,mapv,run_underlying hT,hg,zA2 hK,hfk,hset,Result.andThen]
    · rw [Array.toList_push,List.map_append,he,hr5 rfl]
      simp [encm,hv]
  | some q =>
    obtain ⟨j,u0⟩:=q
    have h8:=hr8 j u0 rfl
    have hk8:(((es[j]?).map (·.key)).getD (str k))=str k:=by
      rw [← Array.getElem?_toList]
      have:(es.toList[j]?).map (·.key)=some (str k):=h8
      rw [this]; rfl
    have hst:(Instr.keyThatStays (str k) (str k)).run P w=.ok (str k) w:=by
      have hb:Instr.sameBits 10000 (str k) (str k)=true:=by
        unfold Instr.sameBits
        exact (zGv k k).trans (by simp)
      simp [Instr.keyThatStays,hb]
    refine ⟨setBlock w b (.map (es.modify j fun e=>{ e with key:=str k,val:=v }) cl),?_,S.setMp hi ?_⟩
    · simp [execOp,Instr.mapUpdate,hx,hy,hz,mapv,run_underlying hT,hg,zA2 hK,hfk,hset,Result.andThen,hk8,hst]
    · rw [Array.toList_modify]
      have:=hr4 j u0 u rfl
      subst hv
      exact this
end
section
variable {P:Program} {n:Nat} {f:Fr} {w w0:World} {H0 H:Hp} {L:List Ent}
theorem zHH (t:Nat) (v:Value):((#[t].zip #[v]).foldl (fun tmps (t,a)=>tmps.setIfInBounds t a) (tm ⟨n,[]⟩ f))=tm ⟨n,[]⟩ (upd f t v):=by
  have h:=congrArg Act.tmps (zBN ⟨n,[]⟩ f (some t) v)
  have e:((#[t].zip #[v]).foldl (fun tmps (t,a)=>tmps.setIfInBounds t a) (tm ⟨n,[]⟩ f))=(tm ⟨n,[]⟩ f).setIfInBounds t v:=by simp
  rw [e]
  exact h
structure RF (n:Nat) (f:Fr) (t s a b x:Nat) (k:Str) (bm q:Nat):Prop where
  h1:ev ⟨n,[]⟩ (upd f t (str k)) (.tmp t)=str k
  h2:ev ⟨n,[]⟩ (upd (upd f t (str k)) s (str k)) (.tmp x)=ptr bm 0
  h3:ev ⟨n,[]⟩ (upd (upd (upd f t (str k)) s (str k)) a (mapv q)) (.tmp s)=str k
  h4:ev ⟨n,[]⟩ (upd (upd (upd (upd f t (str k)) s (str k)) a (mapv q)) b (str k)) (.tmp a)=mapv q
  h5:ev ⟨n,[]⟩ (upd (upd (upd (upd f t (str k)) s (str k)) a (mapv q)) b (str k)) (.tmp b)=str k
variable {fn D l ia j ib t s a b x bm q T K TB:Nat} {k:Str} {od:Option Nat} {m:List (Str×Bool)} {ty1 ty2 ty3 ty4:TypeId} {p1 p2 p3 p4:String} {a1 a2 a3 a4:Array Edge} {ats:Array TypeId} {i1 i2 E:Nat}
theorem Round.del (S : St w0 H0 w H (.obj l (.loop (rec0 fn n f #[t] (.region ia #[⟨some s, .assign (.tmp t), ty1, p1, a1, none⟩] false)
        (.block j (.region ib #[⟨some a,.load T (.tmp x),ty2,p2,a2,none⟩,⟨some b,.move (.tmp s),ty3,p3,a3,none⟩,⟨od,.call ⟨.builtin .delete,#[.tmp a,.tmp b],ats⟩,ty4,p4,a4,none⟩] false)) D)) :: L))
    (hF:RF n f t s a b x k bm q) (h1:L[i1]?=some (.box bm TB [mapv q])) (h2:L[i2]?=some (.mp q (encm boo m))) (hlay:lay P T=some (false,1)) (hat:ats=#[T,K]) (hT:P.underlying T=some (.map K E)) (hK:P.underlying K=some .string) :
    RoundIn Fence.wide 0 P l fn ((#[t].zip #[str k]).foldl (fun tmps (t, a) => tmps.setIfInBounds t a) (tm ⟨n, []⟩ f)) (.region ia #[⟨some s, .assign (.tmp t), ty1, p1, a1, none⟩] false)
        (.block j (.region ib #[⟨some a,.load T (.tmp x),ty2,p2,a2,none⟩,⟨some b,.move (.tmp s),ty3,p3,a3,none⟩,⟨od,.call ⟨.builtin .delete,#[.tmp a,.tmp b],ats⟩,ty4,p4,a4,none⟩] false)) w
      (fun e w'=>e=.returned (.bool true)∧St w0 H0 w' H (.obj l (.loop (rec0 fn n f #[t] (.region ia #[⟨some s,.assign (.tmp t),ty1,p1,a1,none⟩] false)
        (.block j (.region ib #[⟨some a,.load T (.tmp x),ty2,p2,a2,none⟩,⟨some b,.move (.tmp s),ty3,p3,a3,none⟩,⟨od,.call ⟨.builtin .delete,#[.tmp a,.tmp b],ats⟩,ty4,p4,a4,none⟩] false)) D)) :: L.set i2 (.mp q (encm boo (mdel m k))))):=by
  obtain ⟨g1,g2,g3,g4,g5⟩:=hF
  refine zHs S rfl rfl rfl rfl (zHH t (str k)) ⟨rfl,(fun c h=>by cases h),.inl ⟨str k,w,R.as g1,H,S,fun w2 S2=>?_⟩⟩
  refine ⟨rfl,(fun c h=>by cases h),.inl ⟨mapv q,w2,R.loadB (i:=i1+1) S2 g2 (by rw [List.getElem?_cons_succ]; exact h1) hlay rfl,?_⟩⟩
  refine ⟨rfl,(fun c h=>by cases h),.inl ⟨str k,w2,R.mv g3,?_⟩⟩
  obtain ⟨w3,hr,S3⟩:=S2.runDelete (od:=od) (ty:=ty4) (pos:=p4) (af:=a4) (g:=none) (i:=i2+1) boo g4 g5 (by rw [List.getElem?_cons_succ]; exact h2) hat hT hK
  refine ⟨rfl,(fun c h=>by cases h),.inl ⟨_,w3,hr,H,_,S3,fun w4 S4=>S4⟩⟩
theorem Round.set (S : St w0 H0 w H (.obj l (.loop (rec0 fn n f #[t] (.region ia #[⟨some s, .assign (.tmp t), ty1, p1, a1, none⟩] false)
        (.block j (.region ib #[⟨some a,.load T (.tmp x),ty2,p2,a2,none⟩,⟨some b,.move (.tmp s),ty3,p3,a3,none⟩,⟨od,.mapUpdate T (.tmp a) (.tmp b) (.const (.bool true)),ty4,p4,a4,none⟩] false)) D)) :: L))
    (hF:RF n f t s a b x k bm q) (h1:L[i1]?=some (.box bm TB [mapv q])) (h2:L[i2]?=some (.mp q (encm boo m))) (hlay:lay P T=some (false,1)) (hT:P.underlying T=some (.map K E)) (hK:P.underlying K=some .string) :
    RoundIn Fence.wide 0 P l fn ((#[t].zip #[str k]).foldl (fun tmps (t, a) => tmps.setIfInBounds t a) (tm ⟨n, []⟩ f)) (.region ia #[⟨some s, .assign (.tmp t), ty1, p1, a1, none⟩] false)
        (.block j (.region ib #[⟨some a,.load T (.tmp x),ty2,p2,a2,none⟩,⟨some b,.move (.tmp s),ty3,p3,a3,none⟩,⟨od,.mapUpdate T (.tmp a) (.tmp b) (.const (.bool true)),ty4,p4,a4,none⟩] false)) w
      (fun e w'=>e=.returned (.bool true)∧St w0 H0 w' H (.obj l (.loop (rec0 fn n f #[t] (.region ia #[⟨some s,.assign (.tmp t),ty1,p1,a1,none⟩] false)
        (.block j (.region ib #[⟨some a,.load T (.tmp x),ty2,p2,a2,none⟩,⟨some b,.move (.tmp s),ty3,p3,a3,none⟩,⟨od,.mapUpdate T (.tmp a) (.tmp b) (.const (.bool true)),ty4,p4,a4,none⟩] false)) D)) :: L.set i2 (.mp q (encm boo (mset m k true))))):=by
  obtain ⟨g1,g2,g3,g4,g5⟩:=hF
  refine zHs S rfl rfl rfl rfl (zHH t (str k)) ⟨rfl,(fun c h=>by cases h),.inl ⟨str k,w,R.as g1,H,S,fun w2 S2=>?_⟩⟩
  refine ⟨rfl,(fun c h=>by cases h),.inl ⟨mapv q,w2,R.loadB (i:=i1+1) S2 g2 (by rw [List.getElem?_cons_succ]; exact h1) hlay rfl,?_⟩⟩
  refine ⟨rfl,(fun c h=>by cases h),.inl ⟨str k,w2,R.mv g3,?_⟩⟩
  obtain ⟨w3,hr,S3⟩:=St.runUpdate (od:=od) (ty:=ty4) (pos:=p4) (af:=a4) (g:=none) (i:=i2+1) boo (z:=.const (.bool true)) (v:=.bool true) true S2 g4 g5 rfl rfl (by rw [List.getElem?_cons_succ]; exact h2) hT hK
  refine ⟨rfl,(fun c h=>by cases h),.inr ⟨w3,hr,H,_,S3,fun w4 S4=>S4⟩⟩
end
end Go.Eng
namespace Go.Eng
open Go
set_option linter.unusedVariables false
section
variable {P:Program} {N:Frm} {f:Fr} {w:World}
theorem WP.loopK {σ : Type} {c : Code} {Q : Exit → Fr → World → Prop} (I : σ → Fr → World → Prop) (μ : σ → Nat) (s0 : σ) (hI : I s0 f w)
    (h:∀ s f w,I s f w→WP P N c (fun e f' w'=>match e with | .normal=>∃ s',μ s'<μ s∧I s' f' w' | e=>Q e f' w') f w):WP P N (.loop c) Q f w:=by
  have key:∀ (n:Nat) (s:σ) (f:Fr) (w:World),μ s<n→I s f w→RD P N c Q n f w:=by
    intro n
    induction n with
    | zero=>intro s f w hn; exact absurd hn (Nat.not_lt_zero _)
    | succ n ih =>
      intro s f w hn hI
      refine RD.succ ((h s f w hI).mono fun e f' w' hq=>?_)
      cases e with
      | normal =>
        obtain ⟨s',hs,hI'⟩:=hq
        exact ih s' f' w' (by omega) hI'
      | _=>exact hq
  exact WP.loopRd _ (key _ s0 f w (Nat.lt_succ_self _) hI)
end
def zC8 (c:UInt8):Str→List Str
  | []=>[[]]
  | x :: l=>if x=c then [] :: zC8 c l else match zC8 c l with | p :: r=>(x :: p) :: r | []=>[[x]]
theorem zHA (c:UInt8):∀ l:Str,c ∉ l→zC8 c l=[l]
  | [],_=>rfl
  | x :: l,h=>by
    have h1:x≠c:=fun e=>h (by simp [e])
    unfold zC8
    rw [if_neg h1,zHA c l (fun hm=>h (by simp [hm]))]
theorem zHC (c:UInt8):∀ (a b:Str),c ∉ a→zC8 c (a++c :: b)=a :: zC8 c b
  | [],b,_=>by simp [zC8]
  | x :: a,b,h=>by
    have h1:x≠c:=fun e=>h (by simp [e])
    have e:=zHC c a b (fun hm=>h (by simp [hm]))
    have:zC8 c (x :: (a++c :: b))=if x=c then [] :: zC8 c (a++c :: b) else match zC8 c (a++c :: b) with | p :: r=>(x :: p) :: r | []=>[[x]]:=rfl
    rw [List.cons_append,this,if_neg h1,e]
theorem zG8 (s:Str) (c:UInt8):(Lib.indexByte s c=-1∧c ∉ s)∨∃ a b,s=a++c :: b∧c ∉ a∧Lib.indexByte s c=(a.length:Int):=by
  induction s with
  | nil=>exact .inl ⟨rfl,by simp⟩
  | cons x s ih =>
    by_cases hx:x=c
    · subst hx
      refine .inr ⟨[],s,rfl,by simp,?_⟩
      simp [Lib.indexByte]
    · have hb:(x==c)=false:=by simpa using hx
      rcases ih with ⟨h1,h2⟩ | ⟨a,b,rfl,h2,h3⟩
      · refine .inl ⟨?_,by simp [h2,Ne.symm hx]⟩
        rw [Lib.indexByte,hb,h1]; rfl
      · refine .inr ⟨x :: a,b,rfl,by simp [h2,Ne.symm hx],?_⟩
        rw [Lib.indexByte,hb,h3]
        have:((a.length:Int)==-1)=false:=beq_eq_false_iff_ne.2 (by omega)
        simp [this]
theorem zIu (a b:Str) (c:UInt8):xsub (a++c :: b) 0 (a.length:Int)=some a:=by
  unfold xsub
  rw [if_pos ⟨by omega,by omega,by rw [List.length_append]; omega⟩]
  simp
theorem zIV (a b:Str) (c:UInt8):xsub (a++c :: b) ((a.length+1:Nat):Int) ((a++c :: b).length:Int)=some b:=by
  unfold xsub
  rw [if_pos ⟨by omega,by rw [List.length_append,List.length_cons]; omega,by omega⟩]
  rw [Int.toNat_natCast,Int.toNat_natCast,List.take_length]
  have:(a++c :: b)=(a++[c])++b:=by simp
  rw [this]
  have h2:a.length+1=(a++[c]).length:=by simp
  rw [h2,List.drop_left]
section
variable {P:Program} {n:Nat} {f:Fr} {w w0:World} {H0 H:Hp} {L:List Ent} {ds:List Deferred}
theorem OutR.one {fn : Func} {t : Nat} {v : Value} {R : Hp → Value → Prop} (Ds : List Nat) (hr : fn.results = #[.tmp t]) (hds : ds = Ds.map mark) (S : St w0 H0 w H (Ds.map (fun D => Ent.obj D (.deferred (some []))) ++ L)) (hv : ev ⟨n, ds⟩ f (.tmp t) = v) (hR : R H v) :
    OutR P fn n w0 H0 R .ret ds f w:=by
  refine ⟨.inl rfl,Ds,v,H,L,hds,fun w'=>?_,S,hR⟩
  rw [zHW hr,zHh]
  exact congrArg (fun v=>Result.ok v w') hv
theorem St.objAt {b i:Nat} {o:Obj} (S:St w0 H0 w H L) (hi:L[i]?=some (.obj b o)):w.heap[b]?=some o:=(show ObjOk w H b o from S.ents _ (List.mem_of_getElem? hi)).2
end
end Go.Eng
namespace Go.Eng
open Go
variable {P:Program} {N:Frm} {f:Fr} {w:World}
theorem oi {α:Type} {a b:α} (h:some a=some b):a=b:=Option.some.inj h
theorem ag {f f':Fr} {ds:List Nat} (h:agree f f' ds:=by repeat (first | refine zIS rfl ?_ | refine zHq rfl ?_ | exact zH7)):agree f f' ds:=h
theorem WL.m {ops : Array Oper} {rest : List Oper} {x : Operand} {d : Option Nat} {ty : TypeId} {pos : String} {af : Array Edge} {Q : Fr → World → Prop} (v : Value)
    (hx:ev N f x=v) (h:WL P N ops rest Q (updo f d v) w):WL P N ops (⟨d,.move x,ty,pos,af,none⟩ :: rest) Q f w:=WL.w (R.mv hx) h
theorem WL.a {ops : Array Oper} {rest : List Oper} {x : Operand} {d : Option Nat} {ty : TypeId} {pos : String} {af : Array Edge} {Q : Fr → World → Prop} (v : Value)
    (hx:ev N f x=v) (h:WL P N ops rest Q (updo f d v) w):WL P N ops (⟨d,.assign x,ty,pos,af,none⟩ :: rest) Q f w:=WL.w (R.as hx) h
end Go.Eng
namespace Go.Eng
open Go
section
variable {P:Program} {N:Frm} {f:Fr} {w w0:World} {H0 H:Hp} {L:List Ent} {ops:Array Oper} {rest:List Oper} {Q:Fr→World→Prop} {d:Nat} {od:Option Nat} {ty:TypeId} {pos:String} {af:Array Edge} {g:Option (Nat×Bool)}
theorem Sl.nilE {α:Type} [Enc α] {v:Value} {xs:List α} (h:Sl H v xs):(∃ c,v=.slice none 0 c∧xs=[])∨∃ a n c,v=.slice (some a) n c:=by
  obtain ⟨a,c,hv,h1,h2,h3⟩:=h
  cases a with
  | some a=>exact .inr ⟨a,_,_,hv⟩
  | none =>
    rcases h3 with h3 | ⟨b,off,cs,ha,_⟩
    · subst h3; exact .inl ⟨c,hv,rfl⟩
    · cases ha
theorem R.eqNil {T T' : TypeId} {x y : Operand} {a : Option Addr} {n c : Nat} {e : TypeId} (hx : ev N f x = .slice a n c) (hy : ev N f y = .slice none 0 0) (hT : P.underlying T = some (.slice e)) :
    (execOp (ev N f) ⟨od,.binOp .eql T x y T',ty,pos,af,g⟩).run P w=.ok (.value (boo a.isNone)) w:=by
  have:=Lib.run_eql_slice_nil (P:=P) w T e a n c 0 0 hT
  simp [execOp,eqGuard,hx,hy,boo,this]
end
end Go.Eng
namespace Go.Eng
open Go Go.RowKit
class Scal (α:Type) extends Enc α where
  enc:α→Value
  sz1:Enc.sz α=1
  iff:∀ {H:Hp} {cs:List Value} {x:α},Enc.cells H cs x↔cs=[enc x]
  enc1:∀ x:α,(enc x).oneCell'=true
instance:Scal Str:=⟨str,rfl,Iff.rfl,fun _=>rfl⟩
instance:Scal Int:=⟨int,rfl,Iff.rfl,fun _=>rfl⟩
theorem zDV {e' : Ent} {B : Nat} (h3 : e'.blk = some B) : ∀ (K : List Ent) (i : Nat), (K.filterMap Ent.blk).Nodup → (∀ b ∈ K.filterMap Ent.blk, b < B) →
    ((K.set i e').filterMap Ent.blk).Nodup∧∀ b ∈ (K.set i e').filterMap Ent.blk,b<B∨b=B
  | [],i,h1,h2=>⟨by simp,by simp⟩
  | x :: K,0,h1,h2=>by
    rw [List.set_cons_zero,List.filterMap_cons,h3]
    have h1':(K.filterMap Ent.blk).Nodup∧∀ b ∈ K.filterMap Ent.blk,b<B:=by
      rw [List.filterMap_cons] at h1 h2
      cases hx:x.blk with
      | none=>rw [hx] at h1 h2; exact ⟨h1,h2⟩
      | some b=>rw [hx] at h1 h2; exact ⟨(List.nodup_cons.1 h1).2,fun c hc=>h2 c (List.mem_cons_of_mem _ hc)⟩
    exact ⟨List.nodup_cons.2 ⟨fun hm=>Nat.lt_irrefl _ (h1'.2 _ hm),h1'.1⟩,fun b hb=>(List.mem_cons.1 hb).elim .inr fun h=>.inl (h1'.2 b h)⟩
  | x :: K,i+1,h1,h2=>by
    rw [List.set_cons_succ,List.filterMap_cons]
    rw [List.filterMap_cons] at h1 h2
    cases hx:x.blk with
    | none =>
      rw [hx] at h1 h2
      exact zDV h3 K i h1 h2
    | some b =>
      rw [hx] at h1 h2
      obtain ⟨ha,hb⟩:=zDV h3 K i (List.nodup_cons.1 h1).2 fun c hc=>h2 c (List.mem_cons_of_mem _ hc)
      refine ⟨List.nodup_cons.2 ⟨fun hm=>?_,ha⟩,fun c hc=>(List.mem_cons.1 hc).elim (fun h=>.inl (h ▸ h2 _ (List.mem_cons_self ..))) fun h=>hb c h⟩
      have hbl:b<B:=h2 b (List.mem_cons_self ..)
      rcases hb b hm with h | h
      · -- b stands in K with e' put in: then in K itself
        have:b ∈ K.filterMap Ent.blk:=by
          obtain ⟨e,he,heb⟩:=List.mem_filterMap.1 hm
          rcases List.mem_or_eq_of_mem_set he with he | he
          · exact List.mem_filterMap.2 ⟨e,he,heb⟩
          · subst he; rw [h3] at heb; injection heb with heb; omega
        exact (List.nodup_cons.1 h1).1 this
      · omega
section
variable {P:Program} {N:Frm} {f:Fr} {w w' w0:World} {H0 H:Hp} {L:List Ent} {ops:Array Oper} {rest:List Oper} {Q:Fr→World→Prop} {d:Nat} {od:Option Nat} {ty:TypeId} {pos:String} {af:Array Edge}
end
structure InsCon (P:Program) (k:FuncId) (e:TypeId) (zc:Array Value) (bytes:Nat):Prop where
  enter:∀ (args:Array Value) (w:World),(callFunc k args).run P w=.ok (.enter k args) w
  shift:∀ (b n c i vb vc:Nat) (cs:List Value) (y:Value) (w:World),i<n→0<1→n+1≤c→c≤9223372036854775807→vb≠b→cs.length=n→[y].length=1 →
    (∀ j v,cs[j]?=some v→w.cell? ⟨b,0+j,none⟩=some v)→(∀ j,j<n+1→(w.cell? ⟨b,0+j,none⟩).isSome=true)→(∀ j,j<n+1→w.frozen? ⟨b,0+j,none⟩=false) →
    (∀ j v,[y][j]?=some v→w.cell? ⟨vb,0+j,none⟩=some v)→(∀ v ∈ cs,v.oneCell'=true)→(∀ v ∈ [y],v.oneCell'=true) →
    ∀ (tA tB:TypeId) (kA kB:Nat),w.shape? vb=some (tA,kA)→w.shape? b=some (tB,kB)→kB≠0→w.frozen? ⟨vb,0,none⟩=false→w.frozen? ⟨vb,kA,none⟩=false →
    Calls P k #[.slice (some ⟨b,0,none⟩) n c,.int .i64 i,.slice (some ⟨vb,0,none⟩) 1 vc] w fun e w' =>
      e=.returned (.slice (some ⟨b,0,none⟩) (n+1) c)∧w'=(w.drew.setCells b (0+(i+1)) (cs.drop i)).setCells b (0+i) [y]
  room:∀ (b n c vb vc:Nat) (y:Value) (w:World),0<1→n+1≤c→c≤9223372036854775807→[y].length=1 →
    (∀ j,j<1→(w.cell? ⟨b,0+n+j,none⟩).isSome=true)→(∀ j,j<1→w.frozen? ⟨b,0+n+j,none⟩=false) →
    (∀ j v,[y][j]?=some v→w.cell? ⟨vb,0+j,none⟩=some v)→(∀ v ∈ [y],v.oneCell'=true) →
    Calls P k #[.slice (some ⟨b,0,none⟩) n c,.int .i64 n,.slice (some ⟨vb,0,none⟩) 1 vc] w fun e w' =>
      e=.returned (.slice (some ⟨b,0,none⟩) (n+1) c)∧w'=w.setCells b (0+n) [y]
  endGrow:∀ (base:Option Addr) (n c vb vc:Nat) (cs:List Value) (y:Value) (w:World),0<1→n≤c→c<n+1→(n+1)*bytes≤140737488355328→cs.length=n→[y].length=1→(base=none→n=0) →
    (∀ a,base=some a→∀ j v,cs[j]?=some v→w.cell? (a.add j)=some v)→(∀ j v,[y][j]?=some v→w.cell? ⟨vb,0+j,none⟩=some v)→(∀ v ∈ [y],v.oneCell'=true) →
    Calls P k #[.slice base n c,.int .i64 n,.slice (some ⟨vb,0,none⟩) 1 vc] w fun r w' =>
      r=.returned (.slice (some ⟨w.heap.size,0,none⟩) (n+1) (grownCap w (n+1) c e))∧w'=w.drew.alloc (.cells ((cs++[y]).toArray++Builtin.zeroCells zc (grownCap w (n+1) c e - (n+1))) e)
  grow:∀ (b n c i vb vc:Nat) (cs:List Value) (y:Value) (w:World),i<n→0<1→n≤c→c<n+1→(n+1)*bytes≤140737488355328→cs.length=n→[y].length=1 →
    (∀ j v,cs[j]?=some v→w.cell? ⟨b,0+j,none⟩=some v)→(∀ j v,[y][j]?=some v→w.cell? ⟨vb,0+j,none⟩=some v)→(∀ v ∈ cs,v.oneCell'=true)→(∀ v ∈ [y],v.oneCell'=true) →
    Calls P k #[.slice (some ⟨b,0,none⟩) n c,.int .i64 i,.slice (some ⟨vb,0,none⟩) 1 vc] w fun r w' =>
      r=.returned (.slice (some ⟨w.heap.size,0,none⟩) (n+1) (grownCap w (n+1) c e)) ∧
      w'=(((w.alloc (.cells ((cs.take i).toArray++Builtin.zeroCells zc (n+1 - i)++Builtin.zeroCells zc (grownCap w (n+1) c e - (n+1))) e)).drew.setCells w.heap.size i [y]).drew).setCells w.heap.size (i+1) (cs.drop i)
end Go.Eng
namespace Go.Eng
open Go Go.RowKit
section
variable {P:Program} {N:Frm} {f:Fr} {w w' w0:World} {H0 H:Hp} {L:List Ent} {ops:Array Oper} {rest:List Oper} {Q:Fr→World→Prop} {d:Nat} {od:Option Nat} {ty:TypeId} {pos:String} {af:Array Edge}
theorem zHf {g:Nat} {cur:Array Value} {T:TypeId} {fz:Nat×Nat} (h:w.heap[g]?=some (.cells cur T fz)) (j:Nat):w.cell? ⟨g,j,none⟩=cur[j]?:=by simp [World.cell?,h]
theorem zH8 (w:World) (o:Obj):w.heap.size<(w.alloc o).heap.size:=by
  show w.heap.size<(w.heap.push o).size
  rw [Array.size_push]; exact Nat.lt_succ_self _
end
end Go.Eng
namespace Go.Eng
open Go Go.RowKit
def MR {α:Type} [Enc α] (H:Hp) (en:Ent) (T:TypeId) (v:Value) (xs:List α):Prop :=
  (v=.slice none 0 0∧xs=[]∧en=.row (.slice none 0 0) T (Enc.sz α) 0) ∨
  ∃ b cap cur cs,v=.slice (some ⟨b,0,none⟩) xs.length cap∧en=.obj b (.cells cur T (0,0))∧xs.length≤cap∧cap≤maxLen∧cur.size=cap*Enc.sz α∧cur.toList.take (xs.length*Enc.sz α)=cs∧Cells H cs xs
section
variable {α:Type} [Enc α] {H H':Hp} {en:Ent} {T:TypeId} {v:Value} {xs:List α}
theorem MR.nil:MR (α:=α) H (.row (.slice none 0 0) T (Enc.sz α) 0) T (.slice none 0 0) []:=.inl ⟨rfl,rfl,rfl⟩
theorem MR.mono (h:MR H en T v xs) (hl:H.le H'):MR H' en T v xs:=by
  rcases h with h | ⟨b,cap,cur,cs,h1,h2,h3,h4,h5,h6,h7⟩
  · exact .inl h
  · exact .inr ⟨b,cap,cur,cs,h1,h2,h3,h4,h5,h6,h7.mono hl⟩
theorem MR.oneC (h:MR H en T v xs):v.oneCell'=true:=by
  rcases h with ⟨rfl,_⟩ | ⟨b,cap,cur,cs,rfl,_⟩ <;> rfl
theorem MR.cellsOne (h:MR H en T v xs):v.cells=#[v]:=by
  rcases h with ⟨rfl,_⟩ | ⟨b,cap,cur,cs,rfl,_⟩ <;> rfl
theorem MR.shape (h:MR H en T v xs):∃ a c,v=.slice a xs.length c∧xs.length≤c:=by
  rcases h with ⟨rfl,rfl,_⟩ | ⟨b,cap,cur,cs,rfl,_,h3,_⟩
  · exact ⟨none,0,rfl,Nat.le_refl _⟩
  · exact ⟨_,cap,rfl,h3⟩
end
section
variable {P:Program} {N:Frm} {f:Fr} {w w' w0:World} {H0 H:Hp} {L:List Ent} {ops:Array Oper} {rest:List Oper} {Q:Fr→World→Prop} {d:Nat} {od:Option Nat} {ty:TypeId} {pos:String} {af:Array Edge} {α:Type} [Enc α]
theorem St.freshObj (S : St w0 H0 w H L) {i : Nat} {en : Ent} {o : Obj} (hi : L[i]? = some en) (hoth : ∀ k, k < w.heap.size → w'.heap[k]? = w.heap[k]?) (hsz : w.heap.size < w'.heap.size)
    (hos:w'.os=w.os∧w'.tape=w.tape∧w'.output=w.output) (hg:w'.heap[w.heap.size]?=some o):St w0 H0 w' H (L.set i (.obj w.heap.size o)):=by
  have hlt:i<L.length:=(List.getElem?_eq_some_iff.1 hi).1
  have hbel:=S.post.below
  obtain ⟨hnd,_⟩:=zDV (e':=.obj w.heap.size o) (B:=w.heap.size) rfl L i S.nodup fun b hb=>S.lt hb
  refine ⟨⟨hbel.trans ⟨hos.1,hos.2.1,hos.2.2,Nat.le_of_lt hsz,fun k hk=>hoth k (Nat.lt_of_lt_of_le hk hbel.size)⟩,S.post.le,S.post.eqb,?_⟩,?_,?_,hnd⟩
  · intro k T' l hk
    obtain ⟨cs,fz,hc',hr⟩:=S.holds k T' l hk
    exact ⟨cs,fz,by rw [hoth k (Array.getElem?_eq_some_iff.1 hc').1]; exact hc',hr⟩
  · intro e he
    obtain ⟨j,hj⟩:=List.mem_iff_getElem?.1 he
    by_cases hij:i=j
    · subst hij
      rw [List.getElem?_set_self hlt] at hj
      simp at hj; subst hj
      exact ⟨S.holds.none_of_size (Nat.le_refl _),hg⟩
    · rw [List.getElem?_set_ne hij] at hj
      refine Ent.ok_keep (S.ents e (List.mem_of_getElem? hj)) fun k hk=>?_
      exact ⟨hoth k (Ent.ok_lt (S.ents e (List.mem_of_getElem? hj)) hk),rfl⟩
  · intro e he k hk
    obtain ⟨j,hj⟩:=List.mem_iff_getElem?.1 he
    by_cases hij:i=j
    · subst hij
      rw [List.getElem?_set_self hlt] at hj
      simp at hj; subst hj
      simp [Ent.blk] at hk; subst hk
      exact hbel.size
    · rw [List.getElem?_set_ne hij] at hj
      exact S.own e (List.mem_of_getElem? hj) k hk
theorem St.setRowObj (S : St w0 H0 w H L) {i g : Nat} {cur : Array Value} {e : TypeId} (hi : L[i]? = some (.obj g (.cells cur e (0, 0)))) (cur' : Array Value) :
    St w0 H0 (w.setRow g cur') H (L.set i (.obj g (.cells cur' e (0,0)))):=by
  obtain ⟨hH,hc⟩:ObjOk w H g _:=S.ents _ (List.mem_of_getElem? hi)
  exact S.renew hi rfl rfl hH (fun k hk=>setRow_other w g k _ hk) (by simp) ⟨rfl,rfl,rfl⟩ ⟨hH,setRow_heap w g cur _ e _ hc⟩
theorem zHw {L:List Ent} {i:Nat} {e:Ent} (hi:L[i]?=some e):L.set i e=L:=by
  apply List.ext_getElem?
  intro j
  by_cases hij:i=j
  · subst hij; rw [List.getElem?_set_self (List.getElem?_eq_some_iff.1 hi).1,hi]
  · rw [List.getElem?_set_ne hij]
theorem St.appendM (S : St w0 H0 w H L) {i : Nat} {t ty e : TypeId} {v u : Value} {xs ys zs : List α} {en : Ent} (hE : Elem P t e (Enc.sz α)) (hi : L[i]? = some en)
    (hx:MR H en e v xs) (hy:Sl H u ys) (hz:xapp xs ys=some zs) :
    ∃ v' en' w',(Builtin.append_ #[t,t] ty #[v,u]).run P w=.ok v' w'∧MR H en' e v' zs∧St w0 H0 w' H (L.set i en'):=by
  have hsz:=Enc.pos (α:=α)
  unfold xapp at hz
  split at hz
  case isFalse=>cases hz
  rename_i hbig
  simp only [Option.some.injEq] at hz
  subst hz
  by_cases hne:ys=[]
  · subst hne
    obtain ⟨a,c,hv,h1⟩:=hx.shape
    obtain ⟨a',c',rfl,_⟩:=hy
    refine ⟨v,en,w,?_,by rw [List.append_nil]; exact hx,by rw [zHw hi]; exact S⟩
    rw [hv]; exact zEd t ty e _ hE a xs.length c h1 a' c'
  obtain ⟨ad,c',ysC,rfl,hyl,hyc,hyC⟩:=hy.news S.holds hne
  have hE':=hE
  obtain ⟨ht,inf,z,hinf,hzz,hsize,hzs,hbytes⟩:=hE'
  have hm:0<ys.length:=List.length_pos_iff.2 hne
  have hb2:(xs.length+ys.length)*inf.bytes≤140737488355328:=by
    have h1:=Nat.mul_le_mul hbig hbytes
    exact Nat.le_trans h1 (by simp [big])
  have h63:xs.length+ys.length≤maxLen:=Nat.le_trans hbig (by simp [big,maxLen])
  have h63':((xs.length+ys.length:Nat):Int)≤9223372036854775807:=by simp only [maxLen] at h63; omega
  have hlen:(xs++ys).length=xs.length+ys.length:=List.length_append
  have grown : ∀ (old : Nat) (xsC : List Value), old < xs.length + ys.length → Cells H xsC xs →
      MR H (.obj w.heap.size (.cells (xsC.toArray++ysC.toArray++Builtin.zeroCells z.cells (grownCap w (xs.length+ys.length) old e - (xs.length+ys.length))) e (0,0))) e
        (.slice (some ⟨w.heap.size,0,none⟩) (xs.length+ys.length) (grownCap w (xs.length+ys.length) old e)) (xs++ys) ∧
      St w0 H0 (w.drew.alloc (.cells (xsC.toArray++ysC.toArray++Builtin.zeroCells z.cells (grownCap w (xs.length+ys.length) old e - (xs.length+ys.length))) e)) H
        (L.set i (.obj w.heap.size (.cells (xsC.toArray++ysC.toArray++Builtin.zeroCells z.cells (grownCap w (xs.length+ys.length) old e - (xs.length+ys.length))) e (0,0)))):=by
    intro old xsC hold hxC
    have hxl:=hxC.length
    have hxylen:(xsC++ysC).length=(xs.length+ys.length)*Enc.sz α:=by rw [List.length_append,hxl,hyl,Nat.add_mul]
    have hge:=grownCap_ge w (xs.length+ys.length) old e
    have hcm:grownCap w (xs.length+ys.length) old e≤maxLen:=grownCap_le_maxLen w (xs.length+ys.length) old e h63
    generalize grownCap w (xs.length+ys.length) old e=cap at *
    refine ⟨.inr ⟨w.heap.size,cap,_,xsC++ysC,by rw [hlen],rfl,by rw [hlen]; exact hge,hcm,?_,?_,hxC.append hyC⟩,?_⟩
    · simp only [Array.size_append,List.size_toArray,size_zeroCells,hzs,hxl,hyl,← Nat.add_mul]
      congr 1; omega
    · rw [hlen,← hxylen]
      have e3:∀ Z:Array Value,(xsC.toArray++ysC.toArray++Z).toList=(xsC++ysC)++Z.toList:=by simp
      rw [e3,List.take_left]
    · exact S.freshObj hi (fun k hk=>Below.heap_alloc w.drew _ k hk) (zH8 _ _) ⟨rfl,rfl,rfl⟩ (heap_alloc_new w.drew _)
  rcases hx with ⟨rfl,rfl,rfl⟩ | ⟨g,cap,cur,xsC,rfl,rfl,hnc,hcm,hcs,htk,hxC⟩
  · have hr:=run_append_nil (P:=P) w t ty e inf z ht hinf hzz ad ys.length c' ysC (by rw [hsize]; exact hyl) hyc hm (by simpa using h63') (by have hb:=hb2; simp only [List.length_nil,Nat.zero_add] at hb; omega)
    obtain ⟨hmr,hst⟩:=grown 0 [] (by simpa using hm) rfl
    simp only [List.length_nil,Nat.zero_add,List.nil_append] at hmr hst
    exact ⟨_,_,_,hr,by simpa using hmr,by simpa using hst⟩
  · obtain ⟨hH,hg⟩:ObjOk w H g _:=S.ents _ (List.mem_of_getElem? hi)
    have hxl:=hxC.length
    have hcell:∀ j u,xsC[j]?=some u→w.cell? ((⟨g,0,none⟩:Addr).add j)=some u:=by
      intro j u hu
      rw [Addr.add_lit,Nat.zero_add,zHf hg,← Array.getElem?_toList]
      have hlt:=(List.getElem?_eq_some_iff.1 hu).1
      rw [← htk] at hu hlt
      rw [List.getElem?_take_of_lt (by rw [List.length_take] at hlt; omega)] at hu
      exact hu
    by_cases hroom:xs.length+ys.length≤cap
    · have hfit:xs.length*inf.size+ysC.length≤cur.size:=by rw [hyl,hcs,hsize,← Nat.add_mul]; exact Nat.mul_le_mul_right _ hroom
      have hr:=run_append_room (P:=P) w t ty e inf ht hinf g xs.length cap cur hg ad ys.length c' ysC (by rw [hsize]; exact hyl) hyc (hyC.one) hroom hfit
      rw [hsize,htk] at hr
      have hxylen:(xsC++ysC).length=(xs.length+ys.length)*Enc.sz α:=by rw [List.length_append,hxl,hyl,Nat.add_mul]
      refine ⟨_,.obj g (.cells (xsC++ysC++cur.toList.drop (xs.length*Enc.sz α+ysC.length)).toArray e (0,0)),_,hr,.inr ⟨g,cap,_,xsC++ysC,by rw [hlen],rfl,by rw [hlen]; exact hroom,hcm,?_,?_,hxC.append hyC⟩,S.setRowObj hi _⟩
      · have h1:xs.length*Enc.sz α+ysC.length≤cur.size:=by rw [← hsize]; exact hfit
        simp only [List.size_toArray,List.length_append,List.length_drop,Array.length_toList,hxl]
        omega
      · rw [hlen,← hxylen]
        have e3:∀ Z:List Value,(xsC++ysC++Z).toArray.toList=(xsC++ysC)++Z:=by simp
        rw [e3,List.take_left]
    · have hr:=run_append_grow (P:=P) w t ty e inf z ht hinf hzz ⟨g,0,none⟩ xs.length cap xsC (by rw [hsize]; exact hxl) hcell ad ys.length c' ysC (by rw [hsize]; exact hyl) hyc (by omega) h63' (growslice_fits (by omega) hb2)
      obtain ⟨hmr,hst⟩:=grown cap xsC (by omega) hxC
      exact ⟨_,_,_,hr,hmr,hst⟩
theorem W.appM {T e : TypeId} {x y : Operand} {v u : Value} {xs ys zs : List α} {i : Nat} {en : Ent} (S : St w0 H0 w H L) (hE : Elem P T e (Enc.sz α)) (hi : L[i]? = some en)
    (hx:ev N f x=v) (hy:ev N f y=u) (hX:MR H en e v xs) (hY:Sl H u ys) (h:xapp xs ys=some zs)
    (k:∀ v' en' w',MR H en' e v' zs→St w0 H0 w' H (L.set i en')→WL P N ops rest Q (upd f d v') w'):WL P N ops (⟨some d,.call ⟨.builtin .append,#[x,y],#[T,T]⟩,ty,pos,af,none⟩ :: rest) Q f w:=by
  obtain ⟨v',en',w',hr,hm,hst⟩:=S.appendM (P:=P) (t:=T) (ty:=ty) hE hi hX hY h
  refine WL.w (v:=v') (w':=w') ?_ (k v' en' w' hm hst)
  simp only [execOp,resolve,Go.invoke,Go.builtin,Sem.run_bind,Sem.run_pure,Result.andThen_ok,List.map_toArray,List.map_cons,List.map_nil,hx,hy,hr]
theorem St.settleM (S : St w0 H0 w H L) {i : Nat} {en : Ent} {e : TypeId} {v : Value} {xs : List α} (hi : L[i]? = some en) (hx : MR H en e v xs) :
    ∃ H',H.le H'∧Sl H' v xs∧St w0 H0 w H' (L.eraseIdx i):=by
  rcases hx with ⟨rfl,rfl,rfl⟩ | ⟨g,cap,cur,xsC,rfl,rfl,hnc,hcm,hcs,htk,hxC⟩
  · refine ⟨H,Hp.le.refl _,Sl.nil,S.drop _ (List.eraseIdx_sublist ..)⟩
  · obtain ⟨hH,hg⟩:ObjOk w H g _:=S.ents _ (List.mem_of_getElem? hi)
    have S1:St w0 H0 w H (L.set i (.box g e xsC)):=by
      refine S.renew hi rfl rfl hH (fun _ _=>rfl) rfl ⟨rfl,rfl,rfl⟩ ⟨hH,cur,(0,0),hg,⟨cur.toList.drop (xs.length*Enc.sz α),?_⟩,fun _ _ h=>Nat.not_lt_zero _ h.2⟩
      rw [← htk,List.take_append_drop]
    have hlt:i<L.length:=(List.getElem?_eq_some_iff.1 hi).1
    obtain ⟨H',hle,hHn,hHo,S2⟩:=S1.settle (i:=i) (by rw [List.getElem?_set_self hlt])
    refine ⟨H',hle,⟨_,cap,rfl,hnc,hcm,.inr ⟨g,0,xsC,rfl,⟨e,_,rfl,hHn,[],by simp⟩,hxC.mono hle⟩⟩,?_⟩
    have:(L.set i (.box g e xsC)).eraseIdx i=L.eraseIdx i:=by
      apply List.ext_getElem?
      intro j
      rw [List.getElem?_eraseIdx,List.getElem?_eraseIdx]
      split
      · rw [List.getElem?_set_ne (by omega)]
      · rw [List.getElem?_set_ne (by omega)]
    rw [this] at S2; exact S2
end
end Go.Eng
