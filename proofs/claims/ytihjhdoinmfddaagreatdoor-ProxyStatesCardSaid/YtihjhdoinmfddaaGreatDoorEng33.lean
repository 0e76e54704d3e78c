/- A part. -/
import Derived.Test.YtihjhdoinmfddaaGreatDoorEng27
import Derived.RangeFuncRecord
import Derived.WalkSpells
import Derived.Laws.IdiomCopy
set_option linter.unusedVariables false
set_option linter.unusedSimpArgs false
namespace Go.Eng
open Go
section
variable {P:Program}
def WPR (P:Program) (n:Nat) (c:Code) (Q:Exit→List Deferred→Fr→World→Prop) (ds:List Deferred) (f:Fr) (w:World):Prop :=
 c.wp P (fun e a w'=>∃ f' ds',a=act ⟨n,ds'⟩ f'∧Q e ds' f' w') (act ⟨n,ds⟩ f) w
variable {n:Nat} {Q:Exit→List Deferred→Fr→World→Prop} {ds:List Deferred} {f:Fr} {w:World}
theorem WPR.of {c:Code} (h:WP P ⟨n,ds⟩ c (fun e f w=>Q e ds f w) f w):WPR P n c Q ds f w :=
 Code.wp_mono (fun e a w ⟨f',ha,q⟩=>⟨f',ds,ha,q⟩) h
theorem WPR.seq {x y:Code} (h:WPR P n x (fun e ds f w=>match e with | .normal=>WPR P n y Q ds f w | e=>Q e ds f w) ds f w):WPR P n (.seq x y) Q ds f w:=by
 refine wp_seq (Code.wp_mono (fun e a w ⟨f',ds',ha,q⟩=>?_) h);subst ha;cases e with
 | normal=>exact q
 | _=>exact ⟨f',ds',rfl,q⟩
theorem WPR.block {id:Nat} {c:Code} (h:WPR P n c (fun e ds f w=>Q (blk id e) ds f w) ds f w):WPR P n (.block id c) Q ds f w:=by
 refine wp_block (Code.wp_mono (fun e a w ⟨f',ds',ha,q⟩=>?_) h);subst ha;cases e with
 | exit i =>
  simp only [Exit.inBlock];by_cases hi:i=id
  ·simp_all [blk]
  grind [nQ]
 | _=>exact ⟨f',ds',rfl,q⟩
def mark (D:Nat):Deferred:={ target:=.collected D,args:=#[] }
def OutR (P:Program) (fn:Func) (n:Nat) (w0:World) (H0:Hp) (R:Hp→Value→Prop):Exit→List Deferred→Fr→World→Prop:=fun e ds f w =>
 (e=.ret∨e=.normal)∧∃ (Ds:List Nat) (v:Value) (H:Hp) (L:List Ent),ds=Ds.map mark∧(∀ w,(results fn (tm ⟨n,[]⟩ f)).run P w=.ok v w)∧St w0 H0 w H (Ds.map (fun D=>Ent.obj D (.deferred (some [])))++L)∧R H v
theorem St.renewObj {w0 w:World} {H0 H:Hp} {L:List Ent} (S:St w0 H0 w H L) {i b:Nat} {o:Obj} (hi:L[i]?=some (.obj b o)) (o':Obj):St w0 H0 (w.putObj b o') H (L.set i (.obj b o')):=by
 obtain ⟨hH,hc⟩:ObjOk w H b o:=S.ents _ (lG hi);have hlt:=(Array.getElem?_eq_some_iff.1 hc).1;exact S.renew hi rfl rfl hH (fun k hk=>World.putObj_heap_other hk) World.putObj_size ⟨rfl,rfl,rfl⟩ ⟨hH,World.putObj_heap_same hlt⟩
theorem Con.mkR {N : Nat} {fn : Func} {c : Code} {k : FuncId} {args : List Value} {H : Hp} {R : Hp → Value → Prop} (hf : P.funcs[k]? = some fn) (hb : fn.body = some c) (hn : fn.ntmps = N) (hname : (fn.name == "runtime.NumGoroutine") = false)
    (hsz:Nat.ble args.length N=true) (h:WPR P N c (OutR P fn N w H R) [] (init args) w):Con P k args w H R:=by
  refine ⟨fun w=>?_,?_⟩
  · simp_all [callFunc]
  · refine callsIn_wide.1 (callsIn_of_wp_marks (n:=0) hf hb trivial (wpIn_wide.2 ?_) rfl)
    have hle:args.length≤N:=nL hsz;have e:({ tmps:=args.toArray++Array.replicate (fn.ntmps - args.toArray.size) undef,defers:=[] }:Act)=act ⟨N,[]⟩ (init args):=by
      simp only [act];congr 1;apply Array.ext_getElem?
      grind [zHG,init]
    rw [e];refine Code.wp_mono (fun e a w' ⟨f',ds',ha,he,Ds,v,H',L,hds,hv,hS,hr⟩=>?_) h;subst ha
    have key : ∀ (Ds : List Nat) (w' : World), St w H w' H' (Ds.map (fun D => Ent.obj D (.deferred (some []))) ++ L) →
        LeavesInM Fence.wide 0 P fn (tm ⟨N,ds'⟩ f') (fun e w'=>∃ v,∃ H',e=.returned v∧Post w H w' H'∧R H' v) (Ds.map mark) .returning w':=by
      intro Ds
      induction Ds with
      | nil =>
        intro w' S;exact ⟨v,hv w',v,H',rfl,S.post,hr⟩
      | cons D Ds ih =>
        intro w' S;have hok:ObjOk w' H' D (.deferred (some [])):=S.ents (.obj D (.deferred (some []))) sI;refine ⟨sI,.inl ⟨D,_,rfl,run_takeDeferred hok.2,ih _ ?_⟩⟩;have S2:=S.renewObj (i:=0) rfl (.deferred none);exact S2.drop _ sI
    subst hds;rcases he with rfl | rfl
    · exact key Ds w' hS
    · exact key Ds w' hS
abbrev rec0 (fn:FuncId) (n:Nat) (f:Fr) (ps:Array Tmp) (assign body:Code) (D:Nat):Loop :=
 { state:=.ready,pending:=none,fn,tmps:=tm ⟨n,[]⟩ f,params:=ps,assign,body,defers:=D }
theorem WPR.range {w0 : World} {H0 H : Hp} {L : List Ent} {g : Operand} {ps : Array Tmp} {assign body : Code} {gf : Nat} {caps : List Value}
    (S:St w0 H0 w H L) (hg:ev ⟨n,ds⟩ f g=.func (.func gf) #[] caps.toArray) (eg:∀ args w,(callFunc gf args).run P w=.ok (.enter gf args) w)
    (h:∀ (fn D:Nat) (w2:World),St w0 H0 w2 H (.obj (D+1) (.loop (rec0 fn n f ps assign body D)) :: .obj D (.deferred (some [])) :: L) →
      Calls P gf (#[.func (.yield (D+1)) #[] #[]]++caps.toArray) w2 (fun e w'=>∃ v,e=.returned v∧∃ H' L',St w0 H0 w' H' (.obj (D+1) (.loop (rec0 fn n f ps assign body D)) :: L') ∧
        ∀ w'',St w0 H0 w'' H' L'→Q .normal (mark D :: ds) f w'')) :
    WPR P n (.rangeFunc g ps assign body) Q ds f w:=by
  refine (wpIn_wide (n:=0)).1 (wpIn_rangeFunc fun fn _=>?_);have S1:=S.new (.deferred (some [])) (.obj w.heap.size (.deferred (some []))) rfl ⟨S.holds.none_of_size (nR _),heap_alloc_new w _⟩;have hsz:(w.alloc (.deferred (some []))).heap.size=w.heap.size+1:=by simp
  have S2:=S1.new (.loop (rec0 fn n f ps assign body w.heap.size)) (.obj (w.heap.size+1) (.loop (rec0 fn n f ps assign body w.heap.size))) (by rw [hsz]; rfl)
    ⟨S1.holds.none_of_size om,by grind [heap_alloc_new]⟩
  have hev:(act ⟨n,ds⟩ f).eval g=.func (.func gf) #[] caps.toArray:=(zJ6 _ f g).trans hg;refine ⟨w.heap.size+1,[mark w.heap.size],((w.alloc (.deferred (some []))).alloc (.loop (rec0 fn n f ps assign body w.heap.size))),⟨.fn (.func gf) caps.toArray,#[.func (.yield (w.heap.size+1)) #[] #[]]⟩,((w.alloc (.deferred (some []))).alloc (.loop (rec0 fn n f ps assign body w.heap.size))),gf,#[.func (.yield (w.heap.size+1)) #[] #[]]++caps.toArray,((w.alloc (.deferred (some []))).alloc (.loop (rec0 fn n f ps assign body w.heap.size))),run_enterLoop_outer fn (act ⟨n,ds⟩ f).tmps ps assign body,?_,fun _ _=>trivial,?_,(fun h=>by cases h),callsIn_wide.2 ?_⟩
  · simp_all [resolve,Deferred.ofValue,Act.eval]
  · grind [invoke]
  · refine Calls.mono (h fn w.heap.size _ S2) fun e w' ⟨v,he,H',L',S',hq⟩=>?_
    subst he;have hok:ObjOk w' H' (w.heap.size+1) (.loop (rec0 fn n f ps assign body w.heap.size)):=S'.ents (.obj (w.heap.size+1) (.loop (rec0 fn n f ps assign body w.heap.size))) sI;refine ⟨none,_,run_endLoop hok.2 sI,f,mark w.heap.size :: ds,rfl,hq _ ?_⟩;have S3:=S'.renewObj (i:=0) rfl (.loop { rec0 fn n f ps assign body w.heap.size with state:=.exhausted });exact S3.drop _ (.cons _ (.refl _))
end
section
variable {P:Program} {N:Frm}
structure WY (P:Program) (N:Frm) (ops:Array Oper) (l:List Nat) (Q:Fr→World→Prop) (f:Fr) (w:World):Prop where
 out:wpOpsIn Fence.wide 0 P ops (fun e a w'=>∃ f',a=act N f'∧e=.normal∧Q f' w') l (act N f) w
variable {ops:Array Oper} {rest:List Nat} {Q:Fr→World→Prop} {f:Fr} {w w':World} {d:Option Nat} {op:Op} {ty:TypeId} {pos:String} {af:Array Edge} {i:Nat}
theorem WP.regionY {id:Nat} {Q:Exit→Fr→World→Prop} (l:List Nat) (hl:List.range ops.size=l) (h:WY P N ops l (Q .normal) f w):WP P N (.region id ops false) Q f w:=by
 subst hl;refine (wpIn_wide (n:=0)).1 (wpIn_region ?_);have key:∀ (l:List Nat) (a:Act) (w:World),wpOpsIn Fence.wide 0 P ops (fun e a w'=>∃ f',a=act N f'∧e=.normal∧Q .normal f' w') l a w→wpOpsIn Fence.wide 0 P ops (fun e a w'=>∃ f',a=act N f'∧Q e f' w') l a w:=by
  intro l
  induction l with
  | nil=>intro a w ⟨f',ha,_,q⟩; exact ⟨f',ha,q⟩
  | cons i rest ih =>
   intro a w h;unfold wpOpsIn at h ⊢;split
   ·grind
   ·rename_i o ho
    simp only [ho] at h;split
    ·rename_i hw
     rw [if_pos hw] at h;refine ⟨h.1,?_⟩;have h2:=h.2;unfold Oper.uponIn at h2 ⊢;generalize (Oper.semAt Fence.wide.round a.eval o).run P w=r at h2 ⊢;cases r with
     | ok nx w' =>
      cases nx with
      | value v=>exact ih _ _ h2
      | skip=>exact ih _ _ h2
      | defer d=>exact ih _ _ h2
      | enter g args =>
       refine ⟨h2.1,CallsIn.mono h2.2 fun e w'' he=>?_⟩;cases e with
       | returned v=>exact ih _ _ he
       | panicked c=>grind
       | outgrown=>obtain ⟨a0,w0,f0,_,hc,_⟩:=he; cases hc
      | row r args=>grind [RowsIn.mono]
      | round l f tmps assign body =>
       refine ⟨h2.1,RoundIn.mono h2.2 fun e w'' he=>?_⟩;cases e with
       | returned v=>exact ih _ _ he
       | panicked c=>grind
       | outgrown=>obtain ⟨a0,w0,f0,_,hc,_⟩:=he; cases hc
      | _=>exact h2
     | halt x w' =>
      grind
    grind
 exact key _ _ _ h.out
theorem WY.nil (h:Q f w):WY P N ops [] Q f w:=⟨⟨f,rfl,rfl,h⟩⟩
theorem WY.valw {v:Value} (ho:ops[i]?=some ⟨d,op,ty,pos,af,none⟩) (hr:(execOp (ev N f) ⟨d,op,ty,pos,af,none⟩).run P w=.ok (.value v) w') (h:WY P N ops rest Q (updo f d v) w'):WY P N ops (i :: rest) Q f w:=by
 refine ⟨?_⟩;unfold wpOpsIn;simp only [ho];rw [if_pos (by simp [Region.wanted])];refine ⟨fun _ _=>trivial,?_⟩;have e:(Oper.semAt Fence.wide.round (act N f).eval ⟨d,op,ty,pos,af,none⟩).run P w=.ok (.value v) w':=by
  rw [zCR]; exact hr
 rw [e,Oper.uponIn_value]
 show wpOpsIn _ _ _ _ _ rest ((act N f).put d v) w'
 rw [zCK];exact h.out
theorem WY.yield {x a : Operand} {v : Value} {l : Nat} {r : Loop} {ats : Array TypeId} {K : World → Prop} (ho : ops[i]? = some ⟨d, .call ⟨.value x, #[a], ats⟩, ty, pos, af, none⟩)
    (hx:ev N f x=.func (.yield l) #[] #[]) (ha:ev N f a=v) (hl:w.heap[l]?=some (.loop r)) (hp:r.params.size=1)
    (hR:RoundIn Fence.wide 0 P l r.fn ((r.params.zip #[v]).foldl (fun tmps (t,a)=>tmps.setIfInBounds t a) r.tmps) r.assign r.body w (fun e w'=>e=.returned (.bool true)∧K w'))
    (h:∀ w',K w'→WY P N ops rest Q (updo f d (boo true)) w'):WY P N ops (i :: rest) Q f w:=by
  refine ⟨?_⟩;unfold wpOpsIn;simp only [ho];rw [if_pos (by simp [Region.wanted])];refine ⟨fun _ _=>trivial,?_⟩;have e:(Oper.semAt Fence.wide.round (act N f).eval ⟨d,.call ⟨.value x,#[a],ats⟩,ty,pos,af,none⟩).run P w=.ok (.round l r.fn ((r.params.zip #[v]).foldl (fun tmps (t,a)=>tmps.setIfInBounds t a) r.tmps) r.assign r.body) w:=by
    simp_all [zCR,Oper.semAt_none,run_yield,execOp,resolve,Deferred.ofValue,invoke]
  rw [e,Oper.uponIn_round];refine ⟨(fun h=>by cases h),RoundIn.mono hR fun e w' ⟨he,hk⟩=>?_⟩;subst he
  show wpOpsIn _ _ _ _ _ rest ((act N f).put d (.bool true)) w'
  rw [zCK];exact (h w' hk).out
def SL (P:Program) (N:Frm):List Oper→(Fr→World→Prop)→Fr→World→Prop
 | [],Q,f,w=>Q f w
 | o :: rest, Q, f, w => o.guard = none ∧ (∀ c, o.op ≠ .defer c) ∧
   ((∃ v w',(execOp (ev N f) o).run P w=.ok (.value v) w'∧SL P N rest Q (updo f o.dst v) w')∨(∃ w',(execOp (ev N f) o).run P w=.ok .skip w'∧SL P N rest Q (updo f o.dst undef) w'))
theorem SL.wpIn {l id : Nat} {ops : List Oper} {Q : Fr → World → Prop} {f : Fr} {w : World} (h : SL P N ops Q f w) :
  (Code.region id ops.toArray false).wpIn (Fence.wide.inRound l) 0 P (fun e a w'=>∃ f',a=act N f'∧e=.normal∧Q f' w') (act N f) w:=by
 refine wpIn_region ?_
 have key : ∀ (k n : Nat) (f : Fr) (w : World), n + k = ops.length → SL P N (ops.drop n) Q f w →
   wpOpsIn (Fence.wide.inRound l) 0 P ops.toArray (fun e a w'=>∃ f',a=act N f'∧e=.normal∧Q f' w') (List.range' n k) (act N f) w:=by
  intro k
  induction k with
  | zero =>
   intro n f w hn h;have:n=ops.length:=by omega
   subst this;rw [List.drop_length] at h;exact ⟨f,rfl,rfl,h⟩
  | succ k ih =>
   intro n f w hn h;have hlt:n<ops.length:=by omega
   rw [lD hlt] at h;obtain ⟨hg,hd,h⟩:=h;have ho:ops.toArray[n]?=some ops[n]:=by simp [hlt]
   rw [List.range'_succ];unfold wpOpsIn;simp only [ho];rw [if_pos (by simp [Region.wanted,hg])];refine ⟨fun _ _=>trivial,?_⟩ <;> grind [Oper.semAt_eq,zCR,Oper.uponIn_value,zCK,Oper.uponIn_skip]
 grind [List.range_eq_range']
theorem zQX {n : Nat} {w0 w : World} {H0 H : Hp} {L : List Ent} {l : Nat} {r : Loop} {ia j ib : Nat} {opa opb : List Oper} {f : Fr} {tmps : Array Value} {K : World → Prop}
    (S:St w0 H0 w H (.obj l (.loop r) :: L)) (hr:r.state=.ready) (hpend:r.pending=none) (ha:r.assign=.region ia opa.toArray false) (hb:r.body=.block j (.region ib opb.toArray false)) (ht:tmps=tm ⟨n,[]⟩ f)
    (h:SL P ⟨n,[]⟩ opa (fun f1 w1=>∃ H1,St w0 H0 w1 H1 (.obj l (.loop r) :: L)∧∀ w2,St w0 H0 w2 H1 (.obj l (.loop { r with state:=.busy }) :: L) →
      SL P ⟨n,[]⟩ opb (fun f3 w3=>∃ H3 L3,St w0 H0 w3 H3 (.obj l (.loop { r with state:=.busy }) :: L3)∧∀ w4,St w0 H0 w4 H3 (.obj l (.loop r) :: L3)→K w4) f1 w2) f w) :
    RoundIn Fence.wide 0 P l r.fn tmps r.assign r.body w (fun e w'=>e=.returned (.bool true)∧K w'):=by
  subst ht;rw [ha,hb];have hr0:{ r with state:=LoopState.ready,pending:=none }=r:=by cases r; grind
  refine roundIn_of_wpIn trivial (wpIn_mono (SL.wpIn h) fun e a w1 ⟨f1,hact,he,H1,S1,hk⟩=>?_);subst hact; subst he;have hok:ObjOk w1 H1 l (.loop r):=S1.ents (.obj l (.loop r)) sI;refine ⟨_,run_beginRound hok.2 hr,wpIn_block (wpIn_mono (SL.wpIn (hk _ (S1.renewObj (i:=0) rfl _))) fun e a w3 ⟨f3,hact,he,H3,L3,S3,hk3⟩=>?_)⟩;subst hact; subst he;have hok3:ObjOk w3 H3 l (.loop { r with state:=.busy }):=S3.ents (.obj l (.loop { r with state:=.busy })) sI;refine ⟨_,_,run_endRound none hok3.2,rfl,hk3 _ ?_⟩;have S4:=S3.renewObj (i:=0) rfl (.loop { { r with state:=.busy } with state:=.ready,pending:=none })
  grind
end
end Go.Eng
namespace Go.Eng
open Go Go.ChangeMaps
section
variable {P:Program} {N:Frm} {f:Fr} {w w' w0:World} {H0 H:Hp} {L:List Ent} {ops:Array Oper} {rest:List Oper} {Q:Fr→World→Prop} {d:Nat} {od:Option Nat} {ty:TypeId} {pos:String} {af:Array Edge} {g:Option (Nat×Bool)}
theorem St.runDelete {β : Type} (F : β → Value) {T K E : TypeId} {x y : Operand} {ats : Array TypeId} {b i : Nat} {m : List (Str × β)} {k : Str} (S : St w0 H0 w H L) (hx : ev N f x = mapv b) (hy : ev N f y = str k) (hi : L[i]? = some (.mp b (encm F m)))
    (hat:ats=#[T,K]) (hT:P.underlying T=some (.map K E)) (hK:P.underlying K=some .string) :
    ∃ w',(execOp (ev N f) ⟨od,.call ⟨.builtin .delete,#[x,y],ats⟩,ty,pos,af,g⟩).run P w=.ok (.value (.tuple #[])) w'∧St w0 H0 w' H (L.set i (.mp b (encm F (mdel m k)))):=by
  subst hat;obtain ⟨hH,es,cl,hc,he⟩:=S.mpOk hi;obtain ⟨r,hr1,hr2,hr3,hr4,hr5,hr6,hr7,hr8⟩:=zGK F k m es.toList 0 he;have hg:(getObj b).run P w=.ok (.map es cl) w:=MapKept.run_getObj_map hc;have hfk:=run_findKey (w:=w) hK F k m es.toList he hr1;have hset:∀ es' cl',(setObj b (.map es' cl')).run P w=.ok () (setBlock w b (.map es' cl')):=fun es' cl'=>MapKept.run_setObj_map _ hc
  have hck:∀ e,(Instr.checkKey e 10000 K (str k)).run P w=.ok () w:=fun e=>run_checkKey hK e _
  cases r with
  | none =>
    refine ⟨setBlock w b (.map es cl),?_,S.setMp hi ?_⟩
    · simp [execOp,resolve,invoke,builtin,Builtin.delete_,hx,hy,mapv,run_underlying hT,hg,hck,hfk,hset,Result.andThen]
    grind
  | some q =>
    obtain ⟨j,u0⟩:=q;refine ⟨setBlock w b (.map (es.eraseIdxIfInBounds j) cl),?_,S.setMp hi ?_⟩
    · simp [execOp,resolve,invoke,builtin,Builtin.delete_,hx,hy,mapv,run_underlying hT,hg,hck,hfk,hset,Result.andThen]
    simp_all
theorem W.mapDelete {β : Type} (F : β → Value) {T K E : TypeId} {x y : Operand} {ats : Array TypeId} {b i : Nat} {m : List (Str × β)} {k : Str} (S : St w0 H0 w H L) (hx : ev N f x = mapv b) (hy : ev N f y = str k) (hi : L[i]? = some (.mp b (encm F m)))
    (hat:ats=#[T,K]) (hT:P.underlying T=some (.map K E)) (hK:P.underlying K=some .string)
    (kk:∀ w',St w0 H0 w' H (L.set i (.mp b (encm F (mdel m k))))→WL P N ops rest Q (updo f od (.tuple #[])) w'):WL P N ops (⟨od,.call ⟨.builtin .delete,#[x,y],ats⟩,ty,pos,af,none⟩ :: rest) Q f w:=by
  obtain ⟨w',hr,S'⟩:=S.runDelete (od:=od) (ty:=ty) (pos:=pos) (af:=af) (g:=none) F hx hy hi hat hT hK;exact WL.wz hr (kk w' S')
theorem St.runUpdate {β : Type} (F : β → Value) {T K E : TypeId} {x y z : Operand} {b i : Nat} {m : List (Str × β)} {k : Str} {v : Value} (u : β) (S : St w0 H0 w H L) (hx : ev N f x = mapv b) (hy : ev N f y = str k) (hz : ev N f z = v) (hv : v = F u) (hi : L[i]? = some (.mp b (encm F m)))
    (hT:P.underlying T=some (.map K E)) (hK:P.underlying K=some .string) :
    ∃ w',(execOp (ev N f) ⟨od,.mapUpdate T x y z,ty,pos,af,g⟩).run P w=.ok .skip w'∧St w0 H0 w' H (L.set i (.mp b (encm F (mset m k u)))):=by
  obtain ⟨hH,es,cl,hc,he⟩:=S.mpOk hi;obtain ⟨r,hr1,hr2,hr3,hr4,hr5,_,_,hr8⟩:=zGK F k m es.toList 0 he;have hg:(getObj b).run P w=.ok (.map es cl) w:=MapKept.run_getObj_map hc;have hfk:=run_findKey (w:=w) hK F k m es.toList he hr1;have hset:∀ es' cl',(setObj b (.map es' cl')).run P w=.ok () (setBlock w b (.map es' cl')):=fun es' cl'=>MapKept.run_setObj_map _ hc
  cases r with
  | none =>
    refine ⟨setBlock w b (.map (es.push { key:=str k,val:=v,born:=cl }) (cl+1)),?_,S.setMp hi ?_⟩
    all_goals simp_all [execOp,Instr.mapUpdate,mapv,run_underlying,run_checkKey,encm]
  | some q =>
    obtain ⟨j,u0⟩:=q;have h8:=hr8 j u0 rfl;have hk8:(((es[j]?).map (·.key)).getD (str k))=str k:=by
      grind
    have hst:(Instr.keyThatStays (str k) (str k)).run P w=.ok (str k) w:=by
      simp_all [Instr.sameBits,str,zLf,Instr.keyThatStays]
    refine ⟨setBlock w b (.map (es.modify j fun e=>{ e with key:=str k,val:=v }) cl),?_,S.setMp hi ?_⟩
    all_goals simp_all [execOp,Instr.mapUpdate,mapv,run_underlying,run_checkKey]
end
section
variable {P:Program} {n:Nat} {f:Fr} {w w0:World} {H0 H:Hp} {L:List Ent}
theorem zNB (t:Nat) (v:Value):((#[t].zip #[v]).foldl (fun tmps (t,a)=>tmps.setIfInBounds t a) (tm ⟨n,[]⟩ f))=tm ⟨n,[]⟩ (upd f t v):=by
 have h:=congrArg Act.tmps (zCK ⟨n,[]⟩ f (some t) v);have e:((#[t].zip #[v]).foldl (fun tmps (t,a)=>tmps.setIfInBounds t a) (tm ⟨n,[]⟩ f))=(tm ⟨n,[]⟩ f).setIfInBounds t v:=by simp
 rw [e];exact h
structure RF (n:Nat) (f:Fr) (t s a b x:Nat) (k:Str) (bm q:Nat):Prop where
 h1:ev ⟨n,[]⟩ (upd f t (str k)) (.tmp t)=str k
 h2:ev ⟨n,[]⟩ (upd (upd f t (str k)) s (str k)) (.tmp x)=ptr bm 0
 h3:ev ⟨n,[]⟩ (upd (upd (upd f t (str k)) s (str k)) a (mapv q)) (.tmp s)=str k
 h4:ev ⟨n,[]⟩ (upd (upd (upd (upd f t (str k)) s (str k)) a (mapv q)) b (str k)) (.tmp a)=mapv q
 h5:ev ⟨n,[]⟩ (upd (upd (upd (upd f t (str k)) s (str k)) a (mapv q)) b (str k)) (.tmp b)=str k
variable {fn D l ia j ib t s a b x bm q T K TB:Nat} {k:Str} {od:Option Nat} {m:List (Str×Bool)} {ty1 ty2 ty3 ty4:TypeId} {p1 p2 p3 p4:String} {a1 a2 a3 a4:Array Edge} {ats:Array TypeId} {i1 i2 E:Nat}
theorem Round.del (S : St w0 H0 w H (.obj l (.loop (rec0 fn n f #[t] (.region ia #[⟨some s, .assign (.tmp t), ty1, p1, a1, none⟩] false)
        (.block j (.region ib #[⟨some a,.load T (.tmp x),ty2,p2,a2,none⟩,⟨some b,.move (.tmp s),ty3,p3,a3,none⟩,⟨od,.call ⟨.builtin .delete,#[.tmp a,.tmp b],ats⟩,ty4,p4,a4,none⟩] false)) D)) :: L))
    (hF:RF n f t s a b x k bm q) (h1:L[i1]?=some (.box bm TB [mapv q])) (h2:L[i2]?=some (.mp q (encm boo m))) (hlay:lay P T=some (false,1)) (hat:ats=#[T,K]) (hT:P.underlying T=some (.map K E)) (hK:P.underlying K=some .string) :
    RoundIn Fence.wide 0 P l fn ((#[t].zip #[str k]).foldl (fun tmps (t, a) => tmps.setIfInBounds t a) (tm ⟨n, []⟩ f)) (.region ia #[⟨some s, .assign (.tmp t), ty1, p1, a1, none⟩] false)
        (.block j (.region ib #[⟨some a,.load T (.tmp x),ty2,p2,a2,none⟩,⟨some b,.move (.tmp s),ty3,p3,a3,none⟩,⟨od,.call ⟨.builtin .delete,#[.tmp a,.tmp b],ats⟩,ty4,p4,a4,none⟩] false)) w
      (fun e w'=>e=.returned (.bool true)∧St w0 H0 w' H (.obj l (.loop (rec0 fn n f #[t] (.region ia #[⟨some s,.assign (.tmp t),ty1,p1,a1,none⟩] false)
        (.block j (.region ib #[⟨some a,.load T (.tmp x),ty2,p2,a2,none⟩,⟨some b,.move (.tmp s),ty3,p3,a3,none⟩,⟨od,.call ⟨.builtin .delete,#[.tmp a,.tmp b],ats⟩,ty4,p4,a4,none⟩] false)) D)) :: L.set i2 (.mp q (encm boo (mdel m k))))):=by
  obtain ⟨g1,g2,g3,g4,g5⟩:=hF;refine zQX S rfl rfl rfl rfl (zNB t (str k)) ⟨rfl,(fun c h=>by cases h),.inl ⟨str k,w,R.as g1,H,S,fun w2 S2=>?_⟩⟩;refine ⟨rfl,(fun c h=>by cases h),.inl ⟨mapv q,w2,R.loadB (i:=i1+1) S2 g2 (by rw [List.getElem?_cons_succ]; exact h1) hlay rfl,?_⟩⟩;refine ⟨rfl,(fun c h=>by cases h),.inl ⟨str k,w2,R.mv g3,?_⟩⟩;obtain ⟨w3,hr,S3⟩:=S2.runDelete (od:=od) (ty:=ty4) (pos:=p4) (af:=a4) (g:=none) (i:=i2+1) boo g4 g5 (by rw [List.getElem?_cons_succ]; exact h2) hat hT hK;refine ⟨rfl,(fun c h=>by cases h),.inl ⟨_,w3,hr,H,_,S3,fun w4 S4=>S4⟩⟩
theorem Round.set (S : St w0 H0 w H (.obj l (.loop (rec0 fn n f #[t] (.region ia #[⟨some s, .assign (.tmp t), ty1, p1, a1, none⟩] false)
        (.block j (.region ib #[⟨some a,.load T (.tmp x),ty2,p2,a2,none⟩,⟨some b,.move (.tmp s),ty3,p3,a3,none⟩,⟨od,.mapUpdate T (.tmp a) (.tmp b) (.const (.bool true)),ty4,p4,a4,none⟩] false)) D)) :: L))
    (hF:RF n f t s a b x k bm q) (h1:L[i1]?=some (.box bm TB [mapv q])) (h2:L[i2]?=some (.mp q (encm boo m))) (hlay:lay P T=some (false,1)) (hT:P.underlying T=some (.map K E)) (hK:P.underlying K=some .string) :
    RoundIn Fence.wide 0 P l fn ((#[t].zip #[str k]).foldl (fun tmps (t, a) => tmps.setIfInBounds t a) (tm ⟨n, []⟩ f)) (.region ia #[⟨some s, .assign (.tmp t), ty1, p1, a1, none⟩] false)
        (.block j (.region ib #[⟨some a,.load T (.tmp x),ty2,p2,a2,none⟩,⟨some b,.move (.tmp s),ty3,p3,a3,none⟩,⟨od,.mapUpdate T (.tmp a) (.tmp b) (.const (.bool true)),ty4,p4,a4,none⟩] false)) w
      (fun e w'=>e=.returned (.bool true)∧St w0 H0 w' H (.obj l (.loop (rec0 fn n f #[t] (.region ia #[⟨some s,.assign (.tmp t),ty1,p1,a1,none⟩] false)
        (.block j (.region ib #[⟨some a,.load T (.tmp x),ty2,p2,a2,none⟩,⟨some b,.move (.tmp s),ty3,p3,a3,none⟩,⟨od,.mapUpdate T (.tmp a) (.tmp b) (.const (.bool true)),ty4,p4,a4,none⟩] false)) D)) :: L.set i2 (.mp q (encm boo (mset m k true))))):=by
  obtain ⟨g1,g2,g3,g4,g5⟩:=hF;refine zQX S rfl rfl rfl rfl (zNB t (str k)) ⟨rfl,(fun c h=>by cases h),.inl ⟨str k,w,R.as g1,H,S,fun w2 S2=>?_⟩⟩;refine ⟨rfl,(fun c h=>by cases h),.inl ⟨mapv q,w2,R.loadB (i:=i1+1) S2 g2 (by rw [List.getElem?_cons_succ]; exact h1) hlay rfl,?_⟩⟩;refine ⟨rfl,(fun c h=>by cases h),.inl ⟨str k,w2,R.mv g3,?_⟩⟩;obtain ⟨w3,hr,S3⟩:=St.runUpdate (od:=od) (ty:=ty4) (pos:=p4) (af:=a4) (g:=none) (i:=i2+1) boo (z:=.const (.bool true)) (v:=.bool true) true S2 g4 g5 rfl rfl (by rw [List.getElem?_cons_succ]; exact h2) hT hK;refine ⟨rfl,(fun c h=>by cases h),.inr ⟨w3,hr,H,_,S3,fun w4 S4=>S4⟩⟩
end
end Go.Eng
namespace Go.Eng
open Go
section
variable {P:Program} {N:Frm} {f:Fr} {w:World}
theorem WP.loopK {σ : Type} {c : Code} {Q : Exit → Fr → World → Prop} (I : σ → Fr → World → Prop) (μ : σ → Nat) (s0 : σ) (hI : I s0 f w)
    (h:∀ s f w,I s f w→WP P N c (fun e f' w'=>match e with | .normal=>∃ s',μ s'<μ s∧I s' f' w' | e=>Q e f' w') f w):WP P N (.loop c) Q f w:=by
  have key:∀ (n:Nat) (s:σ) (f:Fr) (w:World),μ s<n→I s f w→RD P N c Q n f w:=by
    intro n
    induction n <;> grind [RD.succ,mono]
  exact WP.loopRd _ (key _ s0 f w (Nat.lt_succ_self _) hI)
end
def pieces (c:UInt8):Str→List Str
 | []=>[[]]
 | x :: l=>if x=c then [] :: pieces c l else match pieces c l with | p :: r=>(x :: p) :: r | []=>[[x]]
theorem zML (c:UInt8):∀ l:Str,c ∉ l→pieces c l=[l]
 | [],_=>rfl
 | x :: l,h=>by
  have h1:x≠c:=fun e=>h (by simp [e])
  unfold pieces;rw [if_neg h1,zML c l (fun hm=>h (by simp [hm]))]
theorem zMh (c:UInt8):∀ (a b:Str),c ∉ a→pieces c (a++c :: b)=a :: pieces c b
 | [],b,_=>by simp [pieces]
 | x :: a,b,h=>by
  have h1:x≠c:=fun e=>h (by simp [e])
  have e:=zMh c a b (fun hm=>h (by simp [hm]));have:pieces c (x :: (a++c :: b))=if x=c then [] :: pieces c (a++c :: b) else match pieces c (a++c :: b) with | p :: r=>(x :: p) :: r | []=>[[x]]:=rfl
  grind
theorem zMe (s:Str) (c:UInt8):(Lib.indexByte s c=-1∧c ∉ s)∨∃ a b,s=a++c :: b∧c ∉ a∧Lib.indexByte s c=(a.length:Int):=by
 induction s with
 | nil=>exact .inl ⟨rfl,sI⟩
 | cons x s ih =>
  by_cases hx:x=c
  ·subst hx
   refine .inr ⟨[],s,rfl,sI,?_⟩;simp [Lib.indexByte]
  grind [Lib.indexByte]
theorem zVg (a b:Str) (c:UInt8):xsub (a++c :: b) 0 (a.length:Int)=some a:=by
 unfold xsub;rw [if_pos ⟨om,om,gR⟩];simp
theorem zTf (a b:Str) (c:UInt8):xsub (a++c :: b) ((a.length+1:Nat):Int) ((a++c :: b).length:Int)=some b:=by
 unfold xsub;rw [if_pos ⟨om,gR,om⟩];rw [Int.toNat_natCast,Int.toNat_natCast,List.take_length];simp_all
section
variable {P:Program} {n:Nat} {f:Fr} {w w0:World} {H0 H:Hp} {L:List Ent} {ds:List Deferred}
theorem OutR.one {fn : Func} {t : Nat} {v : Value} {R : Hp → Value → Prop} (Ds : List Nat) (hr : fn.results = #[.tmp t]) (hds : ds = Ds.map mark) (S : St w0 H0 w H (Ds.map (fun D => Ent.obj D (.deferred (some []))) ++ L)) (hv : ev ⟨n, ds⟩ f (.tmp t) = v) (hR : R H v) :
  OutR P fn n w0 H0 R .ret ds f w:=by
 refine ⟨.inl rfl,Ds,v,H,L,hds,fun w'=>?_,S,hR⟩;rw [zOh hr,zP7];exact congrArg (fun v=>Result.ok v w') hv
theorem St.objAt {b i:Nat} {o:Obj} (S:St w0 H0 w H L) (hi:L[i]?=some (.obj b o)):w.heap[b]?=some o:=(show ObjOk w H b o from S.ents _ (lG hi)).2
end
variable {P:Program} {N:Frm} {f:Fr} {w:World}
theorem oi {α:Type} {a b:α} (h:some a=some b):a=b:=oJ h
theorem ag {f f':Fr} {ds:List Nat} (h:agree f f' ds:=by repeat (first | refine zTv rfl ?_ | refine zP4 rfl ?_ | exact zR3)):agree f f' ds:=h
theorem WL.mz {ops : Array Oper} {rest : List Oper} {x : Operand} {d : Option Nat} {ty : TypeId} {pos : String} {af : Array Edge} {Q : Fr → World → Prop} (v : Value)
    (hx:ev N f x=v) (h:WL P N ops rest Q (updo f d v) w):WL P N ops (⟨d,.move x,ty,pos,af,none⟩ :: rest) Q f w:=WL.wz (R.mv hx) h
theorem WL.az {ops : Array Oper} {rest : List Oper} {x : Operand} {d : Option Nat} {ty : TypeId} {pos : String} {af : Array Edge} {Q : Fr → World → Prop} (v : Value)
    (hx:ev N f x=v) (h:WL P N ops rest Q (updo f d v) w):WL P N ops (⟨d,.assign x,ty,pos,af,none⟩ :: rest) Q f w:=WL.wz (R.as hx) h
end Go.Eng
namespace Go.Eng
open Go
section
variable {P:Program} {N:Frm} {f:Fr} {w w0:World} {H0 H:Hp} {L:List Ent} {ops:Array Oper} {rest:List Oper} {Q:Fr→World→Prop} {d:Nat} {od:Option Nat} {ty:TypeId} {pos:String} {af:Array Edge} {g:Option (Nat×Bool)}
theorem Sl.nilE {α:Type} [Enc α] {v:Value} {xs:List α} (h:Sl H v xs):(∃ c,v=.slice none 0 c∧xs=[])∨∃ a n c,v=.slice (some a) n c:=by
 obtain ⟨a,c,hv,h1,h2,h3⟩:=h;cases a with
 | some a=>grind
 | none =>
  grind
theorem R.eqNil {T T' : TypeId} {x y : Operand} {a : Option Addr} {n c : Nat} {e : TypeId} (hx : ev N f x = .slice a n c) (hy : ev N f y = .slice none 0 0) (hT : P.underlying T = some (.slice e)) :
  (execOp (ev N f) ⟨od,.binOp .eql T x y T',ty,pos,af,g⟩).run P w=.ok (.value (boo a.isNone)) w:=by
 simp_all [Lib.run_eql_slice_nil,execOp,eqGuard,boo]
end
end Go.Eng
namespace Go.Eng
open Go Go.RowKit
class Scal (α:Type) extends Enc α where
 enc:α→Value
 sz1:Enc.sz α=1
 iff:∀ {H:Hp} {cs:List Value} {x:α},Enc.cells H cs x↔cs=[enc x]
 enc1:∀ x:α,(enc x).oneCell'=true
instance:Scal Str:=⟨str,rfl,Iff.rfl,fun _=>rfl⟩
instance:Scal Int:=⟨int,rfl,Iff.rfl,fun _=>rfl⟩
theorem Scal.Cells {α:Type} [Scal α] {H:Hp}:∀ {xs:List α} {cs:List Value},Go.Eng.Cells H cs xs↔cs=xs.map Scal.enc
 | [],cs=>Iff.rfl
 | x :: xs,cs=>by
  constructor
  ·rintro ⟨c,r,rfl,hc,hr⟩
   rw [Scal.iff.1 hc,Scal.Cells.1 hr]; rfl
  ·rintro rfl
   exact ⟨[Scal.enc x],xs.map Scal.enc,rfl,Scal.iff.2 rfl,Scal.Cells.2 rfl⟩
theorem zDT (b : Nat) {T : TypeId} {fz : Nat × Nat} : ∀ (vs : List Value) (o : Nat) (w : World) (cur : Array Value), w.heap[b]? = some (.cells cur T fz) → o + vs.length ≤ cur.size →
    ∃ cur',(w.setCells b o vs).heap[b]?=some (.cells cur' T fz)∧cur'.toList=cur.toList.take o++vs++cur.toList.drop (o+vs.length)
  | [],o,w,cur,h,_=>⟨cur,h,sI⟩
  | v :: vs,o,w,cur,h,hle=>by
    simp only [lC] at hle;have h2:(w.setCell ⟨b,o,none⟩ v).heap[b]?=some (.cells (cur.setIfInBounds o v) T fz):=by
      simp [World.setCell,Array.getElem?_modify,h]
    obtain ⟨cur',h3,h4⟩:=zDT b vs (o+1) _ _ h2 (by simp; omega);refine ⟨cur',h3,?_⟩;rw [h4];apply List.ext_getElem?;intro j;have ho:o<cur.toList.length:=by rw [Array.length_toList]; omega
    simp only [Array.toList_setIfInBounds,lC]
    grind
 where
  List.drop_append_of_le_length_add {α:Type} {l1 l2:List α} {n:Nat} (h:l1.length=n) (m:Nat):(l1++l2).drop (n+m)=l2.drop m:=by
    subst h; simp_all
theorem zEE (b:Nat) {k:Nat} (hk:k≠b):∀ (vs:List Value) (o:Nat) (w:World),(w.setCells b o vs).heap[k]?=w.heap[k]?
 | [],_,_=>rfl
 | v :: vs,o,w=>by
  show ((w.setCell ⟨b,o,none⟩ v).setCells b (o+1) vs).heap[k]?=_
  rw [zEE b hk vs (o+1)];simp [World.setCell,Array.getElem?_modify,Ne.symm hk]
theorem zDN (b:Nat):∀ (vs:List Value) (o:Nat) (w:World),(w.setCells b o vs).heap.size=w.heap.size∧(w.setCells b o vs).os=w.os∧(w.setCells b o vs).tape=w.tape∧(w.setCells b o vs).output=w.output
 | [],_,_=>⟨rfl,rfl,rfl,rfl⟩
 | v :: vs,o,w=>by
  show ((w.setCell ⟨b,o,none⟩ v).setCells b (o+1) vs).heap.size=_∧_
  obtain ⟨h1,h2,h3,h4⟩:=zDN b vs (o+1) (w.setCell ⟨b,o,none⟩ v);exact ⟨by simp_all,h2,h3,h4⟩
theorem zEf {e' : Ent} {B : Nat} (h3 : e'.blk = some B) : ∀ (K : List Ent) (i : Nat), (K.filterMap Ent.blk).Nodup → (∀ b ∈ K.filterMap Ent.blk, b < B) →
  ((K.set i e').filterMap Ent.blk).Nodup∧∀ b ∈ (K.set i e').filterMap Ent.blk,b<B∨b=B
 | [],i,h1,h2=>⟨sI,sI⟩
 | x :: K,0,h1,h2=>by
  grind
 | x :: K,i+1,h1,h2=>by
  rw [List.set_cons_succ,List.filterMap_cons];rw [List.filterMap_cons] at h1 h2;cases hx:x.blk with
  | none =>
   rw [hx] at h1 h2;exact zEf h3 K i h1 h2
  | some b =>
   rw [hx] at h1 h2;obtain ⟨ha,hb⟩:=zEf h3 K i (List.nodup_cons.1 h1).2 fun c hc=>h2 c (lN _ hc)
   grind
section
variable {P:Program} {N:Frm} {f:Fr} {w w' w0:World} {H0 H:Hp} {L:List Ent} {ops:Array Oper} {rest:List Oper} {Q:Fr→World→Prop} {d:Nat} {od:Option Nat} {ty:TypeId} {pos:String} {af:Array Edge}
theorem St.turnRow2 (S : St w0 H0 w H L) (hw : Holds w0 H0) {i g n n' cap sz : Nat} {T : TypeId} {cur' : Array Value}
    (hi:L[i]?=some (.row (.slice (some ⟨g,0,none⟩) n cap) T sz n)) (hoth:∀ k,k≠g→k<w.heap.size→w'.heap[k]?=w.heap[k]?) (hsz:w.heap.size≤w'.heap.size)
    (hos:w'.os=w.os∧w'.tape=w.tape∧w'.output=w.output) (hg:w'.heap[g]?=some (.cells cur' T (0,0))) (hc:cur'.size=cap*sz) (hn:n'≤cap) (hcap:cap≤maxLen) :
    ∃ H',H0.le H'∧H' g=some (T,cur'.toList.take (n'*sz))∧(∀ k,k≠g→H' k=H k)∧St w0 H0 w' H' (L.set i (.row (.slice (some ⟨g,0,none⟩) n' cap) T sz n')):=by
  have hmem:=lG hi;have hown:w0.heap.size≤g:=S.own _ hmem g rfl;have hgl:g<w.heap.size:=S.lt (List.mem_filterMap.2 ⟨_,hmem,rfl⟩);have h0g:H0 g=none:=hw.none_of_size hown;have hle:H0.le (fun k=>if k=g then some (T,cur'.toList.take (n'*sz)) else H k):=by
    intro k T' l hk;by_cases h:k=g
    · grind
    · obtain ⟨l',hl'⟩:=S.post.le k T' l hk
      grind
  refine ⟨fun k=>if k=g then some (T,cur'.toList.take (n'*sz)) else H k,hle,sI,fun k hk=>if_neg hk,?_⟩;refine ⟨⟨S.post.below.trans ⟨hos.1,hos.2.1,hos.2.2,hsz,fun k hk=>hoth k om om⟩,hle,fun k hk=>?_,?_⟩,?_,?_,?_⟩
  · show (if k=g then _ else H k)=H0 k
    rw [if_neg om]; exact S.post.eqb k hk
  · intro k T' l hk
    by_cases h:k=g
    · grind [List.take_append_drop]
    · simp only [if_neg h] at hk
      obtain ⟨cs,fz,hc',hr⟩:=S.holds k T' l hk
      grind
  · intro e he
    obtain ⟨j,hj⟩:=lI.1 he;by_cases hij:i=j
    · subst hij
      have hlt:=(List.getElem?_eq_some_iff.1 hi).1;rw [List.getElem?_set_self hlt] at hj;simp at hj; subst hj;exact .inr ⟨g,cap,cur',rfl,hg,hn,hcap,hc,sI⟩
    · rw [List.getElem?_set_ne hij] at hj
      refine Ent.ok_keep (S.ents e (lG hj)) fun k hk=>?_
      have hne:k≠g:=S.blk_ne hj hi hk rfl (Ne.symm hij);exact ⟨hoth k hne (Ent.ok_lt (S.ents e (lG hj)) hk),if_neg hne⟩
  · intro e he k hk
    obtain ⟨j,hj⟩:=lI.1 he;by_cases hij:i=j
    · grind [Ent.blk,Value.ownBlock]
    · rw [List.getElem?_set_ne hij] at hj
      exact S.own e (lG hj) k hk
  · rw [zDS (e':=.row (.slice (some ⟨g,0,none⟩) n' cap) T sz n') hi rfl]; exact S.nodup
theorem St.freshRow (S : St w0 H0 w H L) {i n n' cap sz : Nat} {v : Value} {T : TypeId} {cur' : Array Value}
    (hi:L[i]?=some (.row v T sz n)) (hoth:∀ k,k<w.heap.size→w'.heap[k]?=w.heap[k]?) (hsz:w.heap.size<w'.heap.size)
    (hos:w'.os=w.os∧w'.tape=w.tape∧w'.output=w.output) (hg:w'.heap[w.heap.size]?=some (.cells cur' T (0,0))) (hc:cur'.size=cap*sz) (hn:n'≤cap) (hcap:cap≤maxLen) :
    ∃ H',H.le H'∧H' w.heap.size=some (T,cur'.toList.take (n'*sz))∧(∀ k,k<w.heap.size→H' k=H k)∧St w0 H0 w' H' (L.set i (.row (.slice (some ⟨w.heap.size,0,none⟩) n' cap) T sz n')):=by
  have hnone:H w.heap.size=none:=S.holds.none_of_size (nR _);have hle:H.le (fun k=>if k=w.heap.size then some (T,cur'.toList.take (n'*sz)) else H k):=by
    intro k T' l hk;by_cases h:k=w.heap.size
    all_goals simp_all
  have hlt:i<L.length:=(List.getElem?_eq_some_iff.1 hi).1;obtain ⟨hnd,_⟩:=zEf (e':=.row (.slice (some ⟨w.heap.size,0,none⟩) n' cap) T sz n') (B:=w.heap.size) rfl L i S.nodup fun b hb=>S.lt hb
  refine ⟨_,hle,sI,fun k hk=>gR,?_⟩;have hbel:=S.post.below;refine ⟨⟨hbel.trans ⟨hos.1,hos.2.1,hos.2.2,Nat.le_of_lt hsz,fun k hk=>hoth k (Nat.lt_of_lt_of_le hk hbel.size)⟩,S.post.le.trans hle,fun k hk=>?_,?_⟩,?_,?_,hnd⟩
  · show (if k=_ then _ else H k)=H0 k
    rw [if_neg (Nat.ne_of_lt (Nat.lt_of_lt_of_le hk hbel.size))]; exact S.post.eqb k hk
  · intro k T' l hk
    by_cases h:k=w.heap.size
    · grind [List.take_append_drop]
    · simp only [if_neg h] at hk
      obtain ⟨cs,fz,hc',hr⟩:=S.holds k T' l hk
      grind
  · intro e he
    obtain ⟨j,hj⟩:=lI.1 he;by_cases hij:i=j
    · subst hij
      rw [List.getElem?_set_self hlt] at hj;simp at hj; subst hj;exact .inr ⟨w.heap.size,cap,cur',rfl,hg,hn,hcap,hc,sI⟩
    · rw [List.getElem?_set_ne hij] at hj
      refine Ent.ok_keep (S.ents e (lG hj)) fun k hk=>?_
      have hkl:=Ent.ok_lt (S.ents e (lG hj)) hk
      grind
  · intro e he k hk
    obtain ⟨j,hj⟩:=lI.1 he;by_cases hij:i=j
    · subst hij
      rw [List.getElem?_set_self hlt] at hj;simp at hj; subst hj;simp [Ent.blk,Value.ownBlock] at hk; subst hk;exact hbel.size
    · rw [List.getElem?_set_ne hij] at hj
      exact S.own e (lG hj) k hk
end
structure InsCon (P:Program) (k:FuncId) (e:TypeId) (zc:Array Value) (bytes:Nat):Prop where
 enter:∀ (args:Array Value) (w:World),(callFunc k args).run P w=.ok (.enter k args) w
 shift:∀ (b n c i vb vc:Nat) (cs:List Value) (y:Value) (w:World),i<n→0<1→n+1≤c→c≤9223372036854775807→vb≠b→cs.length=n→[y].length=1 →
  (∀ j v,cs[j]?=some v→w.cell? ⟨b,0+j,none⟩=some v)→(∀ j,j<n+1→(w.cell? ⟨b,0+j,none⟩).isSome=true)→(∀ j,j<n+1→w.frozen? ⟨b,0+j,none⟩=false) →
  (∀ j v,[y][j]?=some v→w.cell? ⟨vb,0+j,none⟩=some v)→(∀ v ∈ cs,v.oneCell'=true)→(∀ v ∈ [y],v.oneCell'=true) →
  ∀ (tA tB:TypeId) (kA kB:Nat),w.shape? vb=some (tA,kA)→w.shape? b=some (tB,kB)→kB≠0→w.frozen? ⟨vb,0,none⟩=false→w.frozen? ⟨vb,kA,none⟩=false →
  Calls P k #[.slice (some ⟨b,0,none⟩) n c,.int .i64 i,.slice (some ⟨vb,0,none⟩) 1 vc] w fun e w' =>
   e=.returned (.slice (some ⟨b,0,none⟩) (n+1) c)∧w'=(w.drew.setCells b (0+(i+1)) (cs.drop i)).setCells b (0+i) [y]
 room:∀ (b n c vb vc:Nat) (y:Value) (w:World),0<1→n+1≤c→c≤9223372036854775807→[y].length=1 →
  (∀ j,j<1→(w.cell? ⟨b,0+n+j,none⟩).isSome=true)→(∀ j,j<1→w.frozen? ⟨b,0+n+j,none⟩=false) →
  (∀ j v,[y][j]?=some v→w.cell? ⟨vb,0+j,none⟩=some v)→(∀ v ∈ [y],v.oneCell'=true) →
  Calls P k #[.slice (some ⟨b,0,none⟩) n c,.int .i64 n,.slice (some ⟨vb,0,none⟩) 1 vc] w fun e w' =>
   e=.returned (.slice (some ⟨b,0,none⟩) (n+1) c)∧w'=w.setCells b (0+n) [y]
 endGrow:∀ (base:Option Addr) (n c vb vc:Nat) (cs:List Value) (y:Value) (w:World),0<1→n≤c→c<n+1→(n+1)*bytes≤140737488355328→cs.length=n→[y].length=1→(base=none→n=0) →
  (∀ a,base=some a→∀ j v,cs[j]?=some v→w.cell? (a.add j)=some v)→(∀ j v,[y][j]?=some v→w.cell? ⟨vb,0+j,none⟩=some v)→(∀ v ∈ [y],v.oneCell'=true) →
  Calls P k #[.slice base n c,.int .i64 n,.slice (some ⟨vb,0,none⟩) 1 vc] w fun r w' =>
   r=.returned (.slice (some ⟨w.heap.size,0,none⟩) (n+1) (grownCap w (n+1) c e))∧w'=w.drew.alloc (.cells ((cs++[y]).toArray++Builtin.zeroCells zc (grownCap w (n+1) c e - (n+1))) e)
 grow:∀ (b n c i vb vc:Nat) (cs:List Value) (y:Value) (w:World),i<n→0<1→n≤c→c<n+1→(n+1)*bytes≤140737488355328→cs.length=n→[y].length=1 →
  (∀ j v,cs[j]?=some v→w.cell? ⟨b,0+j,none⟩=some v)→(∀ j v,[y][j]?=some v→w.cell? ⟨vb,0+j,none⟩=some v)→(∀ v ∈ cs,v.oneCell'=true)→(∀ v ∈ [y],v.oneCell'=true) →
  Calls P k #[.slice (some ⟨b,0,none⟩) n c,.int .i64 i,.slice (some ⟨vb,0,none⟩) 1 vc] w fun r w' =>
   r=.returned (.slice (some ⟨w.heap.size,0,none⟩) (n+1) (grownCap w (n+1) c e)) ∧
   w'=(((w.alloc (.cells ((cs.take i).toArray++Builtin.zeroCells zc (n+1 - i)++Builtin.zeroCells zc (grownCap w (n+1) c e - (n+1))) e)).drew.setCells w.heap.size i [y]).drew).setCells w.heap.size (i+1) (cs.drop i)
def insS {α:Type} (xs:List α) (i:Int) (ys:List α):Option (List α) :=
 if 0≤i∧i≤xs.length∧ys.length=1∧xs.length+1≤big then some (xs.take i.toNat++ys++xs.drop i.toNat) else none
theorem Sl.keepS {β:Type} [Scal β] {H H':Hp} {v:Value} {xs:List β} (h:Sl H v xs) (hk:∀ b off,(∃ n c,v=.slice (some ⟨b,off,none⟩) n c)→H' b=H b):Sl H' v xs:=by
 obtain ⟨a,c,hv,h1,h2,h3⟩:=h;refine ⟨a,c,hv,h1,h2,?_⟩;rcases h3 with h3 | ⟨b,off,cs,ha,⟨T,l,hs,hl,hr⟩,hc⟩
 ·exact .inl h3
 ·refine .inr ⟨b,off,cs,ha,⟨T,l,hs,?_,hr⟩,Scal.Cells.2 (Scal.Cells.1 hc)⟩
  simp_all
end Go.Eng
