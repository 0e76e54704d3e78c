/- A part. -/
import Derived.Test.YtffangblkofjdaaGreatDoorEng6
import Derived.KernelRfl
import Derived.Laws.StructEq
import Derived.ProofKit
set_option linter.unusedVariables false
namespace Go.Eng
open Go
theorem bindE {α β:Type} {m:Option α} {k:α→Option β} {r:β} (h:m.bind k=some r):∃ x,m=some x∧k x=some r:=Option.bind_eq_some_iff.1 h
theorem condE {α:Type} {c:Bool} {x y:Option α} {r:α} (h:(bif c then x else y)=some r):(c=true∧x=some r)∨(c=false∧y=some r):=by
  cases c
  · exact .inr ⟨rfl,h⟩
  · exact .inl ⟨rfl,h⟩
theorem condT {α:Type} {c:Bool} {x y:Option α} {r:α} (h:(bif c then x else y)=some r) (hc:c=true):x=some r:=by subst hc; exact h
theorem condF {α:Type} {c:Bool} {x y:Option α} {r:α} (h:(bif c then x else y)=some r) (hc:c=false):y=some r:=by subst hc; exact h
theorem boolE (b:Bool):b=true∨b=false:=by cases b <;> simp
def xquo (a b:Int):Option Int:=if b=0 then none else some (wr (a.tdiv b))
def xrem (a b:Int):Option Int:=if b=0 then none else some (a.tmod b)
section
variable {P:Program} {N:Frm} {f:Fr} {w:World}
theorem WP.cut {c:Code} {Q:Exit→Fr→World→Prop} (Mid:Fr→World→Prop) (hx:WP P N c (fun e f w=>match e with | .normal=>Mid f w | e=>Q e f w) f w) (k:∀ f w,Mid f w→Q .normal f w):WP P N c Q f w :=
  hx.mono fun e f w h=>by
    cases e with
    | normal=>exact k f w h
    | _=>exact h
theorem WP.loopM {σ ρ : Type} {c : Code} {Q : Exit → Fr → World → Prop} (body : σ → Option (σ ⊕ ρ)) (I : σ → Fr → World → Prop) (s : σ) (r : ρ) (hw : zAE body s = some r) {f : Fr} {w : World} (hI : I s f w)
    (h:∀ s f w,I s f w→∀ y,body s=some y→(match y with | .inr r'=>r'=r | .inl _=>True) →
      WP P N c (fun e f' w'=>match y with | .inl s'=>e=.normal∧I s' f' w' | .inr _=>match e with | .normal=>False | e=>Q e f' w') f w) :
    WP P N (.loop c) Q f w :=
  WP.loop body I s r hw hI fun s f w hI y hy hr=>(h s f w hI y hy hr).mono fun e f' w' hq=>by
    cases y with
    | inl s'=>exact hq
    | inr r'=>cases e <;> exact hq
theorem R.mv {x:Operand} {v:Value} {d:Option Nat} {ty:TypeId} {pos:String} {af:Array Edge} {g:Option (Nat×Bool)} (hx:ev N f x=v):(execOp (ev N f) ⟨d,.move x,ty,pos,af,g⟩).run P w=.ok (.value v) w:=by rw [← hx]; rfl
theorem R.as {x:Operand} {v:Value} {d:Option Nat} {ty:TypeId} {pos:String} {af:Array Edge} {g:Option (Nat×Bool)} (hx:ev N f x=v):(execOp (ev N f) ⟨d,.assign x,ty,pos,af,g⟩).run P w=.ok (.value v) w:=by rw [← hx]; rfl
theorem WL.gund {ops : Array Oper} {rest : List Oper} {d : Option Nat} {op : Op} {ty : TypeId} {pos : String} {af : Array Edge} {Q : Fr → World → Prop} {j t : Nat} {b : Bool}
    (hj:(ops[j]?).bind (·.dst)=some t) (hv:ev N f (.tmp t)=undef) (h:WL P N ops rest Q (updo f d undef) w):WL P N ops (⟨d,op,ty,pos,af,some (j,b)⟩ :: rest) Q f w:=by
  have hy:yielded ops (act N f).tmps j=none:=by
    unfold yielded
    rw [hj]
    simp only [Option.bind_some,act,zE6]
    simp only [ev,zIG] at hv
    by_cases h:t<N.n
    · simp only [h,decide_true,cond_true] at hv; simp only [h,if_true,hv,undef]
    · simp only [h,if_false]
  have h:=h.out
  refine ⟨?_⟩
  unfold wpList
  rw [if_neg (by simp [Region.wanted,hy])]
  rw [zBe]
  exact h
variable {d:Option Nat} {ty:TypeId} {pos:String} {af:Array Edge} {g:Option (Nat×Bool)}
theorem R.pickT {c x y:Operand} {b:Bool} {v:Value} (hc:ev N f c=boo b) (hb:b=true) (hx:ev N f x=v):(execOp (ev N f) ⟨d,.pick c x y,ty,pos,af,g⟩).run P w=.ok (.value v) w:=by
  rw [R.pick hc,hb,← hx]; rfl
theorem R.pickF {c x y:Operand} {b:Bool} {v:Value} (hc:ev N f c=boo b) (hb:b=false) (hy:ev N f y=v):(execOp (ev N f) ⟨d,.pick c x y,ty,pos,af,g⟩).run P w=.ok (.value v) w:=by
  rw [R.pick hc,hb,← hy]; rfl
theorem R.quo' {x y:Operand} {a b c:Int} {T T':TypeId} (hx:ev N f x=int a) (hy:ev N f y=int b) (h:xquo a b=some c):(execOp (ev N f) ⟨d,.binOp .quo T x y T',ty,pos,af,g⟩).run P w=.ok (.value (int c)) w:=by
  unfold xquo at h
  split at h
  · cases h
  · rename_i h0
    simp only [Option.some.injEq] at h
    subst h
    exact R.quo hx hy h0
theorem R.rem' {x y:Operand} {a b c:Int} {T T':TypeId} (hx:ev N f x=int a) (hy:ev N f y=int b) (h:xrem a b=some c):(execOp (ev N f) ⟨d,.binOp .rem T x y T',ty,pos,af,g⟩).run P w=.ok (.value (int c)) w:=by
  unfold xrem at h
  split at h
  · cases h
  · rename_i h0
    simp only [Option.some.injEq] at h
    subst h
    exact R.rem hx hy h0
end
def memb:List Nat→Nat→Bool
  | [],_=>false
  | d :: ds,t=>bif Nat.beq t d then true else memb ds t
def upds (f:Fr) (ds:List Nat) (us:Fr):Fr:=fun t=>bif memb ds t then us t else f t
def agree (f f':Fr) (ds:List Nat):Prop:=∀ t,memb ds t=false→f' t=f t
theorem zOQ {f:Fr} {ds:List Nat}:agree f f ds:=fun _ _=>rfl
theorem zOq {f f':Fr} {ds:List Nat} {d:Nat} {v:Value} (hd:memb ds d=true) (h:agree f f' ds):agree f (upd f' d v) ds:=fun t ht=>by
  have:Nat.beq t d=false:=by
    cases hb:Nat.beq t d with
    | false=>rfl
    | true=>rw [Nat.eq_of_beq_eq_true hb] at ht; rw [hd] at ht; cases ht
  show (bif Nat.beq t d then v else f' t)=f t
  rw [this]; exact h t ht
theorem zOR {f f':Fr} {ds es:List Nat} {us:Fr} (hd:∀ t,memb es t=true→memb ds t=true) (h:agree f f' ds):agree f (upds f' es us) ds:=fun t ht=>by
  show (bif memb es t then us t else f' t)=f t
  cases hb:memb es t with
  | false=>exact h t ht
  | true=>rw [hd t hb] at ht; cases ht
def subs (es ds:List Nat):Bool:=es.all fun t=>memb ds t
theorem zLw {es ds:List Nat} (h:subs es ds=true) (t:Nat) (ht:memb es t=true):memb ds t=true:=by
  induction es with
  | nil=>cases ht
  | cons e es ih =>
    simp only [subs,List.all_cons,Bool.and_eq_true] at h
    simp only [memb] at ht
    cases hb:Nat.beq t e with
    | false=>rw [hb] at ht; exact ih h.2 ht
    | true=>rw [Nat.eq_of_beq_eq_true hb]; exact h.1
theorem zMl {f f':Fr} {ds es:List Nat} {us:Fr} (hd:subs es ds=true) (h:agree f f' ds):agree f (upds f' es us) ds:=zOR (zLw hd) h
theorem zKf {f f':Fr} {ds:List Nat} {dp:Nat} {v:Value} (h1:f' dp=v) (h2:agree f f' (dp :: ds)):f'=upd (upds f ds f') dp v:=by
  funext t
  show f' t=bif Nat.beq t dp then v else bif memb ds t then f' t else f t
  cases hb:Nat.beq t dp with
  | true=>rw [Nat.eq_of_beq_eq_true hb]; exact h1
  | false =>
    cases hm:memb ds t with
    | true=>rfl
    | false=>exact h2 t (by simp only [memb,hb,cond_false,hm])
theorem andT {b x:Bool} (hb:b=true):boo x=boo (b&&x):=by subst hb; rfl
theorem andF {b x:Bool} (hb:b=false):boo false=boo (b&&x):=by subst hb; rfl
theorem orT {b x:Bool} (hb:b=true):boo true=boo (b||x):=by subst hb; rfl
theorem orF {b x:Bool} (hb:b=false):boo x=boo (b||x):=by subst hb; rfl
theorem zKr {P:Program} {ops:Array Oper} {Q:Exit→Act→World→Prop}:∀ (l l':List Oper) (a:Act) (w:World),wpList P ops (fun e a w=>match e with | .normal=>wpList P ops Q l' a w | e=>Q e a w) l a w→wpList P ops Q (l++l') a w:=by
  intro l l'
  induction l with
  | nil=>intro a w h; exact h
  | cons o l ih =>
    intro a w h
    rw [List.cons_append]
    unfold wpList at h ⊢
    split
    · rename_i hw
      rw [if_pos hw] at h
      rcases h with h | ⟨hk,a0,w0,hq⟩
      · refine .inl ?_
        unfold Oper.wp at h ⊢
        generalize (execOp a.eval o).run P w=r at h ⊢
        cases r with
        | ok n w' =>
          cases n with
          | enter g args =>
            exact Calls.mono h (fun e w'' he=>by
              cases e with
              | returned v=>exact ih _ _ he
              | panicked c=>exact he
              | outgrown=>exact he)
          | row r args=>exact Rows.mono h (fun v w'' he=>ih _ _ he)
          | value v=>exact ih _ _ h
          | skip=>exact ih _ _ h
          | defer d=>exact ih _ _ h
          | _=>exact h
        | halt x w'=>cases x <;> exact h
      · exact .inr ⟨hk,a0,w0,hq⟩
    · rename_i hw
      rw [if_neg hw] at h
      exact ih _ _ h
section
variable {P:Program} {N:Frm} {f:Fr} {w:World} {ops:Array Oper} {Q:Fr→World→Prop} {l:List Oper}
theorem WL.mono {Q':Fr→World→Prop} (h:WL P N ops l Q f w) (hq:∀ f w,Q f w→Q' f w):WL P N ops l Q' f w:=by
  have key:∀ (l:List Oper) (a:Act) (w:World),wpList P ops (fun e a w'=>∃ f',a=act N f'∧e=.normal∧Q f' w') l a w→wpList P ops (fun e a w'=>∃ f',a=act N f'∧e=.normal∧Q' f' w') l a w:=by
    intro l
    induction l with
    | nil=>intro a w ⟨f',ha,he,q⟩; exact ⟨f',ha,he,hq _ _ q⟩
    | cons o rest ih =>
      intro a w h
      unfold wpList at h ⊢
      split
      · rename_i hw
        rw [if_pos hw] at h
        rcases h with h | ⟨hk,a0,w0,f0,ha,he,hq0⟩
        · refine .inl ?_
          unfold Oper.wp at h ⊢
          generalize (execOp a.eval o).run P w=r at h ⊢
          cases r with
          | ok n w' =>
            cases n with
            | enter g args =>
              exact Calls.mono h (fun e w'' he=>by
                cases e with
                | returned v=>exact ih _ _ he
                | panicked c=>obtain ⟨f',ha,hc,_⟩:=he; cases hc
                | outgrown=>obtain ⟨a0,w0,f0,_,hc,_⟩:=he; cases hc)
            | row r args=>exact Rows.mono h (fun v w'' he=>ih _ _ he)
            | value v=>exact ih _ _ h
            | skip=>exact ih _ _ h
            | defer d=>exact ih _ _ h
            | _=>exact h
          | halt x w' =>
            cases x with
            | panic v=>obtain ⟨f',_,hc,_⟩:=h; cases hc
            | _=>exact h
        · cases he
      · rename_i hw
        rw [if_neg hw] at h
        exact ih _ _ h
  exact ⟨key _ _ _ h.out⟩
theorem WL.append {l l':List Oper} (h:WL P N ops l (fun f w=>WL P N ops l' Q f w) f w):WL P N ops (l++l') Q f w:=by
  refine ⟨zKr _ _ _ _ ?_⟩
  have key:∀ (l:List Oper) (a:Act) (w:World),wpList P ops (fun e a w'=>∃ f',a=act N f'∧e=.normal∧WL P N ops l' Q f' w') l a w→wpList P ops (fun e a w=>match e with | .normal=>wpList P ops (fun e a w'=>∃ f',a=act N f'∧e=.normal∧Q f' w') l' a w | e=>∃ f',a=act N f'∧e=.normal∧Q f' w) l a w:=by
    intro l
    induction l with
    | nil=>intro a w ⟨f',ha,he,q⟩; subst ha; exact q.out
    | cons o rest ih =>
      intro a w h
      unfold wpList at h ⊢
      split
      · rename_i hw
        rw [if_pos hw] at h
        rcases h with h | ⟨hk,a0,w0,f0,ha,he,hq0⟩
        · refine .inl ?_
          unfold Oper.wp at h ⊢
          generalize (execOp a.eval o).run P w=r at h ⊢
          cases r with
          | ok n w' =>
            cases n with
            | enter g args =>
              exact Calls.mono h (fun e w'' he=>by
                cases e with
                | returned v=>exact ih _ _ he
                | panicked c=>obtain ⟨f',ha,hc,_⟩:=he; cases hc
                | outgrown=>obtain ⟨a0,w0,f0,_,hc,_⟩:=he; cases hc)
            | row r args=>exact Rows.mono h (fun v w'' he=>ih _ _ he)
            | value v=>exact ih _ _ h
            | skip=>exact ih _ _ h
            | defer d=>exact ih _ _ h
            | _=>exact h
          | halt x w' =>
            cases x with
            | panic v=>obtain ⟨f',_,hc,_⟩:=h; cases hc
            | _=>exact h
        · cases he
      · rename_i hw
        rw [if_neg hw] at h
        exact ih _ _ h
  exact key _ _ _ h.out
theorem WL.grp (n : Nat) (ds : List Nat) (dp : Nat) (v : Value) (h : WL P N ops (l.take n) (fun f' w' => f' dp = v ∧ agree f f' (dp :: ds) ∧ w' = w) f w)
    (k:∀ us,WL P N ops (l.drop n) Q (upd (upds f ds us) dp v) w):WL P N ops l Q f w:=by
  rw [← List.take_append_drop n l]
  refine WL.append (h.mono fun f' w' ⟨h1,h2,h3⟩=>?_)
  subst h3
  rw [zKf h1 h2]
  exact k f'
theorem WL.grpw (n : Nat) (ds : List Nat) (dp : Nat) (v : Value) (Mid : World → Prop) (h : WL P N ops (l.take n) (fun f' w' => f' dp = v ∧ agree f f' (dp :: ds) ∧ Mid w') f w)
    (k:∀ us w',Mid w'→WL P N ops (l.drop n) Q (upd (upds f ds us) dp v) w'):WL P N ops l Q f w:=by
  rw [← List.take_append_drop n l]
  refine WL.append (h.mono fun f' w' ⟨h1,h2,h3⟩=>?_)
  rw [zKf h1 h2]
  exact k f' w' h3
end
def elemB (P:Program) (T e:TypeId) (sz:Nat):Bool :=
  (match P.underlying T with | some (.slice e')=>e'==e | _=>false) &&
  (match P.info? e with
    | some i=>i.size==sz&&Nat.ble i.bytes 512&&(match i.zero with | some z=>z.cells.size==sz | none=>false)
    | none=>false)
theorem zEu {P:Program} {T e:TypeId} {sz:Nat} (h:elemB P T e sz=true):Elem P T e sz:=by
  unfold elemB at h
  rw [Bool.and_eq_true] at h
  obtain ⟨h1,h2⟩:=h
  constructor
  · split at h1
    · rename_i e' he
      rw [he]; simp at h1; rw [h1]
    · cases h1
  · split at h2
    · rename_i i hi
      simp only [Bool.and_eq_true,beq_iff_eq] at h2
      obtain ⟨⟨h3,h4⟩,h5⟩:=h2
      split at h5
      · rename_i z hz
        exact ⟨i,z,hi,hz,h3,by simpa using h5,Nat.le_of_ble_eq_true h4⟩
      · cases h5
    · cases h2
end Go.Eng
namespace Go.Eng
open Go
def Cl (w0:World) (H0 H:Hp) (L:List Ent):World→Prop:=fun w=>∃ H',H.le H'∧St w0 H0 w H' L
structure WQ (P:Program) (N:Frm) (ops:Array Oper) (C:World→Prop) (l:List Oper) (Q:Fr→Prop) (f:Fr):Prop where
  out:wpQuiet P ops C (fun a=>∃ f',a=act N f'∧Q f') l (act N f)
theorem zF5 {P:Program} {ops:Array Oper} {C:World→Prop} {Q Q':Act→Prop} (hq:∀ a,Q a→Q' a):∀ (l:List Oper) (a:Act),wpQuiet P ops C Q l a→wpQuiet P ops C Q' l a:=by
  intro l
  induction l with
  | nil=>intro a h; exact hq a h
  | cons o l ih =>
    intro a h
    unfold wpQuiet at h ⊢
    split
    · rename_i hw; rw [if_pos hw] at h; exact Oper.quiet_mono ih h
    · rename_i hw; rw [if_neg hw] at h; exact ih _ h
theorem zGt {P:Program} {ops:Array Oper} {C:World→Prop} {Q:Act→Prop}:∀ (l l':List Oper) (a:Act),wpQuiet P ops C (wpQuiet P ops C Q l') l a→wpQuiet P ops C Q (l++l') a:=by
  intro l l'
  induction l with
  | nil=>intro a h; exact h
  | cons o l ih =>
    intro a h
    rw [List.cons_append]
    unfold wpQuiet at h ⊢
    split
    · rename_i hw; rw [if_pos hw] at h; exact Oper.quiet_mono ih h
    · rename_i hw; rw [if_neg hw] at h; exact ih _ h
section
variable {P:Program} {N:Frm} {f:Fr} {w w0:World} {H0 H:Hp} {L:List Ent} {ops:Array Oper} {rest:List Oper} {C:World→Prop} {Q:Fr→Prop} {d:Nat} {od:Option Nat} {op:Op} {ty:TypeId} {pos:String} {af:Array Edge} {g:Option (Nat×Bool)}
theorem WP.quiet {id : Nat} {Q : Exit → Fr → World → Prop} (S : St w0 H0 w H L) (hm : P.follows .mixedOrders = true) (hB : Region.lexB .any ops = true)
    (h:WQ P N ops (Cl w0 H0 H L) ops.toList (fun f'=>∀ w' H',H.le H'→St w0 H0 w' H' L→Q .normal f' w') f):WP P N (.region id ops true) Q f w:=by
  refine wp_region_quiet (C:=Cl w0 H0 H L) hm hB ⟨H,Hp.le.refl _,S.drew⟩ (zF5 (fun a ⟨f',ha,hq⟩ w' ⟨H',hle,S'⟩=>?_) _ _ h.out)
  subst ha
  exact ⟨f',rfl,hq w' H' hle S'⟩
theorem WQ.nil (h:Q f):WQ P N ops C [] Q f:=⟨⟨f,rfl,h⟩⟩
theorem WQ.val {v:Value} (hr:∀ w,C w→(execOp (ev N f) ⟨od,op,ty,pos,af,none⟩).run P w=.ok (.value v) w) (h:WQ P N ops C rest Q (updo f od v)):WQ P N ops C (⟨od,op,ty,pos,af,none⟩ :: rest) Q f:=by
  have h:=h.out
  refine ⟨?_⟩
  unfold wpQuiet
  rw [if_pos (by simp [Region.wanted])]
  refine ⟨v,fun w hw=>?_,?_⟩
  · unfold Oper.quietAt
    rw [zBl,hr w hw]
    exact ⟨rfl,rfl⟩
  · rw [zBe]; exact h
theorem WQ.call {k : FuncId} {xs : List Operand} {ats : Array TypeId} {args : List Value} {v : Value} (ha : xs.map (ev N f) = args) (hC : ∀ w H', H.le H' → St w0 H0 w H' L → Con P k args w H' (fun _ u => u = v))
    (h:WQ P N ops (Cl w0 H0 H L) rest Q (updo f od v)):WQ P N ops (Cl w0 H0 H L) (⟨od,.call ⟨.value (.func k),xs.toArray,ats⟩,ty,pos,af,none⟩ :: rest) Q f:=by
  have h:=h.out
  refine ⟨?_⟩
  unfold wpQuiet
  rw [if_pos (by simp [Region.wanted])]
  refine ⟨v,fun w ⟨H',hle,S⟩=>?_,?_⟩
  · unfold Oper.quietAt
    rw [zBl]
    have e1:(execOp (ev N f) ⟨od,.call ⟨.value (.func k),xs.toArray,ats⟩,ty,pos,af,none⟩)=callFunc k (#[]++xs.toArray.map (ev N f)++#[]):=rfl
    have e:(#[]++xs.toArray.map (ev N f)++#[])=args.toArray:=by simp [ha]
    have c:=hC w H' hle S
    rw [e1,e,c.1 w]
    exact ⟨rfl,Calls.mono c.2 fun e w'' ⟨u,H'',he,hp,hu⟩=>⟨by rw [he,hu],H'',hle.trans hp.le,S.call hp⟩⟩
  · rw [zBe]; exact h
theorem WQ.callv {k : FuncId} {x : Operand} {xs : List Operand} {ats : Array TypeId} {args caps : List Value} {v : Value} (hx : ev N f x = .func (.func k) #[] caps.toArray) (ha : xs.map (ev N f) = args) (hC : ∀ w H', H.le H' → St w0 H0 w H' L → Con P k (args ++ caps) w H' (fun _ u => u = v))
    (h:WQ P N ops (Cl w0 H0 H L) rest Q (updo f od v)):WQ P N ops (Cl w0 H0 H L) (⟨od,.call ⟨.value x,xs.toArray,ats⟩,ty,pos,af,none⟩ :: rest) Q f:=by
  have h:=h.out
  refine ⟨?_⟩
  unfold wpQuiet
  rw [if_pos (by simp [Region.wanted])]
  refine ⟨v,fun w ⟨H',hle,S⟩=>?_,?_⟩
  · unfold Oper.quietAt
    rw [zBl]
    have e1:(execOp (ev N f) ⟨od,.call ⟨.value x,xs.toArray,ats⟩,ty,pos,af,none⟩).run P w=(callFunc k (#[]++xs.toArray.map (ev N f)++caps.toArray)).run P w:=by
      simp [execOp,resolve,hx,Deferred.ofValue,invoke]
    have e:(#[]++xs.toArray.map (ev N f)++caps.toArray)=(args++caps).toArray:=by simp [ha]
    have c:=hC w H' hle S
    rw [e1,e,c.1 w]
    exact ⟨rfl,Calls.mono c.2 fun e w'' ⟨u,H'',he,hp,hu⟩=>⟨by rw [he,hu],H'',hle.trans hp.le,S.call hp⟩⟩
  · rw [zBe]; exact h
theorem WQ.gyes {j t:Nat} {b b':Bool} (hj:(ops[j]?).bind (·.dst)=some t) (hv:ev N f (.tmp t)=boo b') (hb:b'=b) (h:WQ P N ops C (⟨od,op,ty,pos,af,none⟩ :: rest) Q f):WQ P N ops C (⟨od,op,ty,pos,af,some (j,b)⟩ :: rest) Q f:=by
  subst hb
  have hy:=zDT (N:=N) hj hv
  have h:=h.out
  refine ⟨?_⟩
  unfold wpQuiet at h ⊢
  rw [if_pos (by simp [Region.wanted,hy])]
  rw [if_pos (by simp [Region.wanted])] at h
  exact h
theorem WQ.gno {j t:Nat} {b b':Bool} (hj:(ops[j]?).bind (·.dst)=some t) (hv:ev N f (.tmp t)=boo b') (hb:b'=!b) (h:WQ P N ops C rest Q (updo f od undef)):WQ P N ops C (⟨od,op,ty,pos,af,some (j,b)⟩ :: rest) Q f:=by
  subst hb
  have hy:=zDT (N:=N) hj hv
  have h:=h.out
  refine ⟨?_⟩
  unfold wpQuiet
  rw [if_neg (by simp [Region.wanted,hy])]
  rw [zBe]
  exact h
theorem WQ.gund {j t:Nat} {b:Bool} (hj:(ops[j]?).bind (·.dst)=some t) (hv:ev N f (.tmp t)=undef) (h:WQ P N ops C rest Q (updo f od undef)):WQ P N ops C (⟨od,op,ty,pos,af,some (j,b)⟩ :: rest) Q f:=by
  have hy:yielded ops (act N f).tmps j=none:=by
    unfold yielded
    rw [hj]
    simp only [Option.bind_some,act,zE6]
    simp only [ev,zIG] at hv
    by_cases h:t<N.n
    · simp only [h,decide_true,cond_true] at hv; simp only [h,if_true,hv,undef]
    · simp only [h,if_false]
  have h:=h.out
  refine ⟨?_⟩
  unfold wpQuiet
  rw [if_neg (by simp [Region.wanted,hy])]
  rw [zBe]
  exact h
theorem WQ.grp {l : List Oper} (n : Nat) (ds : List Nat) (dp : Nat) (v : Value) (h : WQ P N ops C (l.take n) (fun f' => f' dp = v ∧ agree f f' (dp :: ds)) f)
    (k:∀ us,WQ P N ops C (l.drop n) Q (upd (upds f ds us) dp v)):WQ P N ops C l Q f:=by
  rw [← List.take_append_drop n l]
  refine ⟨zGt _ _ _ (zF5 (fun a ⟨f',ha,h1,h2⟩=>?_) _ _ h.out)⟩
  subst ha
  rw [zKf h1 h2]
  exact (k f').out
theorem WQ.idx {α : Type} [Enc α] {T e : TypeId} {x i : Operand} {v : Value} {xs : List α} {n : Int} {c : α} (hR : Sl H v xs) (hx : ev N f x = v) (hi : ev N f i = int n) (hE : Elem P T e (Enc.sz α)) (h : xnth xs n = some c)
    (k:∀ a cs,At H a cs→Enc.cells H cs c→WQ P N ops C rest Q (upd f d (.pointer (some a)))):WQ P N ops C (⟨some d,.indexAddr T x i,ty,pos,af,none⟩ :: rest) Q f:=by
  unfold xnth at h
  split at h
  case isFalse=>cases h
  rename_i h0
  obtain ⟨a,cp,rfl,h1,h2,h3⟩:=hR
  obtain ⟨hlt,hc⟩:=List.getElem?_eq_some_iff.1 h
  rcases h3 with rfl | ⟨b,off,cs,rfl,hat,hC⟩
  · simp at hlt
  obtain ⟨cs1,r,hr,hcs1⟩:=hC.get h
  have hE':=hE
  obtain ⟨ht,inf,z,hinf,_,hsize,_⟩:=hE'
  have hat':At H ⟨b,off+n.toNat*Enc.sz α,none⟩ cs1:=by
    obtain ⟨T',l,_,hH,r',hr'⟩:=hat
    refine ⟨T',l,rfl,hH,r++r',?_⟩
    show l.drop (off+n.toNat*Enc.sz α)=_
    have hle:n.toNat*Enc.sz α≤cs.length:=by
      rw [hC.length]; exact Nat.mul_le_mul_right _ (by omega)
    rw [← List.drop_drop,show List.drop off l=cs++r' from hr',List.drop_append_of_le_length hle,hr,List.append_assoc]
  refine WQ.val (v:=.pointer (some ⟨b,off+n.toNat*Enc.sz α,none⟩)) (fun w _=>?_) (k _ _ hat' hcs1)
  have hr:0≤n∧n<(xs.length:Int):=⟨h0,by omega⟩
  simp [execOp,Instr.indexAt,asIntOf,hx,hi,int,run_underlying ht,hr,sizeOf,typeInfo,hinf,hsize,Addr.add_lit]
def zGJ (P:Program) (T:TypeId):Option (List (Nat×Nat)) :=
  match P.underlying T with
  | some (.struct fs)=>fs.toList.mapM fun g=>(P.info? g.type).map fun i=>(g.offset,i.size)
  | _=>none
theorem run_places (l:List Field) (pl:List (Nat×Nat)) (h:(l.mapM fun g=>(P.info? g.type).map fun i=>(g.offset,i.size))=some pl):(l.mapM fun g=>(do pure (g.offset,← sizeOf g.type):Sem (Nat×Nat))).run P w=.ok pl w:=by
  induction l generalizing pl with
  | nil=>simp at h; subst h; rfl
  | cons g l ih =>
    simp only [List.mapM_cons,Option.bind_eq_bind,Option.bind_eq_some_iff] at h
    obtain ⟨x,hx,ys,hys,hp⟩:=h
    cases hi:P.info? g.type with
    | none=>rw [hi] at hx; cases hx
    | some i =>
      rw [hi] at hx
      simp at hx hp
      subst hx; subst hp
      have hs:(sizeOf g.type).run P w=.ok i.size w:=by simp [sizeOf,typeInfo,hi]
      have e:=ih ys hys
      simp only [List.mapM_cons,Sem.run_bind,hs,Result.andThen_ok,Sem.run_pure,e]
theorem R.build {T : TypeId} {ps : List (Nat × Operand)} {pl : List (Nat × Nat)} {zs : List Value} (vs : List (Nat × Value)) (cs : List Value) (hp : zGJ P T = some pl) (hz : zer P T = some zs) (hv : (ps.map fun p => (p.1, ev N f p.2)) = vs)
    (hf:(Instr.fill (fun i=>pl[i]?) zs.toArray vs)=some cs.toArray):(execOp (ev N f) ⟨od,.build T ps.toArray,ty,pos,af,g⟩).run P w=.ok (.value (agg cs)) w:=by
  unfold zGJ at hp
  split at hp
  case h_2=>cases hp
  rename_i fs hT
  unfold zer at hz
  cases hi:P.info? T with
  | none=>rw [hi] at hz; cases hz
  | some i =>
    rw [hi] at hz
    cases hzz:i.zero with
    | none=>simp [hzz] at hz
    | some z =>
      simp [hzz] at hz
      have hzs:z.cells=zs.toArray:=by rw [← hz]
      have hpl:=run_places (P:=P) (w:=w) fs.toList pl hp
      have hpl2:(fs.mapM fun g=>(do pure (g.offset,← sizeOf g.type):Sem (Nat×Nat))).run P w=.ok pl.toArray w:=by
        rw [Array.mapM_eq_mapM_toList]
        simp only [Sem.run_map,hpl,Result.andThen_ok]
      have hvs:ps.toArray.map (fun x=>(x.1,ev N f x.2))=vs.toArray:=by rw [List.map_toArray,hv]
      have hfun:(fun x:Nat=>(pl.toArray)[x]?)=fun i=>pl[i]?:=by funext i; simp
      have hg:∀ K:Array (Nat×Value),(Instr.build T K).run P w=(match Instr.fill (fun x=>pl.toArray[x]?) z.cells K.toList with | some cells=>.ok (.agg cells) w | none=>(stuck "build: no such field, or a part of the wrong size" : Sem Value).run P w):=by
        intro K
        simp only [Instr.build,zeroValue,typeInfo,Sem.run_bind,run_program,hi,hzz,Result.andThen_ok,Sem.run_pure,run_underlying hT,hpl2]
        cases Instr.fill (fun x=>pl.toArray[x]?) z.cells K.toList <;> rfl
      have hm:(fun (x:Nat×Operand)=>match x with | (i,x)=>(i,ev N f x))=fun x=>(x.1,ev N f x.2):=by funext x; rfl
      simp only [execOp,Sem.run_bind,hg,hvs,hfun,hzs,hf,Result.andThen_ok,Sem.run_pure,agg]
inductive EqF:Value→Value→Bool→Prop where
  | int (a b:Int):EqF (int a) (int b) (a==b)
  | boo (a b:Bool):EqF (boo a) (boo b) (a==b)
  | str (a b:Str):EqF (str a) (str b) (a==b)
def eqK (P:Program) (t:TypeId):Option Nat :=
  match P.underlying t with
  | some (.int .i64)=>some 0
  | some .bool=>some 1
  | some .string=>some 2
  | _=>none
def zDP (P:Program) (T:TypeId):Bool :=
  match P.underlying T with
  | some (.struct fs)=>!P.stoodInHeld T&&!P.eqGuardType P.depth T&&(fs.toList.zipIdx.all fun x=>x.1.name != "_"&&(x.1.offset==x.2)&&(eqK P x.1.type).isSome)
  | _=>false
def kindV:Value→Option Nat
  | .int .i64 _=>some 0
  | .bool _=>some 1
  | .string _=>some 2
  | _=>none
def eqV:Value→Value→Bool
  | .int _ a,.int _ b=>a==b
  | .bool a,.bool b=>a==b
  | .string a,.string b=>a.data.toList==b.data.toList
  | _,_=>false
def allEq:List Value→List Value→Bool
  | x :: xs,y :: ys=>eqV x y&&allEq xs ys
  | _,_=>true
theorem zLP {t:TypeId} {cs:List Value} {o:Nat} {v:Value} {k:Nat} (hk:eqK P t=some k) (hv:cs[o]?=some v):(part t ⟨cs⟩ o).run P w=.ok v w:=by
  have h:(⟨cs⟩:Array Value)[o]?=some v:=by simpa using hv
  unfold eqK at hk
  split at hk <;> first | (rename_i hT; simp [part,isAgg,run_underlying hT,h]) | cases hk
theorem zRW {t:TypeId} {x y:Value} {k n:Nat} (hk:eqK P t=some k) (hx:kindV x=some k) (hy:kindV y=some k):(Op.equalIn (n+1) t x y).run P w=.ok (eqV x y) w:=by
  unfold eqK at hk
  split at hk
  · rename_i hT; simp at hk; subst hk
    unfold kindV at hx hy
    split at hx <;> simp at hx
    split at hy <;> simp at hy
    rw [run_equalIn_int w n t .i64 .i64 _ _ hT]; rfl
  · rename_i hT; simp at hk; subst hk
    unfold kindV at hx hy
    split at hx <;> simp at hx
    split at hy <;> simp at hy
    rw [run_equalIn_bool' w n t _ _ hT]; rfl
  · rename_i hT; simp at hk; subst hk
    unfold kindV at hx hy
    split at hx <;> simp at hx
    split at hy <;> simp at hy
    rw [run_equalIn_string w n t _ _ hT,Lib.toList_data,Lib.toList_data]; rfl
  · cases hk
theorem zIS (d : Nat) (xs ys : List Value) : ∀ (fs : List Field) (i : Nat), (fs.zipIdx i).all (fun x => x.1.name != "_" && (x.1.offset == x.2) && (eqK P x.1.type).isSome) = true →
    (xs.drop i).length=fs.length→(ys.drop i).length=fs.length→(∀ (j:Nat) (g:Field) (x y:Value),fs[j]?=some g→xs[i+j]?=some x→ys[i+j]?=some y→kindV x=eqK P g.type∧kindV y=eqK P g.type) →
    (Op.eqFields (d+1) ⟨xs⟩ ⟨ys⟩ fs).run P w=.ok (allEq (xs.drop i) (ys.drop i)) w
  | [],i,_,h1,h2,_=>by
    have e1:xs.drop i=[]:=List.eq_nil_of_length_eq_zero h1
    have e2:ys.drop i=[]:=List.eq_nil_of_length_eq_zero h2
    rw [e1,e2]; rfl
  | g :: fs,i,h,h1,h2,hk=>by
    simp only [List.zipIdx_cons,List.all_cons,Bool.and_eq_true] at h
    obtain ⟨⟨⟨hn,ho⟩,hs⟩,hr⟩:=h
    have hi1:i<xs.length:=by simp at h1; omega
    have hi2:i<ys.length:=by simp at h2; omega
    obtain ⟨k,hkk⟩:=Option.isSome_iff_exists.1 hs
    obtain ⟨k1,k2⟩:=hk 0 g xs[i] ys[i] rfl (by simp [hi1]) (by simp [hi2])
    have ho':g.offset=i:=by simpa using ho
    have hn':g.name≠ "_":=by simpa using hn
    have ih:=zIS d xs ys fs (i+1) hr (by simp at h1 ⊢; omega) (by simp at h2 ⊢; omega) (fun j g' x y a b c=>hk (j+1) g' x y (by simpa using a) (by rw [← b]; congr 1; omega) (by rw [← c]; congr 1; omega))
    have p1:=zLP (P:=P) (w:=w) (cs:=xs) (o:=i) hkk (List.getElem?_eq_getElem hi1)
    have p2:=zLP (P:=P) (w:=w) (cs:=ys) (o:=i) hkk (List.getElem?_eq_getElem hi2)
    have p3:=zRW (P:=P) (w:=w) (n:=d) hkk (k1.trans hkk) (k2.trans hkk)
    rw [List.drop_eq_getElem_cons hi1,List.drop_eq_getElem_cons hi2]
    simp only [Op.eqFields,hn',ne_eq,not_false_eq_true,if_true,ho',Sem.run_bind,p1,p2,p3,Result.andThen_ok,Sem.run_ite,allEq]
    cases hb:eqV xs[i] ys[i]
    · simp
    · simp [ih]
def zIW (P:Program) (T:TypeId):List (Option Nat) :=
  match P.underlying T with
  | some (.struct fs)=>fs.toList.map fun g=>eqK P g.type
  | _=>[]
theorem zLK {T : TypeId} {xs ys : List Value} {ks : List (Option Nat)} (hT : zDP P T = true) (hk : zIW P T = ks) (hx : xs.map kindV = ks) (hy : ys.map kindV = ks) :
    (Op.equalIn 10000 T (.agg ⟨xs⟩) (.agg ⟨ys⟩)).run P w=.ok (allEq xs ys) w∧∀ op (x y:Operand),(eqGuard op T x y (.agg ⟨xs⟩) (.agg ⟨ys⟩)).run P w=.ok () w:=by
  unfold zDP at hT
  unfold zIW at hk
  split at hT
  case h_2=>cases hT
  rename_i fs hu
  rw [hu] at hk
  simp only [Bool.and_eq_true,Bool.not_eq_true'] at hT
  obtain ⟨⟨h1,h2⟩,h3⟩:=hT
  have hfo:P.fieldsOf T=fs:=by simp [Program.fieldsOf,hu]
  refine ⟨?_,fun op x y=>run_eqGuard_agg w op T x y _ _ h2⟩
  have e:(Op.equalIn 10000 T (.agg ⟨xs⟩) (.agg ⟨ys⟩)).run P w=(Op.eqFields 9999 ⟨xs⟩ ⟨ys⟩ (P.fieldsOf T).toList).run P w:=run_equalIn_struct w 9999 T _ _ (by rw [hfo]; exact hu) h1
  rw [e,hfo]
  have hl:∀ zs:List Value,zs.map kindV=ks→zs.length=fs.toList.length:=fun zs hz=>by
    have:=congrArg List.length (hz.trans hk.symm); simpa using this
  have:=zIS (P:=P) (w:=w) 9998 xs ys fs.toList 0 h3 (by simpa using hl xs hx) (by simpa using hl ys hy) (by
    intro j g x y a b c
    have hkj:ks[j]?=some (eqK P g.type):=by rw [← hk]; simp at a; simp [a]
    simp only [Nat.zero_add] at b c
    constructor
    · have:(xs.map kindV)[j]?=some (kindV x):=by simp [b]
      rw [hx,hkj] at this; simpa using this.symm
    · have:(ys.map kindV)[j]?=some (kindV y):=by simp [c]
      rw [hy,hkj] at this; simpa using this.symm)
  simpa using this
theorem R.eqlA {T T' : TypeId} {x y : Operand} {xs ys : List Value} {ks : List (Option Nat)} (b : Bool) (hx : ev N f x = agg xs) (hy : ev N f y = agg ys) (hT : zDP P T = true) (hk : zIW P T = ks) (h1 : xs.map kindV = ks) (h2 : ys.map kindV = ks) (hb : allEq xs ys = b) :
    (execOp (ev N f) ⟨od,.binOp .eql T x y T',ty,pos,af,g⟩).run P w=.ok (.value (boo b)) w:=by
  obtain ⟨e1,e2⟩:=zLK (P:=P) (w:=w) hT hk h1 h2
  simp only [execOp,hx,hy,agg,Sem.run_bind,e2,Result.andThen_ok,run_eql_struct,e1,Sem.run_pure,hb,boo]
theorem R.neqA {T T' : TypeId} {x y : Operand} {xs ys : List Value} {ks : List (Option Nat)} (b : Bool) (hx : ev N f x = agg xs) (hy : ev N f y = agg ys) (hT : zDP P T = true) (hk : zIW P T = ks) (h1 : xs.map kindV = ks) (h2 : ys.map kindV = ks) (hb : (!allEq xs ys) = b) :
    (execOp (ev N f) ⟨od,.binOp .neq T x y T',ty,pos,af,g⟩).run P w=.ok (.value (boo b)) w:=by
  obtain ⟨e1,e2⟩:=zLK (P:=P) (w:=w) hT hk h1 h2
  simp only [execOp,hx,hy,agg,Sem.run_bind,e2,Result.andThen_ok,run_neq_struct,e1,Sem.run_pure,hb,boo]
end
end Go.Eng
namespace Go.Eng
open Go
theorem Oper.wp_monoQ {P:Program} {o:Oper} {a:Act} {w:World} {K K':Act→World→Prop} {Q Q':Exit→Act→World→Prop} (hk:∀ a w,K a w→K' a w) (hq:∀ e a w,e≠.normal→Q e a w→Q' e a w) (h:o.wp P a w K Q):o.wp P a w K' Q':=by
  unfold Oper.wp at *
  generalize (execOp a.eval o).run P w=r at *
  cases r with
  | ok n w' =>
    cases n with
    | enter g args =>
      exact Calls.mono h (fun e w'' he=>by
        cases e with
        | returned v=>exact hk _ _ he
        | panicked c=>exact hq _ _ _ (by simp) he
        | outgrown=>obtain ⟨a0,w0,h0⟩:=he; exact ⟨a0,w0,hq _ _ _ (by simp) h0⟩)
    | row r args=>exact Rows.mono h (fun v w'' he=>hk _ _ he)
    | value v=>exact hk _ _ h
    | skip=>exact hk _ _ h
    | defer d=>exact hk _ _ h
    | _=>exact h
  | halt x w' =>
    cases x with
    | panic v=>exact hq _ _ _ (by simp) h
    | _=>exact h
theorem zOW {P:Program} {ops:Array Oper} {i:Nat} {a:Act} {w:World} {K K':Act→World→Prop} {Q Q':Exit→Act→World→Prop} (hk:∀ a w,K a w→K' a w) (hq:∀ e a w,Q e a w→Q' e a w) (h:wpOp P ops Q i K a w):wpOp P ops Q' i K' a w:=by
  unfold wpOp at *
  split
  · rename_i h0; simp only [h0] at h; exact hk _ _ h
  · rename_i o ho
    simp only [ho] at h
    split
    · rename_i hw
      rw [if_pos hw] at h
      rcases h with h | ⟨h1,a0,w0,h2⟩
      · exact .inl (Oper.wp_monoQ hk (fun e a w _=>hq e a w) h)
      · exact .inr ⟨h1,a0,w0,hq _ _ _ h2⟩
    · rename_i hw; rw [if_neg hw] at h; exact hk _ _ h
theorem zFe {P:Program} {md:Region.Mode} {ops:Array Oper} {Q Q':Exit→Act→World→Prop} (hq:∀ e a w,Q e a w→Q' e a w):∀ (n:Nat) (listed:Array Bool) (a:Act) (w:World),wpAny P md ops Q n listed a w→wpAny P md ops Q' n listed a w
  | 0,_,_,_,h=>⟨h.1,hq _ _ _ h.2⟩
  | n+1,_,_,_,h=>⟨fun h0=>hq _ _ _ (h.1 h0),fun i hi=>zOW (fun a w=>zFe hq n _ a w) hq (h.2 i hi)⟩
def WA (P:Program) (N:Frm) (ops:Array Oper) (n:Nat) (listed:Array Bool) (Q:Fr→World→Prop) (f:Fr) (w:World):Prop :=
  wpAny P .any ops (fun e a w'=>∃ f',a=act N f'∧e=.normal∧Q f' w') n listed (act N f) w
section
variable {P:Program} {N:Frm} {f:Fr} {w:World} {ops:Array Oper} {Q:Fr→World→Prop} {n:Nat} {listed:Array Bool}
theorem WP.draw {id:Nat} {Q:Exit→Fr→World→Prop} (hm:P.follows .mixedOrders=true) (m:Nat) (hn:ops.size=m) (l0:Array Bool) (hl:Array.replicate m false=l0) (h:WA P N ops m l0 (Q .normal) f w.drew):WP P N (.region id ops true) Q f w:=by
  subst hn; subst hl
  refine wp_region_any hm (zFe (fun e a w ⟨f',ha,he,hq⟩=>?_) _ _ _ _ h)
  subst he
  exact ⟨f',ha,hq⟩
theorem WA.take {i : Nat} {d : Option Nat} {op : Op} {ty : TypeId} {pos : String} {af : Array Edge} {v : Value} (listed' : Array Bool) (hi : ops[i]? = some ⟨d, op, ty, pos, af, none⟩) (hs : Region.noSelect ops = true) (hf : Region.free .any ops listed i = true)
    (hr:(Region.ready .any ops listed).contains i=true) (hl:listed.setIfInBounds i true=listed') (hrun:∀ w,(execOp (ev N f) ⟨d,op,ty,pos,af,none⟩).run P w=.ok (.value v) w)
    (h:WA P N ops n listed' Q (updo f d v) w):WA P N ops (n+1) listed Q f w:=by
  subst hl
  refine wpAny_take hi hs hf hr (fun c a w ⟨f',_,he,_⟩=>by cases he) (v:=v) (.inl ⟨by simp [Region.wanted],fun w=>?_⟩) ?_
  · rw [zBl]; exact hrun w
  · show wpAny P .any ops _ n _ ((act N f).put d v) w
    rw [zBe]; exact h
theorem WA.one {i : Nat} {o : Oper} (listed' : Array Bool) (hi : ops[i]? = some o) (hr : Region.ready .any ops listed = [i]) (hl : listed.setIfInBounds i true = listed')
    (h:WL P N ops [o] (fun f' w'=>WA P N ops n listed' Q f' w') f w):WA P N ops (n+1) listed Q f w:=by
  subst hl
  refine wpAny_all hr (by simp) fun j hj=>?_
  rcases List.mem_singleton.1 hj with rfl
  unfold wpOp
  rw [hi]
  have h':wpList P ops (fun e a w'=>∃ f',a=act N f'∧e=.normal∧WA P N ops n (listed.setIfInBounds j true) Q f' w') [o] (act N f) w:=h.out
  unfold wpList at h'
  show if Region.wanted o (yielded ops (act N f).tmps)=true then _ else _
  split
  · rename_i hw
    rw [if_pos hw] at h'
    rcases h' with h' | ⟨_,a0,w0,f0,_,he,_⟩
    · refine .inl (Oper.wp_monoQ (fun a w hk=>?_) (fun e a w hne ⟨f',ha,he,_⟩=>absurd he hne) h')
      obtain ⟨f',ha,_,hq⟩:=hk
      subst ha; exact hq
    · cases he
  · rename_i hw
    rw [if_neg hw] at h'
    obtain ⟨f',ha,_,hq⟩:=h'
    rw [ha]; exact hq
theorem WA.done (hr:Region.ready .any ops listed=[]) (h:Q f w):WA P N ops n listed Q f w:=wpAny_done hr ⟨f,rfl,rfl,h⟩ n
end
end Go.Eng
namespace Go.Eng
open Go Go.ChangeShapes Go.WideShapes Go.ChangeAt Go.RowKit
def Hp.of (W:World):Hp:=fun b=>match W.heap[b]? with | some (.cells cs T _)=>some (T,cs.toList) | _=>none
theorem Holds.of (W:World):Holds W (Hp.of W):=by
  intro b T l h
  unfold Hp.of at h
  split at h
  · rename_i cs T' fz hc
    simp at h
    obtain ⟨rfl,rfl⟩:=h
    exact ⟨cs,fz,hc,[],by simp⟩
  · cases h
theorem Hp.of_cells {W:World} {b:Nat} {cs:Array Value} {T:TypeId} {fz:Nat×Nat} (h:W.heap[b]?=some (.cells cs T fz)):Hp.of W b=some (T,cs.toList):=by
  unfold Hp.of; rw [h]
def zEV (P:Program) (ts:List TypeId):Bool:=ts.all fun t=>P.readableRec t&&decide (t<P.types.size)
section
variable {X:Type} {enc:TypeId×Value→X} {P:Program} {W W':World}
theorem zHf (hl : laidOutB P = true) (hb : Below W.heap.size W W') : ∀ {ts : List TypeId} {vs : List Value} {ds : List (DataW X)} {ps : List MemPlace}, zEV P ts = true →
    DataW.TrodAll enc P W 0 (fun _=>true) true ts vs ds ps→(∀ x ∈ ps,x.block<W.heap.size)→DataW.TrodAll enc P W' 0 (fun b=>decide (b<W.heap.size)) true ts vs ds ps
  | [],_,_,_,_,h,_=>by obtain ⟨rfl,rfl,rfl⟩:=trodAll_nil h; rfl
  | t :: ts,_,_,_,hr,h,hlt=>by
    obtain ⟨v,vs,d,ds',p,q,rfl,rfl,rfl,hd,hrest⟩:=trodAll_cons h
    simp only [zEV,List.all_cons,Bool.and_eq_true,decide_eq_true_eq] at hr
    exact ⟨p,q,Below.trod hl hr.1.1 hr.1.2 hd hb (fun x hx=>hlt x (List.mem_append.2 (.inl hx))),zHf hl hb (by simpa [zEV] using hr.2) hrest (fun x hx=>hlt x (List.mem_append.2 (.inr hx))),rfl⟩
theorem zQa {fn : Func} {s : ChangeSpec} {args : Array Value} {ds gs : List (DataW X)} {before : List MemPlace} {tb : TypeId} {apart : Bool}
    (hl:laidOutB P=true) (hts:zEV P fn.params.toList=true) (hv:s.vars=[]) (hW:DataW.Whole enc P fn.params.toList s.vars apart W args.toList ds gs before)
    (hs:(s.fn X (ds++gs)).results=[.lit (.bool true)]∧(s.fn X (ds++gs)).args=ds∧(s.fn X (ds++gs)).vars=[]) (hrt:fn.resultTypes=#[tb]) (hbt:P.underlying tb=some .bool) (hb:Below W.heap.size W W') :
    s.post enc P fn apart true false false W args (boo true) W':=by
  obtain ⟨h1,h2,h3⟩:=hs
  have hlt:∀ p ∈ before,p.block<W.heap.size:=fun p hp=>hW.lt p hp
  have hW':=hW
  obtain ⟨p,q,hA,hV,rfl,_,_⟩:=hW'
  refine ⟨ds,gs,_,[],p,[],hW,?_,?_,?_,hb.frame _,fun h=>by cases h⟩
  · rw [h1,hrt]
    exact trodAll_mk1 (shut_bool hbt true)
  · rw [h2]
    exact zHf hl hb hts hA (fun x hx=>hlt x (List.mem_append.2 (.inl hx)))
  · rw [h3,hv]; rfl
theorem zP6 {fn : Func} {k : FuncId} {s : ChangeSpec} {args : Array Value} {vs : List Value} {ds gs : List (DataW X)} {before : List MemPlace} {tb : TypeId} {apart : Bool} (ha : args = vs.toArray)
    (hl:laidOutB P=true) (hts:zEV P fn.params.toList=true) (hv:s.vars=[]) (hW:DataW.Whole enc P fn.params.toList s.vars apart W args.toList ds gs before)
    (hs:(s.fn X (ds++gs)).results=[.lit (.bool true)]∧(s.fn X (ds++gs)).args=ds∧(s.fn X (ds++gs)).vars=[]) (hrt:fn.resultTypes=#[tb]) (hbt:P.underlying tb=some .bool)
    (C:Con P k vs W (Hp.of W) (fun _ v=>v=boo true)) :
    Calls P k args W fun e W'=>∃ v,e=.returned v∧s.post enc P fn apart true false false W args v W':=by
  subst ha
  refine Calls.mono C.2 fun e W' ⟨v,H',he,hp,hv'⟩=>⟨v,he,?_⟩
  subst hv'
  exact zQa hl hts hv hW hs hrt hbt hp.below
end
def Rd (P:Program) (t:TypeId) (α:Type) [Enc α]:Prop :=
  ∀ (X:Type) (enc:TypeId×Value→X) (W:World) (fuel:Nat) (cs:List Value) (x:DataW X×List MemPlace),DataW.trod enc P W 0 (fun _=>true) true fuel t cs=some x→∃ a:α,Enc.cells (Hp.of W) cs a
theorem Rd.str {P:Program} {t:TypeId} (ht:P.underlying t=some .string):Rd P t Str:=fun _ _ _ _ _ _ h=>by
  obtain ⟨s,rfl,_⟩:=DataW.trod_string ht h
  exact ⟨s.data.toList,rfl⟩
theorem Rd.bool {P:Program} {t:TypeId} (ht:P.underlying t=some .bool):Rd P t Bool:=fun _ _ _ _ _ _ h=>by
  obtain ⟨b,rfl,_⟩:=DataW.trod_bool ht h
  exact ⟨b,rfl⟩
theorem Rd.int {P:Program} {t:TypeId} (ht:P.underlying t=some (.int .i64)):Rd P t Int:=fun _ _ _ _ _ _ h=>by
  obtain ⟨n,rfl,_⟩:=DataW.trod_int ht h
  exact ⟨n,rfl⟩
theorem zOT {α:Type} {f:Nat→Option α} {n:Nat} {l:List α} (h:(List.range n).mapM f=some l):l.length=n∧∀ i,i<n→f i=l[i]?:=by
  have key:∀ (is:List Nat) (l:List α),is.mapM f=some l→l.length=is.length∧∀ (k i:Nat),is[k]?=some i→f i=l[k]?:=by
    intro is
    induction is with
    | nil=>intro l h; simp at h; subst h; simp
    | cons i is ih =>
      intro l h
      rw [List.mapM_cons] at h
      cases hf:f i with
      | none=>simp [hf] at h
      | some y =>
        cases hr:is.mapM f with
        | none=>simp [hf,hr] at h
        | some ys =>
          simp [hf,hr] at h
          subst h
          obtain ⟨h1,h2⟩:=ih ys hr
          refine ⟨by simp [h1],fun k j hk=>?_⟩
          cases k with
          | zero=>simp at hk; subst hk; simpa using hf
          | succ k=>simpa using h2 k j (by simpa using hk)
  obtain ⟨h1,h2⟩:=key _ _ h
  refine ⟨by simpa using h1,fun i hi=>h2 i i (by simp [hi])⟩
theorem add_zero' (a:Addr):a.add 0=a:=by unfold Addr.add; simp
theorem zLC {W : World} {a : Addr} {n : Nat} {cs : List Value} (h : W.cells? 0 a n = some cs) (hn : 0 < n) :
    a.spot=none∧∃ c T fz,W.heap[a.block]?=some (.cells c T fz)∧(c.toList.drop a.off).take n=cs∧cs.length=n:=by
  unfold World.cells? at h
  rw [if_pos (Nat.zero_le _)] at h
  obtain ⟨hl,hf⟩:=zOT h
  have h0:=hf 0 hn
  rw [add_zero'] at h0
  have hex:∃ v,W.cell? a=some v:=⟨cs[0],by rw [h0,List.getElem?_eq_getElem]⟩
  obtain ⟨v,hv⟩:=hex
  have hv':=hv
  unfold World.cell? at hv'
  split at hv'
  · rename_i c T fz hc
    split at hv'
    · cases hv'
    · rename_i hs
      have hs':a.spot=none:=by cases h:a.spot with
        | none=>rfl
        | some _=>rw [h] at hs; simp at hs
      refine ⟨hs',c,T,fz,hc,?_,hl⟩
      apply List.ext_getElem?
      intro i
      by_cases hi:i<n
      · rw [List.getElem?_take_of_lt hi,List.getElem?_drop,← hf i hi]
        have e:a.add i=⟨a.block,a.off+i,none⟩:=by
          unfold Addr.add
          split
          · rename_i h0; subst h0; cases a; simp at hs'; subst hs'; rfl
          · cases a; rfl
        rw [e,cell_of_row W a.block (a.off+i) c T fz hc,Array.getElem?_toList]
      · rw [List.getElem?_eq_none (by simp; omega),List.getElem?_eq_none (by omega)]
  · cases hv'
theorem Rd.slice {P : Program} {t e : TypeId} {α : Type} [Enc α] (ht : P.underlying t = some (.slice e)) (hc : P.cellsOf e = Enc.sz α) (hr : Rd P e α) {X : Type} {enc : TypeId × Value → X} {W : World} {fuel : Nat} {v : Value} {x : DataW X × List MemPlace}
    (h:DataW.trod enc P W 0 (fun _=>true) true fuel t [v]=some x):∃ a:List α,Sl (Hp.of W) v a:=by
  rcases DataW.trod_slice ht h with ⟨hcs,_⟩ | ⟨a,len,cap,elems,rest,n,_,hcs,_,_,hl,hm,hel,hf,_⟩
  · simp at hcs; subst hcs; exact ⟨[],Sl.nil⟩
  · simp at hcs; subst hcs
    by_cases h0:len=0
    · subst h0
      exact ⟨[],some a,cap,rfl,by simp,hm,.inl rfl⟩
    · have hsz:=Enc.pos (α:=α)
      have hrow:∀ i,i<len→∃ cs y,W.cells? 0 (a.add (i*Enc.sz α)) (Enc.sz α)=some cs∧DataW.trod enc P W 0 (fun _=>true) true n e cs=some y:=by
        intro i hi
        have:=hf i hi
        rw [hc,List.getElem?_eq_getElem (by omega)] at this
        obtain ⟨cs,h1,h2⟩:=Option.bind_eq_some_iff.1 this
        exact ⟨cs,_,h1,h2⟩
      obtain ⟨cs0,y0,h1,_⟩:=hrow 0 (by omega)
      rw [Nat.zero_mul,add_zero'] at h1
      obtain ⟨hs,c,T,fz,hcc,_,_⟩:=zLC h1 hsz
      have e:∀ i,a.add i=⟨a.block,a.off+i,none⟩:=by
        intro i
        unfold Addr.add
        split
        · rename_i h0; subst h0; cases a; simp at hs; subst hs; rfl
        · cases a; rfl
      have key:∀ k,k≤len→∃ xs:List α,xs.length=k∧Cells (Hp.of W) ((c.toList.drop (a.off+(len - k)*Enc.sz α)).take (k*Enc.sz α)) xs:=by
        intro k
        induction k with
        | zero=>intro _; exact ⟨[],rfl,by simp [Cells]⟩
        | succ k ih =>
          intro hk
          obtain ⟨xs,hxl,hxs⟩:=ih (by omega)
          obtain ⟨cs,y,h1,h2⟩:=hrow (len - (k+1)) (by omega)
          obtain ⟨z,hz⟩:=hr X enc W n cs y h2
          rw [e] at h1
          obtain ⟨_,c',T',fz',hcc',htk,hlen⟩:=zLC h1 hsz
          have:c'=c:=by
            have h3:W.heap[a.block]?=some (.cells c' T' fz'):=hcc'
            rw [hcc] at h3; simp at h3; exact h3.1.symm
          subst this
          refine ⟨z :: xs,by simp [hxl],cs,_,?_,hz,hxs⟩
          have htk':(c'.toList.drop (a.off+(len - (k+1))*Enc.sz α)).take (Enc.sz α)=cs:=htk
          rw [Nat.succ_mul,Nat.add_comm (k*Enc.sz α),List.take_add,htk',List.drop_drop]
          have e3:a.off+(len - k)*Enc.sz α=a.off+(len - (k+1))*Enc.sz α+Enc.sz α:=by
            have:len - k=(len - (k+1))+1:=by omega
            rw [this,Nat.succ_mul]; omega
          rw [e3]
      obtain ⟨xs,hxl,hxs⟩:=key len (Nat.le_refl _)
      subst hxl
      refine ⟨xs,some a,cap,rfl,hl,hm,.inr ⟨a.block,a.off,_,?_,?_,hxs⟩⟩
      · cases a; simp at hs; subst hs; rfl
      · refine ⟨T,c.toList,rfl,Hp.of_cells hcc,(c.toList.drop a.off).drop (xs.length*Enc.sz α),?_⟩
        rw [Nat.sub_self,Nat.zero_mul,Nat.add_zero]
        exact (List.take_append_drop _ _).symm
theorem Rd.list {P : Program} {t e : TypeId} {α : Type} [Enc α] (hc : P.cellsOf e = Enc.sz α) (ht : P.underlying t = some (.slice e)) (hr : Rd P e α) :
    ∀ (X:Type) (enc:TypeId×Value→X) (W:World) (fuel:Nat) (cs:List Value) (x:DataW X×List MemPlace),DataW.trod enc P W 0 (fun _=>true) true fuel t cs=some x→∃ (v:Value) (a:List α),cs=[v]∧Sl (Hp.of W) v a:=by
  intro X enc W fuel cs x h
  have:∃ v,cs=[v]:=by
    rcases DataW.trod_slice ht h with ⟨hcs,_⟩ | ⟨a,len,cap,elems,rest,n,_,hcs,_⟩
    · exact ⟨_,hcs⟩
    · exact ⟨_,hcs⟩
  obtain ⟨v,rfl⟩:=this
  obtain ⟨a,ha⟩:=Rd.slice ht hc hr h
  exact ⟨v,a,rfl,ha⟩
theorem Rd.field {P : Program} {t : TypeId} {fs : Array Field} {X : Type} {enc : TypeId × Value → X} {W : World} {fuel : Nat} {cs : List Value} {x : DataW X × List MemPlace} (ht : P.underlying t = some (.struct fs))
    (h:DataW.trod enc P W 0 (fun _=>true) true fuel t cs=some x):cs.length=P.cellsOf t∧∀ (i:Nat) (f:Field),fs[i]?=some f→∃ n y,DataW.trod enc P W 0 (fun _=>true) true n f.type ((cs.drop f.offset).take (P.cellsOf f.type))=some y:=by
  obtain ⟨xs,n,_,_,hl,hlen,hf⟩:=DataW.trod_struct ht h
  refine ⟨hl,fun i f hi=>⟨n,xs[i]'(by rw [hlen]; exact (Array.getElem?_eq_some_iff.1 hi).1),?_⟩⟩
  rw [hf i f hi,List.getElem?_eq_getElem]
theorem zN4 {P : Program} {W : World} {X : Type} {enc : TypeId × Value → X} {t : TypeId} {fs : Array Field} {α : Type} [Enc α] {v : Value} {d : DataW X} {p : List MemPlace} {base : Nat} (ht : P.underlying t = some (.struct fs)) (hr : Rd P t α)
    (hv:Value.okWide P W .any base t v) (h:DataW.Trod enc P W 0 (fun _=>true) true t v d p):∃ cs a,v=agg cs∧Enc.cells (α:=α) (Hp.of W) cs a:=by
  obtain ⟨cs,rfl,_⟩:=okWide_struct ht hv
  obtain ⟨fuel,h⟩:=h
  obtain ⟨a,ha⟩:=hr X enc W fuel _ _ h
  exact ⟨cs.toList,a,rfl,ha⟩
theorem zLa {P : Program} {W : World} {X : Type} {enc : TypeId × Value → X} {t e : TypeId} {α : Type} [Enc α] {v : Value} {d : DataW X} {p : List MemPlace} {base : Nat} (ht : P.underlying t = some (.slice e)) (hc : P.cellsOf e = Enc.sz α) (hr : Rd P e α)
    (hv:Value.okWide P W .any base t v) (h:DataW.Trod enc P W 0 (fun _=>true) true t v d p):∃ a:List α,Sl (Hp.of W) v a:=by
  obtain ⟨a0,len,cap,rfl⟩:=okWide_slice ht hv
  obtain ⟨fuel,h⟩:=h
  exact Rd.slice ht hc hr h
theorem zQh {P:Program} {W:World} {X:Type} {enc:TypeId×Value→X} {t:TypeId} {v:Value} {d:DataW X} {p:List MemPlace} {base:Nat} (ht:P.underlying t=some .bool) (hv:Value.okWide P W .any base t v) (h:DataW.Trod enc P W 0 (fun _=>true) true t v d p):∃ b,v=boo b:=by
  obtain ⟨b,rfl,_⟩:=open_bool ht hv h
  exact ⟨b,rfl⟩
end Go.Eng
