/- A part. -/
import Derived.WalkKit
import Derived.Deep.Quiet
import Derived.Laws.IdiomStrings
import Derived.Lib.Strings
import Derived.IntWalk
set_option linter.unusedVariables false
set_option linter.unusedSimpArgs false
theorem nQ {a b:Nat} (h:Nat.beq a b=true):a=b:=Nat.eq_of_beq_eq_true h
theorem nL {a b:Nat} (h:Nat.ble a b=true):a≤b:=Nat.le_of_ble_eq_true h
theorem lD.{u} {α:Type u} {i:Nat} {l:List α} (h:i<l.length):l.drop i=l[i]::l.drop (i+1):=List.drop_eq_getElem_cons h
theorem bQ (a b:Bool):((a&&b)=true)=(a=true∧b=true):=Bool.and_eq_true a b
theorem lM.{u} {α:Type u} {l:List α} {n:Nat} (h:n<l.length):l[n]∈l:=List.getElem_mem h
theorem lG.{u} {α:Type u} {l:List α} {i:Nat} {a:α} (h:l[i]?=some a):a∈l:=List.mem_of_getElem? h
theorem lC.{u} {α:Type u} {a:α} {l:List α}:(a::l).length=l.length+1:=List.length_cons
theorem lA.{u} {α:Type u} {a b:List α}:(a++b).length=a.length+b.length:=List.length_append
theorem oI.{u} {α:Type u} (a b:α):(some a=some b)=(a=b):=Option.some.injEq a b
theorem dT {p:Prop} [Decidable p] (h:decide p=true):p:=of_decide_eq_true h
theorem dF {p:Prop} [Decidable p] (h:decide p=false):¬p:=of_decide_eq_false h
theorem nR (n:Nat):n≤n:=Nat.le_refl n
theorem lN.{u} {α:Type u} (y:α) {a:α} {l:List α} (h:a∈l):a∈y::l:=List.mem_cons_of_mem y h
theorem lS.{u} {α:Type u} {a:α} {l:List α}:a∈a::l:=List.mem_cons_self
theorem lI.{u} {α:Type u} {a:α} {l:List α}:a∈l↔∃ n:Nat,l[n]?=some a:=List.mem_iff_getElem?
theorem lO.{u} {α:Type u} {a b:α}:a∈[b]↔a=b:=List.mem_singleton
theorem oJ.{u} {α:Type u} {a b:α} (h:some a=some b):a=b:=Option.some.inj h
theorem nT {a b c:Nat} (h:a≤b) (k:b≤c):a≤c:=Nat.le_trans h k
namespace Go.Eng
open Go
variable {p:Prop}
theorem om (h:p:=by omega):p:=h
theorem sI (h:p:=by simp):p:=h
theorem dE (h:p:=by decide):p:=h
theorem gR (h:p:=by grind):p:=h
abbrev Fr:=Nat→Value
def upd (f:Fr) (d:Nat) (v:Value):Fr:=fun t=>bif Nat.beq t d then v else f t
def updo (f:Fr) (d:Option Nat) (v:Value):Fr:=match d with | some d=>upd f d v | none=>f
structure Frm where
 n:Nat
 ds:List Deferred
def tm (N:Frm) (f:Fr):Array Value:=((List.range N.n).map f).toArray
def act (N:Frm) (f:Fr):Act:={ tmps:=tm N f,defers:=N.ds }
def ev (N:Frm) (f:Fr):Operand→Value
 | .tmp t=>bif Nat.blt t N.n then f t else undef
 | .const v=>v
 | .global g=>.pointer (some ⟨g,0,none⟩)
 | .func k=>.func (.func k) #[] #[]
def init (l:List Value):Fr:=fun t=>l.getD t undef
theorem zXO (N:Frm) (f:Fr):(tm N f).size=N.n:=by simp [tm]
theorem zHG (N:Frm) (f:Fr) (t:Nat):(tm N f)[t]?=if t<N.n then some (f t) else none:=by
 unfold tm
 grind
theorem zLt (a b:Nat):Nat.blt a b=decide (a<b):=by
 by_cases h:a<b
 ·simp_all
 ·simp only [h,decide_false]
  cases hb:Nat.blt a b with
  | false=>rfl
  | true=>exact absurd (nL hb) h
theorem zJ6 (N:Frm) (f:Fr) (x:Operand):(act N f).eval x=ev N f x:=by
 cases x with
 | tmp t =>
  simp only [Act.eval,act,ev,Array.getD_eq_getD_getElem?,zHG,zLt]
  grind
 | const v=>rfl
 | global g=>rfl
 | func k=>rfl
theorem zCR (N:Frm) (f:Fr):(act N f).eval=ev N f:=funext (zJ6 N f)
theorem zCK (N:Frm) (f:Fr) (d:Option Nat) (v:Value):(act N f).put d v=act N (updo f d v):=by
 cases d with
 | none=>rfl
 | some d =>
  simp only [Act.put,act,updo];congr 1;apply Array.ext_getElem?;intro t;rw [Array.getElem?_setIfInBounds,zHG,zXO,zHG];by_cases hd:d=t
  ·grind [upd,Nat.beq_refl]
  ·have : Nat.beq t d = false := by
    cases hb:Nat.beq t d <;> simp_all
   grind [upd]
def WP (P:Program) (N:Frm) (c:Code) (Q:Exit→Fr→World→Prop) (f:Fr) (w:World):Prop :=
 c.wp P (fun e a w'=>∃ f',a=act N f'∧Q e f' w') (act N f) w
structure WL (P:Program) (N:Frm) (ops:Array Oper) (l:List Oper) (Q:Fr→World→Prop) (f:Fr) (w:World):Prop where
 out:wpList P ops (fun e a w'=>∃ f',a=act N f'∧e=.normal∧Q f' w') l (act N f) w
section
variable {P:Program} {N:Frm}
variable {Q:Exit→Fr→World→Prop} {af:Array Edge} {b:Bool} {d:Option Nat} {f:Fr} {op:Op} {ops:Array Oper} {pos:String} {rest:List Oper} {ty:TypeId} {w:World}
theorem WP.mono {c:Code} {Q':Exit→Fr→World→Prop} (h:WP P N c Q f w) (hq:∀ e f w,Q e f w→Q' e f w):WP P N c Q' f w :=
 Code.wp_mono (fun e _ w ⟨f',ha,q⟩=>⟨f',ha,hq e f' w q⟩) h
theorem WP.s {x y : Code}
    (h:WP P N x (fun e f w=>match e with | .normal=>WP P N y Q f w | e=>Q e f w) f w):WP P N (.seq x y) Q f w:=by
  refine wp_seq (Code.wp_mono (fun e a w ⟨f',ha,q⟩=>?_) h);subst ha;cases e with
  | normal=>exact q
  | _=>exact ⟨f',rfl,q⟩
theorem WP.skip (h:Q .normal f w):WP P N .skip Q f w:=wp_skip ⟨f,rfl,h⟩
theorem WP.ret (h:Q .ret f w):WP P N .ret Q f w:=wp_ret ⟨f,rfl,h⟩
theorem WP.exit {id:Nat} (h:Q (.exit id) f w):WP P N (.exit id) Q f w:=wp_exit ⟨f,rfl,h⟩
theorem WP.condT {c:Operand} {x y:Code} (hc:ev N f c=.bool b) (hb:b=true) (h:WP P N x Q f w):WP P N (.cond c x y) Q f w:=by
 subst hb; exact wp_cond_true ((zJ6 N f c).trans hc) h
theorem WP.condF {c:Operand} {x y:Code} (hc:ev N f c=.bool b) (hb:b=false) (h:WP P N y Q f w):WP P N (.cond c x y) Q f w:=by
 subst hb; exact wp_cond_false ((zJ6 N f c).trans hc) h
@[reducible] def blk (id:Nat):Exit→Exit | .exit i=>bif Nat.beq i id then .normal else .exit i | e=>e
theorem WP.block {id:Nat} {c:Code} (h:WP P N c (fun e f w=>Q (blk id e) f w) f w):WP P N (.block id c) Q f w:=by
 refine wp_block (Code.wp_mono (fun e a w ⟨f',ha,q⟩=>?_) h);subst ha;cases e with
 | exit i =>
  simp only [Exit.inBlock];by_cases hi:i=id
  ·simp_all [blk]
  grind [nQ]
 | _=>exact ⟨f',rfl,q⟩
theorem WP.gz {id:Nat} (h:WL P N ops ops.toList (Q .normal) f w):WP P N (.region id ops false) Q f w:=by
 refine wp_region_list ?_;have key:∀ (l:List Oper) (a:Act) (w:World),wpList P ops (fun e a w'=>∃ f',a=act N f'∧e=.normal∧Q .normal f' w') l a w→wpList P ops (fun e a w'=>∃ f',a=act N f'∧Q e f' w') l a w:=by
  intro l
  induction l with
  | nil=>intro a w ⟨f',ha,_,q⟩; exact ⟨f',ha,q⟩
  | cons o rest ih =>
   intro a w h;unfold wpList at h ⊢;split
   ·rename_i hw
    rw [if_pos hw] at h;rcases h with h | ⟨_,a0,w0,f0,_,hc,_⟩
    ·refine .inl ?_
     unfold Oper.wp at h ⊢;generalize (execOp a.eval o).run P w=r at h ⊢;cases r with
     | ok n w' =>
      cases n with
      | enter g args =>
       exact Calls.mono h (fun e w'' he=>by
        cases e with
        | returned v=>exact ih _ _ he
        | panicked c=>grind
        | outgrown=>obtain ⟨a0,w0,f0,_,hc,_⟩:=he; cases hc)
      | row r args=>exact Rows.mono h (fun v w'' he=>ih _ _ he)
      | value v=>exact ih _ _ h
      | skip=>exact ih _ _ h
      | defer d=>exact ih _ _ h
      | _=>exact h
     | halt x w' =>
      cases x with
      | panic v=>obtain ⟨f',_,hc,_⟩:=h; cases hc
      | _=>exact h
    ·cases hc
   grind
 exact key _ _ _ h.out
theorem WL.e {Q:Fr→World→Prop} (h:Q f w):WL P N ops [] Q f w:=⟨⟨f,rfl,rfl,h⟩⟩
theorem WL.wz {Q : Fr → World → Prop} {w' : World} {v : Value}
    (hr:(execOp (ev N f) ⟨d,op,ty,pos,af,none⟩).run P w=.ok (.value v) w') (h:WL P N ops rest Q (updo f d v) w'):WL P N ops (⟨d,op,ty,pos,af,none⟩ :: rest) Q f w:=by
  refine ⟨wpList_plain rfl fun K hK=>?_⟩;unfold Oper.wp;rw [zCR,hr]
  show K ((act N f).put d v) w'
  rw [zCK];exact hK _ _ h.out
theorem WL.skipw {Q : Fr → World → Prop} {w' : World}
    (hr:(execOp (ev N f) ⟨d,op,ty,pos,af,none⟩).run P w=.ok .skip w') (h:WL P N ops rest Q (updo f d undef) w'):WL P N ops (⟨d,op,ty,pos,af,none⟩ :: rest) Q f w:=by
  refine ⟨wpList_plain rfl fun K hK=>?_⟩;unfold Oper.wp;rw [zCR,hr]
  show K ((act N f).put d undef) w'
  rw [zCK];exact hK _ _ h.out
theorem WL.enterw {Q : Fr → World → Prop} {w' : World} {k : FuncId} {args : Array Value}
    (hr:(execOp (ev N f) ⟨d,op,ty,pos,af,none⟩).run P w=.ok (.enter k args) w')
    (h:Calls P k args w' fun e w''=>∃ v,e=.returned v∧WL P N ops rest Q (updo f d v) w''):WL P N ops (⟨d,op,ty,pos,af,none⟩ :: rest) Q f w:=by
  refine ⟨wpList_plain rfl fun K hK=>?_⟩;unfold Oper.wp;rw [zCR,hr];refine Calls.mono h (fun e w'' ⟨v,he,hw⟩=>?_);subst he
  show K ((act N f).put d v) w''
  rw [zCK];exact hK _ _ hw.out
theorem zEz {j t:Nat} (hj:(ops[j]?).bind (·.dst)=some t) (hv:ev N f (.tmp t)=.bool b):yielded ops (act N f).tmps j=some b:=by
 unfold yielded;rw [hj];simp only [Option.bind_some,act,zHG];simp only [ev,zLt] at hv;by_cases h:t<N.n
 ·grind
 ·simp only [h,decide_false,cond_false] at hv; cases hv
theorem WL.yz {Q : Fr → World → Prop} {j t : Nat} {b' : Bool}
    (hj:(ops[j]?).bind (·.dst)=some t) (hv:ev N f (.tmp t)=.bool b') (hb:b'=b) (h:WL P N ops (⟨d,op,ty,pos,af,none⟩ :: rest) Q f w):WL P N ops (⟨d,op,ty,pos,af,some (j,b)⟩ :: rest) Q f w:=by
  subst hb;have hy:=zEz (N:=N) hj hv;have h:=h.out;refine ⟨?_⟩;unfold wpList at h ⊢;rw [if_pos (by simp [Region.wanted,hy])];rw [if_pos (by simp [Region.wanted])] at h;exact h
theorem WL.n {Q : Fr → World → Prop} {j t : Nat} {b' : Bool}
    (hj:(ops[j]?).bind (·.dst)=some t) (hv:ev N f (.tmp t)=.bool b') (hb:b'=!b) (h:WL P N ops rest Q (updo f d undef) w):WL P N ops (⟨d,op,ty,pos,af,some (j,b)⟩ :: rest) Q f w:=by
  subst hb;have hy:=zEz (N:=N) hj hv;have h:=h.out;refine ⟨?_⟩
  grind [wpList,Region.wanted,zCK]
def loopN {σ ρ:Type} (body:σ→Option (σ ⊕ ρ)):Nat→σ→Option ρ
 | 0,_=>none
 | n+1,s=>match body s with
  | none=>none
  | some (.inl s')=>loopN body n s'
  | some (.inr r)=>some r
theorem zNP {σ ρ:Type} (body:σ→Option (σ ⊕ ρ)):∀ (n m:Nat) (s:σ) (r:ρ),n≤m→loopN body n s=some r→loopN body m s=some r:=by
 intro n
 induction n with
 | zero=>intro m s r _ h; cases h
 | succ n ih =>
  intro m s r hm h;obtain ⟨m,rfl⟩:∃ k,m=k+1:=⟨m - 1,by omega⟩
  grind [loopN]
open Classical in
noncomputable def zOo {σ ρ:Type} (body:σ→Option (σ ⊕ ρ)) (s:σ):Option ρ :=
 if h:∃ n r,loopN body n s=some r then some (Classical.choose (Classical.choose_spec h)) else none
theorem zL4 {σ ρ:Type} {body:σ→Option (σ ⊕ ρ)} {n:Nat} {s:σ} {r:ρ} (h:loopN body n s=some r):zOo body s=some r:=by
 have hex:∃ n r,loopN body n s=some r:=⟨n,r,h⟩;unfold zOo;rw [dif_pos hex];have h2:=Classical.choose_spec (Classical.choose_spec hex);have e1:=zNP body _ _ s _ (Nat.le_max_left n (Classical.choose hex)) h
 grind [zNP,Nat.le_max_right]
theorem zPw {σ ρ:Type} {body:σ→Option (σ ⊕ ρ)} {s:σ} {r:ρ} (h:zOo body s=some r):∃ n,loopN body n s=some r:=by
 unfold zOo at h;split at h
 all_goals grind
noncomputable def zAB {σ ρ:Type} (body:σ→Option (σ ⊕ ρ)) (s:σ):Option ρ :=
 match loopN body 65536 s with
 | some r=>some r
 | none=>zOo body s
theorem zIL {σ ρ:Type} {body:σ→Option (σ ⊕ ρ)} {n:Nat} {s:σ} {r:ρ} (h:loopN body n s=some r):zAB body s=some r:=by
 unfold zAB;split
 ·rename_i r' h'
  have:=zL4 h'
  grind [zL4]
 ·exact zL4 h
theorem zHV {σ ρ:Type} {body:σ→Option (σ ⊕ ρ)} {s:σ} {r:ρ} (h:zAB body s=some r):∃ n,loopN body n s=some r:=by
 grind [zAB,zPw]
theorem zAH {σ ρ:Type} {body:σ→Option (σ ⊕ ρ)} {s s':σ} (h:body s=some (.inl s')):zAB body s=zAB body s':=by
 apply Option.ext;intro r;constructor
 ·intro hr
  obtain ⟨n,hn⟩:=zHV hr;cases n <;> grind [loopN,zIL]
 ·intro hr
  obtain ⟨n,hn⟩:=zHV hr;exact zIL (n:=n+1) (by grind [loopN])
theorem zAC {σ ρ:Type} {body:σ→Option (σ ⊕ ρ)} {s:σ} {r:ρ} (h:body s=some (.inr r)):zAB body s=some r :=
 zIL (n:=1) (by simp only [loopN,h])
theorem WP.loop {σ ρ : Type} {c : Code} {Q : Exit → Fr → World → Prop} (body : σ → Option (σ ⊕ ρ)) (I : σ → Fr → World → Prop) (s : σ) (r : ρ) (hw : zAB body s = some r) {f : Fr} {w : World} (hI : I s f w)
    (h:∀ s f w,I s f w→∀ y,body s=some y→(match y with | .inr r'=>r'=r | .inl _=>True) →
      WP P N c (fun e f' w'=>match y with | .inl s'=>e=.normal∧I s' f' w' | .inr _=>Exit.then (fun _ _=>False) (fun e _ _=>Q e f' w') e (act N f') w') f w) :
    WP P N (.loop c) Q f w:=by
  obtain ⟨n,hn⟩:=zHV hw;refine wp_loop_rounds n ?_
  induction n generalizing s f w with
  | zero=>cases hn
  | succ n ih =>
    rw [rounds_succ];simp only [loopN] at hn;cases hb:body s with
    | none=>grind
    | some y =>
      rw [hb] at hn;cases y with
      | inl s' =>
        refine Code.wp_mono (fun e a w' ⟨f',ha,he,hI'⟩=>?_) (h s f w hI _ hb trivial);subst ha; subst he;exact ih s' (zIL hn) hI' hn
      | inr r' =>
        have hr:r'=r:=by simpa using hn
        refine Code.wp_mono (fun e a w' ⟨f',ha,hq⟩=>?_) (h s f w hI _ hb hr);subst ha;cases e with
        | normal=>exact hq.elim
        | _=>exact ⟨f',rfl,hq⟩
end
end Go.Eng
namespace Go.Eng
open Go
abbrev Str:=List UInt8
def str (l:Str):Value:=.string ⟨⟨l⟩⟩
def int (n:Int):Value:=.int .i64 n
def byt (c:UInt8):Value:=.int .u8 (c.toNat:Int)
def boo (b:Bool):Value:=.bool b
def agg (l:List Value):Value:=.agg ⟨l⟩
def ptr (b o:Nat):Value:=.pointer (some ⟨b,o,none⟩)
abbrev Hp:=Nat→Option (TypeId×List Value)
def Hp.le (H H':Hp):Prop:=∀ b T l,H b=some (T,l)→∃ l',H' b=some (T,l++l')
theorem Hp.le.refl (H:Hp):H.le H:=fun _ _ _ h=>⟨[],by simpa using h⟩
theorem Hp.le.trans {A B C:Hp} (h:A.le B) (k:B.le C):A.le C:=fun b T l hl=>by
 obtain ⟨l',h'⟩:=h b T l hl;obtain ⟨l'',h''⟩:=k b T _ h'
 grind
def Holds (w:World) (H:Hp):Prop:=∀ b T l,H b=some (T,l)→∃ cs fz,w.heap[b]?=some (.cells cs T fz)∧∃ r,cs.toList=l++r
variable {H:Hp} {cs:List Value} {w:World}
theorem Holds.none_of_size (h:Holds w H) {b:Nat} (hb:w.heap.size≤b):H b=none:=by
 cases hh:H b with
 | none=>rfl
 | some x =>
  obtain ⟨T,l⟩:=x;obtain ⟨cs,fz,hc,_⟩:=h b T l hh
  grind
def At (H:Hp) (a:Addr) (cs:List Value):Prop:=∃ T l,a.spot=none∧H a.block=some (T,l)∧∃ r,l.drop a.off=cs++r
theorem At.mono {H':Hp} {a:Addr} (h:At H a cs) (hl:H.le H') (hcs:cs≠[]):At H' a cs:=by
 obtain ⟨T,l,hs,hH,r,hr⟩:=h;obtain ⟨l',h'⟩:=hl _ _ _ hH;refine ⟨T,_,hs,h',r++l',?_⟩;have hlt:a.off≤l.length:=by
  by_cases h:a.off≤l.length
  ·exact h
  ·rw [List.drop_eq_nil_of_le om] at hr
   cases cs <;> grind
 grind
theorem At.cell {a:Addr} (h:At H a cs) (hw:Holds w H) {j:Nat} {v:Value} (hv:cs[j]?=some v):w.cell? (a.add j)=some v:=by
 obtain ⟨T,l,hs,hH,r,hr⟩:=h;obtain ⟨arr,fz,hc,r',hr'⟩:=hw _ _ _ hH;have e:a.add j=⟨a.block,a.off+j,none⟩:=by
  unfold Addr.add;split
  ·rename_i h0; subst h0; cases a; grind
  ·cases a; rfl
 rw [e,cell_of_row w a.block (a.off+j) arr T fz hc,← Array.getElem?_toList,hr'];have h1:l[a.off+j]?=some v:=by
  rw [← List.getElem?_drop,hr,List.getElem?_append_left (List.getElem?_eq_some_iff.1 hv).1]; exact hv
 grind
theorem At.add {a:Addr} (h:At H a cs) (n:Nat) (hn:n<cs.length):At H (a.add n) (cs.drop n):=by
 obtain ⟨T,l,hs,hH,r,hr⟩:=h;have e:a.add n=⟨a.block,a.off+n,none⟩:=by
  unfold Addr.add;split
  ·rename_i h0; subst h0; cases a; grind
  ·cases a; rfl
 rw [e];refine ⟨T,l,rfl,hH,r,?_⟩
 show l.drop (a.off+n)=_
 rw [← List.drop_drop,hr,List.drop_append_of_le_length om]
inductive Ent where
 | box (b:Nat) (T:TypeId) (cs:List Value)
 | row (v:Value) (T:TypeId) (sz n:Nat)
 | mp (b:Nat) (kvs:List (Value×Value))
 | obj (b:Nat) (o:Obj)
def Ent.blk:Ent→Option Nat
 | .box b _ _=>some b
 | .mp b _=>some b
 | .obj b _=>some b
 | .row v _ _ _=>v.ownBlock
def BoxOk (w:World) (H:Hp) (b:Nat) (T:TypeId) (cs:List Value):Prop :=
 H b=none∧∃ arr fz,w.heap[b]?=some (.cells arr T fz)∧(∃ r,arr.toList=cs++r)∧∀ i,i<cs.length→¬ (fz.1≤i∧i<fz.2)
def RowOk (w:World) (H:Hp) (v:Value) (T:TypeId) (sz n:Nat):Prop :=
 (v=.slice none 0 0∧n=0)∨∃ g cap cur,v=.slice (some ⟨g,0,none⟩) n cap∧w.heap[g]?=some (.cells cur T (0,0))∧n≤cap∧cap≤maxLen∧cur.size=cap*sz∧H g=some (T,cur.toList.take (n*sz))
def MpOk (w:World) (H:Hp) (b:Nat) (kvs:List (Value×Value)):Prop :=
 H b=none∧∃ es clock,w.heap[b]?=some (.map es clock)∧es.toList.map (fun e=>(e.key,e.val))=kvs
def ObjOk (w:World) (H:Hp) (b:Nat) (o:Obj):Prop:=H b=none∧w.heap[b]?=some o
def Ent.ok (w:World) (H:Hp):Ent→Prop
 | .box b T cs=>BoxOk w H b T cs
 | .mp b kvs=>MpOk w H b kvs
 | .obj b o=>ObjOk w H b o
 | .row v T sz n=>RowOk w H v T sz n
theorem Ent.ok_lt {e:Ent} (h:e.ok w H) {b:Nat} (hb:e.blk=some b):b<w.heap.size:=by
 cases e with
 | box b' T cs =>
  obtain ⟨_,arr,fz,hc,_⟩:=(show BoxOk w H b' T cs from h);simp [Ent.blk] at hb; grind
 | mp b' kvs =>
  obtain ⟨_,es,cl,hc,_⟩:=(show MpOk w H b' kvs from h);simp [Ent.blk] at hb; grind
 | obj b' o =>
  obtain ⟨_,hc⟩:=(show ObjOk w H b' o from h);simp [Ent.blk] at hb; grind
 | row v T sz n =>
  rcases (show RowOk w H v T sz n from h) with ⟨rfl,_⟩ | ⟨g,cap,cur,rfl,hc,_⟩
  all_goals grind [Ent.blk,Value.ownBlock]
theorem Ent.ok_keep {w':World} {H':Hp} {e:Ent} (h:e.ok w H) (hk:∀ b,e.blk=some b→w'.heap[b]?=w.heap[b]?∧H' b=H b):e.ok w' H':=by
 cases e with
 | box b T cs =>
  obtain ⟨h1,h2⟩:=hk b rfl
  show BoxOk w' H' b T cs
  have h':BoxOk w H b T cs:=h
  grind [BoxOk]
 | mp b kvs =>
  obtain ⟨h1,h2⟩:=hk b rfl
  show MpOk w' H' b kvs
  have h':MpOk w H b kvs:=h
  grind [MpOk]
 | obj b o =>
  obtain ⟨h1,h2⟩:=hk b rfl
  show ObjOk w' H' b o
  have h':ObjOk w H b o:=h
  grind [ObjOk]
 | row v T sz n =>
  have h0:RowOk w H v T sz n:=h;rcases h0 with h0 | ⟨g,cap,cur,rfl,h0⟩
  ·exact .inl h0
  ·obtain ⟨h1,h2⟩:=hk g rfl
   refine .inr ⟨g,cap,cur,rfl,?_⟩
   grind
structure Post (w0:World) (H0:Hp) (w:World) (H:Hp):Prop where
 below:RowKit.Below w0.heap.size w0 w
 le:H0.le H
 eqb:∀ b,b<w0.heap.size→H b=H0 b
 holds:Holds w H
structure St (w0:World) (H0:Hp) (w:World) (H:Hp) (L:List Ent):Prop where
 post:Post w0 H0 w H
 ents:∀ e ∈ L,e.ok w H
 own:∀ e ∈ L,∀ b,e.blk=some b→w0.heap.size≤b
 nodup:(L.filterMap Ent.blk).Nodup
section
variable {w0 w w':World} {H0 H H':Hp} {L:List Ent}
theorem St.start (h:Holds w H):St w H w H []:=⟨⟨RowKit.Below.refl _ _,Hp.le.refl _,fun _ _=>rfl,h⟩,sI,sI,sI⟩
theorem St.holds (S:St w0 H0 w H L):Holds w H:=S.post.holds
theorem St.lt (S:St w0 H0 w H L) {b:Nat} (hb:b ∈ L.filterMap Ent.blk):b<w.heap.size:=by
 obtain ⟨e,he,hb⟩:=List.mem_filterMap.1 hb;exact Ent.ok_lt (S.ents e he) hb
theorem Post.trans {w1:World} {H1:Hp} (p:Post w0 H0 w1 H1) (q:Post w1 H1 w H):Post w0 H0 w H :=
 ⟨p.below.trans (q.below.mono p.below.size),p.le.trans q.le,fun b hb=>(q.eqb b (Nat.lt_of_lt_of_le hb p.below.size)).trans (p.eqb b hb),q.holds⟩
theorem St.call (S:St w0 H0 w H L) (p:Post w H w' H'):St w0 H0 w' H' L :=
 ⟨S.post.trans p,fun e he=>Ent.ok_keep (S.ents e he) fun b hb=>⟨p.below.block b (Ent.ok_lt (S.ents e he) hb),p.eqb b (Ent.ok_lt (S.ents e he) hb)⟩,S.own,S.nodup⟩
theorem St.box (S : St w0 H0 w H L) (T : TypeId) (arr : Array Value) (fz : Nat × Nat) (cs r : List Value) (hr : arr.toList = cs ++ r) (hf : ∀ i, i < cs.length → ¬ (fz.1 ≤ i ∧ i < fz.2)) :
  St w0 H0 (w.alloc (.cells arr T fz)) H (.box w.heap.size T cs :: L):=by
 have hsz:w0.heap.size≤w.heap.size:=S.post.below.size;have hold:∀ i,i<w.heap.size→(w.alloc (.cells arr T fz)).heap[i]?=w.heap[i]?:=fun i hi=>RowKit.Below.heap_alloc w _ i hi
 have hH:H w.heap.size=none:=S.holds.none_of_size (nR _);refine ⟨⟨S.post.below.alloc hsz _,S.post.le,S.post.eqb,fun b T' l hb=>?_⟩,?_,?_,?_⟩
 ·obtain ⟨cs',fz',hc,hr'⟩:=S.holds b T' l hb
  grind
 ·intro e he
  rcases List.mem_cons.1 he with rfl | he
  ·exact ⟨hH,arr,fz,heap_alloc_new w _,⟨r,hr⟩,hf⟩
  ·exact Ent.ok_keep (S.ents e he) fun b hb=>⟨hold b (Ent.ok_lt (S.ents e he) hb),rfl⟩
 ·intro e he b hb
  rcases List.mem_cons.1 he with rfl | he
  ·simp [Ent.blk] at hb; omega
  ·exact S.own e he b hb
 ·have:(Ent.box w.heap.size T cs).blk=some w.heap.size:=rfl
  rw [List.filterMap_cons,this];exact List.nodup_cons.2 ⟨fun hm=>Nat.lt_irrefl _ (S.lt hm),S.nodup⟩
theorem St.drop (S:St w0 H0 w H L) (L':List Ent) (h:L'.Sublist L):St w0 H0 w H L' :=
 ⟨S.post,fun e he=>S.ents e (h.subset he),fun e he=>S.own e (h.subset he),S.nodup.sublist (h.filterMap _)⟩
theorem St.drew (S:St w0 H0 w H L):St w0 H0 w.drew H L :=
 ⟨⟨S.post.below.drew,S.post.le,S.post.eqb,S.post.holds⟩,fun e he=>Ent.ok_keep (S.ents e he) fun _ _=>⟨rfl,rfl⟩,S.own,S.nodup⟩
theorem St.blk_ne (S:St w0 H0 w H L) {i j:Nat} {e e':Ent} {b b':Nat} (hi:L[i]?=some e) (hj:L[j]?=some e') (hb:e.blk=some b) (hb':e'.blk=some b') (hij:i≠j):b≠b':=by
 have key:∀ (L:List Ent),(L.filterMap Ent.blk).Nodup→∀ (i j:Nat),L[i]?=some e→L[j]?=some e'→i≠j→b≠b':=by
  intro L
  induction L <;> grind
 exact key L S.nodup i j hi hj hij
theorem zDS {L:List Ent} {i:Nat} {e e':Ent} (hi:L[i]?=some e) (hb:e'.blk=e.blk):(L.set i e').filterMap Ent.blk=L.filterMap Ent.blk:=by
 induction L generalizing i with
 | nil=>rfl
 | cons x L ih =>
  cases i <;> grind
def zEH (cs:List Value) (o:Nat) (vs:List Value):List Value:=cs.take o++vs++cs.drop (o+vs.length)
theorem St.stored (S : St w0 H0 w H L) {i b : Nat} {T : TypeId} {cs cs' : List Value} (hi : L[i]? = some (.box b T cs)) (hlen : cs'.length = cs.length)
    (hoth:∀ k,k≠b→w'.heap[k]?=w.heap[k]?) (hsz:w'.heap.size=w.heap.size) (hos:w'.os=w.os∧w'.tape=w.tape∧w'.output=w.output)
    (hb:∀ arr fz r,w.heap[b]?=some (.cells arr T fz)→arr.toList=cs++r→∃ arr',w'.heap[b]?=some (.cells arr' T fz)∧arr'.toList=cs'++r):St w0 H0 w' H (L.set i (.box b T cs')):=by
  have hmem:=lG hi;obtain ⟨hH,arr,fz,hc,⟨r,hr⟩,hf⟩:=(show BoxOk w H b T cs from S.ents _ hmem);obtain ⟨arr',hc',hr'⟩:=hb arr fz r hc hr;have hown:w0.heap.size≤b:=S.own _ hmem b rfl;refine ⟨⟨S.post.below.trans ⟨hos.1,hos.2.1,hos.2.2,om,fun k hk=>hoth k om⟩,S.post.le,S.post.eqb,?_⟩,?_,?_,?_⟩
  · intro k T' l hk
    have hne:k≠b:=fun h=>by grind
    rw [hoth k hne]; exact S.holds k T' l hk
  · intro e he
    obtain ⟨j,hj⟩:=lI.1 he;by_cases hij:i=j
    · subst hij
      have hlt:=(List.getElem?_eq_some_iff.1 hi).1;rw [List.getElem?_set_self hlt] at hj;simp at hj; subst hj;exact ⟨hH,arr',fz,hc',⟨r,hr'⟩,gR⟩
    · rw [List.getElem?_set_ne hij] at hj
      refine Ent.ok_keep (S.ents e (lG hj)) fun k hk=>⟨hoth k ?_,rfl⟩
      exact S.blk_ne hj hi hk rfl (Ne.symm hij)
  · intro e he k hk
    obtain ⟨j,hj⟩:=lI.1 he;by_cases hij:i=j
    · grind [Ent.blk]
    · rw [List.getElem?_set_ne hij] at hj
      exact S.own e (lG hj) k hk
  · rw [zDS (e':=.box b T cs') hi rfl]; exact S.nodup
theorem St.settle (S : St w0 H0 w H L) {i b : Nat} {T : TypeId} {cs : List Value} (hi : L[i]? = some (.box b T cs)) :
  ∃ H',H.le H'∧H' b=some (T,cs)∧(∀ k,k≠b→H' k=H k)∧St w0 H0 w H' (L.eraseIdx i):=by
 have hmem:=lG hi;obtain ⟨hH,arr,fz,hc,⟨r,hr⟩,hf⟩:=(show BoxOk w H b T cs from S.ents _ hmem);have hown:w0.heap.size≤b:=S.own _ hmem b rfl;refine ⟨fun k=>if k=b then some (T,cs) else H k,?_,sI,fun k hk=>by simp [hk],?_⟩
 ·intro k T' l hk
  by_cases h:k=b
  all_goals simp_all
 ·have hle : H.le (fun k => if k = b then some (T, cs) else H k) := by
   intro k T' l hk;by_cases h:k=b
   all_goals simp_all
  refine ⟨⟨S.post.below,S.post.le.trans hle,fun k hk=>?_,?_⟩,?_,?_,?_⟩
  ·show (if k=b then some (T,cs) else H k)=H0 k
   rw [if_neg om]; exact S.post.eqb k hk
  ·intro k T' l hk
   by_cases h:k=b
   ·grind
   ·simp [h] at hk; exact S.holds k T' l hk
  ·intro e he
   obtain ⟨j,hj⟩:=lI.1 he;rw [List.getElem?_eraseIdx] at hj;split at hj
   ·rename_i hlt
    refine Ent.ok_keep (S.ents e (lG hj)) fun k hk=>⟨rfl,?_⟩
    exact if_neg (S.blk_ne hj hi hk rfl om)
   ·rename_i hlt
    refine Ent.ok_keep (S.ents e (lG hj)) fun k hk=>⟨rfl,?_⟩
    exact if_neg (S.blk_ne hj hi hk rfl om)
  ·exact fun e he=>S.own e ((List.eraseIdx_sublist _ _).subset he)
  ·exact S.nodup.sublist ((List.eraseIdx_sublist _ _).filterMap _)
end
def lay (P:Program) (T:TypeId):Option (Bool×Nat) :=
 match P.underlying T,P.info? T with
 | some (.struct _),some i=>some (true,i.size)
 | some (.array _ _),some i=>some (true,i.size)
 | some _,some i=>some (false,i.size)
 | _,_=>none
section
variable {P:Program} {N:Frm} {f:Fr} {w:World}
theorem zDF {T:TypeId} {b:Bool} {n:Nat} (h:lay P T=some (b,n)):(isAgg T).run P w=.ok b w∧(sizeOf T).run P w=.ok n w:=by
 unfold lay at h;split at h <;> simp_all [isAgg,sizeOf,typeInfo,run_underlying]
end
end Go.Eng
namespace Go.Eng
open Go
class Enc (α:Type) where
 sz:Nat
 cells:Hp→List Value→α→Prop
 pos:0<sz
 len:∀ {H cs x},cells H cs x→cs.length=sz
 mono:∀ {H H' cs x},cells H cs x→H.le H'→cells H' cs x
 one:∀ {H cs x},cells H cs x→∀ v ∈ cs,v.oneCell'=true
def Cells {α:Type} [Enc α] (H:Hp):List Value→List α→Prop
 | l,[]=>l=[]
 | l,x :: xs=>∃ cs r,l=cs++r∧Enc.cells H cs x∧Cells H r xs
section
variable {α:Type} [Enc α] {H H':Hp}
theorem Cells.mono:∀ {xs:List α} {l:List Value},Cells H l xs→H.le H'→Cells H' l xs
 | [],_,h,_=>h
 | _ :: _,_,⟨cs,r,e,hc,hr⟩,hl=>⟨cs,r,e,Enc.mono hc hl,Cells.mono hr hl⟩
theorem Cells.length:∀ {xs:List α} {l:List Value},Cells H l xs→l.length=xs.length*Enc.sz α
 | [],_,h=>by rw [show _=[] from h]; simp
 | x :: xs,_,⟨cs,r,e,hc,hr⟩=>by rw [e,lA,Enc.len hc,Cells.length hr,lC,Nat.succ_mul,Nat.add_comm]
theorem Cells.append:∀ {xs ys:List α} {l k:List Value},Cells H l xs→Cells H k ys→Cells H (l++k) (xs++ys)
 | [],_,_,_,h,h'=>by rw [show _=[] from h]; exact h'
 | _ :: _,_,_,_,⟨cs,r,e,hc,hr⟩,h'=>⟨cs,r++_,gR,hc,Cells.append hr h'⟩
theorem Cells.one:∀ {xs:List α} {l:List Value},Cells H l xs→∀ v ∈ l,v.oneCell'=true
 | [],_,h,v,hv=>by rw [show _=[] from h] at hv; cases hv
 | _ :: _,_,⟨cs,r,e,hc,hr⟩,v,hv=>by
  rw [e] at hv;rcases List.mem_append.1 hv with hv | hv
  ·exact Enc.one hc v hv
  ·exact Cells.one hr v hv
theorem Cells.drop:∀ {xs:List α} {l:List Value} (n:Nat),Cells H l xs→n≤xs.length→Cells H (l.drop (n*Enc.sz α)) (xs.drop n)
 | _,_,0,h,_=>by simpa using h
 | [],_,_+1,_,hn=>absurd hn sI
 | _ :: xs,_,n+1,⟨cs,r,e,hc,hr⟩,hn=>by
  have:=Cells.drop n hr (by simpa using hn)
  grind [Enc.len,List.drop_left,Nat.succ_mul,List.drop_drop]
theorem Cells.take:∀ {xs:List α} {l:List Value} (n:Nat),Cells H l xs→n≤xs.length→Cells H (l.take (n*Enc.sz α)) (xs.take n)
 | _,_,0,_,_=>by simp [Cells]
 | [],_,_+1,_,hn=>absurd hn sI
 | _ :: xs,_,n+1,⟨cs,r,e,hc,hr⟩,hn=>by
  have:=Cells.take n hr (by simpa using hn);refine ⟨cs,_,?_,hc,this⟩
  grind [Nat.succ_mul,Enc.len]
theorem Cells.get {xs:List α} {l:List Value} (h:Cells H l xs) {i:Nat} {x:α} (hx:xs[i]?=some x):∃ cs r,l.drop (i*Enc.sz α)=cs++r∧Enc.cells H cs x:=by
 obtain ⟨hi,rfl⟩:=List.getElem?_eq_some_iff.1 hx;have:=Cells.drop i h om;rw [lD hi] at this;obtain ⟨cs,r,e,hc,_⟩:=this
 grind
def Sl (H:Hp) (v:Value) (xs:List α):Prop :=
 ∃ a c,v=.slice a xs.length c∧xs.length≤c∧c≤maxLen∧(xs=[]∨∃ b off cs,a=some ⟨b,off,none⟩∧At H ⟨b,off,none⟩ cs∧Cells H cs xs)
theorem Sl.mono {v:Value} {xs:List α} (h:Sl H v xs) (hl:H.le H'):Sl H' v xs:=by
 obtain ⟨a,c,hv,h1,h2,h3⟩:=h;refine ⟨a,c,hv,h1,h2,?_⟩;rcases h3 with h3 | ⟨b,off,cs,ha,hat,hc⟩
 ·exact .inl h3
 ·by_cases hx:xs=[]
  ·exact .inl hx
  ·refine .inr ⟨b,off,cs,ha,hat.mono hl ?_,hc.mono hl⟩
   intro h0;have:=hc.length;rw [h0] at this;cases xs <;> grind [Nat.succ_mul,Enc.pos]
theorem Sl.nil:Sl H (.slice none 0 0) ([]:List α):=⟨none,0,rfl,nR _,by simp [maxLen],.inl rfl⟩
end
def xnth {α:Type} (xs:List α) (i:Int):Option α:=if 0≤i then xs[i.toNat]? else none
def xsub {α:Type} (xs:List α) (i j:Int):Option (List α):=if 0≤i∧i≤j∧j≤xs.length then some ((xs.take j.toNat).drop i.toNat) else none
def big:Nat:=274877906944
def xapp {α:Type} (xs ys:List α):Option (List α):=if xs.length+ys.length≤big then some (xs++ys) else none
structure Elem (P:Program) (T e:TypeId) (sz:Nat):Prop where
 ht:P.underlying T=some (.slice e)
 hi:∃ i z,P.info? e=some i∧i.zero=some z∧i.size=sz∧z.cells.size=sz∧i.bytes≤512
section
variable {α:Type} [Enc α] {P:Program} {w0 w:World} {H0 H:Hp} {L:List Ent}
theorem St.addNil (S:St w0 H0 w H L) (T:TypeId) (sz:Nat):St w0 H0 w H (.row (.slice none 0 0) T sz 0 :: L):=by
 refine ⟨S.post,?_,?_,?_⟩
 ·intro e he
  rcases List.mem_cons.1 he with rfl | he
  ·exact .inl ⟨rfl,rfl⟩
  ·exact S.ents e he
 ·intro e he b hb
  rcases List.mem_cons.1 he with rfl | he
  ·simp [Ent.blk,Value.ownBlock] at hb
  ·exact S.own e he b hb
 ·have:(Ent.row (.slice none 0 0) T sz 0).blk=none:=rfl
  rw [List.filterMap_cons,this];exact S.nodup
theorem Sl.news {v : Value} {ys : List α} (h : Sl H v ys) (hw : Holds w H) (hne : ys ≠ []) :
  ∃ a c cs,v=.slice (some a) ys.length c∧cs.length=ys.length*Enc.sz α∧(∀ j u,cs[j]?=some u→w.cell? (a.add j)=some u)∧Cells H cs ys:=by
 obtain ⟨a,c,hv,h1,h2,h3⟩:=h;rcases h3 with h3 | ⟨b,off,cs,ha,hat,hc⟩
 ·grind
 ·exact ⟨⟨b,off,none⟩,c,cs,by rw [hv,ha],hc.length,fun j u hu=>hat.cell hw hu,hc⟩
theorem zH4 (t ty e : TypeId) (sz : Nat) (hE : Elem P t e sz) (a : Option Addr) (n cap : Nat) (hn : n ≤ cap) (x : Option Addr) (c : Nat) :
  (Builtin.append_ #[t,t] ty #[.slice a n cap,.slice x 0 c]).run P w=.ok (.slice a n cap) w:=by
 obtain ⟨ht,i,z,hi,_⟩:=hE;have h0:∀ (x:Option Addr),(Builtin.firstCells i.size 0 (.slice x 0 c)).run P w=.ok #[] w:=by
  intro x;cases x <;> simp [Builtin.firstCells,loadCells,loadCellsFrom]
 cases a with
 | none=>simp [Builtin.append_,run_underlying ht,sizeOf,typeInfo,hi,Builtin.lenOf,h0,hn]
 | some a=>simp [Builtin.append_,run_underlying ht,sizeOf,typeInfo,hi,Builtin.lenOf,h0,hn,storeCells]
theorem St.append (S : St w0 H0 w H L) {i : Nat} {t ty e : TypeId} {v u : Value} {xs ys zs : List α} (hE : Elem P t e (Enc.sz α)) (hi : L[i]? = some (.row v e (Enc.sz α) xs.length))
    (hx:Sl H v xs) (hy:Sl H u ys) (hz:xapp xs ys=some zs) :
    ∃ v' w' H',(Builtin.append_ #[t,t] ty #[v,u]).run P w=.ok v' w'∧H.le H'∧Sl H' v' zs∧St w0 H0 w' H' (L.set i (.row v' e (Enc.sz α) zs.length)):=by
  have hsz:=Enc.pos (α:=α);unfold xapp at hz;split at hz
  case isFalse=>cases hz
  rename_i hbig;simp only [oI] at hz;subst hz;by_cases hne:ys=[]
  · subst hne
    obtain ⟨a,c,rfl,h1,h2,h3⟩:=hx;obtain ⟨a',c',rfl,_⟩:=hy;refine ⟨_,w,H,zH4 t ty e _ hE a xs.length c h1 a' c',Hp.le.refl _,?_,?_⟩
    · rw [List.append_nil]; exact ⟨a,c,rfl,h1,h2,h3⟩
    · rw [List.append_nil]
      have:L.set i (.row (.slice a xs.length c) e (Enc.sz α) xs.length)=L:=by
        have hlt:=(List.getElem?_eq_some_iff.1 hi).1;exact List.ext_getElem? fun j=>by
          grind
      rw [this]; exact S
  obtain ⟨ad,c',ysC,rfl,hyl,hyc,hyC⟩:=hy.news S.holds hne;have hE':=hE;obtain ⟨ht,inf,z,hinf,hzz,hsize,hzs,hbytes⟩:=hE';have hmem:=lG hi;have hrow:RowOk w H v e (Enc.sz α) xs.length:=S.ents _ hmem;have hm:0<ys.length:=List.length_pos_iff.2 hne;have hb2:(xs.length+ys.length)*inf.bytes≤140737488355328:=by
    have h1:=Nat.mul_le_mul hbig hbytes
    grind [big]
  have h63:xs.length+ys.length≤maxLen:=nT hbig (by simp [big,maxLen]);have h63':((xs.length+ys.length:Nat):Int)≤9223372036854775807:=by grind [maxLen]
  have hlen:(xs++ys).length=xs.length+ys.length:=lA;obtain ⟨xsC,hxC,hxcell,hxl⟩:∃ xsC,Cells H xsC xs∧(∀ g n cap,v=.slice (some ⟨g,0,none⟩) n cap→H g=some (e,xsC)∧∀ j u,xsC[j]?=some u→w.cell? ((⟨g,0,none⟩:Addr).add j)=some u)∧xsC.length=xs.length*Enc.sz α:=by
    rcases hrow with ⟨rfl,h0⟩ | ⟨g,cap,cur,rfl,hg,hnc,hcm,hcs,hHg⟩
    · have:xs=[]:=List.eq_nil_of_length_eq_zero h0
      subst this;exact ⟨[],rfl,(fun g n cap h=>by cases h),sI⟩
    · by_cases hxe:xs=[]
      · subst hxe
        refine ⟨[],rfl,(fun g' n cap' h=>?_),sI⟩;simp_all
      · obtain ⟨a,c,hv,_,_,h3⟩:=hx
        rcases h3 with h3 | ⟨b,off,cs,ha,hat,hc⟩
        · grind
        subst ha;simp only [Value.slice.injEq,oI,Addr.mk.injEq] at hv;obtain ⟨⟨rfl,rfl,_⟩,_,rfl⟩:=hv;have hat':=hat;obtain ⟨T',l,_,hHl,r,hr⟩:=hat;have hTl:T'=e∧l=cur.toList.take (xs.length*Enc.sz α):=by
          grind
        have hcsl:=hc.length;have hr0:r=[]:=by
          have h1:(l.drop 0).length=(cs++r).length:=congrArg List.length hr;rw [hTl.2] at h1;simp only [List.drop_zero,List.length_take,Array.length_toList,lA,hcs,hcsl] at h1
          grind
        have hlcs:l=cs:=by grind
        refine ⟨cs,hc,(fun g' n cap' h=>?_),hcsl⟩;simp only [Value.slice.injEq,oI,Addr.mk.injEq] at h;obtain ⟨⟨rfl,_⟩,_⟩:=h;exact ⟨gR,fun j u hu=>hat'.cell S.holds hu⟩
  have hxyC:Cells H (xsC++ysC) (xs++ys):=hxC.append hyC;have hxylen:(xsC++ysC).length=(xs.length+ys.length)*Enc.sz α:=by grind
  have grown : ∀ (old : Nat), old < xs.length + ys.length →
      ∃ H',H.le H'∧Sl H' (.slice (some ⟨w.heap.size,0,none⟩) (xs.length+ys.length) (grownCap w (xs.length+ys.length) old e)) (xs++ys) ∧
        St w0 H0 (w.drew.alloc (.cells (xsC.toArray++ysC.toArray++Builtin.zeroCells z.cells (grownCap w (xs.length+ys.length) old e - (xs.length+ys.length))) e)) H'
          (L.set i (.row (.slice (some ⟨w.heap.size,0,none⟩) (xs.length+ys.length) (grownCap w (xs.length+ys.length) old e)) e (Enc.sz α) (xs++ys).length)):=by
    intro old hold;have hge:=grownCap_ge w (xs.length+ys.length) old e;have hcm:grownCap w (xs.length+ys.length) old e≤maxLen:=grownCap_le_maxLen w (xs.length+ys.length) old e h63;generalize grownCap w (xs.length+ys.length) old e=cap at *
    have S1:=S.drew.box e (xsC.toArray++ysC.toArray++Builtin.zeroCells z.cells (cap - (xs.length+ys.length))) (0,0) (xsC++ysC) (Builtin.zeroCells z.cells (cap - (xs.length+ys.length))).toList sI om;obtain ⟨H',hle,hHn,hHo,S2⟩:=S1.settle (i:=0) rfl;simp only [List.eraseIdx_cons_zero] at S2;refine ⟨H',hle,⟨some ⟨w.heap.size,0,none⟩,cap,by rw [hlen],om,hcm,.inr ⟨w.heap.size,0,_,rfl,⟨e,_,rfl,hHn,[],sI⟩,hxyC.mono hle⟩⟩,?_⟩;have hlt:i<L.length:=(List.getElem?_eq_some_iff.1 hi).1;refine ⟨S2.post,?_,?_,?_⟩
    · intro x hxm
      obtain ⟨j,hj⟩:=lI.1 hxm;by_cases hij:i=j
      · subst hij
        rw [List.getElem?_set_self hlt] at hj;simp at hj; subst hj;refine .inr ⟨w.heap.size,cap,_,rfl,heap_alloc_new w.drew _,hge,hcm,?_,?_⟩
        · simp only [Array.size_append,List.size_toArray,size_zeroCells,hzs,hxl,hyl,← Nat.add_mul] <;> grind
        · rw [show H' w.heap.size=some (e,xsC++ysC) from hHn,← hxylen]
          grind
      · rw [List.getElem?_set_ne hij] at hj
        exact S2.ents x (lG hj)
    · intro x hxm b hb
      obtain ⟨j,hj⟩:=lI.1 hxm;by_cases hij:i=j
      · subst hij
        rw [List.getElem?_set_self hlt] at hj;simp at hj; subst hj;simp [Ent.blk,Value.ownBlock] at hb;subst hb;exact S.post.below.size
      · rw [List.getElem?_set_ne hij] at hj
        exact S2.own x (lG hj) b hb
    · -- the new block is no other's
      have hall:∀ b ∈ L.filterMap Ent.blk,b<w.heap.size:=fun b hb=>S.lt hb
      have key : ∀ (K : List Ent) (i : Nat) (v' : Value) (m : Nat), (K.filterMap Ent.blk).Nodup → (∀ b ∈ K.filterMap Ent.blk, b < w.heap.size) → v'.ownBlock = some w.heap.size →
          ((K.set i (.row v' e (Enc.sz α) m)).filterMap Ent.blk).Nodup∧∀ b ∈ (K.set i (.row v' e (Enc.sz α) m)).filterMap Ent.blk,b<w.heap.size∨b=w.heap.size:=by
        intro K
        induction K with
        | nil=>grind
        | cons x K ih =>
          intro i v' m h1 h2 h3;have h1':(K.filterMap Ent.blk).Nodup:=by
            grind
          have h2':∀ b ∈ K.filterMap Ent.blk,b<w.heap.size:=by
            grind
          cases i <;> grind [Ent.blk]
      exact (key L i _ _ S.nodup hall rfl).1
  rcases hrow with ⟨rfl,h0⟩ | ⟨g,cap,cur,rfl,hg,hnc,hcm,hcs,hHg⟩
  · grind [run_append_nil]
  · obtain ⟨hHx,hcell⟩:=hxcell g _ cap rfl
    by_cases hroom:xs.length+ys.length≤cap
    · have hfit:xs.length*inf.size+ysC.length≤cur.size:=by rw [hyl,hcs,hsize,← Nat.add_mul]; exact Nat.mul_le_mul_right _ hroom
      have hr:=run_append_room (P:=P) w t ty e inf ht hinf g xs.length cap cur hg ad ys.length c' ysC gR hyc (hyC.one) hroom hfit;have htake:cur.toList.take (xs.length*Enc.sz α)=xsC:=by grind
      rw [hsize,htake] at hr;have hgown:w0.heap.size≤g:=S.own _ hmem g rfl;have hle:H.le (fun k=>if k=g then some (e,xsC++ysC) else H k):=by
        intro k T' l hk;by_cases h:k=g
        all_goals simp_all
      refine ⟨_,_,fun k=>if k=g then some (e,xsC++ysC) else H k,hr,hle,?_,?_⟩
      · exact ⟨some ⟨g,0,none⟩,cap,by rw [hlen],om,hcm,.inr ⟨g,0,xsC++ysC,rfl,⟨e,_,rfl,if_pos rfl,[],sI⟩,hxyC.mono hle⟩⟩
      · have hlt:i<L.length:=(List.getElem?_eq_some_iff.1 hi).1
        have hnew:(w.setRow g (xsC++ysC++cur.toList.drop (xs.length*Enc.sz α+ysC.length)).toArray).heap[g]?=some (.cells (xsC++ysC++cur.toList.drop (xs.length*Enc.sz α+ysC.length)).toArray e (0,0)):=setRow_heap w g cur _ e _ hg;refine ⟨⟨S.post.below.trans ⟨rfl,rfl,rfl,sI,fun k hk=>setRow_other w g k _ om⟩,S.post.le.trans hle,fun b hb=>?_,?_⟩,?_,?_,?_⟩
        · show (if b=g then _ else H b)=_
          rw [if_neg om]; exact S.post.eqb b hb
        · intro k T' l hk
          by_cases h:k=g
          · grind
          · simp [h] at hk
            rw [setRow_other w g k _ h];exact S.holds k T' l hk
        · intro x hxm
          obtain ⟨j,hj⟩:=lI.1 hxm;by_cases hij:i=j
          · subst hij
            rw [List.getElem?_set_self hlt] at hj;simp at hj; subst hj;refine .inr ⟨g,cap,_,rfl,hnew,hroom,hcm,?_,?_⟩ <;> grind
          · rw [List.getElem?_set_ne hij] at hj
            refine Ent.ok_keep (S.ents x (lG hj)) fun k hk=>?_
            have hkg:k≠g:=S.blk_ne hj hi hk rfl (Ne.symm hij)
            grind [setRow_other]
        · intro x hxm b hb
          obtain ⟨j,hj⟩:=lI.1 hxm;by_cases hij:i=j
          · grind [Ent.blk,Value.ownBlock]
          · rw [List.getElem?_set_ne hij] at hj
            exact S.own x (lG hj) b hb
        · rw [zDS (e':=.row (.slice (some ⟨g,0,none⟩) (xs.length+ys.length) cap) e (Enc.sz α) (xs++ys).length) hi rfl]; exact S.nodup
    grind [run_append_grow,growslice_fits]
end
def wr (n:Int):Int:=IntKind.wrap .i64 n
theorem wr_eq {n:Int} (h:-9223372036854775808≤n∧n≤9223372036854775807):wr n=n:=by
 grind [wr,IntWalk.i64_in]
theorem beq8 (a b:UInt8):((a.toNat:Int)==(b.toNat:Int))=(a==b):=by
 grind [UInt8.toNat_inj]
def toU8 (n:Int):UInt8:=UInt8.ofNat (n % 256).toNat
theorem wrap_u8 (n:Int):IntKind.wrap .u8 n=((toU8 n).toNat:Int):=by
 grind [IntKind.wrap,toU8,IntKind.bits,IntKind.signed,UInt8.toNat_ofNat']
section
variable {P:Program} {N:Frm} {f:Fr} {w:World} {d:Option Nat} {ty:TypeId} {pos:String} {af:Array Edge} {g:Option (Nat×Bool)}
theorem R.pick {c x y:Operand} {b:Bool} (hc:ev N f c=boo b):(execOp (ev N f) ⟨d,.pick c x y,ty,pos,af,g⟩).run P w=.ok (.value (bif b then ev N f x else ev N f y)) w:=by
 simp_all [execOp,boo,asBool]
section
variable {x y:Operand} {a b:Int} {T T':TypeId} (hx:ev N f x=int a) (hy:ev N f y=int b)
include hx hy
theorem R.add:(execOp (ev N f) ⟨d,.binOp .add T x y T',ty,pos,af,g⟩).run P w=.ok (.value (int (wr (a+b)))) w:=by simp [execOp,eqGuard,hx,hy,int,binOp,Op.intArith,wr]
theorem R.sub:(execOp (ev N f) ⟨d,.binOp .sub T x y T',ty,pos,af,g⟩).run P w=.ok (.value (int (wr (a - b)))) w:=by simp [execOp,eqGuard,hx,hy,int,binOp,Op.intArith,wr]
theorem R.mul:(execOp (ev N f) ⟨d,.binOp .mul T x y T',ty,pos,af,g⟩).run P w=.ok (.value (int (wr (a*b)))) w:=by simp [execOp,eqGuard,hx,hy,int,binOp,Op.intArith,wr]
theorem R.quo (h0:b≠0):(execOp (ev N f) ⟨d,.binOp .quo T x y T',ty,pos,af,g⟩).run P w=.ok (.value (int (wr (a.tdiv b)))) w:=by simp [execOp,eqGuard,hx,hy,int,binOp,Op.intDiv,wr,h0]
theorem R.rem (h0:b≠0):(execOp (ev N f) ⟨d,.binOp .rem T x y T',ty,pos,af,g⟩).run P w=.ok (.value (int (a.tmod b))) w:=by simp [execOp,eqGuard,hx,hy,int,binOp,Op.intDiv,h0]
theorem R.lss:(execOp (ev N f) ⟨d,.binOp .lss T x y T',ty,pos,af,g⟩).run P w=.ok (.value (boo (decide (a<b)))) w:=by simp [execOp,eqGuard,hx,hy,int,boo,binOp,Op.intCmp]
theorem R.leq:(execOp (ev N f) ⟨d,.binOp .leq T x y T',ty,pos,af,g⟩).run P w=.ok (.value (boo (decide (a≤b)))) w:=by simp [execOp,eqGuard,hx,hy,int,boo,binOp,Op.intCmp]
theorem R.gtr:(execOp (ev N f) ⟨d,.binOp .gtr T x y T',ty,pos,af,g⟩).run P w=.ok (.value (boo (decide (b<a)))) w:=by simp [execOp,eqGuard,hx,hy,int,boo,binOp,Op.intCmp]
theorem R.geq:(execOp (ev N f) ⟨d,.binOp .geq T x y T',ty,pos,af,g⟩).run P w=.ok (.value (boo (decide (b≤a)))) w:=by simp [execOp,eqGuard,hx,hy,int,boo,binOp,Op.intCmp]
theorem R.eql:(execOp (ev N f) ⟨d,.binOp .eql T x y T',ty,pos,af,g⟩).run P w=.ok (.value (boo (a==b))) w:=by simp [execOp,eqGuard,hx,hy,int,boo,binOp,Op.intCmp]
theorem R.neq:(execOp (ev N f) ⟨d,.binOp .neq T x y T',ty,pos,af,g⟩).run P w=.ok (.value (boo (a !=b))) w:=by simp [execOp,eqGuard,hx,hy,int,boo,binOp,Op.intCmp]
end
section
variable {x y:Operand} {a b:UInt8} {T T':TypeId} (hx:ev N f x=byt a) (hy:ev N f y=byt b)
include hx hy
theorem R.add8:(execOp (ev N f) ⟨d,.binOp .add T x y T',ty,pos,af,g⟩).run P w=.ok (.value (byt (a+b))) w:=by
 have:IntKind.wrap .u8 ((a.toNat:Int)+b.toNat)=((a+b).toNat:Int):=by
  rw [wrap_u8,toU8,UInt8.toNat_add,UInt8.toNat_ofNat']; omega
 simp [execOp,eqGuard,hx,hy,byt,binOp,Op.intArith,this]
theorem R.sub8:(execOp (ev N f) ⟨d,.binOp .sub T x y T',ty,pos,af,g⟩).run P w=.ok (.value (byt (a - b))) w:=by
 have:IntKind.wrap .u8 ((a.toNat:Int) - b.toNat)=((a - b).toNat:Int):=by
  have h1:=a.toNat_lt; have h2:=b.toNat_lt;rw [wrap_u8,toU8,UInt8.toNat_sub,UInt8.toNat_ofNat']; omega
 simp [execOp,eqGuard,hx,hy,byt,binOp,Op.intArith,this]
theorem R.lss8:(execOp (ev N f) ⟨d,.binOp .lss T x y T',ty,pos,af,g⟩).run P w=.ok (.value (boo (decide (a<b)))) w:=by simp [execOp,eqGuard,hx,hy,byt,boo,binOp,Op.intCmp,UInt8.lt_iff_toNat_lt]
theorem R.leq8:(execOp (ev N f) ⟨d,.binOp .leq T x y T',ty,pos,af,g⟩).run P w=.ok (.value (boo (decide (a≤b)))) w:=by simp [execOp,eqGuard,hx,hy,byt,boo,binOp,Op.intCmp,UInt8.le_iff_toNat_le]
theorem R.gtr8:(execOp (ev N f) ⟨d,.binOp .gtr T x y T',ty,pos,af,g⟩).run P w=.ok (.value (boo (decide (b<a)))) w:=by simp [execOp,eqGuard,hx,hy,byt,boo,binOp,Op.intCmp,UInt8.lt_iff_toNat_lt]
theorem R.geq8:(execOp (ev N f) ⟨d,.binOp .geq T x y T',ty,pos,af,g⟩).run P w=.ok (.value (boo (decide (b≤a)))) w:=by simp [execOp,eqGuard,hx,hy,byt,boo,binOp,Op.intCmp,UInt8.le_iff_toNat_le]
theorem R.eql8:(execOp (ev N f) ⟨d,.binOp .eql T x y T',ty,pos,af,g⟩).run P w=.ok (.value (boo (a==b))) w:=by simp [execOp,eqGuard,hx,hy,byt,boo,binOp,Op.intCmp,beq8]
theorem R.neq8:(execOp (ev N f) ⟨d,.binOp .neq T x y T',ty,pos,af,g⟩).run P w=.ok (.value (boo (a !=b))) w:=by simp [execOp,eqGuard,hx,hy,byt,boo,binOp,Op.intCmp,beq8,bne]
end
theorem R.not {x:Operand} {b:Bool} {T:TypeId} (hx:ev N f x=boo b):(execOp (ev N f) ⟨d,.unOp .not T x,ty,pos,af,g⟩).run P w=.ok (.value (boo (!b))) w:=by
 cases b <;> simp [execOp,hx,boo,Op.unary]
theorem R.neg {x:Operand} {a:Int} {T:TypeId} (hx:ev N f x=int a):(execOp (ev N f) ⟨d,.unOp .neg T x,ty,pos,af,g⟩).run P w=.ok (.value (int (wr (-a)))) w:=by
 simp [execOp,hx,int,Op.unary,Op.intArith,wr]
section
variable {x y:Operand} {a b:Bool} {T T':TypeId} (hx:ev N f x=boo a) (hy:ev N f y=boo b) (hT:P.underlying T=some .bool)
include hx hy hT
theorem R.eqlB:(execOp (ev N f) ⟨d,.binOp .eql T x y T',ty,pos,af,g⟩).run P w=.ok (.value (boo (a==b))) w:=by
 have h:(Op.equalIn 10000 T (.bool a) (.bool b)).run P w=.ok (a==b) w:=run_equalIn_bool' w 9999 T a b hT;simp [execOp,eqGuard,hx,hy,boo,binOp,Op.equal,Op.maxDepth,h]
theorem R.neqB:(execOp (ev N f) ⟨d,.binOp .neq T x y T',ty,pos,af,g⟩).run P w=.ok (.value (boo (a !=b))) w:=by
 have h:(Op.equalIn 10000 T (.bool a) (.bool b)).run P w=.ok (a==b) w:=run_equalIn_bool' w 9999 T a b hT;simp [execOp,eqGuard,hx,hy,boo,binOp,Op.equal,Op.maxDepth,h,bne]
end
theorem zHT (l:Str):(⟨⟨l⟩⟩:ByteArray).size=l.length:=rfl
def xcat (a b:Str):Option Str:=bif Nat.ble (a.length+b.length) 9223372036854775807 then some (a++b) else none
section
variable {x y:Operand} {a b:Str} {T T':TypeId} (hx:ev N f x=str a) (hy:ev N f y=str b)
include hx hy
theorem R.cat {c:Str} (h:xcat a b=some c):(execOp (ev N f) ⟨d,.binOp .add T x y T',ty,pos,af,g⟩).run P w=.ok (.value (str c)) w:=by
 unfold xcat at h;cases hb:Nat.ble (a.length+b.length) 9223372036854775807 with
 | false=>grind
 | true =>
  rw [hb] at h;have hl:=nL hb;obtain rfl:=oJ h;have e:(⟨⟨a⟩⟩:ByteArray)++⟨⟨b⟩⟩=⟨⟨a++b⟩⟩:=by
   apply ByteArray.ext;simp_all
  simp [execOp,eqGuard,hx,hy,str,binOp,Op.stringOp,e];rw [zHT,zHT]; omega
theorem R.eqlS:(execOp (ev N f) ⟨d,.binOp .eql T x y T',ty,pos,af,g⟩).run P w=.ok (.value (boo (a==b))) w:=by simp [execOp,eqGuard,hx,hy,str,boo,binOp,Op.stringOp]
theorem R.neqS:(execOp (ev N f) ⟨d,.binOp .neq T x y T',ty,pos,af,g⟩).run P w=.ok (.value (boo (a !=b))) w:=by simp [execOp,eqGuard,hx,hy,str,boo,binOp,Op.stringOp,bne]
theorem R.lssS:(execOp (ev N f) ⟨d,.binOp .lss T x y T',ty,pos,af,g⟩).run P w=.ok (.value (boo (Op.bytesLess a b))) w:=by simp [execOp,eqGuard,hx,hy,str,boo,binOp,Op.stringOp]
theorem R.leqS:(execOp (ev N f) ⟨d,.binOp .leq T x y T',ty,pos,af,g⟩).run P w=.ok (.value (boo (Op.bytesLess a b||a==b))) w:=by simp [execOp,eqGuard,hx,hy,str,boo,binOp,Op.stringOp]
theorem R.gtrS:(execOp (ev N f) ⟨d,.binOp .gtr T x y T',ty,pos,af,g⟩).run P w=.ok (.value (boo (!(Op.bytesLess a b||a==b)))) w:=by simp [execOp,eqGuard,hx,hy,str,boo,binOp,Op.stringOp]
theorem R.geqS:(execOp (ev N f) ⟨d,.binOp .geq T x y T',ty,pos,af,g⟩).run P w=.ok (.value (boo (!Op.bytesLess a b))) w:=by simp [execOp,eqGuard,hx,hy,str,boo,binOp,Op.stringOp]
end
variable {T:TypeId} {a:Str} {u:TypeDesc} {x:Operand}
theorem R.lenS (hx : ev N f x = str a) (hT : P.underlying T = some .string) :
  (execOp (ev N f) ⟨d,.call ⟨.builtin .len,#[x],#[T]⟩,ty,pos,af,g⟩).run P w=.ok (.value (int a.length)) w:=by
 simp [execOp,resolve,invoke,builtin,Builtin.len_,hx,str,int,run_underlying hT,goInt,zHT]
theorem R.lenV {q : Option Addr} {n c : Nat} {e : TypeId} (hx : ev N f x = .slice q n c) (hT : P.underlying T = some (.slice e)) :
  (execOp (ev N f) ⟨d,.call ⟨.builtin .len,#[x],#[T]⟩,ty,pos,af,g⟩).run P w=.ok (.value (int n)) w:=by
 simp [execOp,resolve,invoke,builtin,Builtin.len_,hx,int,run_underlying hT,goInt]
theorem R.lenL {α : Type} [Enc α] {v : Value} {xs : List α} {H : Hp} {e : TypeId} (R : Sl H v xs) (hx : ev N f x = v) (hT : P.underlying T = some (.slice e)) :
  (execOp (ev N f) ⟨d,.call ⟨.builtin .len,#[x],#[T]⟩,ty,pos,af,g⟩).run P w=.ok (.value (int xs.length)) w:=by
 obtain ⟨q,c,rfl,_⟩:=R;exact R.lenV hx hT
theorem R.min {y : Operand} {a b : Int} {ts : Array TypeId} (hx : ev N f x = int a) (hy : ev N f y = int b) :
  (execOp (ev N f) ⟨d,.call ⟨.builtin .min,#[x,y],ts⟩,ty,pos,af,g⟩).run P w=.ok (.value (int (if b<a then b else a))) w:=by
 simp [execOp,resolve,invoke,builtin,Builtin.min_,Builtin.min2,hx,hy,int]
theorem R.max {y : Operand} {a b : Int} {ts : Array TypeId} (hx : ev N f x = int a) (hy : ev N f y = int b) :
  (execOp (ev N f) ⟨d,.call ⟨.builtin .max,#[x,y],ts⟩,ty,pos,af,g⟩).run P w=.ok (.value (int (if a<b then b else a))) w:=by
 simp [execOp,resolve,invoke,builtin,Builtin.max_,Builtin.max2,hx,hy,int]
theorem R.idxS {i : Operand} {n : Int} {c : UInt8} (hx : ev N f x = str a) (hi : ev N f i = int n) (hT : P.underlying T = some .string) (h : xnth a n = some c) :
  (execOp (ev N f) ⟨d,.index T x i,ty,pos,af,g⟩).run P w=.ok (.value (byt c)) w:=by
 unfold xnth at h;split at h
 ·rename_i h0
  have e:(⟨⟨a⟩⟩:ByteArray)[n.toNat]?=some c:=by
   obtain ⟨hl,he⟩:=List.getElem?_eq_some_iff.1 h;have:n.toNat<(⟨⟨a⟩⟩:ByteArray).size:=hl;rw [getElem?_pos (⟨⟨a⟩⟩:ByteArray) n.toNat this];simp only [oI];exact he
  simp [execOp,Instr.index,asIntOf,hx,hi,str,int,byt,run_underlying hT,h0,e]
 ·cases h
def lo (i:Option Int):Int:=i.getD 0
theorem R.subS {i j : Operand} {b : Str} {n m : Int} (hx : ev N f x = str a) (hi : ev N f i = int n) (hj : ev N f j = int m) (hT : P.underlying T = some .string) (h : xsub a n m = some b) :
  (execOp (ev N f) ⟨d,.slice T x (some i) (some j) none,ty,pos,af,g⟩).run P w=.ok (.value (str b)) w:=by
 unfold xsub at h;split at h
 ·rename_i h0
  simp only [oI] at h;subst h;have e:(⟨⟨a⟩⟩:ByteArray).extract n.toNat m.toNat=⟨⟨(a.take m.toNat).drop n.toNat⟩⟩:=by
   rw [Lib.extract_eq];congr 1
   grind
  have hj:0≤m∧m≤(a.length:Int):=⟨om,h0.2.2⟩;have hk:0≤n∧n≤((m.toNat:Nat):Int):=⟨h0.1,om⟩;simp_all [execOp,Instr.sliceAt,Instr.slice,Instr.sliceBounds,Instr.sliceBound,asIntOf,str,int,run_underlying,zHT]
 ·cases h
theorem R.subSlo {i : Operand} {b : Str} {n : Int} (hx : ev N f x = str a) (hi : ev N f i = int n) (hT : P.underlying T = some .string) (h : xsub a n a.length = some b) :
  (execOp (ev N f) ⟨d,.slice T x (some i) none none,ty,pos,af,g⟩).run P w=.ok (.value (str b)) w:=by
 unfold xsub at h;split at h
 ·rename_i h0
  simp only [oI] at h;subst h;have e:(⟨⟨a⟩⟩:ByteArray).extract n.toNat a.length=⟨⟨(a.take (a.length:Int).toNat).drop n.toNat⟩⟩:=by
   rw [Lib.extract_eq];congr 1
   grind
  simp [execOp,Instr.sliceAt,Instr.slice,Instr.sliceBounds,Instr.sliceBound,asIntOf, *,str,int,run_underlying hT,zHT]
 ·cases h
theorem R.subShi {j : Operand} {b : Str} {m : Int} (hx : ev N f x = str a) (hj : ev N f j = int m) (hT : P.underlying T = some .string) (h : xsub a 0 m = some b) :
  (execOp (ev N f) ⟨d,.slice T x none (some j) none,ty,pos,af,g⟩).run P w=.ok (.value (str b)) w:=by
 simp_all [xsub,Lib.extract_eq,execOp,Instr.sliceAt,Instr.slice,Instr.sliceBounds,Instr.sliceBound,asIntOf,str,int,run_underlying,zHT]
theorem R.i64of8 {a : UInt8} {T' : TypeId} (hx : ev N f x = byt a) (hT : P.underlying T = some u) (hT' : P.underlying T' = some (.int .i64)) :
  (execOp (ev N f) ⟨d,.convert T T' x,ty,pos,af,g⟩).run P w=.ok (.value (int a.toNat)) w:=by
 have:IntKind.wrap .i64 (a.toNat:Int)=a.toNat:=wr_eq (by have:=a.toNat_lt; omega);simp_all [execOp,convert,byt,int,run_underlying,Conv.intToInt]
theorem R.u8of64 {a : Int} {T' : TypeId} (hx : ev N f x = int a) (hT : P.underlying T = some u) (hT' : P.underlying T' = some (.int .u8)) :
  (execOp (ev N f) ⟨d,.convert T T' x,ty,pos,af,g⟩).run P w=.ok (.value (byt (toU8 a))) w:=by
 simp_all [execOp,convert,byt,int,run_underlying,Conv.intToInt,wrap_u8]
theorem R.i64of64 {a : Int} {T' : TypeId} (hx : ev N f x = int a) (hT : P.underlying T = some u) (hT' : P.underlying T' = some (.int .i64)) :
  (execOp (ev N f) ⟨d,.convert T T' x,ty,pos,af,g⟩).run P w=.ok (.value (int (wr a))) w:=by
 simp_all [execOp,convert,int,run_underlying,Conv.intToInt,wr]
theorem R.ext {vs:List Value} {i:Nat} {v:Value} (hx:ev N f x=.tuple ⟨vs⟩) (h:vs[i]?=some v):(execOp (ev N f) ⟨d,.extract x i,ty,pos,af,g⟩).run P w=.ok (.value v) w:=by
 simp_all [execOp,Instr.extract]
end
end Go.Eng
