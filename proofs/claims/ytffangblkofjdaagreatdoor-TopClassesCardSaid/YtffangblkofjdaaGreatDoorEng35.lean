/- A part. -/
import Derived.Test.YtffangblkofjdaaGreatDoorEng29
import Derived.WalkSpells
import Derived.Laws.IdiomCopy
set_option linter.unusedVariables false
namespace Go.Eng
open Go
set_option linter.unusedVariables false
section
variable {P:Program} {N:Frm} {f:Fr} {w:World}
theorem WP.loopK {σ : Type} {c : Code} {Q : Exit → Fr → World → Prop} (I : σ → Fr → World → Prop) (μ : σ → Nat) (s0 : σ) (hI : I s0 f w)
    (h:∀ s f w,I s f w→WP P N c (fun e f' w'=>match e with | .normal=>∃ s',μ s'<μ s∧I s' f' w' | e=>Q e f' w') f w):WP P N (.loop c) Q f w:=by
  have key:∀ (n:Nat) (s:σ) (f:Fr) (w:World),μ s<n→I s f w→RD P N c Q n f w:=by
    intro n
    induction n with
    | zero=>intro s f w hn; exact absurd hn (Nat.not_lt_zero _)
    | succ n ih =>
      intro s f w hn hI
      refine RD.succ ((h s f w hI).mono fun e f' w' hq=>?_)
      cases e with
      | normal =>
        obtain ⟨s',hs,hI'⟩:=hq
        exact ih s' f' w' (by omega) hI'
      | _=>exact hq
  exact WP.loopRd _ (key _ s0 f w (Nat.lt_succ_self _) hI)
end
def pieces (c:UInt8):Str→List Str
  | []=>[[]]
  | x :: l=>if x=c then [] :: pieces c l else match pieces c l with | p :: r=>(x :: p) :: r | []=>[[x]]
theorem zJm (c:UInt8):∀ l:Str,c ∉ l→pieces c l=[l]
  | [],_=>rfl
  | x :: l,h=>by
    have h1:x≠c:=fun e=>h (by simp [e])
    unfold pieces
    rw [if_neg h1,zJm c l (fun hm=>h (by simp [hm]))]
theorem zI6 (c:UInt8):∀ (a b:Str),c ∉ a→pieces c (a++c :: b)=a :: pieces c b
  | [],b,_=>by simp [pieces]
  | x :: a,b,h=>by
    have h1:x≠c:=fun e=>h (by simp [e])
    have e:=zI6 c a b (fun hm=>h (by simp [hm]))
    have:pieces c (x :: (a++c :: b))=if x=c then [] :: pieces c (a++c :: b) else match pieces c (a++c :: b) with | p :: r=>(x :: p) :: r | []=>[[x]]:=rfl
    rw [List.cons_append,this,if_neg h1,e]
theorem zJI (s:Str) (c:UInt8):(Lib.indexByte s c=-1∧c ∉ s)∨∃ a b,s=a++c :: b∧c ∉ a∧Lib.indexByte s c=(a.length:Int):=by
  induction s with
  | nil=>exact .inl ⟨rfl,by simp⟩
  | cons x s ih =>
    by_cases hx:x=c
    · subst hx
      refine .inr ⟨[],s,rfl,by simp,?_⟩
      simp [Lib.indexByte]
    · have hb:(x==c)=false:=by simpa using hx
      rcases ih with ⟨h1,h2⟩ | ⟨a,b,rfl,h2,h3⟩
      · refine .inl ⟨?_,by simp [h2,Ne.symm hx]⟩
        rw [Lib.indexByte,hb,h1]; rfl
      · refine .inr ⟨x :: a,b,rfl,by simp [h2,Ne.symm hx],?_⟩
        rw [Lib.indexByte,hb,h3]
        have:((a.length:Int)==-1)=false:=beq_eq_false_iff_ne.2 (by omega)
        simp [this]
theorem zQ7 (a b:Str) (c:UInt8):xsub (a++c :: b) 0 (a.length:Int)=some a:=by
  unfold xsub
  rw [if_pos ⟨by omega,by omega,by rw [List.length_append]; omega⟩]
  simp
theorem zPp (a b:Str) (c:UInt8):xsub (a++c :: b) ((a.length+1:Nat):Int) ((a++c :: b).length:Int)=some b:=by
  unfold xsub
  rw [if_pos ⟨by omega,by rw [List.length_append,List.length_cons]; omega,by omega⟩]
  rw [Int.toNat_natCast,Int.toNat_natCast,List.take_length]
  have:(a++c :: b)=(a++[c])++b:=by simp
  rw [this]
  have h2:a.length+1=(a++[c]).length:=by simp
  rw [h2,List.drop_left]
section
variable {P:Program} {n:Nat} {f:Fr} {w w0:World} {H0 H:Hp} {L:List Ent} {ds:List Deferred}
theorem OutR.one {fn : Func} {t : Nat} {v : Value} {R : Hp → Value → Prop} (Ds : List Nat) (hr : fn.results = #[.tmp t]) (hds : ds = Ds.map mark) (S : St w0 H0 w H (Ds.map (fun D => Ent.obj D (.deferred (some []))) ++ L)) (hv : ev ⟨n, ds⟩ f (.tmp t) = v) (hR : R H v) :
    OutR P fn n w0 H0 R .ret ds f w:=by
  refine ⟨.inl rfl,Ds,v,H,L,hds,fun w'=>?_,S,hR⟩
  rw [zL2 hr,zMp]
  exact congrArg (fun v=>Result.ok v w') hv
theorem St.objAt {b i:Nat} {o:Obj} (S:St w0 H0 w H L) (hi:L[i]?=some (.obj b o)):w.heap[b]?=some o:=(show ObjOk w H b o from S.ents _ (List.mem_of_getElem? hi)).2
end
end Go.Eng
namespace Go.Eng
open Go
variable {P:Program} {N:Frm} {f:Fr} {w:World}
theorem oi {α:Type} {a b:α} (h:some a=some b):a=b:=Option.some.inj h
theorem ag {f f':Fr} {ds:List Nat} (h:agree f f' ds:=by repeat (first | refine zOq rfl ?_ | refine zMl rfl ?_ | exact zOQ)):agree f f' ds:=h
theorem WL.m {ops : Array Oper} {rest : List Oper} {x : Operand} {d : Option Nat} {ty : TypeId} {pos : String} {af : Array Edge} {Q : Fr → World → Prop} (v : Value)
    (hx:ev N f x=v) (h:WL P N ops rest Q (updo f d v) w):WL P N ops (⟨d,.move x,ty,pos,af,none⟩ :: rest) Q f w:=WL.w (R.mv hx) h
theorem WL.a {ops : Array Oper} {rest : List Oper} {x : Operand} {d : Option Nat} {ty : TypeId} {pos : String} {af : Array Edge} {Q : Fr → World → Prop} (v : Value)
    (hx:ev N f x=v) (h:WL P N ops rest Q (updo f d v) w):WL P N ops (⟨d,.assign x,ty,pos,af,none⟩ :: rest) Q f w:=WL.w (R.as hx) h
end Go.Eng
namespace Go.Eng
open Go
section
variable {P:Program} {N:Frm} {f:Fr} {w w0:World} {H0 H:Hp} {L:List Ent} {ops:Array Oper} {rest:List Oper} {Q:Fr→World→Prop} {d:Nat} {od:Option Nat} {ty:TypeId} {pos:String} {af:Array Edge} {g:Option (Nat×Bool)}
theorem Sl.nilE {α:Type} [Enc α] {v:Value} {xs:List α} (h:Sl H v xs):(∃ c,v=.slice none 0 c∧xs=[])∨∃ a n c,v=.slice (some a) n c:=by
  obtain ⟨a,c,hv,h1,h2,h3⟩:=h
  cases a with
  | some a=>exact .inr ⟨a,_,_,hv⟩
  | none =>
    rcases h3 with h3 | ⟨b,off,cs,ha,_⟩
    · subst h3; exact .inl ⟨c,hv,rfl⟩
    · cases ha
theorem R.eqNil {T T' : TypeId} {x y : Operand} {a : Option Addr} {n c : Nat} {e : TypeId} (hx : ev N f x = .slice a n c) (hy : ev N f y = .slice none 0 0) (hT : P.underlying T = some (.slice e)) :
    (execOp (ev N f) ⟨od,.binOp .eql T x y T',ty,pos,af,g⟩).run P w=.ok (.value (boo a.isNone)) w:=by
  have:=Lib.run_eql_slice_nil (P:=P) w T e a n c 0 0 hT
  simp [execOp,eqGuard,hx,hy,boo,this]
end
end Go.Eng
namespace Go.Eng
open Go Go.RowKit
class Scal (α:Type) extends Enc α where
  enc:α→Value
  sz1:Enc.sz α=1
  iff:∀ {H:Hp} {cs:List Value} {x:α},Enc.cells H cs x↔cs=[enc x]
  enc1:∀ x:α,(enc x).oneCell'=true
instance:Scal Str:=⟨str,rfl,Iff.rfl,fun _=>rfl⟩
instance:Scal Int:=⟨int,rfl,Iff.rfl,fun _=>rfl⟩
theorem Scal.Cells {α:Type} [Scal α] {H:Hp}:∀ {xs:List α} {cs:List Value},Go.Eng.Cells H cs xs↔cs=xs.map Scal.enc
  | [],cs=>Iff.rfl
  | x :: xs,cs=>by
    constructor
    · rintro ⟨c,r,rfl,hc,hr⟩
      rw [Scal.iff.1 hc,Scal.Cells.1 hr]; rfl
    · rintro rfl
      exact ⟨[Scal.enc x],xs.map Scal.enc,rfl,Scal.iff.2 rfl,Scal.Cells.2 rfl⟩
theorem zCV (b : Nat) {T : TypeId} {fz : Nat × Nat} : ∀ (vs : List Value) (o : Nat) (w : World) (cur : Array Value), w.heap[b]? = some (.cells cur T fz) → o + vs.length ≤ cur.size →
    ∃ cur',(w.setCells b o vs).heap[b]?=some (.cells cur' T fz)∧cur'.toList=cur.toList.take o++vs++cur.toList.drop (o+vs.length)
  | [],o,w,cur,h,_=>⟨cur,h,by simp⟩
  | v :: vs,o,w,cur,h,hle=>by
    simp only [List.length_cons] at hle
    have h2:(w.setCell ⟨b,o,none⟩ v).heap[b]?=some (.cells (cur.setIfInBounds o v) T fz):=by
      simp [World.setCell,Array.getElem?_modify,h]
    obtain ⟨cur',h3,h4⟩:=zCV b vs (o+1) _ _ h2 (by simp; omega)
    refine ⟨cur',h3,?_⟩
    rw [h4]
    apply List.ext_getElem?
    intro j
    have ho:o<cur.toList.length:=by rw [Array.length_toList]; omega
    simp only [Array.toList_setIfInBounds,List.length_cons]
    rw [List.set_eq_take_append_cons_drop,if_pos ho]
    have e1:(List.take o cur.toList++v :: List.drop (o+1) cur.toList).take (o+1)=List.take o cur.toList++[v]:=by
      have hl:(List.take o cur.toList++[v]).length=o+1:=by simp; omega
      rw [show List.take o cur.toList++v :: List.drop (o+1) cur.toList=(List.take o cur.toList++[v])++List.drop (o+1) cur.toList by simp]
      rw [← hl,List.take_left]
    have e2:(List.take o cur.toList++v :: List.drop (o+1) cur.toList).drop (o+1+vs.length)=List.drop (o+(vs.length+1)) cur.toList:=by
      have hl:(List.take o cur.toList++[v]).length=o+1:=by simp; omega
      rw [show List.take o cur.toList++v :: List.drop (o+1) cur.toList=(List.take o cur.toList++[v])++List.drop (o+1) cur.toList by simp]
      rw [List.drop_append_of_le_length_add hl vs.length]
      rw [List.drop_drop]
      congr 1
      omega
    rw [e1,e2]
    simp
 where
  List.drop_append_of_le_length_add {α:Type} {l1 l2:List α} {n:Nat} (h:l1.length=n) (m:Nat):(l1++l2).drop (n+m)=l2.drop m:=by
    subst h; rw [← List.drop_drop,List.drop_left]
theorem zCz (b:Nat) {k:Nat} (hk:k≠b):∀ (vs:List Value) (o:Nat) (w:World),(w.setCells b o vs).heap[k]?=w.heap[k]?
  | [],_,_=>rfl
  | v :: vs,o,w=>by
    show ((w.setCell ⟨b,o,none⟩ v).setCells b (o+1) vs).heap[k]?=_
    rw [zCz b hk vs (o+1)]
    simp [World.setCell,Array.getElem?_modify,Ne.symm hk]
theorem zCU (b:Nat):∀ (vs:List Value) (o:Nat) (w:World),(w.setCells b o vs).heap.size=w.heap.size∧(w.setCells b o vs).os=w.os∧(w.setCells b o vs).tape=w.tape∧(w.setCells b o vs).output=w.output
  | [],_,_=>⟨rfl,rfl,rfl,rfl⟩
  | v :: vs,o,w=>by
    show ((w.setCell ⟨b,o,none⟩ v).setCells b (o+1) vs).heap.size=_∧_
    obtain ⟨h1,h2,h3,h4⟩:=zCU b vs (o+1) (w.setCell ⟨b,o,none⟩ v)
    exact ⟨by rw [h1]; simp [World.setCell],h2,h3,h4⟩
theorem zDF {e' : Ent} {B : Nat} (h3 : e'.blk = some B) : ∀ (K : List Ent) (i : Nat), (K.filterMap Ent.blk).Nodup → (∀ b ∈ K.filterMap Ent.blk, b < B) →
    ((K.set i e').filterMap Ent.blk).Nodup∧∀ b ∈ (K.set i e').filterMap Ent.blk,b<B∨b=B
  | [],i,h1,h2=>⟨by simp,by simp⟩
  | x :: K,0,h1,h2=>by
    rw [List.set_cons_zero,List.filterMap_cons,h3]
    have h1':(K.filterMap Ent.blk).Nodup∧∀ b ∈ K.filterMap Ent.blk,b<B:=by
      rw [List.filterMap_cons] at h1 h2
      cases hx:x.blk with
      | none=>rw [hx] at h1 h2; exact ⟨h1,h2⟩
      | some b=>rw [hx] at h1 h2; exact ⟨(List.nodup_cons.1 h1).2,fun c hc=>h2 c (List.mem_cons_of_mem _ hc)⟩
    exact ⟨List.nodup_cons.2 ⟨fun hm=>Nat.lt_irrefl _ (h1'.2 _ hm),h1'.1⟩,fun b hb=>(List.mem_cons.1 hb).elim .inr fun h=>.inl (h1'.2 b h)⟩
  | x :: K,i+1,h1,h2=>by
    rw [List.set_cons_succ,List.filterMap_cons]
    rw [List.filterMap_cons] at h1 h2
    cases hx:x.blk with
    | none =>
      rw [hx] at h1 h2
      exact zDF h3 K i h1 h2
    | some b =>
      rw [hx] at h1 h2
      obtain ⟨ha,hb⟩:=zDF h3 K i (List.nodup_cons.1 h1).2 fun c hc=>h2 c (List.mem_cons_of_mem _ hc)
      refine ⟨List.nodup_cons.2 ⟨fun hm=>?_,ha⟩,fun c hc=>(List.mem_cons.1 hc).elim (fun h=>.inl (h ▸ h2 _ (List.mem_cons_self ..))) fun h=>hb c h⟩
      have hbl:b<B:=h2 b (List.mem_cons_self ..)
      rcases hb b hm with h | h
      · -- b stands in K with e' put in: then in K itself
        have:b ∈ K.filterMap Ent.blk:=by
          obtain ⟨e,he,heb⟩:=List.mem_filterMap.1 hm
          rcases List.mem_or_eq_of_mem_set he with he | he
          · exact List.mem_filterMap.2 ⟨e,he,heb⟩
          · subst he; rw [h3] at heb; injection heb with heb; omega
        exact (List.nodup_cons.1 h1).1 this
      · omega
section
variable {P:Program} {N:Frm} {f:Fr} {w w' w0:World} {H0 H:Hp} {L:List Ent} {ops:Array Oper} {rest:List Oper} {Q:Fr→World→Prop} {d:Nat} {od:Option Nat} {ty:TypeId} {pos:String} {af:Array Edge}
theorem St.turnRow2 (S : St w0 H0 w H L) (hw : Holds w0 H0) {i g n n' cap sz : Nat} {T : TypeId} {cur' : Array Value}
    (hi:L[i]?=some (.row (.slice (some ⟨g,0,none⟩) n cap) T sz n)) (hoth:∀ k,k≠g→k<w.heap.size→w'.heap[k]?=w.heap[k]?) (hsz:w.heap.size≤w'.heap.size)
    (hos:w'.os=w.os∧w'.tape=w.tape∧w'.output=w.output) (hg:w'.heap[g]?=some (.cells cur' T (0,0))) (hc:cur'.size=cap*sz) (hn:n'≤cap) (hcap:cap≤maxLen) :
    ∃ H',H0.le H'∧H' g=some (T,cur'.toList.take (n'*sz))∧(∀ k,k≠g→H' k=H k)∧St w0 H0 w' H' (L.set i (.row (.slice (some ⟨g,0,none⟩) n' cap) T sz n')):=by
  have hmem:=List.mem_of_getElem? hi
  have hown:w0.heap.size≤g:=S.own _ hmem g rfl
  have hgl:g<w.heap.size:=S.lt (List.mem_filterMap.2 ⟨_,hmem,rfl⟩)
  have h0g:H0 g=none:=hw.none_of_size hown
  have hle:H0.le (fun k=>if k=g then some (T,cur'.toList.take (n'*sz)) else H k):=by
    intro k T' l hk
    by_cases h:k=g
    · subst h; rw [h0g] at hk; cases hk
    · obtain ⟨l',hl'⟩:=S.post.le k T' l hk
      exact ⟨l',by simp only [if_neg h]; exact hl'⟩
  refine ⟨fun k=>if k=g then some (T,cur'.toList.take (n'*sz)) else H k,hle,by simp,fun k hk=>if_neg hk,?_⟩
  refine ⟨⟨S.post.below.trans ⟨hos.1,hos.2.1,hos.2.2,hsz,fun k hk=>hoth k (by omega) (by have:=S.post.below.size; omega)⟩,hle,fun k hk=>?_,?_⟩,?_,?_,?_⟩
  · show (if k=g then _ else H k)=H0 k
    rw [if_neg (by omega)]; exact S.post.eqb k hk
  · intro k T' l hk
    by_cases h:k=g
    · subst h
      simp at hk
      obtain ⟨rfl,rfl⟩:=hk
      exact ⟨cur',(0,0),hg,cur'.toList.drop (n'*sz),(List.take_append_drop _ _).symm⟩
    · simp only [if_neg h] at hk
      obtain ⟨cs,fz,hc',hr⟩:=S.holds k T' l hk
      exact ⟨cs,fz,by rw [hoth k h (Array.getElem?_eq_some_iff.1 hc').1]; exact hc',hr⟩
  · intro e he
    obtain ⟨j,hj⟩:=List.mem_iff_getElem?.1 he
    by_cases hij:i=j
    · subst hij
      have hlt:=(List.getElem?_eq_some_iff.1 hi).1
      rw [List.getElem?_set_self hlt] at hj
      simp at hj; subst hj
      exact .inr ⟨g,cap,cur',rfl,hg,hn,hcap,hc,by simp⟩
    · rw [List.getElem?_set_ne hij] at hj
      refine Ent.ok_keep (S.ents e (List.mem_of_getElem? hj)) fun k hk=>?_
      have hne:k≠g:=S.blk_ne hj hi hk rfl (Ne.symm hij)
      exact ⟨hoth k hne (Ent.ok_lt (S.ents e (List.mem_of_getElem? hj)) hk),if_neg hne⟩
  · intro e he k hk
    obtain ⟨j,hj⟩:=List.mem_iff_getElem?.1 he
    by_cases hij:i=j
    · subst hij
      have hlt:=(List.getElem?_eq_some_iff.1 hi).1
      rw [List.getElem?_set_self hlt] at hj
      simp at hj; subst hj
      simp [Ent.blk,Value.ownBlock] at hk; omega
    · rw [List.getElem?_set_ne hij] at hj
      exact S.own e (List.mem_of_getElem? hj) k hk
  · rw [zCW (e':=.row (.slice (some ⟨g,0,none⟩) n' cap) T sz n') hi rfl]; exact S.nodup
theorem St.freshRow (S : St w0 H0 w H L) {i n n' cap sz : Nat} {v : Value} {T : TypeId} {cur' : Array Value}
    (hi:L[i]?=some (.row v T sz n)) (hoth:∀ k,k<w.heap.size→w'.heap[k]?=w.heap[k]?) (hsz:w.heap.size<w'.heap.size)
    (hos:w'.os=w.os∧w'.tape=w.tape∧w'.output=w.output) (hg:w'.heap[w.heap.size]?=some (.cells cur' T (0,0))) (hc:cur'.size=cap*sz) (hn:n'≤cap) (hcap:cap≤maxLen) :
    ∃ H',H.le H'∧H' w.heap.size=some (T,cur'.toList.take (n'*sz))∧(∀ k,k<w.heap.size→H' k=H k)∧St w0 H0 w' H' (L.set i (.row (.slice (some ⟨w.heap.size,0,none⟩) n' cap) T sz n')):=by
  have hnone:H w.heap.size=none:=S.holds.none_of_size (Nat.le_refl _)
  have hle:H.le (fun k=>if k=w.heap.size then some (T,cur'.toList.take (n'*sz)) else H k):=by
    intro k T' l hk
    by_cases h:k=w.heap.size
    · subst h; rw [hnone] at hk; cases hk
    · exact ⟨[],by simp only [if_neg h]; rw [hk]; simp⟩
  have hlt:i<L.length:=(List.getElem?_eq_some_iff.1 hi).1
  obtain ⟨hnd,_⟩:=zDF (e':=.row (.slice (some ⟨w.heap.size,0,none⟩) n' cap) T sz n') (B:=w.heap.size) rfl L i S.nodup fun b hb=>S.lt hb
  refine ⟨_,hle,by simp,fun k hk=>by simp only [if_neg (Nat.ne_of_lt hk)],?_⟩
  have hbel:=S.post.below
  refine ⟨⟨hbel.trans ⟨hos.1,hos.2.1,hos.2.2,Nat.le_of_lt hsz,fun k hk=>hoth k (Nat.lt_of_lt_of_le hk hbel.size)⟩,S.post.le.trans hle,fun k hk=>?_,?_⟩,?_,?_,hnd⟩
  · show (if k=_ then _ else H k)=H0 k
    rw [if_neg (Nat.ne_of_lt (Nat.lt_of_lt_of_le hk hbel.size))]; exact S.post.eqb k hk
  · intro k T' l hk
    by_cases h:k=w.heap.size
    · subst h
      simp at hk
      obtain ⟨rfl,rfl⟩:=hk
      exact ⟨cur',(0,0),hg,cur'.toList.drop (n'*sz),(List.take_append_drop _ _).symm⟩
    · simp only [if_neg h] at hk
      obtain ⟨cs,fz,hc',hr⟩:=S.holds k T' l hk
      exact ⟨cs,fz,by rw [hoth k (Array.getElem?_eq_some_iff.1 hc').1]; exact hc',hr⟩
  · intro e he
    obtain ⟨j,hj⟩:=List.mem_iff_getElem?.1 he
    by_cases hij:i=j
    · subst hij
      rw [List.getElem?_set_self hlt] at hj
      simp at hj; subst hj
      exact .inr ⟨w.heap.size,cap,cur',rfl,hg,hn,hcap,hc,by simp⟩
    · rw [List.getElem?_set_ne hij] at hj
      refine Ent.ok_keep (S.ents e (List.mem_of_getElem? hj)) fun k hk=>?_
      have hkl:=Ent.ok_lt (S.ents e (List.mem_of_getElem? hj)) hk
      exact ⟨hoth k hkl,if_neg (Nat.ne_of_lt hkl)⟩
  · intro e he k hk
    obtain ⟨j,hj⟩:=List.mem_iff_getElem?.1 he
    by_cases hij:i=j
    · subst hij
      rw [List.getElem?_set_self hlt] at hj
      simp at hj; subst hj
      simp [Ent.blk,Value.ownBlock] at hk; subst hk
      exact hbel.size
    · rw [List.getElem?_set_ne hij] at hj
      exact S.own e (List.mem_of_getElem? hj) k hk
end
structure InsCon (P:Program) (k:FuncId) (e:TypeId) (zc:Array Value) (bytes:Nat):Prop where
  enter:∀ (args:Array Value) (w:World),(callFunc k args).run P w=.ok (.enter k args) w
  shift:∀ (b n c i vb vc:Nat) (cs:List Value) (y:Value) (w:World),i<n→0<1→n+1≤c→c≤9223372036854775807→vb≠b→cs.length=n→[y].length=1 →
    (∀ j v,cs[j]?=some v→w.cell? ⟨b,0+j,none⟩=some v)→(∀ j,j<n+1→(w.cell? ⟨b,0+j,none⟩).isSome=true)→(∀ j,j<n+1→w.frozen? ⟨b,0+j,none⟩=false) →
    (∀ j v,[y][j]?=some v→w.cell? ⟨vb,0+j,none⟩=some v)→(∀ v ∈ cs,v.oneCell'=true)→(∀ v ∈ [y],v.oneCell'=true) →
    ∀ (tA tB:TypeId) (kA kB:Nat),w.shape? vb=some (tA,kA)→w.shape? b=some (tB,kB)→kB≠0→w.frozen? ⟨vb,0,none⟩=false→w.frozen? ⟨vb,kA,none⟩=false →
    Calls P k #[.slice (some ⟨b,0,none⟩) n c,.int .i64 i,.slice (some ⟨vb,0,none⟩) 1 vc] w fun e w' =>
      e=.returned (.slice (some ⟨b,0,none⟩) (n+1) c)∧w'=(w.drew.setCells b (0+(i+1)) (cs.drop i)).setCells b (0+i) [y]
  room:∀ (b n c vb vc:Nat) (y:Value) (w:World),0<1→n+1≤c→c≤9223372036854775807→[y].length=1 →
    (∀ j,j<1→(w.cell? ⟨b,0+n+j,none⟩).isSome=true)→(∀ j,j<1→w.frozen? ⟨b,0+n+j,none⟩=false) →
    (∀ j v,[y][j]?=some v→w.cell? ⟨vb,0+j,none⟩=some v)→(∀ v ∈ [y],v.oneCell'=true) →
    Calls P k #[.slice (some ⟨b,0,none⟩) n c,.int .i64 n,.slice (some ⟨vb,0,none⟩) 1 vc] w fun e w' =>
      e=.returned (.slice (some ⟨b,0,none⟩) (n+1) c)∧w'=w.setCells b (0+n) [y]
  endGrow:∀ (base:Option Addr) (n c vb vc:Nat) (cs:List Value) (y:Value) (w:World),0<1→n≤c→c<n+1→(n+1)*bytes≤140737488355328→cs.length=n→[y].length=1→(base=none→n=0) →
    (∀ a,base=some a→∀ j v,cs[j]?=some v→w.cell? (a.add j)=some v)→(∀ j v,[y][j]?=some v→w.cell? ⟨vb,0+j,none⟩=some v)→(∀ v ∈ [y],v.oneCell'=true) →
    Calls P k #[.slice base n c,.int .i64 n,.slice (some ⟨vb,0,none⟩) 1 vc] w fun r w' =>
      r=.returned (.slice (some ⟨w.heap.size,0,none⟩) (n+1) (grownCap w (n+1) c e))∧w'=w.drew.alloc (.cells ((cs++[y]).toArray++Builtin.zeroCells zc (grownCap w (n+1) c e - (n+1))) e)
  grow:∀ (b n c i vb vc:Nat) (cs:List Value) (y:Value) (w:World),i<n→0<1→n≤c→c<n+1→(n+1)*bytes≤140737488355328→cs.length=n→[y].length=1 →
    (∀ j v,cs[j]?=some v→w.cell? ⟨b,0+j,none⟩=some v)→(∀ j v,[y][j]?=some v→w.cell? ⟨vb,0+j,none⟩=some v)→(∀ v ∈ cs,v.oneCell'=true)→(∀ v ∈ [y],v.oneCell'=true) →
    Calls P k #[.slice (some ⟨b,0,none⟩) n c,.int .i64 i,.slice (some ⟨vb,0,none⟩) 1 vc] w fun r w' =>
      r=.returned (.slice (some ⟨w.heap.size,0,none⟩) (n+1) (grownCap w (n+1) c e)) ∧
      w'=(((w.alloc (.cells ((cs.take i).toArray++Builtin.zeroCells zc (n+1 - i)++Builtin.zeroCells zc (grownCap w (n+1) c e - (n+1))) e)).drew.setCells w.heap.size i [y]).drew).setCells w.heap.size (i+1) (cs.drop i)
def insS {α:Type} (xs:List α) (i:Int) (ys:List α):Option (List α) :=
  if 0≤i∧i≤xs.length∧ys.length=1∧xs.length+1≤big then some (xs.take i.toNat++ys++xs.drop i.toNat) else none
theorem Sl.keepS {β:Type} [Scal β] {H H':Hp} {v:Value} {xs:List β} (h:Sl H v xs) (hk:∀ b off,(∃ n c,v=.slice (some ⟨b,off,none⟩) n c)→H' b=H b):Sl H' v xs:=by
  obtain ⟨a,c,hv,h1,h2,h3⟩:=h
  refine ⟨a,c,hv,h1,h2,?_⟩
  rcases h3 with h3 | ⟨b,off,cs,ha,⟨T,l,hs,hl,hr⟩,hc⟩
  · exact .inl h3
  · refine .inr ⟨b,off,cs,ha,⟨T,l,hs,?_,hr⟩,Scal.Cells.2 (Scal.Cells.1 hc)⟩
    rw [← hl]
    exact hk b off ⟨_,_,by rw [hv,ha]⟩
end Go.Eng
namespace Go.Eng
open Go Go.RowKit
section
variable {P:Program} {N:Frm} {f:Fr} {w w' w0:World} {H0 H:Hp} {L:List Ent} {ops:Array Oper} {rest:List Oper} {Q:Fr→World→Prop} {d:Nat} {od:Option Nat} {ty:TypeId} {pos:String} {af:Array Edge}
def Kept (H H':Hp) (L:List Ent) (i:Nat):Prop:=∀ {β:Type} [Scal β] {j:Nat} {v:Value} {T:TypeId} {n:Nat} {xs:List β},i≠j→L[j]?=some (.row v T 1 n)→Sl H v xs→Sl H' v xs
theorem St.kept (S:St w0 H0 w H L) {i:Nat} {e:Ent} {g:Nat} {H':Hp} (hi:L[i]?=some e) (hg:e.blk=some g) (hk:∀ k,k≠g→H' k=H k):Kept H H' L i:=by
  intro β _ j v T n xs hij hj hR
  refine hR.keepS fun b off ⟨m,c,hv⟩=>hk b ?_
  rcases (show RowOk w H v T 1 n from S.ents _ (List.mem_of_getElem? hj)) with ⟨h,_⟩ | ⟨g',cap,cur,h,_⟩
  · rw [h] at hv; cases hv
  · rw [h] at hv
    simp only [Value.slice.injEq,Option.some.injEq,Addr.mk.injEq] at hv
    obtain ⟨⟨rfl,_⟩,_⟩:=hv
    exact Ne.symm (S.blk_ne (b:=g) (b':=g') hi hj hg (by rw [h]; rfl) hij)
theorem zR9 {H H':Hp} (h:H.le H') (L:List Ent) (i:Nat):Kept H H' L i:=fun _ _ hR=>Sl.mono hR h
theorem zLQ {α : Type} [Scal α] {g cap : Nat} {cur : Array Value} {T : TypeId} {xs : List α} (hcs : cur.size = cap * 1) (hn : xs.length ≤ cap) (hH : H g = some (T, cur.toList.take (xs.length * 1)))
    (hR:Sl H (.slice (some ⟨g,0,none⟩) xs.length cap) xs):cur.toList=xs.map Scal.enc++cur.toList.drop xs.length:=by
  rw [Nat.mul_one] at hH hcs
  have hl:(cur.toList.take xs.length).length=xs.length:=by simp; omega
  by_cases hx:xs=[]
  · subst hx; simp
  obtain ⟨a,c,hv,_,_,h3⟩:=hR
  rcases h3 with h3 | ⟨b,off,cs,ha,⟨T',l,hs,hl',r,hr⟩,hC⟩
  · exact absurd h3 hx
  subst ha
  simp only [Value.slice.injEq,Option.some.injEq,Addr.mk.injEq] at hv
  obtain ⟨⟨rfl,rfl,_⟩,_⟩:=hv
  rw [show H g=_ from hH] at hl'
  simp only [Option.some.injEq,Prod.mk.injEq] at hl'
  obtain ⟨rfl,rfl⟩:=hl'
  have hC':=Scal.Cells.1 hC
  subst hC'
  have:cur.toList.take xs.length=xs.map Scal.enc:=by
    have h1:cur.toList.take xs.length=xs.map Scal.enc++r:=by simpa using hr
    have h2:=congrArg List.length h1
    rw [hl,List.length_append,List.length_map] at h2
    have:r=[]:=List.eq_nil_of_length_eq_zero (by omega)
    rw [h1,this,List.append_nil]
  rw [← this,List.take_append_drop]
theorem zPf {α:Type} [Scal α] {g cap:Nat} {T:TypeId} {zs:List α} {l:List Value} (hH:H g=some (T,l)) (hl:l=zs.map Scal.enc) (hn:zs.length≤cap) (hc:cap≤maxLen):Sl H (.slice (some ⟨g,0,none⟩) zs.length cap) zs :=
  ⟨_,_,rfl,hn,hc,.inr ⟨g,0,zs.map Scal.enc,rfl,⟨T,l,rfl,hH,[],by rw [hl]; simp⟩,Scal.Cells.2 rfl⟩⟩
theorem zH3 {g:Nat} {cur:Array Value} {T:TypeId} {fz:Nat×Nat} (h:w.heap[g]?=some (.cells cur T fz)) (j:Nat):w.cell? ⟨g,j,none⟩=cur[j]?:=by simp [World.cell?,h]
theorem zIi {g:Nat} {cur:Array Value} {T:TypeId} (h:w.heap[g]?=some (.cells cur T (0,0))) (j:Nat):w.frozen? ⟨g,j,none⟩=false:=by simp [World.frozen?,h]
theorem zNE {g:Nat} {cur:Array Value} {T:TypeId} {fz:Nat×Nat} (h:w.heap[g]?=some (.cells cur T fz)):w.shape? g=some (T,cur.size):=by simp [World.shape?,h]
theorem zGM (w:World) (o:Obj):w.heap.size<(w.alloc o).heap.size:=by
  show w.heap.size<(w.heap.push o).size
  rw [Array.size_push]; exact Nat.lt_succ_self _
theorem zPN {α:Type} [Scal α] (xs:List α) (i:Nat) (y:α):(xs.take i++[y]++xs.drop i).map Scal.enc=(xs.map Scal.enc).take i++[Scal.enc y]++(xs.map Scal.enc).drop i:=by simp [List.map_take,List.map_drop]
theorem W.insertRow {α : Type} [Scal α] {k : FuncId} {x o u : Operand} {ats : Array TypeId} {v uv : Value} {xs ys zs : List α} {at_ : Int} {i j : Nat} {T : TypeId} {zc : Array Value} {bytes : Nat} (C : InsCon P k T zc bytes) (hz : zc.size = 1) (hbt : bytes ≤ 16)
    (hw:Holds w0 H0) (S:St w0 H0 w H L) (hij:i≠j) (hi:L[i]?=some (.row v T 1 xs.length)) (hj:L[j]?=some (.row uv T 1 ys.length)) (hx:ev N f x=v) (ho:ev N f o=int at_) (hu:ev N f u=uv) (hR:Sl H v xs) (hU:Sl H uv ys)
    (h:insS xs at_ ys=some zs)
    (K:∀ v' w' H',H0.le H'→Kept H H' L i→Sl H' v' zs→St w0 H0 w' H' (L.set i (.row v' T 1 zs.length))→WL P N ops rest Q (updo f od v') w') :
    WL P N ops (⟨od,.call ⟨.value (.func k),#[x,o,u],ats⟩,ty,pos,af,none⟩ :: rest) Q f w:=by
  unfold insS at h
  split at h
  case isFalse=>cases h
  rename_i hg
  simp only [Option.some.injEq] at h
  obtain ⟨h0,h1,h2,h3⟩:=hg
  obtain ⟨m,rfl⟩:=Int.eq_ofNat_of_zero_le h0
  rw [Int.toNat_natCast] at h
  subst h
  have hmn:m≤xs.length:=by omega
  obtain ⟨y,rfl⟩:∃ y,ys=[y]:=by
    match ys,h2 with
    | [y],_=>exact ⟨y,rfl⟩
  have hrun:∀ w,(execOp (ev N f) ⟨od,.call ⟨.value (.func k),#[x,o,u],ats⟩,ty,pos,af,.none⟩).run P w=.ok (.enter k #[v,.int .i64 m,uv]) w:=by
    intro w
    have e1:(execOp (ev N f) ⟨od,.call ⟨.value (.func k),#[x,o,u],ats⟩,ty,pos,af,.none⟩)=callFunc k (#[]++#[x,o,u].map (ev N f)++#[]):=rfl
    have e:(#[]++#[x,o,u].map (ev N f)++#[])=#[v,.int .i64 m,uv]:=by simp [hx,ho,hu,int]
    rw [e1,e]; exact C.enter _ _
  obtain ⟨ub,uc,ucur,rfl,huc,hu1,hucap,hucs,huH⟩:∃ ub uc ucur,uv=.slice (some ⟨ub,0,none⟩) 1 uc∧w.heap[ub]?=some (.cells ucur T (0,0))∧1≤uc∧uc≤maxLen∧ucur.size=uc*1∧H ub=some (T,ucur.toList.take (1*1)):=by
    rcases (show RowOk w H uv T 1 [y].length from S.ents _ (List.mem_of_getElem? hj)) with ⟨_,h⟩ | ⟨g,cap,cur,rfl,hc,hnc,hcm,hcs,hH⟩
    · cases h
    · exact ⟨g,cap,cur,rfl,hc,hnc,hcm,hcs,hH⟩
  have huy:=zLQ hucs (xs:=[y]) hu1 huH hU
  have hu0:ucur[0]?=some (Scal.enc y):=by
    rw [← Array.getElem?_toList,huy]; rfl
  have hvs:∀ j v,[Scal.enc y][j]?=some v→w.cell? ⟨ub,0+j,none⟩=some v:=by
    intro j v hv
    match j,hv with
    | 0,hv=>rw [zH3 huc]; simpa [hu0] using hv
  have h1v:∀ v ∈ [Scal.enc y],v.oneCell'=true:=by
    intro v hv; rw [List.mem_singleton.1 hv]; exact Scal.enc1 y
  have h1c:∀ v ∈ xs.map Scal.enc,v.oneCell'=true:=by
    intro v hv; obtain ⟨x,_,rfl⟩:=List.mem_map.1 hv; exact Scal.enc1 x
  have hlen:(xs.take m++[y]++xs.drop m).length=xs.length+1:=by simp; omega
  have hcl:(xs.map (Scal.enc (α:=α))).length=xs.length:=List.length_map ..
  have hbig:(xs.length+1)*bytes≤140737488355328:=by
    have:=Nat.mul_le_mul h3 hbt
    exact Nat.le_trans this (by simp [big])
  have h63:xs.length+1≤maxLen:=Nat.le_trans h3 (by simp [big,maxLen])
  have hubl:ub<w.heap.size:=(Array.getElem?_eq_some_iff.1 huc).1
  have fresh : ∀ (old : Nat) (w' : World) (cur' : Array Value), (∀ k, k < w.heap.size → w'.heap[k]? = w.heap[k]?) → w.heap.size < w'.heap.size → (w'.os = w.os ∧ w'.tape = w.tape ∧ w'.output = w.output) →
      w'.heap[w.heap.size]?=some (.cells cur' T (0,0))→cur'.size=grownCap w (xs.length+1) old T→cur'.toList.take (xs.length+1)=(xs.take m++[y]++xs.drop m).map Scal.enc →
      WL P N ops rest Q (updo f od (.slice (some ⟨w.heap.size,0,none⟩) (xs.length+1) (grownCap w (xs.length+1) old T))) w':=by
    intro old w' cur' hoth hsz hos hgc hsize htk
    have hge:=grownCap_ge w (xs.length+1) old T
    have hcm:=grownCap_le_maxLen w (xs.length+1) old T h63
    obtain ⟨H',hle,hH',_,S'⟩:=S.freshRow (n':=xs.length+1) hi hoth hsz hos hgc (by rw [Nat.mul_one]; exact hsize) hge hcm
    refine K _ w' H' (S.post.le.trans hle) (zR9 hle _ _) ?_ (by rw [hlen]; exact S')
    have hs:=zPf (zs:=xs.take m++[y]++xs.drop m) hH' (by rw [Nat.mul_one,htk]) (by rw [hlen]; exact hge) hcm
    rw [hlen] at hs; exact hs
  rcases (show RowOk w H v T 1 xs.length from S.ents _ (List.mem_of_getElem? hi)) with ⟨rfl,hn⟩ | ⟨g,cap,cur,rfl,hc,hnc,hcm,hcs,hH⟩
  · -- the nil slice
    have hxs:xs=[]:=List.length_eq_zero_iff.1 hn
    subst hxs
    have hm0:m=0:=by simpa using hmn
    subst hm0
    refine WL.enterw (w':=w) (hrun w) (Calls.mono (C.endGrow none 0 0 ub uc [] (Scal.enc y) w (by omega) (Nat.le_refl _) (by omega) (by simpa using hbig) rfl rfl (fun _=>rfl) (fun a h=>by cases h) hvs h1v) fun e w' ⟨he,hw'⟩=>⟨_,he,?_⟩)
    have hge:=grownCap_ge w 1 0 T
    refine fresh 0 w' (([]++[Scal.enc y]).toArray++Builtin.zeroCells zc (grownCap w (0+1) 0 T - (0+1))) ?_ ?_ ?_ ?_ ?_ ?_
    · intro k hk; rw [hw']; exact Below.heap_alloc w.drew _ k hk
    · rw [hw']; exact zGM _ _
    · rw [hw']; exact ⟨rfl,rfl,rfl⟩
    · rw [hw']; exact heap_alloc_new w.drew _
    · simp only [Array.size_append,size_zeroCells,hz]; simp at hge ⊢; omega
    · simp
  · have hcells:=zLQ hcs hnc hH hR
    have hsz1:cur.size=cap:=by rw [hcs,Nat.mul_one]
    have hgl:g<w.heap.size:=(Array.getElem?_eq_some_iff.1 hc).1
    have hcell:∀ j v,(xs.map (Scal.enc (α:=α)))[j]?=some v→w.cell? ⟨g,0+j,none⟩=some v:=by
      intro j v hv
      rw [zH3 hc,Nat.zero_add,← Array.getElem?_toList,hcells]
      have hlt:=(List.getElem?_eq_some_iff.1 hv).1
      rw [List.getElem?_append_left hlt]; exact hv
    have hgub:ub≠g:=S.blk_ne (b:=ub) (b':=g) hj hi rfl rfl (Ne.symm hij)
    have hdl:(cur.toList.drop xs.length).length=cap - xs.length:=by rw [List.length_drop,Array.length_toList,hsz1]
    by_cases hend:m=xs.length
    · subst hend
      have hzs:xs.take xs.length++[y]++xs.drop xs.length=xs++[y]:=by simp
      by_cases hroom:xs.length+1≤cap
      · refine WL.enterw (w':=w) (hrun w) (Calls.mono (C.room g xs.length cap ub uc (Scal.enc y) w (by omega) hroom (by simp only [maxLen] at hcm; omega) rfl (fun j hj=>?_) (fun j hj=>zIi hc _) hvs h1v) fun e w' ⟨he,hw'⟩=>⟨_,he,?_⟩)
        · rw [zH3 hc,Array.getElem?_eq_getElem (by omega)]; rfl
        · obtain ⟨cur',hg',hl'⟩:=zCV g [Scal.enc y] (0+xs.length) w cur hc (by simp; omega)
          obtain ⟨r1,r2,r3,r4⟩:=zCU g [Scal.enc y] (0+xs.length) w
          have hsz':cur'.size=cap:=by
            rw [← Array.length_toList,hl']; simp [hsz1]; omega
          obtain ⟨H',hle,hH',hko,S'⟩:=S.turnRow2 hw hi (w':=w') (n':=xs.length+1) (cur':=cur') (fun k hk _=>by rw [hw']; exact zCz g hk _ _ _) (by rw [hw',r1]; exact Nat.le_refl _) (by rw [hw']; exact ⟨r2,r3,r4⟩) (by rw [hw']; exact hg') (by rw [hsz',Nat.mul_one]) hroom hcm
          refine K _ w' H' hle (S.kept hi rfl hko) ?_ (by rw [hlen]; exact S')
          have hs:=zPf (zs:=xs.take xs.length++[y]++xs.drop xs.length) hH' ?_ (by rw [hlen]; exact hroom) hcm
          · rw [hlen] at hs; exact hs
          rw [Nat.mul_one,hl',hzs,ins_end hcells hcl,List.map_append]
          rfl
      · refine WL.enterw (w':=w) (hrun w) (Calls.mono (C.endGrow (some ⟨g,0,none⟩) xs.length cap ub uc (xs.map Scal.enc) (Scal.enc y) w (by omega) hnc (by omega) hbig hcl rfl (fun h=>by cases h) (fun a h j v hv=>by cases h; rw [Addr.add_lit]; exact hcell j v hv) hvs h1v) fun e w' ⟨he,hw'⟩=>⟨_,he,?_⟩)
        have hge:=grownCap_ge w (xs.length+1) cap T
        refine fresh cap w' ((xs.map Scal.enc++[Scal.enc y]).toArray++Builtin.zeroCells zc (grownCap w (xs.length+1) cap T - (xs.length+1))) ?_ ?_ ?_ ?_ ?_ ?_
        · intro k hk; rw [hw']; exact Below.heap_alloc w.drew _ k hk
        · rw [hw']; exact zGM _ _
        · rw [hw']; exact ⟨rfl,rfl,rfl⟩
        · rw [hw']; exact heap_alloc_new w.drew _
        · simp only [Array.size_append,size_zeroCells,hz]; simp; omega
        · have h3':(xs.map Scal.enc++[Scal.enc y]).length=xs.length+1:=by rw [List.length_append,hcl]; rfl
          rw [hzs,List.map_append,Array.toList_append,List.toList_toArray,← h3',List.take_left]
          rfl
    · have hlt:m<xs.length:=by omega
      by_cases hroom:xs.length+1≤cap
      · refine WL.enterw (w':=w) (hrun w) (Calls.mono (C.shift g xs.length cap m ub uc (xs.map Scal.enc) (Scal.enc y) w hlt (by omega) hroom (by simp only [maxLen] at hcm; omega) hgub hcl rfl hcell (fun j hj=>?_) (fun j hj=>zIi hc _) hvs h1c h1v _ _ _ _ (zNE huc) (zNE hc) (by omega) (zIi huc _) (zIi huc _)) fun e w' ⟨he,hw'⟩=>⟨_,he,?_⟩)
        · rw [zH3 hc,Array.getElem?_eq_getElem (by omega)]; rfl
        · have hc1:w.drew.heap[g]?=some (.cells cur T (0,0)):=hc
          have hdrop:((xs.map (Scal.enc (α:=α))).drop m).length=xs.length - m:=by simp
          obtain ⟨cur1,hg1,hl1⟩:=zCV g ((xs.map Scal.enc).drop m) (0+(m+1)) w.drew cur hc1 (by rw [hdrop]; omega)
          have hsz1':cur1.size=cap:=by
            rw [← Array.length_toList,hl1]; simp [hsz1]; omega
          obtain ⟨cur',hg',hl'⟩:=zCV g [Scal.enc y] (0+m) _ cur1 hg1 (by simp; omega)
          have hsz':cur'.size=cap:=by
            rw [← Array.length_toList,hl']; simp [hsz1']; omega
          obtain ⟨r1,r2,r3,r4⟩:=zCU g [Scal.enc y] (0+m) (w.drew.setCells g (0+(m+1)) ((xs.map Scal.enc).drop m))
          obtain ⟨q1,q2,q3,q4⟩:=zCU g ((xs.map (Scal.enc (α:=α))).drop m) (0+(m+1)) w.drew
          obtain ⟨H',hle,hH',hko,S'⟩:=S.turnRow2 hw hi (w':=w') (n':=xs.length+1) (cur':=cur') (fun k hk _=>by rw [hw',zCz g hk,zCz g hk]; rfl) (by rw [hw',r1,q1]; exact Nat.le_refl _) (by rw [hw']; exact ⟨r2.trans q2,r3.trans q3,r4.trans q4⟩) (by rw [hw']; exact hg') (by rw [hsz',Nat.mul_one]) hroom hcm
          refine K _ w' H' hle (S.kept hi rfl hko) ?_ (by rw [hlen]; exact S')
          have hs:=zPf (zs:=xs.take m++[y]++xs.drop m) hH' ?_ (by rw [hlen]; exact hroom) hcm
          · rw [hlen] at hs; exact hs
          rw [Nat.mul_one,zPN,hl',hl1]
          exact ins_list (n:=xs.length) (by rw [hcells,List.take_append_of_le_length (by rw [hcl]; omega)]) (by rw [hcl]; omega) (by have hcz:=Array.length_toList (xs:=cur); omega) hcl
      · refine WL.enterw (w':=w) (hrun w) (Calls.mono (C.grow g xs.length cap m ub uc (xs.map Scal.enc) (Scal.enc y) w hlt (by omega) hnc (by omega) hbig hcl rfl hcell hvs h1c h1v) fun e w' ⟨he,hw'⟩=>⟨_,he,?_⟩)
        have hge:=grownCap_ge w (xs.length+1) cap T
        generalize hG:grownCap w (xs.length+1) cap T=G at *
        have hnew:(w.alloc (.cells (((xs.map (Scal.enc (α:=α))).take m).toArray++Builtin.zeroCells zc (xs.length+1 - m)++Builtin.zeroCells zc (G - (xs.length+1))) T)).drew.heap[w.heap.size]?=some (.cells (((xs.map (Scal.enc (α:=α))).take m).toArray++Builtin.zeroCells zc (xs.length+1 - m)++Builtin.zeroCells zc (G - (xs.length+1))) T (0,0)):=heap_alloc_new w _
        have hsA:(((xs.map (Scal.enc (α:=α))).take m).toArray++Builtin.zeroCells zc (xs.length+1 - m)++Builtin.zeroCells zc (G - (xs.length+1))).size=G:=by
          simp only [Array.size_append,size_zeroCells,hz,List.size_toArray,List.length_take,hcl]; omega
        generalize hA:(((xs.map (Scal.enc (α:=α))).take m).toArray++Builtin.zeroCells zc (xs.length+1 - m)++Builtin.zeroCells zc (G - (xs.length+1)))=A at *
        obtain ⟨cur1,hg1,hl1⟩:=zCV w.heap.size [Scal.enc y] m _ A hnew (by simp; omega)
        have hsz1':cur1.size=G:=by
          rw [← Array.length_toList,hl1]; simp [hsA]; omega
        have hdrop:((xs.map (Scal.enc (α:=α))).drop m).length=xs.length - m:=by simp
        obtain ⟨cur',hg',hl'⟩:=zCV w.heap.size ((xs.map Scal.enc).drop m) (m+1) (((w.alloc (.cells A T)).drew.setCells w.heap.size m [Scal.enc y]).drew) cur1 hg1 (by rw [hdrop]; omega)
        have hsz':cur'.size=G:=by
          rw [← Array.length_toList,hl']; simp [hsz1']; omega
        obtain ⟨r1,r2,r3,r4⟩:=zCU w.heap.size ((xs.map (Scal.enc (α:=α))).drop m) (m+1) (((w.alloc (.cells A T)).drew.setCells w.heap.size m [Scal.enc y]).drew)
        obtain ⟨q1,q2,q3,q4⟩:=zCU w.heap.size [Scal.enc y] m ((w.alloc (.cells A T)).drew)
        have F:=fresh cap w' cur'
        rw [hG] at F
        refine F ?_ ?_ ?_ ?_ ?_ ?_
        · intro k hk
          rw [hw',zCz _ (Nat.ne_of_lt hk)]
          show ((w.alloc (.cells A T)).drew.setCells w.heap.size m [Scal.enc y]).heap[k]?=_
          rw [zCz _ (Nat.ne_of_lt hk)]
          exact Below.heap_alloc w _ k hk
        · rw [hw',r1]
          show w.heap.size<((w.alloc (.cells A T)).drew.setCells w.heap.size m [Scal.enc y]).heap.size
          rw [q1]; exact zGM _ _
        · rw [hw']; exact ⟨r2.trans q2,r3.trans q3,r4.trans q4⟩
        · rw [hw']; exact hg'
        · exact hsz'
        · rw [zPN,hl',hl1]
          exact ins_list2 (n:=xs.length) (by rw [← hA,Array.toList_append,Array.toList_append,List.toList_toArray,List.append_assoc,List.take_append_of_le_length (by rw [List.length_take,hcl]; omega),List.take_take,Nat.min_self]) (by rw [hcl]; omega) (by have hcz:=Array.length_toList (xs:=A); omega) hcl
 where
  ins_end {A C D:List Value} {n:Nat} {y:Value} (hA:A=C++D) (hc:C.length=n):(A.take (0+n)++[y]++A.drop (0+n+[y].length)).take (n+1)=C++[y]:=by
    have h1:A.take (0+n)=C:=by rw [Nat.zero_add,hA,← hc,List.take_left]
    rw [h1]
    have h3:(C++[y]).length=n+1:=by rw [List.length_append,hc]; rfl
    rw [← h3,List.take_left]
  ins_list {A C : List Value} {m n : Nat} {y : Value} (hA : A.take m = C.take m) (hm : m < C.length) (hlen : n + 1 ≤ A.length) (hc : C.length = n) :
      (((A.take (0+(m+1))++C.drop m++A.drop (0+(m+1)+(C.drop m).length)).take (0+m)++[y]++(A.take (0+(m+1))++C.drop m++A.drop (0+(m+1)+(C.drop m).length)).drop (0+m+[y].length))).take (n+1)=C.take m++[y]++C.drop m:=by
    have hl1:(A.take (m+1)).length=m+1:=by rw [List.length_take]; omega
    have e1:(A.take (0+(m+1))++C.drop m++A.drop (0+(m+1)+(C.drop m).length)).take (0+m)=C.take m:=by
      rw [Nat.zero_add,Nat.zero_add,List.append_assoc,List.take_append_of_le_length (by omega),List.take_take,Nat.min_eq_left (by omega),hA]
    have e2:(A.take (0+(m+1))++C.drop m++A.drop (0+(m+1)+(C.drop m).length)).drop (0+m+[y].length)=C.drop m++A.drop (m+1+(C.drop m).length):=by
      rw [Nat.zero_add,Nat.zero_add,List.append_assoc]
      have:m+[y].length=(A.take (m+1)).length:=by rw [hl1]; rfl
      rw [this,List.drop_left]
    rw [e1,e2]
    have h3:(C.take m++[y]++C.drop m).length=n+1:=by simp; omega
    rw [show C.take m++[y]++(C.drop m++A.drop (m+1+(C.drop m).length))=(C.take m++[y]++C.drop m)++A.drop (m+1+(C.drop m).length) by simp]
    rw [← h3,List.take_left]
  ins_list2 {A C : List Value} {m n : Nat} {y : Value} (hA : A.take m = C.take m) (hm : m < C.length) (hlen : n + 1 ≤ A.length) (hc : C.length = n) :
      (((A.take m++[y]++A.drop (m+[y].length)).take (m+1)++C.drop m++(A.take m++[y]++A.drop (m+[y].length)).drop (m+1+(C.drop m).length))).take (n+1)=C.take m++[y]++C.drop m:=by
    have hl1:(A.take m++[y]).length=m+1:=by rw [List.length_append,List.length_take]; simp; omega
    have e1:(A.take m++[y]++A.drop (m+[y].length)).take (m+1)=C.take m++[y]:=by
      rw [← hl1,List.take_left,hA]
    rw [e1]
    have h3:(C.take m++[y]++C.drop m).length=n+1:=by simp; omega
    rw [← h3,List.take_left]
end
end Go.Eng
namespace Go.Eng
open Go Go.ChangeMaps
def enci (l:List (Int×Value)):List (Value×Value):=l.map fun p=>(int p.1,p.2)
theorem zLd {e k:Int} {v:Value} {m:List (Int×Value)} (h:decide (e=k)=true):((k,v) :: m).lookup e=some v:=by
  rw [of_decide_eq_true h]; simp [List.lookup]
theorem zH0 {e k:Int} {v:Value} {m:List (Int×Value)} {r:Option Value} (h:decide (e=k)=false) (hr:m.lookup e=r):((k,v) :: m).lookup e=r:=by
  have:(e==k)=false:=by simpa using of_decide_eq_false h
  simp [List.lookup,this,hr]
theorem zPK {e:Int}:([]:List (Int×Value)).lookup e=none:=rfl
theorem zFd (k:Int):∀ (m:List (Int×Value)) (es:List MapEntry) (i:Nat),es.map (fun e=>(e.key,e.val))=enci m→∃ r,Instr.findNow (.int .i64) (int k) es i=some r∧r.map (·.2)=m.lookup k
  | [],[],i,_=>⟨none,rfl,rfl⟩
  | [],e :: es,i,h=>by cases h
  | p :: m,[],i,h=>by cases h
  | (a,v) :: m,e :: es,i,h=>by
    simp only [enci,List.map_cons,List.cons.injEq,Prod.mk.injEq] at h
    obtain ⟨⟨h1,h2⟩,h3⟩:=h
    by_cases hk:k=a
    · subst hk
      refine ⟨some (i,e.val),?_,?_⟩
      · unfold Instr.findNow
        rw [h1]; simp [Instr.sameNow,int]
      · simp [h2,List.lookup]
    · obtain ⟨r,hr1,hr2⟩:=zFd k m es (i+1) h3
      refine ⟨r,?_,?_⟩
      · unfold Instr.findNow
        have:(k==a)=false:=by simpa using hk
        rw [h1]; simp only [Instr.sameNow,int,if_true,this]
        exact hr1
      · have:(k==a)=false:=by simpa using hk
        rw [hr2]; simp [List.lookup,this]
section
variable {P:Program} {N:Frm} {f:Fr} {w w' w0:World} {H0 H:Hp} {L:List Ent} {ops:Array Oper} {rest:List Oper} {Q:Fr→World→Prop} {d:Nat} {od:Option Nat} {ty:TypeId} {pos:String} {af:Array Edge} {g:Option (Nat×Bool)}
theorem zFS {T:TypeId} (hT:P.underlying T=some (.int .i64)) (e:Bool) (v:Value):(Instr.checkKey e 10000 T v).run P w=.ok () w:=by
  unfold Instr.checkKey
  rw [Sem.run_bind,run_underlying hT,Result.andThen_ok]
  rfl
theorem zF2 {T:TypeId} (hT:P.underlying T=some (.int .i64)) {k:Int} {es:List MapEntry} {r:Option (Nat×Value)} (hr:Instr.findNow (.int .i64) (int k) es 0=some r):(Instr.findKey T (int k) es).run P w=.ok r w:=by
  unfold Instr.findKey
  rw [Sem.run_bind,run_underlying hT,Result.andThen_ok,hr]
  rfl
theorem R.lookupI {T K E : TypeId} {x y : Operand} {b i : Nat} {m : List (Int × Value)} {k : Int} {v : Value} (S : St w0 H0 w H L) (hx : ev N f x = mapv b) (hy : ev N f y = int k) (hi : L[i]? = some (.mp b (enci m)))
    (hT:P.underlying T=some (.map K E)) (hK:P.underlying K=some (.int .i64)) (h:m.lookup k=some v) :
    (execOp (ev N f) ⟨od,.lookup T x y true,ty,pos,af,g⟩).run P w=.ok (.value (.tuple ⟨[v,boo true]⟩)) w:=by
  obtain ⟨_,es,cl,hc,he⟩:=S.mpOk hi
  obtain ⟨r,hr1,hr2⟩:=zFd k m es.toList 0 he
  have hg:(getObj b).run P w=.ok (.map es cl) w:=MapKept.run_getObj_map hc
  have hfk:=zF2 (w:=w) hK hr1
  rw [h] at hr2
  obtain ⟨j,rfl⟩:∃ j,r=some (j,v):=by
    cases r with
    | none=>simp at hr2
    | some q=>obtain ⟨j,u⟩:=q; simp at hr2; exact ⟨j,by rw [hr2]⟩
  simp [execOp,Instr.lookup,hx,hy,mapv,run_underlying hT,hg,zFS hK,hfk,Result.andThen,boo]
theorem R.lookupIN {T K E : TypeId} {x y : Operand} {b i : Nat} {m : List (Int × Value)} {k : Int} {zc : Value} (S : St w0 H0 w H L) (hx : ev N f x = mapv b) (hy : ev N f y = int k) (hi : L[i]? = some (.mp b (enci m)))
    (hT:P.underlying T=some (.map K E)) (hK:P.underlying K=some (.int .i64)) (hz:((P.info? E).bind (·.zero))=some zc) (h:m.lookup k=none) :
    (execOp (ev N f) ⟨od,.lookup T x y true,ty,pos,af,g⟩).run P w=.ok (.value (.tuple ⟨[zc,boo false]⟩)) w:=by
  obtain ⟨_,es,cl,hc,he⟩:=S.mpOk hi
  obtain ⟨r,hr1,hr2⟩:=zFd k m es.toList 0 he
  have hg:(getObj b).run P w=.ok (.map es cl) w:=MapKept.run_getObj_map hc
  have hz':(zeroValue E).run P w=.ok zc w:=by
    cases hE:P.info? E with
    | none=>rw [hE] at hz; cases hz
    | some inf=>rw [hE] at hz; simp at hz; simp [zeroValue,typeInfo,hE,hz]
  have hfk:=zF2 (w:=w) hK hr1
  rw [h] at hr2
  have hr:r=none:=by cases r with
    | none=>rfl
    | some _=>simp at hr2
  subst hr
  simp [execOp,Instr.lookup,hx,hy,mapv,run_underlying hT,hg,zFS hK,hfk,hz',Result.andThen,boo]
theorem W.insertI {T K E : TypeId} {x y z : Operand} {b i : Nat} {m : List (Int × Value)} {k : Int} {v : Value} (S : St w0 H0 w H L) (hx : ev N f x = mapv b) (hy : ev N f y = int k) (hz : ev N f z = v) (hi : L[i]? = some (.mp b (enci m)))
    (hT:P.underlying T=some (.map K E)) (hK:P.underlying K=some (.int .i64)) (h:m.lookup k=none)
    (kk:∀ w',St w0 H0 w' H (L.set i (.mp b (enci (m++[(k,v)]))))→WL P N ops rest Q (updo f od undef) w'):WL P N ops (⟨od,.insert T x y z,ty,pos,af,none⟩ :: rest) Q f w:=by
  obtain ⟨hH,es,cl,hc,he⟩:=S.mpOk hi
  obtain ⟨r,hr1,hr2⟩:=zFd k m es.toList 0 he
  have hg:(getObj b).run P w=.ok (.map es cl) w:=MapKept.run_getObj_map hc
  have hfk:=zF2 (w:=w) hK hr1
  have hset:∀ es' cl',(setObj b (.map es' cl')).run P w=.ok () (setBlock w b (.map es' cl')):=fun es' cl'=>MapKept.run_setObj_map _ hc
  rw [h] at hr2
  have hr:r=none:=by cases r with
    | none=>rfl
    | some _=>simp at hr2
  subst hr
  refine WL.skipw (w':=setBlock w b (.map (es.push { key:=int k,val:=v,born:=cl }) (cl+1))) ?_ (kk _ (S.setMp hi ?_))
  · simp [execOp,Instr.mapUpdate,hx,hy,hz,mapv,run_underlying hT,hg,zFS hK,hfk,hset,Result.andThen]
  · rw [Array.toList_push,List.map_append,he]
    simp [enci]
end
end Go.Eng
