/- A part. -/
import Derived.Test.YtihjhdoinmfddaaGreatDoorEng19
import Derived.Deep.AppendSrc
import Derived.Deep.Upon
import Derived.Lib.UnsafeStr
import Derived.Lib.Builder
import Derived.Laws.Externs
import Derived.Laws.Pointers
import Derived.WideLaws
import Derived.Laws.Entries
import Derived.Lib.IndexAny
set_option linter.unusedVariables false
set_option linter.unusedSimpArgs false
namespace Go.Eng
open Go
variable {P:Program} {md:Region.Mode} {ops:Array Oper} {Q:Exit→Act→World→Prop} {C:World→Prop}
def wpAnyC (P:Program) (md:Region.Mode) (ops:Array Oper) (C:World→Prop) (Q:Exit→Act→World→Prop):Nat→Array Bool→Act→World→Prop
 | 0,listed,a,w=>C w∧Region.ready md ops listed=[]∧Q .normal a w
 | n + 1, listed, a, w => C w ∧ (Region.ready md ops listed = [] → Q .normal a w) ∧
   ∀ i ∈ Region.ready md ops listed,wpOp P ops Q i (wpAnyC P md ops C Q n (listed.setIfInBounds i true)) a w
theorem wpAnyC.cls:∀ {n:Nat} {listed:Array Bool} {a:Act} {w:World},wpAnyC P md ops C Q n listed a w→C w
 | 0,_,_,_,h=>h.1
 | _+1,_,_,_,h=>h.1
theorem wpAnyC.any:∀ {n:Nat} {listed:Array Bool} {a:Act} {w:World},wpAnyC P md ops C Q n listed a w→wpAny P md ops Q n listed a w
 | 0,_,_,_,h=>h.2
 | _+1,_,_,_,h=>⟨h.2.1,fun i hi=>wpOp_mono (fun _ _ h=>wpAnyC.any h) (h.2.2 i hi)⟩
def YieldsC (P:Program) (ops:Array Oper) (C:World→Prop) (o:Oper) (v:Value) (a:Act):Prop :=
 (Region.wanted o (yielded ops a.tmps)=true∧∀ w,C w→(execOp a.eval o).run P w=.ok (.value v) w) ∨
 (Region.wanted o (yielded ops a.tmps)=false∧v=undef)
theorem YieldsC.wpOp {i : Nat} {o : Oper} {v : Value} {a : Act} (hi : ops[i]? = some o) (hy : YieldsC P ops C o v a)
    {K:Act→World→Prop} {w:World} (hC:C w) (h:K (a.put o.dst v) w):wpOp P ops Q i K a w:=by
  unfold Go.wpOp;simp only [hi];rcases hy with ⟨hw,hv⟩ | ⟨hw,rfl⟩
  all_goals grind [Oper.wp,Oper.upon]
theorem YieldsC.of_same {o : Oper} {v : Value} {a a' : Act} (hy : YieldsC P ops C o v a) (he : execOp a'.eval o = execOp a.eval o)
    (hw:Region.wanted o (yielded ops a'.tmps)=Region.wanted o (yielded ops a.tmps)):YieldsC P ops C o v a':=by
  unfold YieldsC at *
  grind
theorem zOS {j : Nat} {oi oj : Oper} {v : Value} (hj : ops[j]? = some oj) (hap : oi.apart ops oj = true)
    (hsi:∀ cs b,oi.op≠.select cs b) (hsj:∀ cs b,oj.op≠.select cs b)
    (hQ:∀ c a w,Q (.panic c) (a.put oi.dst v) w→Q (.panic c) a w) {K:Act→World→Prop} {a:Act} {w:World}
    (hy:YieldsC P ops C oi v a) (h:wpOp P ops Q j K (a.put oi.dst v) w) :
    wpOp P ops Q j (fun a' w'=>YieldsC P ops C oi v a'∧K (a'.put oi.dst v) w') a w:=by
  obtain ⟨h1,h2,h3⟩:=Oper.apart_spec hap
  have keep:∀ (a:Act),YieldsC P ops C oi v a→∀ u,YieldsC P ops C oi v (a.put oj.dst u):=fun a hy u =>
    hy.of_same (execOp_put oi hsi a oj.dst u h3) (wanted_put oi a oj.dst u h3)
  have keepD:∀ d,YieldsC P ops C oi v { a with defers:=d :: a.defers }:=fun d=>hy.of_same rfl rfl
  unfold wpOp at *
  simp only [hj] at *
  rw [wanted_put oj a oi.dst v h1] at h;split
  · rename_i hw
    simp only [hw,if_true] at h;rcases h with h | ⟨hasks,hlets⟩
    case inr=>exact .inr ⟨by unfold Oper.asks at *; rw [execOp_put oj hsj a oi.dst v h1] at hasks; exact hasks,hlets⟩
    refine .inl ?_;unfold Oper.wp at *
    rw [execOp_put oj hsj a oi.dst v h1] at h;generalize (execOp a.eval oj).run P w=r at *
    cases r with
    | ok n w' =>
      cases n <;> simp only [Oper.upon] at h ⊢ <;> grind [Act.put_comm,Act.put_defers,Calls.mono]
    | halt x w' =>
      cases x <;> simp only [Oper.upon] at h ⊢
      grind
  grind [Act.put_comm]
theorem zOc {i : Nat} {oi : Oper} {v : Value} (hi : ops[i]? = some oi) (hsel : ∀ (j : Nat) (o : Oper) cs b, ops[j]? = some o → o.op ≠ .select cs b)
    (hQ:∀ c a w,Q (.panic c) (a.put oi.dst v) w→Q (.panic c) a w) :
    ∀ (fuel:Nat) (listed:Array Bool) (a:Act) (w:World),
      (∀ j oj,ops[j]?=some oj→j≠i→listed.getD j true=false→(∀ e ∈ oj.after,Region.binds md e=true→e.on≠i)→oi.apart ops oj=true) →
      i ∈ Region.ready md ops listed→YieldsC P ops C oi v a →
      wpAnyC P md ops C Q fuel (listed.setIfInBounds i true) (a.put oi.dst v) w→wpAnyC P md ops C Q (fuel+1) listed a w:=by
  intro fuel
  induction fuel with
  | zero =>
    intro listed a w _ hr hy H;refine ⟨H.cls,fun h=>gR,fun j hj=>?_⟩;by_cases hji:j=i
    · subst hji; exact hy.wpOp hi H.cls H
    · have:=ready_mono hj hji
      rw [H.2.1] at this;cases this
  | succ fuel ih =>
    intro listed a w hfree hr hy H;refine ⟨H.cls,fun h=>gR,fun j hj=>?_⟩;by_cases hji:j=i
    · subst hji; exact hy.wpOp hi H.cls H
    · have h1:=H.2.2 j (ready_mono hj hji)
      obtain ⟨hjun,oj,hoj,hall⟩:=mem_ready.1 hj;have hnot:∀ e ∈ oj.after,Region.binds md e=true→e.on≠i:=fun e he hb heq=>by
        grind [mem_ready]
      have h2:=zOS hoj (hfree j oj hoj hji hjun hnot) (fun cs b=>hsel i oi cs b hi) (fun cs b=>hsel j oj cs b hoj) hQ hy h1
      have hfree' : ∀ k ok, ops[k]? = some ok → k ≠ i → (listed.setIfInBounds j true).getD k true = false →
          (∀ e ∈ ok.after,Region.binds md e=true→e.on≠i)→oi.apart ops ok=true:=fun k ok hk hki hun hno=>by
        refine hfree k ok hk hki ?_ hno;by_cases hjk:j=k
        all_goals simp_all
      grind [wpOp_mono,ready_mono,Array.setIfInBounds_comm]
structure WC (P:Program) (N:Frm) (ops:Array Oper) (C:World→Prop) (n:Nat) (listed:Array Bool) (Q:Fr→World→Prop) (f:Fr) (w:World):Prop where
 out:wpAnyC P .any ops C (fun e a w'=>∃ f',a=act N f'∧e=.normal∧Q f' w') n listed (act N f) w
section
variable {N:Frm} {f:Fr} {w w0:World} {H0 H:Hp} {L:List Ent} {Q:Fr→World→Prop} {n:Nat} {listed:Array Bool}
theorem WP.drawC {id:Nat} {Q:Exit→Fr→World→Prop} (C:World→Prop) (hm:P.follows .mixedOrders=true) (m:Nat) (hn:ops.size=m) (l0:Array Bool) (hl:Array.replicate m false=l0) (h:WC P N ops C m l0 (Q .normal) f w.drew):WP P N (.region id ops true) Q f w:=by
 subst hn; subst hl;refine wp_region_any hm (zHw (fun e a w ⟨f',ha,he,hq⟩=>?_) _ _ _ _ h.out.any)
 grind
variable {af:Array Edge} {b:Bool} {d:Option Nat} {i:Nat} {pos:String} {ty:TypeId}
theorem WC.take {op : Op} {v : Value} (listed' : Array Bool) (hi : ops[i]? = some ⟨d, op, ty, pos, af, none⟩) (hs : Region.noSelect ops = true) (hf : Region.free .any ops listed i = true)
    (hr:(Region.ready .any ops listed).contains i=true) (hl:listed.setIfInBounds i true=listed') (hrun:∀ w,C w→(execOp (ev N f) ⟨d,op,ty,pos,af,none⟩).run P w=.ok (.value v) w)
    (h:WC P N ops C n listed' Q (updo f d v) w):WC P N ops C (n+1) listed Q f w:=by
  subst hl;refine ⟨zOc hi (Region.noSelect_spec hs) (fun c a w ⟨f',_,he,_⟩=>by cases he) n listed _ w (Region.free_spec hi hf) (by simpa using hr) (v:=v) (.inl ⟨by simp [Region.wanted],fun w hw=>?_⟩) ?_⟩
  · rw [zCR]; exact hrun w hw
  · show wpAnyC P .any ops C _ n _ ((act N f).put d v) w
    rw [zCK]; exact h.out
theorem zM3 {j:Nat} {o:Oper} {K:Fr→World→Prop} {Q:Fr→World→Prop} (hi:ops[j]?=some o) (h:WL P N ops [o] K f w):wpOp P ops (fun e a w'=>∃ f',a=act N f'∧e=.normal∧Q f' w') j (fun a w'=>∃ f',a=act N f'∧K f' w') (act N f) w:=by
 unfold wpOp;rw [hi];have h':wpList P ops (fun e a w'=>∃ f',a=act N f'∧e=.normal∧K f' w') [o] (act N f) w:=h.out;unfold wpList at h'
 show if Region.wanted o (yielded ops (act N f).tmps)=true then _ else _
 split
 ·rename_i hw
  rw [if_pos hw] at h';rcases h' with h' | ⟨_,a0,w0,f0,_,he,_⟩
  ·refine .inl (Oper.wp_monoQ (fun a w hk=>?_) (fun e a w hne ⟨f',ha,he,_⟩=>absurd he hne) h')
   obtain ⟨f',ha,_,hq⟩:=hk
   grind
  ·cases he
 ·rename_i hw
  rw [if_neg hw] at h';obtain ⟨f',ha,_,hq⟩:=h'
  grind
def Nxt (P:Program) (N:Frm) (ops:Array Oper) (C:World→Prop) (n:Nat) (listed:Array Bool) (Q:Fr→World→Prop) (f:Fr) (w:World) (i:Nat):Prop :=
 ∃ o,ops[i]?=some o∧WL P N ops [o] (fun f' w'=>WC P N ops C n (listed.setIfInBounds i true) Q f' w') f w
theorem WC.next {rs:List Nat} (hC:C w) (hr:Region.ready .any ops listed=rs) (hne:rs≠[]) (h:∀ i ∈ rs,Nxt P N ops C n listed Q f w i):WC P N ops C (n+1) listed Q f w:=by
 subst hr;refine ⟨hC,fun h0=>absurd h0 hne,fun i hi=>?_⟩;obtain ⟨o,ho,hw⟩:=h i hi;refine wpOp_mono (fun a w' ⟨f',ha,hq⟩=>?_) (zM3 (Q:=Q) ho hw);subst ha; exact hq.out
theorem Nxt.mk {o:Oper} (listed':Array Bool) (hi:ops[i]?=some o) (hl:listed.setIfInBounds i true=listed') (h:WL P N ops [o] (fun f' w'=>WC P N ops C n listed' Q f' w') f w):Nxt P N ops C n listed Q f w i:=by
 subst hl; exact ⟨o,hi,h⟩
theorem all1 {p:Nat→Prop} {a:Nat} (h:p a):∀ i ∈ [a],p i:=by grind
theorem WC.done (hC:C w) (hr:Region.ready .any ops listed=[]) (h:Q f w):WC P N ops C n listed Q f w:=by
 refine ⟨?_⟩;cases n with
 | zero=>exact ⟨hC,hr,f,rfl,rfl,h⟩
 | succ n=>exact ⟨hC,fun _=>⟨f,rfl,rfl,h⟩,by rw [hr]; simp⟩
end
end Go.Eng
namespace Go.Eng
open Go Go.RowKit
section
variable {α:Type} [Enc α] {P:Program} {w0 w:World} {H0 H:Hp} {L:List Ent}
theorem zJL {P : Program} (w : World) (t tx ty e : TypeId) (i : TypeInfo) (ht : P.underlying t = some (.slice e)) (hi : P.info? e = some i)
    (g sLen sCap:Nat) (cur:Array Value) (hg:w.heap[g]?=some (.cells cur e (0,0))) (x:Value) (n:Nat) (news:List Value) (hs:Src P i.size tx x n news w)
    (hroom:sLen+n≤sCap) (hfit:sLen*i.size+news.length≤cur.size) :
    (Builtin.append_ #[t,tx] ty #[.slice (some ⟨g,0,none⟩) sLen sCap,x]).run P w =
      .ok (.slice (some ⟨g,0,none⟩) (sLen+n) sCap) (w.setRow g (cur.toList.take (sLen*i.size)++news++cur.toList.drop (sLen*i.size+news.length)).toArray):=by
  have hst:=run_storeCells_at P g (sLen*i.size) e news 0 cur w hg (by simpa using hfit) hs.one;simp only [Nat.add_zero] at hst;rcases hs.kind with ⟨e',hk⟩ | hk <;> simp [Builtin.append_,run_underlying ht,run_underlying hk,sizeOf,typeInfo,hi,hs.len,hroom,hs.cells,Addr.add_lit,hst]
theorem St.appendSrc (S : St w0 H0 w H L) {i : Nat} {t tx ty e : TypeId} {v u : Value} {xs ys zs : List α} {ysC : List Value} (hE : Elem P t e (Enc.sz α)) (hi : L[i]? = some (.row v e (Enc.sz α) xs.length))
    (hx:Sl H v xs) (hs:Src P (Enc.sz α) tx u ys.length ysC w) (hyC:Cells H ysC ys) (hz:xapp xs ys=some zs) :
    ∃ v' w' H',(Builtin.append_ #[t,tx] ty #[v,u]).run P w=.ok v' w'∧H.le H'∧Sl H' v' zs∧St w0 H0 w' H' (L.set i (.row v' e (Enc.sz α) zs.length)):=by
  have hsz:=Enc.pos (α:=α);unfold xapp at hz;split at hz
  case isFalse=>cases hz
  rename_i hbig;simp only [oI] at hz;subst hz;by_cases hne:ys=[]
  · subst hne
    obtain ⟨a,c,rfl,h1,h2,h3⟩:=hx;have h0:ysC=[]:=hyC;subst h0;obtain ⟨ht,inf,z,hinf,hzz,hsize,hzs,hbytes⟩:=hE;refine ⟨_,w,H,run_append_nothing w t tx ty e inf ht hinf a xs.length c h1 u gR,Hp.le.refl _,?_,?_⟩
    · rw [List.append_nil]; exact ⟨a,c,rfl,h1,h2,h3⟩
    · rw [List.append_nil]
      have:L.set i (.row (.slice a xs.length c) e (Enc.sz α) xs.length)=L:=by
        have hlt:=(List.getElem?_eq_some_iff.1 hi).1;exact List.ext_getElem? fun j=>by
          grind
      rw [this]; exact S
  have hyl:=hs.newsLen;have hE':=hE;obtain ⟨ht,inf,z,hinf,hzz,hsize,hzs,hbytes⟩:=hE';have hmem:=lG hi;have hrow:RowOk w H v e (Enc.sz α) xs.length:=S.ents _ hmem;have hm:0<ys.length:=List.length_pos_iff.2 hne;have hb2:(xs.length+ys.length)*inf.bytes≤140737488355328:=by
    have h1:=Nat.mul_le_mul hbig hbytes
    grind [big]
  have h63:xs.length+ys.length≤maxLen:=nT hbig (by simp [big,maxLen]);have h63':((xs.length+ys.length:Nat):Int)≤9223372036854775807:=by grind [maxLen]
  have hlen:(xs++ys).length=xs.length+ys.length:=lA;obtain ⟨xsC,hxC,hxcell,hxl⟩:∃ xsC,Cells H xsC xs∧(∀ g n cap,v=.slice (some ⟨g,0,none⟩) n cap→H g=some (e,xsC)∧∀ j u,xsC[j]?=some u→w.cell? ((⟨g,0,none⟩:Addr).add j)=some u)∧xsC.length=xs.length*Enc.sz α:=by
    rcases hrow with ⟨rfl,h0⟩ | ⟨g,cap,cur,rfl,hg,hnc,hcm,hcs,hHg⟩
    · have:xs=[]:=List.eq_nil_of_length_eq_zero h0
      subst this;exact ⟨[],rfl,(fun g n cap h=>by cases h),sI⟩
    · by_cases hxe:xs=[]
      · subst hxe
        refine ⟨[],rfl,(fun g' n cap' h=>?_),sI⟩;simp_all
      · obtain ⟨a,c,hv,_,_,h3⟩:=hx
        rcases h3 with h3 | ⟨b,off,cs,ha,hat,hc⟩
        · grind
        subst ha;simp only [Value.slice.injEq,oI,Addr.mk.injEq] at hv;obtain ⟨⟨rfl,rfl,_⟩,_,rfl⟩:=hv;have hat':=hat;obtain ⟨T',l,_,hHl,r,hr⟩:=hat;have hTl:T'=e∧l=cur.toList.take (xs.length*Enc.sz α):=by
          grind
        have hcsl:=hc.length;have hr0:r=[]:=by
          have h1:(l.drop 0).length=(cs++r).length:=congrArg List.length hr;rw [hTl.2] at h1;simp only [List.drop_zero,List.length_take,Array.length_toList,lA,hcs,hcsl] at h1
          grind
        have hlcs:l=cs:=by grind
        refine ⟨cs,hc,(fun g' n cap' h=>?_),hcsl⟩;simp only [Value.slice.injEq,oI,Addr.mk.injEq] at h;obtain ⟨⟨rfl,_⟩,_⟩:=h;exact ⟨gR,fun j u hu=>hat'.cell S.holds hu⟩
  have hxyC:Cells H (xsC++ysC) (xs++ys):=hxC.append hyC;have hxylen:(xsC++ysC).length=(xs.length+ys.length)*Enc.sz α:=by grind
  have grown : ∀ (old : Nat), old < xs.length + ys.length →
      ∃ H',H.le H'∧Sl H' (.slice (some ⟨w.heap.size,0,none⟩) (xs.length+ys.length) (grownCap w (xs.length+ys.length) old e)) (xs++ys) ∧
        St w0 H0 (w.drew.alloc (.cells ((xsC++ysC).toArray++Builtin.zeroCells z.cells (grownCap w (xs.length+ys.length) old e - (xs.length+ys.length))) e)) H'
          (L.set i (.row (.slice (some ⟨w.heap.size,0,none⟩) (xs.length+ys.length) (grownCap w (xs.length+ys.length) old e)) e (Enc.sz α) (xs++ys).length)):=by
    intro old hold;have hge:=grownCap_ge w (xs.length+ys.length) old e;have hcm:grownCap w (xs.length+ys.length) old e≤maxLen:=grownCap_le_maxLen w (xs.length+ys.length) old e h63;generalize grownCap w (xs.length+ys.length) old e=cap at *
    have S1:=S.drew.box e ((xsC++ysC).toArray++Builtin.zeroCells z.cells (cap - (xs.length+ys.length))) (0,0) (xsC++ysC) (Builtin.zeroCells z.cells (cap - (xs.length+ys.length))).toList sI om;obtain ⟨H',hle,hHn,hHo,S2⟩:=S1.settle (i:=0) rfl;simp only [List.eraseIdx_cons_zero] at S2;refine ⟨H',hle,⟨some ⟨w.heap.size,0,none⟩,cap,by rw [hlen],om,hcm,.inr ⟨w.heap.size,0,_,rfl,⟨e,_,rfl,hHn,[],sI⟩,hxyC.mono hle⟩⟩,?_⟩;have hlt:i<L.length:=(List.getElem?_eq_some_iff.1 hi).1;refine ⟨S2.post,?_,?_,?_⟩
    · intro x hxm
      obtain ⟨j,hj⟩:=lI.1 hxm;by_cases hij:i=j
      · subst hij
        rw [List.getElem?_set_self hlt] at hj;simp at hj; subst hj;refine .inr ⟨w.heap.size,cap,_,rfl,heap_alloc_new w.drew _,hge,hcm,?_,?_⟩
        · simp only [Array.size_append,List.size_toArray,lA,size_zeroCells,hzs,hxl,hyl,← Nat.add_mul] <;> grind
        · rw [show H' w.heap.size=some (e,xsC++ysC) from hHn,← hxylen]
          grind
      · rw [List.getElem?_set_ne hij] at hj
        exact S2.ents x (lG hj)
    · intro x hxm b hb
      obtain ⟨j,hj⟩:=lI.1 hxm;by_cases hij:i=j
      · subst hij
        rw [List.getElem?_set_self hlt] at hj;simp at hj; subst hj;simp [Ent.blk,Value.ownBlock] at hb;subst hb;exact S.post.below.size
      · rw [List.getElem?_set_ne hij] at hj
        exact S2.own x (lG hj) b hb
    · -- the new block is no other's
      have hall:∀ b ∈ L.filterMap Ent.blk,b<w.heap.size:=fun b hb=>S.lt hb
      have key : ∀ (K : List Ent) (i : Nat) (v' : Value) (m : Nat), (K.filterMap Ent.blk).Nodup → (∀ b ∈ K.filterMap Ent.blk, b < w.heap.size) → v'.ownBlock = some w.heap.size →
          ((K.set i (.row v' e (Enc.sz α) m)).filterMap Ent.blk).Nodup∧∀ b ∈ (K.set i (.row v' e (Enc.sz α) m)).filterMap Ent.blk,b<w.heap.size∨b=w.heap.size:=by
        intro K
        induction K with
        | nil=>grind
        | cons x K ih =>
          intro i v' m h1 h2 h3;have h1':(K.filterMap Ent.blk).Nodup:=by
            grind
          have h2':∀ b ∈ K.filterMap Ent.blk,b<w.heap.size:=by
            grind
          cases i <;> grind [Ent.blk]
      exact (key L i _ _ S.nodup hall rfl).1
  rcases hrow with ⟨rfl,h0⟩ | ⟨g,cap,cur,rfl,hg,hnc,hcm,hcs,hHg⟩
  · have hxe:xs=[]:=List.eq_nil_of_length_eq_zero h0
    subst hxe;have hxC0:xsC=[]:=hxC
    grind [run_append_grow_src,run_firstCells_none,growslice_fits]
  · obtain ⟨hHx,hcell⟩:=hxcell g _ cap rfl
    by_cases hroom:xs.length+ys.length≤cap
    · have hfit:xs.length*inf.size+ysC.length≤cur.size:=by rw [hyl,hcs,hsize,← Nat.add_mul]; exact Nat.mul_le_mul_right _ hroom
      have hr:=zJL (P:=P) w t tx ty e inf ht hinf g xs.length cap cur hg u ys.length ysC gR hroom hfit;have htake:cur.toList.take (xs.length*Enc.sz α)=xsC:=by grind
      rw [hsize,htake] at hr;have hgown:w0.heap.size≤g:=S.own _ hmem g rfl;have hle:H.le (fun k=>if k=g then some (e,xsC++ysC) else H k):=by
        intro k T' l hk;by_cases h:k=g
        all_goals simp_all
      refine ⟨_,_,fun k=>if k=g then some (e,xsC++ysC) else H k,hr,hle,?_,?_⟩
      · exact ⟨some ⟨g,0,none⟩,cap,by rw [hlen],om,hcm,.inr ⟨g,0,xsC++ysC,rfl,⟨e,_,rfl,if_pos rfl,[],sI⟩,hxyC.mono hle⟩⟩
      · have hlt:i<L.length:=(List.getElem?_eq_some_iff.1 hi).1
        have hnew:(w.setRow g (xsC++ysC++cur.toList.drop (xs.length*Enc.sz α+ysC.length)).toArray).heap[g]?=some (.cells (xsC++ysC++cur.toList.drop (xs.length*Enc.sz α+ysC.length)).toArray e (0,0)):=setRow_heap w g cur _ e _ hg;refine ⟨⟨S.post.below.trans ⟨rfl,rfl,rfl,sI,fun k hk=>setRow_other w g k _ om⟩,S.post.le.trans hle,fun b hb=>?_,?_⟩,?_,?_,?_⟩
        · show (if b=g then _ else H b)=_
          rw [if_neg om]; exact S.post.eqb b hb
        · intro k T' l hk
          by_cases h:k=g
          · grind
          · simp [h] at hk
            rw [setRow_other w g k _ h];exact S.holds k T' l hk
        · intro x hxm
          obtain ⟨j,hj⟩:=lI.1 hxm;by_cases hij:i=j
          · subst hij
            rw [List.getElem?_set_self hlt] at hj;simp at hj; subst hj;refine .inr ⟨g,cap,_,rfl,hnew,hroom,hcm,?_,?_⟩ <;> grind
          · rw [List.getElem?_set_ne hij] at hj
            refine Ent.ok_keep (S.ents x (lG hj)) fun k hk=>?_
            have hkg:k≠g:=S.blk_ne hj hi hk rfl (Ne.symm hij)
            grind [setRow_other]
        · intro x hxm b hb
          obtain ⟨j,hj⟩:=lI.1 hxm;by_cases hij:i=j
          · grind [Ent.blk,Value.ownBlock]
          · rw [List.getElem?_set_ne hij] at hj
            exact S.own x (lG hj) b hb
        · rw [zDS (e':=.row (.slice (some ⟨g,0,none⟩) (xs.length+ys.length) cap) e (Enc.sz α) (xs++ys).length) hi rfl]; exact S.nodup
    · have hr:=run_append_grow_src (P:=P) w t tx ty e inf z ht hinf hzz (some ⟨g,0,none⟩) xs.length cap xsC (run_firstCells_some w.drew inf.size xs.length ⟨g,0,none⟩ xs.length cap xsC (by grind) (fun j v hv=>by simp_all)) u ys.length ysC (by grind) (by omega) h63' (growslice_fits (by omega) hb2)
      grind
end
theorem Cells.ofBytes {H:Hp}:∀ (s:Str),Cells (α:=UInt8) H (s.map byt) s
 | []=>rfl
 | c :: s=>⟨[byt c],s.map byt,rfl,rfl,Cells.ofBytes s⟩
theorem zN4 (s:Str):byteCells ⟨⟨s⟩⟩=s.map byt:=by
 unfold byteCells byt;simp
section
variable {P:Program} {N:Frm} {f:Fr} {w w0:World} {H0 H:Hp} {L:List Ent} {ops:Array Oper} {rest:List Oper} {Q:Fr→World→Prop} {d:Nat} {od:Option Nat} {ty:TypeId} {pos:String} {af:Array Edge} {g:Option (Nat×Bool)}
theorem W.appStr {T T' e : TypeId} {x y : Operand} {v : Value} {xs ys zs : Str} {i : Nat} (S : St w0 H0 w H L) (hE : Elem P T e 1) (hT : P.underlying T' = some .string) (hi : L[i]? = some (.row v e 1 xs.length))
    (hx:ev N f x=v) (hy:ev N f y=str ys) (hX:Sl (α:=UInt8) H v xs) (h:xapp xs ys=some zs)
    (k:∀ v' w' H',H.le H'→Sl (α:=UInt8) H' v' zs→St w0 H0 w' H' (L.set i (.row v' e 1 zs.length))→WL P N ops rest Q (upd f d v') w'):WL P N ops (⟨some d,.call ⟨.builtin .append,#[x,y],#[T,T']⟩,ty,pos,af,none⟩ :: rest) Q f w:=by
  have hs:Src P (Enc.sz UInt8) T' (str ys) ys.length (ys.map byt) w:=by
    have:=Src.ofString (P:=P) w hT ⟨⟨ys⟩⟩;rw [zN4] at this;exact this
  obtain ⟨v',w',H',hr,hle,hsl,hst⟩:=S.appendSrc (α:=UInt8) (P:=P) (t:=T) (ty:=ty) hE hi hX hs (Cells.ofBytes ys) h;refine WL.wz (v:=v') (w':=w') ?_ (k v' w' H' hle hsl hst) <;> simp_all [execOp,resolve,invoke,builtin]
end
theorem zQN {P:Program} {e:TypeId} (hc:0<P.cellsOf e) (count:Nat) (hn:1≤count):liesAt P P.depth e count 0 e 1=true:=by
 have hd:P.depth=(2*(P.types.size+Made.depth)+1)+1:=rfl;rw [hd];simp only [liesAt,Bool.or_eq_true];left;rw [hd];simp [rowAt,hn,sameLayout,show P.cellsOf e≠0 by omega]
section
variable {P:Program} {N:Frm} {f:Fr} {w w0:World} {H0 H:Hp} {L:List Ent} {ops:Array Oper} {rest:List Oper} {Q:Fr→World→Prop} {d:Nat} {od:Option Nat} {ty:TypeId} {pos:String} {af:Array Edge} {g:Option (Nat×Bool)}
variable {T T':TypeId} {b:Nat} {cs:List Value} {i:Nat} {ms:Array (String×TypeId)} {t:TypeId} {v:Value} {x y:Operand}
theorem BoxOk.shape (h:BoxOk w H b T cs):∃ n,w.shape? b=some (T,n)∧cs.length≤n:=by
 obtain ⟨_,arr,fz,hc,⟨r,hr⟩,_⟩:=h;refine ⟨arr.size,by simp [World.shape?,hc],?_⟩
 grind [lA]
theorem R.toUnsafe {U : TypeId} {n : Nat} (S : St w0 H0 w H L) (hi : L[i]? = some (.box b U cs)) (hx : ev N f x = ptr b 0) (hT : P.underlying T = some (.pointer t)) (hT' : P.underlying T' = some .unsafePointer) (hz : lay P t = some (true, n)) (hn : n ≠ 0) (hcs : cs ≠ []) :
  (execOp (ev N f) ⟨od,.convert T T' x,ty,pos,af,g⟩).run P w=.ok (.value (ptr b 0)) w:=by
 obtain ⟨m,hm,hle⟩:=(S.boxOk hi).shape
 grind [List.length_pos_iff,lay,Lib.run_to_unsafe,execOp,ptr,Sem.run_bind,Result.andThen_ok,Sem.run_pure]
theorem R.fromUnsafe {U : TypeId} (S : St w0 H0 w H L) (hi : L[i]? = some (.box b U cs)) (hx : ev N f x = ptr b 0) (hT : P.underlying T = some .unsafePointer) (hT' : P.underlying T' = some (.pointer U)) (hj : ∃ j, P.info? U = some j) (hc : P.cellsOf U = cs.length) (hcs : cs ≠ []) :
  (execOp (ev N f) ⟨od,.convert T T' x,ty,pos,af,g⟩).run P w=.ok (.value (ptr b 0)) w:=by
 obtain ⟨m,hm,hle⟩:=(S.boxOk hi).shape
 grind [List.length_pos_iff,zQN,Nat.le_div_iff_mul_le,Lib.run_from_unsafe,execOp,ptr,Sem.run_bind,Result.andThen_ok,Sem.run_pure]
theorem W.noEscape {k : FuncId} {fn : Func} {ats : Array TypeId} (hf : P.funcs[k]? = some fn) (hname : (fn.name == "runtime.NumGoroutine") = false) (hb : fn.body.isNone = true) (hn : Extern.findNext fn = none) (he : Extern.find fn = some Extern.AbiNoEscape.same)
    (hx:ev N f x=v) (h:WL P N ops rest Q (updo f od v) w):WL P N ops (⟨od,.call ⟨.value (.func k),#[x],ats⟩,ty,pos,af,none⟩ :: rest) Q f w:=by
  refine WL.wz (w':=w) (v:=v) ?_ h;have h1:(execOp (ev N f) ⟨od,.call ⟨.value (.func k),#[x],ats⟩,ty,pos,af,none⟩)=callFunc k (#[]++#[x].map (ev N f)++#[]):=rfl;simp_all [run_callFunc_extern,Lib.run_noEscape]
theorem R.eqlPN {p : Option Addr} (hx : ev N f x = .pointer p) (hy : ev N f y = .pointer none) (hT : P.underlying T = some (.pointer t)) :
  (execOp (ev N f) ⟨od,.binOp .eql T x y T',ty,pos,af,g⟩).run P w=.ok (.value (boo p.isNone)) w:=by
 simp_all [Program.pointee,run_eql_pointer_nil,execOp,eqGuard,boo]
theorem R.neqPN {p : Option Addr} (hx : ev N f x = .pointer p) (hy : ev N f y = .pointer none) (hT : P.underlying T = some (.pointer t)) :
  (execOp (ev N f) ⟨od,.binOp .neq T x y T',ty,pos,af,g⟩).run P w=.ok (.value (boo (!p.isNone))) w:=by
 simp_all [Program.pointee,run_neq_pointer_nil,execOp,eqGuard,boo]
theorem R.neqPS {o : Nat} (hx : ev N f x = ptr b o) (hy : ev N f y = ptr b o) (hT : P.underlying T = some (.pointer t)) (hj : ∃ j, P.info? t = some j) :
  (execOp (ev N f) ⟨od,.binOp .neq T x y T',ty,pos,af,g⟩).run P w=.ok (.value (boo false)) w:=by
 obtain ⟨j,hj⟩:=hj;simp_all [Lib.run_neq_ptr_same,execOp,eqGuard,boo,ptr]
theorem R.eqlPS {o : Nat} (hx : ev N f x = ptr b o) (hy : ev N f y = ptr b o) (hT : P.underlying T = some (.pointer t)) (hj : ∃ j, P.info? t = some j) :
  (execOp (ev N f) ⟨od,.binOp .eql T x y T',ty,pos,af,g⟩).run P w=.ok (.value (boo true)) w:=by
 obtain ⟨j,hj⟩:=hj;simp_all [run_eql_ptr_same,execOp,eqGuard,boo,ptr]
def SD (v p:Value):Prop:=∃ a n c q,v=.slice a n c∧p=.pointer q∧(n=0∨q=a)
theorem St.view (S:St w0 H0 w H L) (o:Obj):St w0 H0 (w.alloc o) H L:=by
 have hsz:w0.heap.size≤w.heap.size:=S.post.below.size;have hold:∀ i,i<w.heap.size→(w.alloc o).heap[i]?=w.heap[i]?:=fun i hi=>RowKit.Below.heap_alloc w _ i hi
 refine ⟨⟨S.post.below.alloc hsz _,S.post.le,S.post.eqb,fun b T' l hb=>?_⟩,?_,S.own,S.nodup⟩
 ·obtain ⟨cs',fz',hc,hr'⟩:=S.holds b T' l hb
  grind
 ·intro e he
  exact Ent.ok_keep (S.ents e he) fun b hb=>⟨hold b (Ent.ok_lt (S.ents e he) hb),rfl⟩
theorem W.sliceData {e te : TypeId} {sz n : Nat} (S : St w0 H0 w H L) (hi : L[i]? = some (.row v e sz n)) (hx : ev N f x = v) (hp : P.underlying ty = some (.pointer te))
    (k:∀ p w',SD v p→St w0 H0 w' H L→WL P N ops rest Q (upd f d p) w'):WL P N ops (⟨some d,.call ⟨.builtin .unsafeSliceData,#[x],#[T]⟩,ty,pos,af,none⟩ :: rest) Q f w:=by
  have hrow:RowOk w H v e sz n:=S.ents _ (lG hi);rcases hrow with ⟨rfl,h0⟩ | ⟨g',cap,cur,rfl,hg,hnc,hcm,hcs,hH⟩
  · refine WL.wz (v:=.pointer none) (w':=w) ?_ (k _ _ ⟨none,0,0,none,rfl,rfl,.inl rfl⟩ S)
    simp only [execOp,resolve,invoke,builtin,Sem.run_bind,Sem.run_pure,Result.andThen_ok,List.map_toArray,List.map_cons,List.map_nil,hx];rfl
  · by_cases hc:cap=0
    · subst hc
      have hz:=Lib.run_unsafeSliceData_zero (P:=P) w #[T] ty te hp ⟨g',0,none⟩ n (e,cur.size) (by simp [World.shape?,hg]);refine WL.wz (v:=.pointer (some ⟨w.heap.size,0,none⟩)) (w':=w.alloc (.view ⟨g',0,none⟩ te)) ?_ (k _ _ ⟨_,n,0,_,rfl,rfl,.inl om⟩ (S.view _)) <;> simp_all [execOp,resolve,invoke,builtin]
    · have hz:=Lib.run_unsafeSliceData_row (P:=P) w #[T] ty ⟨g',0,none⟩ n cap hc
      refine WL.wz (v:=.pointer (some ⟨g',0,none⟩)) (w':=w) ?_ (k _ _ ⟨_,n,cap,_,rfl,rfl,.inr rfl⟩ S) <;> simp_all [execOp,resolve,invoke,builtin]
theorem St.freeze (S:St w0 H0 w H L) {n:Nat} {sz g m cap:Nat} (hi:L[i]?=some (.row v T sz n)) (hv:v=.slice (some ⟨g,0,none⟩) m cap):St w0 H0 (w.freeze ⟨g,0,none⟩ n) H (L.eraseIdx i):=by
 have hmem:=lG hi;have hblk:(Ent.row v T sz n).blk=some g:=by rw [hv]; rfl
 have hown:=S.own _ hmem g hblk;have hoth:∀ k,k≠g→(w.freeze ⟨g,0,none⟩ n).heap[k]?=w.heap[k]?:=by
  grind [World.freeze]
 have hcell:∀ cs fz T',w.heap[g]?=some (.cells cs T' fz)→∃ fz',(w.freeze ⟨g,0,none⟩ n).heap[g]?=some (.cells cs T' fz'):=by
  grind [World.freeze]
 have hB:Below w0.heap.size w0 (w.freeze ⟨g,0,none⟩ n):=Lib.below_freeze S.post.below hown n;refine ⟨⟨hB,S.post.le,S.post.eqb,fun b T' l hb=>?_⟩,?_,fun e he=>S.own e ((List.eraseIdx_sublist _ _).subset he),S.nodup.sublist ((List.eraseIdx_sublist _ _).filterMap _)⟩
 ·obtain ⟨cs',fz',hc,hr'⟩:=S.holds b T' l hb
  grind
 ·intro e he
  obtain ⟨j,hj⟩:=lI.1 he;rw [List.getElem?_eraseIdx] at hj;split at hj
  ·exact Ent.ok_keep (S.ents e (lG hj)) fun k hk=>⟨hoth k (S.blk_ne hj hi hk hblk om),rfl⟩
  ·exact Ent.ok_keep (S.ents e (lG hj)) fun k hk=>⟨hoth k (S.blk_ne hj hi hk hblk om),rfl⟩
theorem W.strOf {T' e : TypeId} {p : Value} {s : Str} (S : St w0 H0 w H L) (hi : L[i]? = some (.row v e 1 s.length)) (R : Sl (α := UInt8) H v s) (hp : SD v p) (hx : ev N f x = p) (hy : ev N f y = int s.length) (hT : P.underlying T = some (.pointer e)) (hce : P.cellsOf e = 1)
    (k:∀ w',St w0 H0 w' H (L.eraseIdx i)→WL P N ops rest Q (upd f d (str s)) w'):WL P N ops (⟨some d,.call ⟨.builtin .unsafeString,#[x,y],#[T,T']⟩,ty,pos,af,none⟩ :: rest) Q f w:=by
  obtain ⟨a,n,c,q,rfl,rfl,hq⟩:=hp;obtain ⟨a',c',hv,h1,h2,h3⟩:=R;simp only [Value.slice.injEq] at hv;obtain ⟨rfl,rfl,rfl⟩:=hv;by_cases hs:s=[]
  · subst hs
    refine WL.wz (v:=str []) (w':=w) ?_ (k w (S.drop _ (List.eraseIdx_sublist _ _)));have:=Lib.run_unsafeString_none (P:=P) w T T' ty q;simp only [execOp,resolve,invoke,builtin,Sem.run_bind,Sem.run_pure,Result.andThen_ok,List.map_toArray,List.map_cons,List.map_nil,hx,show ev N f y=.int .i64 0 from hy,this];rfl
  · have hlen:s.length≠0:=by simpa using hs
    rcases h3 with h3 | ⟨b,off,cs,rfl,hat,hC⟩
    · exact absurd h3 hs
    obtain rfl:q=some ⟨b,off,none⟩:=hq.resolve_left hlen;have hrow:RowOk w H (.slice (some ⟨b,off,none⟩) s.length c) e 1 s.length:=S.ents _ (lG hi);rcases hrow with ⟨h,_⟩ | ⟨g',cap,cur,hv,hg,hnc,hcm,hcs,hH⟩
    · cases h
    simp only [Value.slice.injEq,oI,Addr.mk.injEq,and_true,true_and] at hv;obtain ⟨⟨rfl,rfl⟩,rfl⟩:=hv;have hbytes:=hC.bytes;subst hbytes;have:=Lib.run_unsafeString_row (P:=P) w T T' ty e hT hce b cur.size (by simp [World.shape?,hg]) s hs (by rw [hcs]; omega) (by grind [maxLen]) (fun j x hj=>by
      have h:=hat.cell S.holds (j:=j) (v:=byt x) (by grind);exact h)
    refine WL.wz (v:=str s) (w':=w.freeze ⟨b,0,none⟩ s.length) ?_ (k _ (S.freeze hi rfl)) <;> grind [str,execOp,resolve,invoke,builtin,Sem.run_bind,Sem.run_pure,Result.andThen_ok,int]
theorem ConS.mono {k:FuncId} {args:List Value} {H1:Hp} {L2:List Ent} {R R':Hp→Value→List Ent→Prop} (h:ConS P k args w0 H0 w H1 L2 R) (hr:∀ H v L,R H v L→R' H v L):ConS P k args w0 H0 w H1 L2 R' :=
 ⟨h.1,Calls.mono h.2 fun _ _ ⟨v,H',L',he,hl,hS,hv⟩=>⟨v,H',L',he,hl,hS,hr _ _ _ hv⟩⟩
theorem zGf (hT:P.underlying T=some (.interface ms)):P.underlying T=some (.interface (P.methodsAt T)):=by
 rw [hT]; simp [Program.methodsAt,hT]
theorem R.eqlNI {c : Value} (hx : ev N f x = .nilIface) (hc : c = .nilIface) (hT : P.underlying T = some (.interface ms)) :
  (execOp (ev N f) ⟨od,.binOp .eql T x (.const c) T',ty,pos,af,g⟩).run P w=.ok (.value (boo true)) w:=by
 simp_all [run_equal_nil_nil,zGf,ev,execOp,eqGuard_nil_constR,binOp,boo]
theorem R.neqNI {c : Value} (hx : ev N f x = .nilIface) (hc : c = .nilIface) (hT : P.underlying T = some (.interface ms)) :
  (execOp (ev N f) ⟨od,.binOp .neq T x (.const c) T',ty,pos,af,g⟩).run P w=.ok (.value (boo false)) w:=by
 simp_all [run_equal_nil_nil,zGf,ev,execOp,eqGuard_nil_constR,binOp,boo]
end
def zA1 (s sub:Str):Option Int:=match sub with | [c]=>strings_IndexByte s c | _=>none
theorem zU5 {P : Program} {k : FuncId} {fn : Func} {c : Code} {w : World} {H : Hp} {s sub : Str} {r : Int} (hf : P.funcs[k]? = some fn) (hb : fn.body = some c) (hname : (fn.name == "runtime.NumGoroutine") = false) (hw : Holds w H) (h : zA1 s sub = some r)
    (hc:∀ (s:ByteArray) (c:UInt8) (w:World),Calls P k #[.string s,.string ⟨#[c]⟩] w fun e w'=>e=.returned (.int .i64 (Lib.indexByte s.data.toList c))∧w'=w) :
    Con P k [str s,str sub] w H (fun _ u=>u=int r):=by
  unfold zA1 at h;split at h
  case h_2=>cases h
  rename_i c;have hh:=hc ⟨⟨s⟩⟩ c w;simp only [strings_IndexByte,oI] at h;subst h;exact Con.of_calls_same hf hb hname hw hh
end Go.Eng
namespace Go.Eng
open Go
theorem mapN {N:Frm} {f:Fr}:([]:List Operand).map (ev N f)=[]:=rfl
theorem mapC {N:Frm} {f:Fr} {x:Operand} {xs:List Operand} {v:Value} {vs:List Value} (h:ev N f x=v) (k:xs.map (ev N f)=vs):(x :: xs).map (ev N f)=v :: vs:=by
 grind
def ConI (P:Program) (m:String) (recv:Value) (args:List Value) (w:World) (H:Hp) (R:Hp→Value→Prop):Prop :=
 ∃ k as',(∀ w,(callMethod recv m args.toArray).run P w=.ok (.enter k as') w) ∧
  Calls P k as' w (fun e w'=>∃ v H',e=.returned v∧Post w H w' H'∧R H' v)
section
variable {P:Program} {N:Frm} {f:Fr} {w w0:World} {H0 H:Hp} {L:List Ent} {ops:Array Oper} {rest:List Oper} {Q:Fr→World→Prop} {d:Nat} {od:Option Nat} {ty:TypeId} {pos:String} {af:Array Edge} {g:Option (Nat×Bool)}
theorem ConI.mk {m:String} {k:FuncId} {recv v:Value} {args:List Value} {R:Hp→Value→Prop} (hm:∀ w,(callMethod recv m args.toArray).run P w=.ok (.enter k (v :: args).toArray) w) (C:Con P k (v :: args) w H R):ConI P m recv args w H R:=⟨k,_,hm,C.2⟩
theorem W.invoke {m : String} {x : Operand} {xs : List Operand} {ats : Array TypeId} {args : List Value} {rv : Value} {R : Hp → Value → Prop} (S : St w0 H0 w H L) (hx : ev N f x = rv) (ha : xs.map (ev N f) = args) (C : ConI P m rv args w H R)
    (K:∀ v w' H',H.le H'→St w0 H0 w' H' L→R H' v→WL P N ops rest Q (updo f od v) w'):WL P N ops (⟨od,.call ⟨.invoke x m,xs.toArray,ats⟩,ty,pos,af,none⟩ :: rest) Q f w:=by
  obtain ⟨k,as',hm,hc⟩:=C;refine WL.enterw (w':=w) (k:=k) (args:=as') ?_ (Calls.mono hc fun e w' ⟨v,H',he,hp,hv⟩=>⟨v,he,K v w' H' hp.le (S.call hp) hv⟩);subst ha; subst hx;have e:(#[ev N f x]++xs.toArray.map (ev N f)).extract 1 (#[ev N f x]++xs.toArray.map (ev N f)).size=(xs.map (ev N f)).toArray:=by
    simp [List.take_of_length_le]
  have a0:(#[ev N f x]++xs.toArray.map (ev N f))[0]?=some (ev N f x):=by simp
  have:(execOp (ev N f) ⟨od,.call ⟨.invoke x m,xs.toArray,ats⟩,ty,pos,af,none⟩).run P w=(callMethod (ev N f x) m (xs.map (ev N f)).toArray).run P w:=by
    show (Go.invoke (.fn (.method m) #[]) (#[ev N f x]++xs.toArray.map (ev N f))).run P w=_
    unfold Go.invoke;simp only [a0,e]
  grind
theorem R.mkIface {T : TypeId} {D : TypeDesc} {x : Operand} {v : Value} (hx : ev N f x = v) (hT : P.underlying T = some D) (hd : ∀ ms, D ≠ .interface ms) :
  (execOp (ev N f) ⟨od,.makeInterface T x,ty,pos,af,g⟩).run P w=.ok (.value (.iface T v)) w:=by
 simp_all [execOp,Instr.makeInterface,run_underlying]
end
def Ms {α:Type} [Enc α] (H:Hp) (ms:List Value) (xs:List α):Prop:=Enc.sz α=1∧Cells H ms xs∧xs.length≤1048576
def xmake {α:Type} (n:Int) (z:α):Option (List α):=if 0≤n∧n≤1048576 then some (List.replicate n.toNat z) else none
def xput {α:Type} (xs:List α) (i:Int) (x:α):Option (List α):=if 0≤i∧i<xs.length then some (xs.set i.toNat x) else none
section
variable {α:Type} [Enc α] {H H':Hp} {ms:List Value} {xs:List α}
theorem Ms.mono (h:Ms H ms xs) (hl:H.le H'):Ms H' ms xs:=⟨h.1,h.2.1.mono hl,h.2.2⟩
theorem Ms.length (h:Ms H ms xs):ms.length=xs.length:=by rw [h.2.1.length,h.1,Nat.mul_one]
theorem Ms.get (h:Ms H ms xs) {i:Int} {x:α} (hx:xnth xs i=some x):0≤i∧i<xs.length∧∃ v,ms[i.toNat]?=some v∧Enc.cells H [v] x:=by
 unfold xnth at hx;split at hx
 ·rename_i h0
  obtain ⟨hlt,_⟩:=List.getElem?_eq_some_iff.1 hx;obtain ⟨cs,r,e,hc⟩:=Cells.get h.2.1 hx;have hl:=Enc.len hc;rw [h.1] at hl;rw [h.1,Nat.mul_one] at e
  match cs,hl with
  | [v],_ =>
   refine ⟨h0,om,v,?_,hc⟩;have:=congrArg (fun l=>l[0]?) e
   simpa using this
 ·cases hx
theorem Cells.set1 (h1:Enc.sz α=1) {v:Value} {x:α} (hv:Enc.cells H [v] x):∀ {xs:List α} {ms:List Value} (i:Nat),Cells H ms xs→i<xs.length→Cells H (ms.set i v) (xs.set i x)
 | [],_,_,_,hi=>absurd hi sI
 | y :: ys,_,0,⟨cs,r,e,hc,hr⟩,_=>by
  have hl:=Enc.len hc;rw [h1] at hl
  match cs,hl with
  | [u],_=>subst e; exact ⟨[v],r,rfl,hv,hr⟩
 | y :: ys,_,i+1,⟨cs,r,e,hc,hr⟩,hi=>by
  have hl:=Enc.len hc;rw [h1] at hl
  match cs,hl with
  | [u],_=>subst e; exact ⟨[u],r.set i v,rfl,hc,Cells.set1 h1 hv i hr (by simpa using hi)⟩
theorem Ms.set (h:Ms H ms xs) {i:Int} {x:α} {v:Value} {ys:List α} (hv:Enc.cells H [v] x) (hx:xput xs i x=some ys):Ms H (ms.set i.toNat v) ys:=by
 unfold xput at hx;split at hx
 ·rename_i h0
  injection hx with hx
  subst hx;exact ⟨h.1,Cells.set1 h.1 hv _ h.2.1 om,by rw [List.length_set]; exact h.2.2⟩
 ·cases hx
omit [Enc α] in
theorem zGj {i:Int} {x:α} {ys:List α} (hx:xput xs i x=some ys):ys.length=xs.length∧0≤i∧i<xs.length:=by
 unfold xput at hx
 grind
theorem Ms.sl {b:Nat} (h:Ms H ms xs) {n:Nat} (hn:xs.length=n) (hA:At H ⟨b,0,none⟩ ms):Sl H (.slice (some ⟨b,0,none⟩) n n) xs:=by
 subst hn;have hm:xs.length≤maxLen:=by have:=h.2.2; unfold maxLen; omega
 exact ⟨_,_,rfl,nR _,hm,.inr ⟨b,0,ms,rfl,hA,h.2.1⟩⟩
theorem Cells.rep {z:α} {zv:Value} (hc:Enc.cells H [zv] z):∀ n:Nat,Cells H (List.replicate n zv) (List.replicate n z)
 | 0=>rfl
 | n+1=>⟨[zv],List.replicate n zv,rfl,hc,Cells.rep hc n⟩
end
section
variable {P:Program} {N:Frm} {f:Fr} {w w0:World} {H0 H:Hp} {L:List Ent} {ops:Array Oper} {rest:List Oper} {Q:Fr→World→Prop} {d:Nat} {od:Option Nat} {ty:TypeId} {pos:String} {af:Array Edge} {g:Option (Nat×Bool)}
theorem W.makeSlice {α : Type} [Enc α] {T e : TypeId} {x y : Operand} {n : Int} {z : α} {zv : Value} {xs : List α} (S : St w0 H0 w H L) (hE : Elem P T e 1) (h1 : Enc.sz α = 1) (hx : ev N f x = int n) (hy : ev N f y = int n) (hz : zer P e = some [zv]) (hc : Enc.cells H [zv] z)
    (h:xmake n z=some xs) (K:∀ b w' ms n,xs.length=n→Ms H ms xs→St w0 H0 w' H (.box b e ms :: L)→WL P N ops rest Q (upd f d (.slice (some ⟨b,0,none⟩) n n)) w') :
    WL P N ops (⟨some d,.makeSlice T x y,ty,pos,af,none⟩ :: rest) Q f w:=by
  unfold xmake at h;split at h
  case isFalse=>cases h
  rename_i h0;injection h with h
  subst h;obtain ⟨ht,inf,zz,hinf,hzz,hsize,hzs,hbytes⟩:=hE;have hzc:zz.cells.toList=[zv]:=by
    grind [zer]
  have hza:zz.cells=#[zv]:=by
    grind
  have hrow:((Array.range (n.toNat*1)).map (zz.cells[· % zz.cells.size]!)).toList=List.replicate n.toNat zv:=by
    rw [hza];apply List.ext_getElem?
    grind
  have S1:=S.box e ((Array.range (n.toNat*1)).map (zz.cells[· % zz.cells.size]!)) (0,0) (List.replicate n.toNat zv) [] (by rw [hrow]; simp) om;have K1:=K w.heap.size _ _ n.toNat List.length_replicate ⟨h1,Cells.rep hc n.toNat,gR⟩ S1;refine WL.wz (v:=.slice (some ⟨w.heap.size,0,none⟩) n.toNat n.toNat) (w':=w.alloc (.cells ((Array.range (n.toNat*1)).map (zz.cells[· % zz.cells.size]!)) e)) ?_ K1;have hw:IntKind.i64.wrap n=n:=wr_eq ⟨om,om⟩;have hb:¬ ((inf.bytes:Int)*n > 2 ^ 48):=by
    have h1:(inf.bytes:Int)≤512:=by omega
    have:(inf.bytes:Int)*n≤512*1048576:=Int.mul_le_mul h1 h0.2 h0.1 om;omega
  have hroom:¬ (n.toNat*inf.bytes > roomBytes):=by
    have:n.toNat*inf.bytes≤1048576*512:=Nat.mul_le_mul om hbytes;unfold roomBytes; omega
  have e0:ev N f x=.int .i64 n:=hx;have e1:ev N f y=.int .i64 n:=hy;have hne:¬ ((decide (n<0)||decide ((inf.bytes:Int)*n > 2 ^ 48))||decide (n<0)||decide (n > n))=true:=by
    grind
  simp only [execOp,Instr.makeSlice,run_underlying ht,asInt,asIntOf,e0,e1,typeInfo,hinf,Sem.run_bind,run_program,Result.andThen_ok,Sem.run_pure,hw];rw [if_neg (by simpa using hne)];simp only [askRoom,hroom,if_false,Sem.run_bind,Sem.run_pure,Result.andThen_ok,sizeOf,typeInfo,run_program,hinf,hsize,zeroValue,hzz];by_cases hn:n.toNat*1=0
  · simp only [hn,if_true,Sem.run_pure,Result.andThen_ok,newRow]
    simp
    grind
  · simp only [hn,if_false,Sem.run_bind,run_program,hinf,hzz,Sem.run_pure,Result.andThen_ok,newRow]
    simp
theorem zSU {ms:List Value} {o:Nat} {v:Value} (h:o<ms.length):zEH ms o [v]=ms.set o v:=by
 grind [zEH,List.set_eq_take_append_cons_drop]
theorem W.storeM {α : Type} [Enc α] {T T' : TypeId} {a x : Operand} {b i : Nat} {m : Int} {v : Value} {xs ys : List α} {y : α} {ms : List Value} (S : St w0 H0 w H L) (hM : Ms H ms xs) (ha : ev N f a = ptr b m.toNat) (hx : ev N f x = v) (hi : L[i]? = some (.box b T' ms))
    (hT:lay P T=some (false,1)) (hv1:v.cells=#[v]) (hv:Enc.cells H [v] y) (h:xput xs m y=some ys)
    (k:∀ w' ms',Ms H ms' ys→St w0 H0 w' H (L.set i (.box b T' ms'))→WL P N ops rest Q (updo f od undef) w'):WL P N ops (⟨od,.store T a x,ty,pos,af,none⟩ :: rest) Q f w:=by
  obtain ⟨_,h0,h1⟩:=zGj h;have hl:=hM.length;refine W.store (i:=i) (ms.set m.toNat v) S ha hx hi hT (by rw [hv1]; rfl) ?_ om ?_ (fun w' S'=>k w' _ (hM.set hv h) S')
  all_goals grind [Enc.one,zSU]
theorem R.idxM {α : Type} [Enc α] {T e : TypeId} {x i : Operand} {b n : Nat} {m : Int} {xs : List α} {z : α} (hx : ev N f x = .slice (some ⟨b, 0, none⟩) n n) (hn : xs.length = n) (hi : ev N f i = int m) (hE : Elem P T e 1) (h : xnth xs m = some z) :
  (execOp (ev N f) ⟨od,.indexAddr T x i,ty,pos,af,g⟩).run P w=.ok (.value (ptr b m.toNat)) w:=by
 grind [R.idxB,xnth]
end
section
variable {P:Program} {N:Frm} {f:Fr} {w w0:World} {H0 H:Hp} {L:List Ent} {ops:Array Oper} {rest:List Oper} {Q:Fr→World→Prop} {d:Nat} {od:Option Nat} {ty:TypeId} {pos:String} {af:Array Edge} {g:Option (Nat×Bool)}
theorem W.countString {k : FuncId} {fn : Func} {x y : Operand} {s : Str} {c : UInt8} {ats : Array TypeId} (hf : P.funcs[k]? = some fn) (hname : (fn.name == "runtime.NumGoroutine") = false) (hb : fn.body.isNone = true) (hn : Extern.findNext fn = none) (he : Extern.find fn = some Extern.BytealgCount.count)
    (hx:ev N f x=str s) (hy:ev N f y=byt c) (h:WL P N ops rest Q (updo f od (int (s.count c:Nat))) w):WL P N ops (⟨od,.call ⟨.value (.func k),#[x,y],ats⟩,ty,pos,af,none⟩ :: rest) Q f w:=by
  refine WL.wz (w':=w) (v:=int (s.count c:Nat)) ?_ h;have h1:(execOp (ev N f) ⟨od,.call ⟨.value (.func k),#[x,y],ats⟩,ty,pos,af,none⟩)=callFunc k (#[]++#[x,y].map (ev N f)++#[]):=rfl;have h2:(#[]++#[x,y].map (ev N f)++#[])=#[str s,byt c]:=by simp [hx,hy]
  have h3:=Lib.run_countString (P:=P) ⟨⟨s⟩⟩ (c.toNat:Int) w;have h4:((c.toNat:Int).toNat.toUInt8)=c:=by simp
  rw [h4] at h3;rw [h1,h2,run_callFunc_extern hf hname hb hn he]
  show ((Extern.BytealgCount.count #[str s,byt c]).run P w).andThen _=_
  rw [show (Extern.BytealgCount.count #[str s,byt c]).run P w=_ from h3];rfl
end
def zAh (s chars:Str):Option Int:=if (chars.all fun c=>decide (c<128))=true∧2≤chars.length∧chars.length≤1000∧s.length≤1073741824 then some (Lib.indexAny s chars) else none
theorem zVY {P : Program} {k : FuncId} {fn : Func} {c : Code} {w : World} {H : Hp} {s chars : Str} {r : Int} (hf : P.funcs[k]? = some fn) (hb : fn.body = some c) (hname : (fn.name == "runtime.NumGoroutine") = false) (hw : Holds w H) (h : zAh s chars = some r)
    (hc:∀ (s chars:ByteArray) (w:World),2≤chars.size→s.size<4294967281→chars.size<4294967281→(∀ (j:Nat) b,chars.data.toList[j]?=some b→b.toNat<128) →
      Calls P k #[.string s,.string chars] w fun e w'=>e=.returned (.int .i64 (Lib.indexAny s.data.toList chars.data.toList))∧RowKit.Below w.heap.size w w') :
    Con P k [str s,str chars] w H (fun _ u=>u=int r):=by
  unfold zAh at h;split at h
  case isFalse=>cases h
  rename_i hg;simp only [oI] at h;subst h;obtain ⟨h1,h2,h3,h4⟩:=hg;refine Con.of_calls hf hb hname hw (hc ⟨⟨s⟩⟩ ⟨⟨chars⟩⟩ w h2 (by show s.length<_; omega) (by show chars.length<_; omega) fun j b hj=>?_);simp only [List.all_eq_true,decide_eq_true_eq] at h1;exact UInt8.lt_iff_toNat_lt.1 (h1 b (lG hj))
end Go.Eng
