/- A part. -/
import Derived.Test.YtkjgdladeabcfaaGreatDoorEng20
import Derived.Deep.AppendSrc
import Derived.Deep.Upon
import Derived.Lib.UnsafeStr
import Derived.Lib.Builder
import Derived.Laws.Externs
import Derived.Laws.Pointers
import Derived.WideLaws
import Derived.Laws.Entries
import Derived.Lib.Bytealg
import Derived.Lib.IndexAny
import Derived.RangeFuncRecord
import Derived.WalkSpells
import Derived.Laws.IdiomCopy
import Derived.Scope
namespace Go.Eng
open Go Go.RowKit
section
variable {α:Type} [Enc α] {P:Program} {w0 w:World} {H0 H:Hp} {L:List Ent}
theorem zBQ {P : Program} (w : World) (t tx ty e : TypeId) (i : TypeInfo) (ht : P.underlying t = some (.slice e)) (hi : P.info? e = some i)
    (g sLen sCap:Nat) (cur:Array Value) (hg:w.heap[g]?=some (.cells cur e (0,0))) (x:Value) (n:Nat) (news:List Value) (hs:Src P i.size tx x n news w)
    (hroom:sLen+n≤sCap) (hfit:sLen*i.size+news.length≤cur.size) :
    (Builtin.append_ #[t,tx] ty #[.slice (some ⟨g,0,none⟩) sLen sCap,x]).run P w =
      .ok (.slice (some ⟨g,0,none⟩) (sLen+n) sCap) (w.setRow g (cur.toList.take (sLen*i.size)++news++cur.toList.drop (sLen*i.size+news.length)).toArray):=by
  have hst:=run_storeCells_at P g (sLen*i.size) e news 0 cur w hg (by simpa using hfit) hs.one
  simp only [Nat.add_zero] at hst
  rcases hs.kind with ⟨e',hk⟩ | hk <;> simp [Builtin.append_,run_underlying ht,run_underlying hk,sizeOf,typeInfo,hi,hs.len,hroom,hs.cells,Addr.add_lit,hst]
theorem St.appendSrc (S : St w0 H0 w H L) {i : Nat} {t tx ty e : TypeId} {v u : Value} {xs ys zs : List α} {ysC : List Value} (hE : Elem P t e (Enc.sz α)) (hi : L[i]? = some (.row v e (Enc.sz α) xs.length))
    (hx:Sl H v xs) (hs:Src P (Enc.sz α) tx u ys.length ysC w) (hyC:Cells H ysC ys) (hz:xapp xs ys=some zs) :
    ∃ v' w' H',(Builtin.append_ #[t,tx] ty #[v,u]).run P w=.ok v' w'∧H.le H'∧Sl H' v' zs∧St w0 H0 w' H' (L.set i (.row v' e (Enc.sz α) zs.length)):=by
  have hsz:=Enc.pos (α:=α)
  unfold xapp at hz
  split at hz
  case isFalse=>cases hz
  rename_i hbig
  simp only [Option.some.injEq] at hz
  subst hz
  by_cases hne:ys=[]
  · subst hne
    obtain ⟨a,c,rfl,h1,h2,h3⟩:=hx
    have h0:ysC=[]:=hyC
    subst h0
    obtain ⟨ht,inf,z,hinf,hzz,hsize,hzs,hbytes⟩:=hE
    refine ⟨_,w,H,run_append_nothing w t tx ty e inf ht hinf a xs.length c h1 u (by rw [hsize]; exact hs),Hp.le.refl _,?_,?_⟩
    · rw [List.append_nil]; exact ⟨a,c,rfl,h1,h2,h3⟩
    · rw [List.append_nil]
      have:L.set i (.row (.slice a xs.length c) e (Enc.sz α) xs.length)=L:=by
        have hlt:=(List.getElem?_eq_some_iff.1 hi).1
        exact List.ext_getElem? fun j=>by
          by_cases hj:i=j
          · subst hj; rw [List.getElem?_set_self hlt,hi]
          · rw [List.getElem?_set_ne hj]
      rw [this]; exact S
  have hyl:=hs.newsLen
  have hE':=hE
  obtain ⟨ht,inf,z,hinf,hzz,hsize,hzs,hbytes⟩:=hE'
  have hmem:=List.mem_of_getElem? hi
  have hrow:RowOk w H v e (Enc.sz α) xs.length:=S.ents _ hmem
  have hm:0<ys.length:=List.length_pos_iff.2 hne
  have hb2:(xs.length+ys.length)*inf.bytes≤140737488355328:=by
    have h1:=Nat.mul_le_mul hbig hbytes
    exact Nat.le_trans h1 (by simp [big])
  have h63:xs.length+ys.length≤maxLen:=Nat.le_trans hbig (by simp [big,maxLen])
  have h63':((xs.length+ys.length:Nat):Int)≤9223372036854775807:=by simp only [maxLen] at h63; omega
  have hlen:(xs++ys).length=xs.length+ys.length:=List.length_append
  obtain ⟨xsC,hxC,hxcell,hxl⟩:∃ xsC,Cells H xsC xs∧(∀ g n cap,v=.slice (some ⟨g,0,none⟩) n cap→H g=some (e,xsC)∧∀ j u,xsC[j]?=some u→w.cell? ((⟨g,0,none⟩:Addr).add j)=some u)∧xsC.length=xs.length*Enc.sz α:=by
    rcases hrow with ⟨rfl,h0⟩ | ⟨g,cap,cur,rfl,hg,hnc,hcm,hcs,hHg⟩
    · have:xs=[]:=List.eq_nil_of_length_eq_zero h0
      subst this
      exact ⟨[],rfl,(fun g n cap h=>by cases h),by simp⟩
    · by_cases hxe:xs=[]
      · subst hxe
        refine ⟨[],rfl,(fun g' n cap' h=>?_),by simp⟩
        simp only [Value.slice.injEq,Option.some.injEq,Addr.mk.injEq] at h
        obtain ⟨⟨rfl,_⟩,_⟩:=h
        refine ⟨by simpa using hHg,fun j u hu=>by simp at hu⟩
      · obtain ⟨a,c,hv,_,_,h3⟩:=hx
        rcases h3 with h3 | ⟨b,off,cs,ha,hat,hc⟩
        · exact absurd h3 hxe
        subst ha
        simp only [Value.slice.injEq,Option.some.injEq,Addr.mk.injEq] at hv
        obtain ⟨⟨rfl,rfl,_⟩,_,rfl⟩:=hv
        have hat':=hat
        obtain ⟨T',l,_,hHl,r,hr⟩:=hat
        have hTl:T'=e∧l=cur.toList.take (xs.length*Enc.sz α):=by
          have:H g=some (T',l):=hHl
          rw [hHg] at this
          simp at this
          exact ⟨this.1.symm,this.2.symm⟩
        have hcsl:=hc.length
        have hr0:r=[]:=by
          have h1:(l.drop 0).length=(cs++r).length:=congrArg List.length hr
          rw [hTl.2] at h1
          simp only [List.drop_zero,List.length_take,Array.length_toList,List.length_append,hcs,hcsl] at h1
          have:xs.length*Enc.sz α≤cap*Enc.sz α:=Nat.mul_le_mul_right _ hnc
          exact List.eq_nil_of_length_eq_zero (by omega)
        have hlcs:l=cs:=by simpa [hr0] using hr
        refine ⟨cs,hc,(fun g' n cap' h=>?_),hcsl⟩
        simp only [Value.slice.injEq,Option.some.injEq,Addr.mk.injEq] at h
        obtain ⟨⟨rfl,_⟩,_⟩:=h
        exact ⟨by rw [← hlcs,hHg,hTl.2],fun j u hu=>hat'.cell S.holds hu⟩
  have hxyC:Cells H (xsC++ysC) (xs++ys):=hxC.append hyC
  have hxylen:(xsC++ysC).length=(xs.length+ys.length)*Enc.sz α:=by rw [List.length_append,hxl,hyl,Nat.add_mul]
  have grown : ∀ (old : Nat), old < xs.length + ys.length →
      ∃ H',H.le H'∧Sl H' (.slice (some ⟨w.heap.size,0,none⟩) (xs.length+ys.length) (grownCap w (xs.length+ys.length) old e)) (xs++ys) ∧
        St w0 H0 (w.drew.alloc (.cells ((xsC++ysC).toArray++Builtin.zeroCells z.cells (grownCap w (xs.length+ys.length) old e - (xs.length+ys.length))) e)) H'
          (L.set i (.row (.slice (some ⟨w.heap.size,0,none⟩) (xs.length+ys.length) (grownCap w (xs.length+ys.length) old e)) e (Enc.sz α) (xs++ys).length)):=by
    intro old hold
    have hge:=grownCap_ge w (xs.length+ys.length) old e
    have hcm:grownCap w (xs.length+ys.length) old e≤maxLen:=grownCap_le_maxLen w (xs.length+ys.length) old e h63
    generalize grownCap w (xs.length+ys.length) old e=cap at *
    have S1:=S.drew.box e ((xsC++ysC).toArray++Builtin.zeroCells z.cells (cap - (xs.length+ys.length))) (0,0) (xsC++ysC) (Builtin.zeroCells z.cells (cap - (xs.length+ys.length))).toList (by simp) (by intro i _ h; exact Nat.not_lt_zero _ h.2)
    obtain ⟨H',hle,hHn,hHo,S2⟩:=S1.settle (i:=0) rfl
    simp only [List.eraseIdx_cons_zero] at S2
    refine ⟨H',hle,⟨some ⟨w.heap.size,0,none⟩,cap,by rw [hlen],by rw [hlen]; exact hge,hcm,.inr ⟨w.heap.size,0,_,rfl,⟨e,_,rfl,hHn,[],by simp⟩,hxyC.mono hle⟩⟩,?_⟩
    have hlt:i<L.length:=(List.getElem?_eq_some_iff.1 hi).1
    refine ⟨S2.post,?_,?_,?_⟩
    · intro x hxm
      obtain ⟨j,hj⟩:=List.mem_iff_getElem?.1 hxm
      by_cases hij:i=j
      · subst hij
        rw [List.getElem?_set_self hlt] at hj
        simp at hj; subst hj
        refine .inr ⟨w.heap.size,cap,_,rfl,heap_alloc_new w.drew _,hge,hcm,?_,?_⟩
        · simp only [Array.size_append,List.size_toArray,List.length_append,size_zeroCells,hzs,hxl,hyl,← Nat.add_mul]
          congr 1; omega
        · rw [show H' w.heap.size=some (e,xsC++ysC) from hHn,← hxylen]
          have e3:∀ Z:Array Value,((xsC++ysC).toArray++Z).toList=(xsC++ysC)++Z.toList:=by simp
          rw [e3,List.take_left]
      · rw [List.getElem?_set_ne hij] at hj
        exact S2.ents x (List.mem_of_getElem? hj)
    · intro x hxm b hb
      obtain ⟨j,hj⟩:=List.mem_iff_getElem?.1 hxm
      by_cases hij:i=j
      · subst hij
        rw [List.getElem?_set_self hlt] at hj
        simp at hj; subst hj
        simp [Ent.blk,Value.ownBlock] at hb
        subst hb
        exact S.post.below.size
      · rw [List.getElem?_set_ne hij] at hj
        exact S2.own x (List.mem_of_getElem? hj) b hb
    · -- the new block is no other's
      have hall:∀ b ∈ L.filterMap Ent.blk,b<w.heap.size:=fun b hb=>S.lt hb
      have key : ∀ (K : List Ent) (i : Nat) (v' : Value) (m : Nat), (K.filterMap Ent.blk).Nodup → (∀ b ∈ K.filterMap Ent.blk, b < w.heap.size) → v'.ownBlock = some w.heap.size →
          ((K.set i (.row v' e (Enc.sz α) m)).filterMap Ent.blk).Nodup∧∀ b ∈ (K.set i (.row v' e (Enc.sz α) m)).filterMap Ent.blk,b<w.heap.size∨b=w.heap.size:=by
        intro K
        induction K with
        | nil=>intro i v' m h1 h2 _; exact ⟨by simp,by simp⟩
        | cons x K ih =>
          intro i v' m h1 h2 h3
          have h1':(K.filterMap Ent.blk).Nodup:=by
            rw [List.filterMap_cons] at h1
            split at h1
            · exact h1
            · exact (List.nodup_cons.1 h1).2
          have h2':∀ b ∈ K.filterMap Ent.blk,b<w.heap.size:=by
            intro b hb
            apply h2
            rw [List.filterMap_cons]
            split
            · exact hb
            · exact List.mem_cons_of_mem _ hb
          cases i with
          | zero =>
            rw [List.set_cons_zero,List.filterMap_cons]
            have:(Ent.row v' e (Enc.sz α) m).blk=some w.heap.size:=h3
            rw [this]
            refine ⟨List.nodup_cons.2 ⟨fun hm=>Nat.lt_irrefl _ (h2' _ hm),h1'⟩,?_⟩
            intro b hb
            rcases List.mem_cons.1 hb with rfl | hb
            · exact .inr rfl
            · exact .inl (h2' b hb)
          | succ i =>
            rw [List.set_cons_succ,List.filterMap_cons]
            obtain ⟨g1,g2⟩:=ih i v' m h1' h2' h3
            cases hb:x.blk with
            | none=>simp only; exact ⟨g1,g2⟩
            | some b =>
              have hbm:b ∈ (x :: K).filterMap Ent.blk:=by rw [List.filterMap_cons,hb]; exact List.mem_cons_self
              have hbl:b<w.heap.size:=h2 b hbm
              have hnb:b ∉ K.filterMap Ent.blk:=by
                rw [List.filterMap_cons,hb] at h1
                exact (List.nodup_cons.1 h1).1
              simp only
              refine ⟨List.nodup_cons.2 ⟨fun hm=>?_,g1⟩,?_⟩
              · -- b among the rest: it stood there,or is the new one
                obtain ⟨y,hy,hyb⟩:=List.mem_filterMap.1 hm
                rcases List.mem_or_eq_of_mem_set hy with hy | hy
                · exact hnb (List.mem_filterMap.2 ⟨y,hy,hyb⟩)
                · subst hy
                  have:some w.heap.size=some b:=by rw [← hyb]; exact h3.symm
                  simp at this; omega
              · intro b' hb'
                rcases List.mem_cons.1 hb' with rfl | hb'
                · exact .inl hbl
                · exact g2 b' hb'
      exact (key L i _ _ S.nodup hall rfl).1
  rcases hrow with ⟨rfl,h0⟩ | ⟨g,cap,cur,rfl,hg,hnc,hcm,hcs,hHg⟩
  · have hxe:xs=[]:=List.eq_nil_of_length_eq_zero h0
    subst hxe
    have hxC0:xsC=[]:=hxC
    subst hxC0
    have hr:=run_append_grow_src (P:=P) w t tx ty e inf z ht hinf hzz none 0 0 [] (run_firstCells_none w.drew inf.size 0 0 0) u ys.length ysC (by rw [hsize]; exact hs) (by omega) (by simpa using h63') (growslice_fits (by omega) (by simpa using hb2))
    obtain ⟨H',hle,hsl,hst⟩:=grown 0 (by simpa using hm)
    simp only [List.length_nil,Nat.zero_add,List.nil_append] at hsl hst hr
    refine ⟨_,_,H',hr,hle,by simpa using hsl,?_⟩
    simpa using hst
  · obtain ⟨hHx,hcell⟩:=hxcell g _ cap rfl
    by_cases hroom:xs.length+ys.length≤cap
    · have hfit:xs.length*inf.size+ysC.length≤cur.size:=by rw [hyl,hcs,hsize,← Nat.add_mul]; exact Nat.mul_le_mul_right _ hroom
      have hr:=zBQ (P:=P) w t tx ty e inf ht hinf g xs.length cap cur hg u ys.length ysC (by rw [hsize]; exact hs) hroom hfit
      have htake:cur.toList.take (xs.length*Enc.sz α)=xsC:=by rw [hHg] at hHx; simpa using hHx
      rw [hsize,htake] at hr
      have hgown:w0.heap.size≤g:=S.own _ hmem g rfl
      have hle:H.le (fun k=>if k=g then some (e,xsC++ysC) else H k):=by
        intro k T' l hk
        by_cases h:k=g
        · subst h
          rw [hHx] at hk
          simp at hk
          obtain ⟨rfl,rfl⟩:=hk
          exact ⟨ysC,by simp⟩
        · exact ⟨[],by simp [h,hk]⟩
      refine ⟨_,_,fun k=>if k=g then some (e,xsC++ysC) else H k,hr,hle,?_,?_⟩
      · exact ⟨some ⟨g,0,none⟩,cap,by rw [hlen],by rw [hlen]; exact hroom,hcm,.inr ⟨g,0,xsC++ysC,rfl,⟨e,_,rfl,if_pos rfl,[],by simp⟩,hxyC.mono hle⟩⟩
      · have hlt:i<L.length:=(List.getElem?_eq_some_iff.1 hi).1
        have hnew:(w.setRow g (xsC++ysC++cur.toList.drop (xs.length*Enc.sz α+ysC.length)).toArray).heap[g]?=some (.cells (xsC++ysC++cur.toList.drop (xs.length*Enc.sz α+ysC.length)).toArray e (0,0)):=setRow_heap w g cur _ e _ hg
        refine ⟨⟨S.post.below.trans ⟨rfl,rfl,rfl,by simp,fun k hk=>setRow_other w g k _ (by omega)⟩,S.post.le.trans hle,fun b hb=>?_,?_⟩,?_,?_,?_⟩
        · show (if b=g then _ else H b)=_
          rw [if_neg (by omega)]; exact S.post.eqb b hb
        · intro k T' l hk
          by_cases h:k=g
          · subst h
            simp at hk
            obtain ⟨rfl,rfl⟩:=hk
            exact ⟨_,_,hnew,cur.toList.drop (xs.length*Enc.sz α+ysC.length),by simp⟩
          · simp [h] at hk
            rw [setRow_other w g k _ h]
            exact S.holds k T' l hk
        · intro x hxm
          obtain ⟨j,hj⟩:=List.mem_iff_getElem?.1 hxm
          by_cases hij:i=j
          · subst hij
            rw [List.getElem?_set_self hlt] at hj
            simp at hj; subst hj
            refine .inr ⟨g,cap,_,rfl,hnew,hroom,hcm,?_,?_⟩
            · have h1:xs.length*Enc.sz α+ysC.length≤cur.size:=by rw [← hsize]; exact hfit
              simp only [List.size_toArray,List.length_append,List.length_drop,Array.length_toList,hxl]
              omega
            · show (if g=g then _ else _)=_
              rw [if_pos rfl,← hxylen]
              have e3:∀ Z:List Value,(xsC++ysC++Z).toArray.toList=(xsC++ysC)++Z:=by simp
              rw [e3,List.take_left]
          · rw [List.getElem?_set_ne hij] at hj
            refine Ent.ok_keep (S.ents x (List.mem_of_getElem? hj)) fun k hk=>?_
            have hkg:k≠g:=S.blk_ne hj hi hk rfl (Ne.symm hij)
            exact ⟨setRow_other w g k _ hkg,if_neg hkg⟩
        · intro x hxm b hb
          obtain ⟨j,hj⟩:=List.mem_iff_getElem?.1 hxm
          by_cases hij:i=j
          · subst hij
            rw [List.getElem?_set_self hlt] at hj
            simp at hj; subst hj
            simp [Ent.blk,Value.ownBlock] at hb
            omega
          · rw [List.getElem?_set_ne hij] at hj
            exact S.own x (List.mem_of_getElem? hj) b hb
        · rw [zBC (e':=.row (.slice (some ⟨g,0,none⟩) (xs.length+ys.length) cap) e (Enc.sz α) (xs++ys).length) hi rfl]; exact S.nodup
    · have hr:=run_append_grow_src (P:=P) w t tx ty e inf z ht hinf hzz (some ⟨g,0,none⟩) xs.length cap xsC (run_firstCells_some w.drew inf.size xs.length ⟨g,0,none⟩ xs.length cap xsC (by rw [hsize]; exact hxl) (fun j v hv=>by simpa using hcell j v hv)) u ys.length ysC (by rw [hsize]; exact hs) (by omega) h63' (growslice_fits (by omega) hb2)
      obtain ⟨H',hle,hsl,hst⟩:=grown cap (by omega)
      exact ⟨_,_,H',hr,hle,hsl,hst⟩
end
theorem Cells.ofBytes {H:Hp}:∀ (s:Str),Cells (α:=UInt8) H (s.map byt) s
  | []=>rfl
  | c :: s=>⟨[byt c],s.map byt,rfl,rfl,Cells.ofBytes s⟩
theorem zB7 (s:Str):byteCells ⟨⟨s⟩⟩=s.map byt:=by
  unfold byteCells byt
  simp
section
variable {P:Program} {N:Frm} {f:Fr} {w w0:World} {H0 H:Hp} {L:List Ent} {ops:Array Oper} {rest:List Oper} {Q:Fr→World→Prop} {d:Nat} {od:Option Nat} {ty:TypeId} {pos:String} {af:Array Edge} {g:Option (Nat×Bool)}
theorem W.appStr {T T' e : TypeId} {x y : Operand} {v : Value} {xs ys zs : Str} {i : Nat} (S : St w0 H0 w H L) (hE : Elem P T e 1) (hT : P.underlying T' = some .string) (hi : L[i]? = some (.row v e 1 xs.length))
    (hx:ev N f x=v) (hy:ev N f y=str ys) (hX:Sl (α:=UInt8) H v xs) (h:xapp xs ys=some zs)
    (k:∀ v' w' H',H.le H'→Sl (α:=UInt8) H' v' zs→St w0 H0 w' H' (L.set i (.row v' e 1 zs.length))→WL P N ops rest Q (upd f d v') w'):WL P N ops (⟨some d,.call ⟨.builtin .append,#[x,y],#[T,T']⟩,ty,pos,af,none⟩ :: rest) Q f w:=by
  have hs:Src P (Enc.sz UInt8) T' (str ys) ys.length (ys.map byt) w:=by
    have:=Src.ofString (P:=P) w hT ⟨⟨ys⟩⟩
    rw [zB7] at this
    exact this
  obtain ⟨v',w',H',hr,hle,hsl,hst⟩:=S.appendSrc (α:=UInt8) (P:=P) (t:=T) (ty:=ty) hE hi hX hs (Cells.ofBytes ys) h
  refine WL.w (v:=v') (w':=w') ?_ (k v' w' H' hle hsl hst)
  simp only [execOp,resolve,invoke,builtin,Sem.run_bind,Sem.run_pure,Result.andThen_ok,List.map_toArray,List.map_cons,List.map_nil,hx,hy,hr]
end
end Go.Eng
namespace Go.Eng
open Go Go.RowKit
theorem zCP {P:Program} {e:TypeId} (hc:0<P.cellsOf e) (count:Nat) (hn:1≤count):liesAt P P.depth e count 0 e 1=true:=by
  have hd:P.depth=(2*(P.types.size+Made.depth)+1)+1:=rfl
  rw [hd]
  simp only [liesAt,Bool.or_eq_true]
  left
  rw [hd]
  simp [rowAt,hn,sameLayout,show P.cellsOf e≠0 by omega]
section
variable {P:Program} {N:Frm} {f:Fr} {w w0:World} {H0 H:Hp} {L:List Ent} {ops:Array Oper} {rest:List Oper} {Q:Fr→World→Prop} {d:Nat} {od:Option Nat} {ty:TypeId} {pos:String} {af:Array Edge} {g:Option (Nat×Bool)}
theorem BoxOk.shape {b:Nat} {T:TypeId} {cs:List Value} (h:BoxOk w H b T cs):∃ n,w.shape? b=some (T,n)∧cs.length≤n:=by
  obtain ⟨_,arr,fz,hc,⟨r,hr⟩,_⟩:=h
  refine ⟨arr.size,by simp [World.shape?,hc],?_⟩
  rw [← Array.length_toList,hr,List.length_append]; omega
theorem R.toUnsafe {T T' t U : TypeId} {x : Operand} {b i n : Nat} {cs : List Value} (S : St w0 H0 w H L) (hi : L[i]? = some (.box b U cs)) (hx : ev N f x = ptr b 0) (hT : P.underlying T = some (.pointer t)) (hT' : P.underlying T' = some .unsafePointer) (hz : lay P t = some (true, n)) (hn : n ≠ 0) (hcs : cs ≠ []) :
    (execOp (ev N f) ⟨od,.convert T T' x,ty,pos,af,g⟩).run P w=.ok (.value (ptr b 0)) w:=by
  obtain ⟨m,hm,hle⟩:=(S.boxOk hi).shape
  have hpos:0<cs.length:=List.length_pos_iff.2 hcs
  obtain ⟨j,hj,hjs⟩:∃ j,P.info? t=some j∧j.size=n:=by
    unfold lay at hz
    split at hz <;> simp_all
  have:=Lib.run_to_unsafe (P:=P) w ⟨b,0,none⟩ hT hT' hj (by rw [hjs]; exact hn) hm (by show 0<m; omega)
  simp only [execOp,hx,ptr,Sem.run_bind,this,Result.andThen_ok,Sem.run_pure]
theorem R.fromUnsafe {T T' U : TypeId} {x : Operand} {b i : Nat} {cs : List Value} (S : St w0 H0 w H L) (hi : L[i]? = some (.box b U cs)) (hx : ev N f x = ptr b 0) (hT : P.underlying T = some .unsafePointer) (hT' : P.underlying T' = some (.pointer U)) (hj : ∃ j, P.info? U = some j) (hc : P.cellsOf U = cs.length) (hcs : cs ≠ []) :
    (execOp (ev N f) ⟨od,.convert T T' x,ty,pos,af,g⟩).run P w=.ok (.value (ptr b 0)) w:=by
  obtain ⟨m,hm,hle⟩:=(S.boxOk hi).shape
  have hpos:0<cs.length:=List.length_pos_iff.2 hcs
  obtain ⟨j,hj⟩:=hj
  have hl:=zCP (P:=P) (e:=U) (by omega) (m / P.cellsOf U) (by rw [hc]; exact (Nat.le_div_iff_mul_le hpos).2 (by omega))
  have:=Lib.run_from_unsafe (P:=P) w ⟨b,0,none⟩ hT hT' hj hm hl
  simp only [execOp,hx,ptr,Sem.run_bind,this,Result.andThen_ok,Sem.run_pure]
theorem W.noEscape {k : FuncId} {fn : Func} {x : Operand} {v : Value} {ats : Array TypeId} (hf : P.funcs[k]? = some fn) (hname : (fn.name == "runtime.NumGoroutine") = false) (hb : fn.body.isNone = true) (hn : Extern.findNext fn = none) (he : Extern.find fn = some Extern.AbiNoEscape.same)
    (hx:ev N f x=v) (h:WL P N ops rest Q (updo f od v) w):WL P N ops (⟨od,.call ⟨.value (.func k),#[x],ats⟩,ty,pos,af,none⟩ :: rest) Q f w:=by
  refine WL.w (w':=w) (v:=v) ?_ h
  have h1:(execOp (ev N f) ⟨od,.call ⟨.value (.func k),#[x],ats⟩,ty,pos,af,none⟩)=callFunc k (#[]++#[x].map (ev N f)++#[]):=rfl
  have h2:(#[]++#[x].map (ev N f)++#[])=#[v]:=by simp [hx]
  rw [h1,h2,run_callFunc_extern hf hname hb hn he,Lib.run_noEscape]
  rfl
theorem R.eqlPN {T T' t : TypeId} {x y : Operand} {p : Option Addr} (hx : ev N f x = .pointer p) (hy : ev N f y = .pointer none) (hT : P.underlying T = some (.pointer t)) :
    (execOp (ev N f) ⟨od,.binOp .eql T x y T',ty,pos,af,g⟩).run P w=.ok (.value (boo p.isNone)) w:=by
  have h:P.underlying T=some (.pointer (P.pointee T)):=by rw [hT]; simp [Program.pointee,hT]
  have:=run_eql_pointer_nil (P:=P) w T p h
  simp [execOp,eqGuard,hx,hy,this,boo]
theorem R.neqPN {T T' t : TypeId} {x y : Operand} {p : Option Addr} (hx : ev N f x = .pointer p) (hy : ev N f y = .pointer none) (hT : P.underlying T = some (.pointer t)) :
    (execOp (ev N f) ⟨od,.binOp .neq T x y T',ty,pos,af,g⟩).run P w=.ok (.value (boo (!p.isNone))) w:=by
  have h:P.underlying T=some (.pointer (P.pointee T)):=by rw [hT]; simp [Program.pointee,hT]
  have:=run_neq_pointer_nil (P:=P) w T p h
  simp [execOp,eqGuard,hx,hy,this,boo]
theorem R.neqPS {T T' t : TypeId} {x y : Operand} {b o : Nat} (hx : ev N f x = ptr b o) (hy : ev N f y = ptr b o) (hT : P.underlying T = some (.pointer t)) (hj : ∃ j, P.info? t = some j) :
    (execOp (ev N f) ⟨od,.binOp .neq T x y T',ty,pos,af,g⟩).run P w=.ok (.value (boo false)) w:=by
  obtain ⟨j,hj⟩:=hj
  have:=Lib.run_neq_ptr_same (P:=P) w ⟨b,o,none⟩ hT hj
  simp [execOp,eqGuard,hx,hy,this,boo,ptr]
def SD (v p:Value):Prop:=∃ a n c q,v=.slice a n c∧p=.pointer q∧(n=0∨q=a)
theorem St.view (S:St w0 H0 w H L) (o:Obj):St w0 H0 (w.alloc o) H L:=by
  have hsz:w0.heap.size≤w.heap.size:=S.post.below.size
  have hold:∀ i,i<w.heap.size→(w.alloc o).heap[i]?=w.heap[i]?:=fun i hi=>RowKit.Below.heap_alloc w _ i hi
  refine ⟨⟨S.post.below.alloc hsz _,S.post.le,S.post.eqb,fun b T' l hb=>?_⟩,?_,S.own,S.nodup⟩
  · obtain ⟨cs',fz',hc,hr'⟩:=S.holds b T' l hb
    exact ⟨cs',fz',by rw [hold b (Array.getElem?_eq_some_iff.1 hc).1]; exact hc,hr'⟩
  · intro e he
    exact Ent.ok_keep (S.ents e he) fun b hb=>⟨hold b (Ent.ok_lt (S.ents e he) hb),rfl⟩
theorem W.sliceData {T e te : TypeId} {x : Operand} {v : Value} {i sz n : Nat} (S : St w0 H0 w H L) (hi : L[i]? = some (.row v e sz n)) (hx : ev N f x = v) (hp : P.underlying ty = some (.pointer te))
    (k:∀ p w',SD v p→St w0 H0 w' H L→WL P N ops rest Q (upd f d p) w'):WL P N ops (⟨some d,.call ⟨.builtin .unsafeSliceData,#[x],#[T]⟩,ty,pos,af,none⟩ :: rest) Q f w:=by
  have hrow:RowOk w H v e sz n:=S.ents _ (List.mem_of_getElem? hi)
  rcases hrow with ⟨rfl,h0⟩ | ⟨g',cap,cur,rfl,hg,hnc,hcm,hcs,hH⟩
  · refine WL.w (v:=.pointer none) (w':=w) ?_ (k _ _ ⟨none,0,0,none,rfl,rfl,.inl rfl⟩ S)
    simp only [execOp,resolve,invoke,builtin,Sem.run_bind,Sem.run_pure,Result.andThen_ok,List.map_toArray,List.map_cons,List.map_nil,hx]
    rfl
  · by_cases hc:cap=0
    · subst hc
      have hz:=Lib.run_unsafeSliceData_zero (P:=P) w #[T] ty te hp ⟨g',0,none⟩ n (e,cur.size) (by simp [World.shape?,hg])
      refine WL.w (v:=.pointer (some ⟨w.heap.size,0,none⟩)) (w':=w.alloc (.view ⟨g',0,none⟩ te)) ?_ (k _ _ ⟨_,n,0,_,rfl,rfl,.inl (by omega)⟩ (S.view _))
      simp only [execOp,resolve,invoke,builtin,Sem.run_bind,Sem.run_pure,Result.andThen_ok,List.map_toArray,List.map_cons,List.map_nil,hx,hz]
    · have hz:=Lib.run_unsafeSliceData_row (P:=P) w #[T] ty ⟨g',0,none⟩ n cap hc
      refine WL.w (v:=.pointer (some ⟨g',0,none⟩)) (w':=w) ?_ (k _ _ ⟨_,n,cap,_,rfl,rfl,.inr rfl⟩ S)
      simp only [execOp,resolve,invoke,builtin,Sem.run_bind,Sem.run_pure,Result.andThen_ok,List.map_toArray,List.map_cons,List.map_nil,hx,hz]
theorem St.freeze (S:St w0 H0 w H L) {i n:Nat} {v:Value} {T:TypeId} {sz g m cap:Nat} (hi:L[i]?=some (.row v T sz n)) (hv:v=.slice (some ⟨g,0,none⟩) m cap):St w0 H0 (w.freeze ⟨g,0,none⟩ n) H (L.eraseIdx i):=by
  have hmem:=List.mem_of_getElem? hi
  have hblk:(Ent.row v T sz n).blk=some g:=by rw [hv]; rfl
  have hown:=S.own _ hmem g hblk
  have hoth:∀ k,k≠g→(w.freeze ⟨g,0,none⟩ n).heap[k]?=w.heap[k]?:=by
    intro k hk
    unfold World.freeze
    split
    · rfl
    · simp only [Array.getElem?_modify]
      rw [if_neg (fun h=>hk h.symm)]
  have hcell:∀ cs fz T',w.heap[g]?=some (.cells cs T' fz)→∃ fz',(w.freeze ⟨g,0,none⟩ n).heap[g]?=some (.cells cs T' fz'):=by
    intro cs fz T' h
    unfold World.freeze
    split
    · exact ⟨fz,h⟩
    · simp only [Array.getElem?_modify,if_true,h,Option.map_some]
      exact ⟨_,rfl⟩
  have hB:Below w0.heap.size w0 (w.freeze ⟨g,0,none⟩ n):=Lib.below_freeze S.post.below hown n
  refine ⟨⟨hB,S.post.le,S.post.eqb,fun b T' l hb=>?_⟩,?_,fun e he=>S.own e ((List.eraseIdx_sublist _ _).subset he),S.nodup.sublist ((List.eraseIdx_sublist _ _).filterMap _)⟩
  · obtain ⟨cs',fz',hc,hr'⟩:=S.holds b T' l hb
    by_cases hbg:b=g
    · subst hbg
      obtain ⟨fz'',h⟩:=hcell _ _ _ hc
      exact ⟨cs',fz'',h,hr'⟩
    · exact ⟨cs',fz',by rw [hoth b hbg]; exact hc,hr'⟩
  · intro e he
    obtain ⟨j,hj⟩:=List.mem_iff_getElem?.1 he
    rw [List.getElem?_eraseIdx] at hj
    split at hj
    · exact Ent.ok_keep (S.ents e (List.mem_of_getElem? hj)) fun k hk=>⟨hoth k (S.blk_ne hj hi hk hblk (by omega)),rfl⟩
    · exact Ent.ok_keep (S.ents e (List.mem_of_getElem? hj)) fun k hk=>⟨hoth k (S.blk_ne hj hi hk hblk (by omega)),rfl⟩
theorem W.strOf {T T' e : TypeId} {x y : Operand} {v p : Value} {i : Nat} {s : Str} (S : St w0 H0 w H L) (hi : L[i]? = some (.row v e 1 s.length)) (R : Sl (α := UInt8) H v s) (hp : SD v p) (hx : ev N f x = p) (hy : ev N f y = int s.length) (hT : P.underlying T = some (.pointer e)) (hce : P.cellsOf e = 1)
    (k:∀ w',St w0 H0 w' H (L.eraseIdx i)→WL P N ops rest Q (upd f d (str s)) w'):WL P N ops (⟨some d,.call ⟨.builtin .unsafeString,#[x,y],#[T,T']⟩,ty,pos,af,none⟩ :: rest) Q f w:=by
  obtain ⟨a,n,c,q,rfl,rfl,hq⟩:=hp
  obtain ⟨a',c',hv,h1,h2,h3⟩:=R
  simp only [Value.slice.injEq] at hv
  obtain ⟨rfl,rfl,rfl⟩:=hv
  by_cases hs:s=[]
  · subst hs
    refine WL.w (v:=str []) (w':=w) ?_ (k w (S.drop _ (List.eraseIdx_sublist _ _)))
    have:=Lib.run_unsafeString_none (P:=P) w T T' ty q
    simp only [execOp,resolve,invoke,builtin,Sem.run_bind,Sem.run_pure,Result.andThen_ok,List.map_toArray,List.map_cons,List.map_nil,hx,show ev N f y=.int .i64 0 from hy,this]
    rfl
  · have hlen:s.length≠0:=by simpa using hs
    rcases h3 with h3 | ⟨b,off,cs,rfl,hat,hC⟩
    · exact absurd h3 hs
    obtain rfl:q=some ⟨b,off,none⟩:=hq.resolve_left hlen
    have hrow:RowOk w H (.slice (some ⟨b,off,none⟩) s.length c) e 1 s.length:=S.ents _ (List.mem_of_getElem? hi)
    rcases hrow with ⟨h,_⟩ | ⟨g',cap,cur,hv,hg,hnc,hcm,hcs,hH⟩
    · cases h
    simp only [Value.slice.injEq,Option.some.injEq,Addr.mk.injEq,and_true,true_and] at hv
    obtain ⟨⟨rfl,rfl⟩,rfl⟩:=hv
    have hbytes:=hC.bytes
    subst hbytes
    have:=Lib.run_unsafeString_row (P:=P) w T T' ty e hT hce b cur.size (by simp [World.shape?,hg]) s hs (by rw [hcs]; omega) (by have:=h1; simp only [maxLen] at h2; omega) (fun j x hj=>by
      have h:=hat.cell S.holds (j:=j) (v:=byt x) (by rw [List.getElem?_map,hj]; rfl)
      exact h)
    refine WL.w (v:=str s) (w':=w.freeze ⟨b,0,none⟩ s.length) ?_ (k _ (S.freeze hi rfl))
    simp only [execOp,resolve,invoke,builtin,Sem.run_bind,Sem.run_pure,Result.andThen_ok,List.map_toArray,List.map_cons,List.map_nil,hx,hy,int,this]
    rfl
theorem ConS.mono {k:FuncId} {args:List Value} {H1:Hp} {L2:List Ent} {R R':Hp→Value→List Ent→Prop} (h:ConS P k args w0 H0 w H1 L2 R) (hr:∀ H v L,R H v L→R' H v L):ConS P k args w0 H0 w H1 L2 R' :=
  ⟨h.1,Calls.mono h.2 fun _ _ ⟨v,H',L',he,hl,hS,hv⟩=>⟨v,H',L',he,hl,hS,hr _ _ _ hv⟩⟩
theorem zCK {T:TypeId} {ms:Array (String×TypeId)} (hT:P.underlying T=some (.interface ms)):P.underlying T=some (.interface (P.methodsAt T)):=by
  rw [hT]; simp [Program.methodsAt,hT]
theorem R.neqNI {T T' : TypeId} {ms : Array (String × TypeId)} {x : Operand} {c : Value} (hx : ev N f x = .nilIface) (hc : c = .nilIface) (hT : P.underlying T = some (.interface ms)) :
    (execOp (ev N f) ⟨od,.binOp .neq T x (.const c) T',ty,pos,af,g⟩).run P w=.ok (.value (boo false)) w:=by
  subst hc
  have h2:=run_equal_nil_nil (P:=P) (w:=w) T (zCK hT)
  have e:ev N f (.const .nilIface)=.nilIface:=rfl
  simp only [execOp,hx,e,eqGuard_nil_constR,Sem.run_bind,Sem.run_pure,Result.andThen_ok,binOp,h2,boo,Bool.not_true]
end
noncomputable def zAc (s sub:Str):Option Int:=match sub with | [c]=>zA8 s c | _=>none
theorem zCy {P : Program} {k : FuncId} {fn : Func} {c : Code} {w : World} {H : Hp} {s sub : Str} {r : Int} (hf : P.funcs[k]? = some fn) (hb : fn.body = some c) (hname : (fn.name == "runtime.NumGoroutine") = false) (hw : Holds w H) (h : zAc s sub = some r)
    (hc:∀ (s:ByteArray) (c:UInt8) (w:World),Calls P k #[.string s,.string ⟨#[c]⟩] w fun e w'=>e=.returned (.int .i64 (Lib.indexByte s.data.toList c))∧w'=w) :
    Con P k [str s,str sub] w H (fun _ u=>u=int r):=by
  unfold zAc at h
  split at h
  case h_2=>cases h
  rename_i c
  have hh:=hc ⟨⟨s⟩⟩ c w
  simp only [zA8,Option.some.injEq] at h
  subst h
  exact Con.of_calls_same hf hb hname hw hh
end Go.Eng
namespace Go.Eng
open Go
theorem mapN {N:Frm} {f:Fr}:([]:List Operand).map (ev N f)=[]:=rfl
theorem mapC {N:Frm} {f:Fr} {x:Operand} {xs:List Operand} {v:Value} {vs:List Value} (h:ev N f x=v) (k:xs.map (ev N f)=vs):(x :: xs).map (ev N f)=v :: vs:=by
  rw [List.map_cons,h,k]
end Go.Eng
namespace Go.Eng
open Go
set_option linter.unusedSimpArgs false
def Ms {α:Type} [Enc α] (H:Hp) (ms:List Value) (xs:List α):Prop:=Enc.sz α=1∧Cells H ms xs∧xs.length≤1048576
section
variable {α:Type} [Enc α] {H H':Hp} {ms:List Value} {xs:List α}
theorem Ms.mono (h:Ms H ms xs) (hl:H.le H'):Ms H' ms xs:=⟨h.1,h.2.1.mono hl,h.2.2⟩
end
section
variable {P:Program} {N:Frm} {f:Fr} {w w0:World} {H0 H:Hp} {L:List Ent} {ops:Array Oper} {rest:List Oper} {Q:Fr→World→Prop} {d:Nat} {od:Option Nat} {ty:TypeId} {pos:String} {af:Array Edge} {g:Option (Nat×Bool)}
end
end Go.Eng
namespace Go.Eng
open Go
set_option linter.unusedVariables false
section
variable {P:Program}
def WPR (P:Program) (n:Nat) (c:Code) (Q:Exit→List Deferred→Fr→World→Prop) (ds:List Deferred) (f:Fr) (w:World):Prop :=
  c.wp P (fun e a w'=>∃ f' ds',a=act ⟨n,ds'⟩ f'∧Q e ds' f' w') (act ⟨n,ds⟩ f) w
variable {n:Nat} {Q:Exit→List Deferred→Fr→World→Prop} {ds:List Deferred} {f:Fr} {w:World}
theorem WPR.of {c:Code} (h:WP P ⟨n,ds⟩ c (fun e f w=>Q e ds f w) f w):WPR P n c Q ds f w :=
  Code.wp_mono (fun e a w ⟨f',ha,q⟩=>⟨f',ds,ha,q⟩) h
def mark (D:Nat):Deferred:={ target:=.collected D,args:=#[] }
def OutR (P:Program) (fn:Func) (n:Nat) (w0:World) (H0:Hp) (R:Hp→Value→Prop):Exit→List Deferred→Fr→World→Prop:=fun e ds f w =>
  (e=.ret∨e=.normal)∧∃ (Ds:List Nat) (v:Value) (H:Hp) (L:List Ent),ds=Ds.map mark∧(∀ w,(results fn (tm ⟨n,[]⟩ f)).run P w=.ok v w)∧St w0 H0 w H (Ds.map (fun D=>Ent.obj D (.deferred (some [])))++L)∧R H v
end
section
variable {P:Program} {N:Frm}
structure WY (P:Program) (N:Frm) (ops:Array Oper) (l:List Nat) (Q:Fr→World→Prop) (f:Fr) (w:World):Prop where
  out:wpOpsIn Fence.wide 0 P ops (fun e a w'=>∃ f',a=act N f'∧e=.normal∧Q f' w') l (act N f) w
variable {ops:Array Oper} {rest:List Nat} {Q:Fr→World→Prop} {f:Fr} {w w':World} {d:Option Nat} {op:Op} {ty:TypeId} {pos:String} {af:Array Edge} {i:Nat}
end
end Go.Eng
namespace Go.Eng
open Go
set_option linter.unusedVariables false
section
variable {P:Program} {N:Frm} {f:Fr} {w:World}
end
def zC8 (c:UInt8):Str→List Str
  | []=>[[]]
  | x :: l=>if x=c then [] :: zC8 c l else match zC8 c l with | p :: r=>(x :: p) :: r | []=>[[x]]
section
variable {P:Program} {n:Nat} {f:Fr} {w w0:World} {H0 H:Hp} {L:List Ent} {ds:List Deferred}
theorem OutR.one {fn : Func} {t : Nat} {v : Value} {R : Hp → Value → Prop} (Ds : List Nat) (hr : fn.results = #[.tmp t]) (hds : ds = Ds.map mark) (S : St w0 H0 w H (Ds.map (fun D => Ent.obj D (.deferred (some []))) ++ L)) (hv : ev ⟨n, ds⟩ f (.tmp t) = v) (hR : R H v) :
    OutR P fn n w0 H0 R .ret ds f w:=by
  refine ⟨.inl rfl,Ds,v,H,L,hds,fun w'=>?_,S,hR⟩
  rw [zCH hr,zCO]
  exact congrArg (fun v=>Result.ok v w') hv
end
end Go.Eng
namespace Go.Eng
open Go
variable {P:Program} {N:Frm} {f:Fr} {w:World}
theorem oi {α:Type} {a b:α} (h:some a=some b):a=b:=Option.some.inj h
theorem ag {f f':Fr} {ds:List Nat} (h:agree f f' ds:=by repeat (first | refine zCs rfl ?_ | refine zCQ rfl ?_ | exact zCe)):agree f f' ds:=h
theorem WL.m {ops : Array Oper} {rest : List Oper} {x : Operand} {d : Option Nat} {ty : TypeId} {pos : String} {af : Array Edge} {Q : Fr → World → Prop} (v : Value)
    (hx:ev N f x=v) (h:WL P N ops rest Q (updo f d v) w):WL P N ops (⟨d,.move x,ty,pos,af,none⟩ :: rest) Q f w:=WL.w (R.mv hx) h
theorem WL.a {ops : Array Oper} {rest : List Oper} {x : Operand} {d : Option Nat} {ty : TypeId} {pos : String} {af : Array Edge} {Q : Fr → World → Prop} (v : Value)
    (hx:ev N f x=v) (h:WL P N ops rest Q (updo f d v) w):WL P N ops (⟨d,.assign x,ty,pos,af,none⟩ :: rest) Q f w:=WL.w (R.as hx) h
end Go.Eng
namespace Go.Eng
open Go
section
variable {P:Program} {N:Frm} {f:Fr} {w w0:World} {H0 H:Hp} {L:List Ent} {ops:Array Oper} {rest:List Oper} {Q:Fr→World→Prop} {d:Nat} {od:Option Nat} {ty:TypeId} {pos:String} {af:Array Edge} {g:Option (Nat×Bool)}
theorem Sl.nilE {α:Type} [Enc α] {v:Value} {xs:List α} (h:Sl H v xs):(∃ c,v=.slice none 0 c∧xs=[])∨∃ a n c,v=.slice (some a) n c:=by
  obtain ⟨a,c,hv,h1,h2,h3⟩:=h
  cases a with
  | some a=>exact .inr ⟨a,_,_,hv⟩
  | none =>
    rcases h3 with h3 | ⟨b,off,cs,ha,_⟩
    · subst h3; exact .inl ⟨c,hv,rfl⟩
    · cases ha
theorem R.eqNil {T T' : TypeId} {x y : Operand} {a : Option Addr} {n c : Nat} {e : TypeId} (hx : ev N f x = .slice a n c) (hy : ev N f y = .slice none 0 0) (hT : P.underlying T = some (.slice e)) :
    (execOp (ev N f) ⟨od,.binOp .eql T x y T',ty,pos,af,g⟩).run P w=.ok (.value (boo a.isNone)) w:=by
  have:=Lib.run_eql_slice_nil (P:=P) w T e a n c 0 0 hT
  simp [execOp,eqGuard,hx,hy,boo,this]
end
end Go.Eng
namespace Go.Eng
open Go Go.RowKit
class Scal (α:Type) extends Enc α where
  enc:α→Value
  sz1:Enc.sz α=1
  iff:∀ {H:Hp} {cs:List Value} {x:α},Enc.cells H cs x↔cs=[enc x]
  enc1:∀ x:α,(enc x).oneCell'=true
instance:Scal Str:=⟨str,rfl,Iff.rfl,fun _=>rfl⟩
instance:Scal Int:=⟨int,rfl,Iff.rfl,fun _=>rfl⟩
section
variable {P:Program} {N:Frm} {f:Fr} {w w' w0:World} {H0 H:Hp} {L:List Ent} {ops:Array Oper} {rest:List Oper} {Q:Fr→World→Prop} {d:Nat} {od:Option Nat} {ty:TypeId} {pos:String} {af:Array Edge}
end
structure InsCon (P:Program) (k:FuncId) (e:TypeId) (zc:Array Value) (bytes:Nat):Prop where
  enter:∀ (args:Array Value) (w:World),(callFunc k args).run P w=.ok (.enter k args) w
  shift:∀ (b n c i vb vc:Nat) (cs:List Value) (y:Value) (w:World),i<n→0<1→n+1≤c→c≤9223372036854775807→vb≠b→cs.length=n→[y].length=1 →
    (∀ j v,cs[j]?=some v→w.cell? ⟨b,0+j,none⟩=some v)→(∀ j,j<n+1→(w.cell? ⟨b,0+j,none⟩).isSome=true)→(∀ j,j<n+1→w.frozen? ⟨b,0+j,none⟩=false) →
    (∀ j v,[y][j]?=some v→w.cell? ⟨vb,0+j,none⟩=some v)→(∀ v ∈ cs,v.oneCell'=true)→(∀ v ∈ [y],v.oneCell'=true) →
    ∀ (tA tB:TypeId) (kA kB:Nat),w.shape? vb=some (tA,kA)→w.shape? b=some (tB,kB)→kB≠0→w.frozen? ⟨vb,0,none⟩=false→w.frozen? ⟨vb,kA,none⟩=false →
    Calls P k #[.slice (some ⟨b,0,none⟩) n c,.int .i64 i,.slice (some ⟨vb,0,none⟩) 1 vc] w fun e w' =>
      e=.returned (.slice (some ⟨b,0,none⟩) (n+1) c)∧w'=(w.drew.setCells b (0+(i+1)) (cs.drop i)).setCells b (0+i) [y]
  room:∀ (b n c vb vc:Nat) (y:Value) (w:World),0<1→n+1≤c→c≤9223372036854775807→[y].length=1 →
    (∀ j,j<1→(w.cell? ⟨b,0+n+j,none⟩).isSome=true)→(∀ j,j<1→w.frozen? ⟨b,0+n+j,none⟩=false) →
    (∀ j v,[y][j]?=some v→w.cell? ⟨vb,0+j,none⟩=some v)→(∀ v ∈ [y],v.oneCell'=true) →
    Calls P k #[.slice (some ⟨b,0,none⟩) n c,.int .i64 n,.slice (some ⟨vb,0,none⟩) 1 vc] w fun e w' =>
      e=.returned (.slice (some ⟨b,0,none⟩) (n+1) c)∧w'=w.setCells b (0+n) [y]
  endGrow:∀ (base:Option Addr) (n c vb vc:Nat) (cs:List Value) (y:Value) (w:World),0<1→n≤c→c<n+1→(n+1)*bytes≤140737488355328→cs.length=n→[y].length=1→(base=none→n=0) →
    (∀ a,base=some a→∀ j v,cs[j]?=some v→w.cell? (a.add j)=some v)→(∀ j v,[y][j]?=some v→w.cell? ⟨vb,0+j,none⟩=some v)→(∀ v ∈ [y],v.oneCell'=true) →
    Calls P k #[.slice base n c,.int .i64 n,.slice (some ⟨vb,0,none⟩) 1 vc] w fun r w' =>
      r=.returned (.slice (some ⟨w.heap.size,0,none⟩) (n+1) (grownCap w (n+1) c e))∧w'=w.drew.alloc (.cells ((cs++[y]).toArray++Builtin.zeroCells zc (grownCap w (n+1) c e - (n+1))) e)
  grow:∀ (b n c i vb vc:Nat) (cs:List Value) (y:Value) (w:World),i<n→0<1→n≤c→c<n+1→(n+1)*bytes≤140737488355328→cs.length=n→[y].length=1 →
    (∀ j v,cs[j]?=some v→w.cell? ⟨b,0+j,none⟩=some v)→(∀ j v,[y][j]?=some v→w.cell? ⟨vb,0+j,none⟩=some v)→(∀ v ∈ cs,v.oneCell'=true)→(∀ v ∈ [y],v.oneCell'=true) →
    Calls P k #[.slice (some ⟨b,0,none⟩) n c,.int .i64 i,.slice (some ⟨vb,0,none⟩) 1 vc] w fun r w' =>
      r=.returned (.slice (some ⟨w.heap.size,0,none⟩) (n+1) (grownCap w (n+1) c e)) ∧
      w'=(((w.alloc (.cells ((cs.take i).toArray++Builtin.zeroCells zc (n+1 - i)++Builtin.zeroCells zc (grownCap w (n+1) c e - (n+1))) e)).drew.setCells w.heap.size i [y]).drew).setCells w.heap.size (i+1) (cs.drop i)
end Go.Eng
namespace Go.Eng
open Go Go.RowKit
def MR {α:Type} [Enc α] (H:Hp) (en:Ent) (T:TypeId) (v:Value) (xs:List α):Prop :=
  (v=.slice none 0 0∧xs=[]∧en=.row (.slice none 0 0) T (Enc.sz α) 0) ∨
  ∃ b cap cur cs,v=.slice (some ⟨b,0,none⟩) xs.length cap∧en=.obj b (.cells cur T (0,0))∧xs.length≤cap∧cap≤maxLen∧cur.size=cap*Enc.sz α∧cur.toList.take (xs.length*Enc.sz α)=cs∧Cells H cs xs
section
variable {α:Type} [Enc α] {H H':Hp} {en:Ent} {T:TypeId} {v:Value} {xs:List α}
theorem MR.mono (h:MR H en T v xs) (hl:H.le H'):MR H' en T v xs:=by
  rcases h with h | ⟨b,cap,cur,cs,h1,h2,h3,h4,h5,h6,h7⟩
  · exact .inl h
  · exact .inr ⟨b,cap,cur,cs,h1,h2,h3,h4,h5,h6,h7.mono hl⟩
end
section
variable {P:Program} {N:Frm} {f:Fr} {w w' w0:World} {H0 H:Hp} {L:List Ent} {ops:Array Oper} {rest:List Oper} {Q:Fr→World→Prop} {d:Nat} {od:Option Nat} {ty:TypeId} {pos:String} {af:Array Edge} {α:Type} [Enc α]
end
end Go.Eng
namespace Go.Eng
open Go Go.RowKit
section
variable {P:Program} {N:Frm} {f:Fr} {w w' w0:World} {H0 H:Hp} {L:List Ent} {ops:Array Oper} {rest:List Oper} {Q:Fr→World→Prop} {d:Nat} {od:Option Nat} {ty:TypeId} {pos:String} {af:Array Edge} {g:Option (Nat×Bool)} {α:Type} [Enc α]
end
def DelI {α:Type} [Enc α] (H:Hp) (xs:List α) (cur:Array Value) (K:List α) (m:Nat):Prop :=
  K.length<m∧m≤xs.length∧∃ kc jc rc tl,cur.toList=kc++(jc++(rc++tl))∧Cells H kc K∧jc.length=(m - K.length)*Enc.sz α∧Cells H rc (xs.drop m)
section
variable {α:Type} [Enc α] {H:Hp} {xs K:List α} {cur cur':Array Value} {m:Nat}
theorem Cells.split {H:Hp}:∀ {a b:List α} {cs:List Value},Cells H cs (a++b)→∃ c1 c2,cs=c1++c2∧Cells H c1 a∧Cells H c2 b
  | [],_,cs,h=>⟨[],cs,rfl,rfl,h⟩
  | x :: a,b,cs,⟨c,r,e,hc,hr⟩=>by
    obtain ⟨c1,c2,rfl,h1,h2⟩:=Cells.split hr
    exact ⟨c++c1,c2,by rw [e]; simp,⟨c,c1,rfl,hc,h1⟩,h2⟩
theorem DelI.start {cs:List Value} {i:Nat} (htk:cur.toList.take (xs.length*Enc.sz α)=cs) (hC:Cells H cs xs) (hi:i<xs.length):DelI H xs cur (xs.take i) (i+1):=by
  have hx:xs=xs.take i++([xs[i]]++xs.drop (i+1)):=by
    rw [List.singleton_append,← List.drop_eq_getElem_cons hi,List.take_append_drop]
  rw [hx] at hC
  obtain ⟨c1,c23,rfl,h1,h23⟩:=Cells.split hC
  obtain ⟨c2,c3,rfl,h2,h3⟩:=Cells.split h23
  have hl:(xs.take i).length=i:=by rw [List.length_take]; omega
  refine ⟨by omega,hi,c1,c2,c3,cur.toList.drop (xs.length*Enc.sz α),?_,h1,?_,h3⟩
  · exact (List.take_append_drop (xs.length*Enc.sz α) cur.toList).symm.trans (by rw [htk]; simp)
  · have:=h2.length
    rw [List.length_singleton] at this
    rw [hl,this]; congr 1; omega
end
section
variable {P:Program} {N:Frm} {f:Fr} {w:World} {od:Option Nat} {ty:TypeId} {pos:String} {af:Array Edge} {g:Option (Nat×Bool)}
end
end Go.Eng
namespace Go.Eng
open Go
def InQ (fn:Func) (N:Frm) (P:Program) (K:Value→World→Prop):Exit→Fr→World→Prop:=fun e f w=>(e=.ret∨e=.normal)∧∃ v,(results fn (tm N f)).run P w=.ok v w∧K v w
section
variable {P:Program} {N:Frm} {f:Fr} {w w0:World} {H0 H:Hp} {L:List Ent} {ops:Array Oper} {rest:List Oper} {Q:Fr→World→Prop} {d:Nat} {od:Option Nat} {ty:TypeId} {pos:String} {af:Array Edge} {g:Option (Nat×Bool)}
theorem zCw {N' : Nat} {fn : Func} {c : Code} {k : FuncId} {args : List Value} {K : Value → World → Prop} (hf : P.funcs[k]? = some fn) (hb : fn.body = some c) (hn : fn.ntmps = N') (hname : (fn.name == "runtime.NumGoroutine") = false)
    (hsz:Nat.ble args.length N'=true) (h:WP P ⟨N',[]⟩ c (InQ fn ⟨N',[]⟩ P K) (init args) w) :
    (∀ w,(callFunc k args.toArray).run P w=.ok (.enter k args.toArray) w)∧Calls P k args.toArray w (fun e w'=>∃ v,e=.returned v∧K v w'):=by
  refine ⟨fun w=>?_,?_⟩
  · simp only [callFunc,Sem.run_bind,run_program,Result.andThen_ok,hf,hname,hb]
    rfl
  · refine calls_of_wp hf hb ?_
    have hle:args.length≤N':=Nat.le_of_ble_eq_true hsz
    have e:({ tmps:=args.toArray++Array.replicate (fn.ntmps - args.toArray.size) undef,defers:=[] }:Act)=act ⟨N',[]⟩ (init args):=by
      simp only [act]
      congr 1
      apply Array.ext_getElem?
      intro t
      rw [zBl,hn,Array.getElem?_append]
      simp only [List.size_toArray,List.getElem?_toArray,init,List.getD_eq_getElem?_getD]
      by_cases h1:t<args.length
      · simp [h1,show t<N' from by omega]
      · simp only [h1,if_false]
        rw [Array.getElem?_replicate]
        by_cases h2:t<N'
        · rw [if_pos (by omega),if_pos h2,List.getElem?_eq_none (by omega)]; rfl
        · rw [if_neg (by omega),if_neg h2]
    rw [e]
    refine Code.wp_mono (fun e a w' ⟨f',ha,he,v,hv,hk⟩=>?_) h
    subst ha
    rcases he with rfl | rfl
    · exact ⟨rfl,v,hv,v,rfl,hk⟩
    · exact ⟨rfl,v,hv,v,rfl,hk⟩
theorem W.inl {N' : Nat} {fn : Func} {c : Code} {k : FuncId} {xs : List Operand} {ats : Array TypeId} {args : List Value} (ha : xs.map (ev N f) = args) (hf : P.funcs[k]? = some fn) (hb : fn.body = some c) (hn : fn.ntmps = N') (hname : (fn.name == "runtime.NumGoroutine") = false)
    (hsz:Nat.ble args.length N'=true) (h:WP P ⟨N',[]⟩ c (InQ fn ⟨N',[]⟩ P (fun v w'=>WL P N ops rest Q (updo f od v) w')) (init args) w) :
    WL P N ops (⟨od,.call ⟨.value (.func k),xs.toArray,ats⟩,ty,pos,af,none⟩ :: rest) Q f w:=by
  have C:=zCw hf hb hn hname hsz h
  refine WL.enterw (w':=w) (k:=k) (args:=args.toArray) ?_ C.2
  have:(execOp (ev N f) ⟨od,.call ⟨.value (.func k),xs.toArray,ats⟩,ty,pos,af,none⟩)=callFunc k (#[]++xs.toArray.map (ev N f)++#[]):=rfl
  rw [this]
  have e:(#[]++xs.toArray.map (ev N f)++#[])=args.toArray:=by simp [ha]
  rw [e]
  exact C.1 w
theorem WP.inC {fn:Func} {c:Code} {K:Value→World→Prop} (R:Fr→World→Prop) (h1:WP P N c (fun e f w=>(e=.ret∨e=.normal)∧R f w) f w) (h2:∀ f w,R f w→∃ v,(results fn (tm N f)).run P w=.ok v w∧K v w):WP P N c (InQ fn N P K) f w :=
  WP.mono h1 fun _ f w ⟨he,hr⟩=>⟨he,h2 f w hr⟩
theorem InR.one {fn:Func} {r:ResultVar} {v:Value} {K:Value→World→Prop} (hr:fn.results=#[r]) (h:Res P N f w r v) (hK:K v w):∃ v,(results fn (tm N f)).run P w=.ok v w∧K v w:=by
  refine ⟨v,?_,hK⟩
  have:=zAL h
  rw [zAk,hr]
  simp only [List.mapM_toArray,List.mapM_cons,List.mapM_nil,Sem.run_bind,Sem.run_map,this,Result.andThen_ok,Sem.run_pure]
  rfl
theorem InR.two {fn:Func} {r1 r2:ResultVar} {v1 v2:Value} {K:Value→World→Prop} (hr:fn.results=#[r1,r2]) (h1:Res P N f w r1 v1) (h2:Res P N f w r2 v2) (hK:K (.tuple ⟨[v1,v2]⟩) w):∃ v,(results fn (tm N f)).run P w=.ok v w∧K v w:=by
  refine ⟨_,?_,hK⟩
  have h1:=zAL h1
  have h2:=zAL h2
  rw [zAk,hr]
  simp only [List.mapM_toArray,List.mapM_cons,List.mapM_nil,Sem.run_bind,Sem.run_map,h1,h2,Result.andThen_ok,Sem.run_pure]
  rfl
theorem In.one {fn:Func} {r:ResultVar} {v:Value} {K:Value→World→Prop} (hr:fn.results=#[r]) (h:Res P N f w r v) (hK:K v w):InQ fn N P K .ret f w:=⟨.inl rfl,InR.one hr h hK⟩
theorem In.two {fn:Func} {r1 r2:ResultVar} {v1 v2:Value} {K:Value→World→Prop} (hr:fn.results=#[r1,r2]) (h1:Res P N f w r1 v1) (h2:Res P N f w r2 v2) (hK:K (.tuple ⟨[v1,v2]⟩) w):InQ fn N P K .ret f w:=⟨.inl rfl,InR.two hr h1 h2 hK⟩
theorem R.neqMN {T T' a b : TypeId} {x y : Operand} {p : Option Nat} (hx : ev N f x = .map p) (hy : ev N f y = .map none) (hT : P.underlying T = some (.map a b)) :
    (execOp (ev N f) ⟨od,.binOp .neq T x y T',ty,pos,af,g⟩).run P w=.ok (.value (boo (!p.isNone))) w:=by
  have:=run_neq_map_nil (P:=P) w T a b p hT
  simp [execOp,eqGuard,hx,hy,this,boo]
end
end Go.Eng
namespace Go.Eng
open Go Go.RowKit
section
variable {α:Type} [Enc α] {H:Hp} {xs:List α} {cur:Array Value}
end
section
variable {P:Program} {N:Frm} {f:Fr} {w w0:World} {H0 H:Hp} {L:List Ent} {ops:Array Oper} {rest:List Oper} {Q:Fr→World→Prop} {d:Nat} {od:Option Nat} {ty:TypeId} {pos:String} {af:Array Edge} {g:Option (Nat×Bool)}
end
def pick (L T:List Ent):List Nat→List Ent
  | []=>T
  | i :: is=>match L[i]? with | some e=>e :: pick L T is | none=>pick L T is
def okpk:List Nat→Bool
  | []=>true
  | i :: is=>!is.elem i&&okpk is
def allb (n:Nat):List Nat→Bool
  | []=>true
  | i :: is=>Nat.blt i n&&allb n is
theorem zCv {n:Nat}:∀ {is:List Nat},allb n is=true→∀ j ∈ is,j<n
  | i :: is,h,j,hj=>by
    simp only [allb,Bool.and_eq_true,Nat.blt_eq] at h
    rcases List.mem_cons.1 hj with rfl | hj
    · exact h.1
    · exact zCv h.2 j hj
theorem zB8 {L T:List Ent} {e:Ent}:∀ {is:List Nat},e ∈ pick L T is→e ∈ T∨∃ j ∈ is,L[j]?=some e
  | [],h=>.inl h
  | i :: is,h=>by
    have ih:e ∈ pick L T is→e ∈ T∨∃ j ∈ i :: is,L[j]?=some e:=fun h=>by
      rcases zB8 h with h | ⟨j,hj,hl⟩
      · exact .inl h
      · exact .inr ⟨j,List.mem_cons_of_mem _ hj,hl⟩
    unfold pick at h
    split at h
    case h_2=>exact ih h
    rename_i e' he'
    rcases List.mem_cons.1 h with rfl | h
    · exact .inr ⟨i,List.mem_cons_self,he'⟩
    · exact ih h
section
variable {w0 w:World} {H0 H:Hp} {L L':List Ent}
theorem St.picked (S:St w0 H0 w H L) {T:List Ent} (hT:T.Sublist L) {is:List Nat} (hn:okpk is=true) (hj:∀ e ∈ T,∃ j,j ∉ is∧L[j]?=some e):St w0 H0 w H (pick L T is):=by
  have hm:∀ e ∈ pick L T is,e ∈ L:=fun e h=>by
    rcases zB8 h with h | ⟨j,_,hj⟩
    · exact hT.subset h
    · exact List.mem_of_getElem? hj
  refine ⟨S.post,fun e h=>S.ents e (hm e h),fun e h=>S.own e (hm e h),?_⟩
  have key:∀ is,okpk is=true→(∀ e ∈ T,∃ j,j ∉ is∧L[j]?=some e)→((pick L T is).filterMap Ent.blk).Nodup:=by
    intro is
    induction is with
    | nil=>intro _ _; exact S.nodup.sublist (hT.filterMap _)
    | cons i is ih =>
      intro h hj
      simp only [okpk,Bool.and_eq_true,Bool.not_eq_true'] at h
      obtain ⟨hi,ho⟩:=h
      have ih:=ih ho fun e he=>by
        obtain ⟨j,h1,h2⟩:=hj e he
        exact ⟨j,fun h=>h1 (List.mem_cons_of_mem _ h),h2⟩
      unfold pick
      split
      case h_2=>exact ih
      rename_i e he
      rw [List.filterMap_cons]
      cases hb:e.blk with
      | none=>exact ih
      | some b =>
        refine List.nodup_cons.2 ⟨fun hmem=>?_,ih⟩
        obtain ⟨e',he',hb'⟩:=List.mem_filterMap.1 hmem
        rcases zB8 he' with h | ⟨j,hjm,hl⟩
        · obtain ⟨j,h1,h2⟩:=hj e' h
          exact S.blk_ne he h2 hb hb' (fun h=>h1 (h ▸ List.mem_cons_self)) rfl
        · refine S.blk_ne he hl hb hb' ?_ rfl
          rintro rfl
          rw [List.elem_eq_true_of_mem hjm] at hi
          cases hi
  exact key is hn hj
theorem St.pt (S:St w0 H0 w H L) (n:Nat) (is:List Nat) (hn:okpk is=true:=by exact rfl) (hb:allb n is=true:=by exact rfl) (he:pick L (L.drop n) is=L':=by exact rfl):St w0 H0 w H L':=by
  subst he
  refine S.picked (List.drop_sublist n L) hn fun e h=>?_
  obtain ⟨k,hk⟩:=List.mem_iff_getElem?.1 h
  rw [List.getElem?_drop] at hk
  exact ⟨n+k,fun h=>by have:=zCv hb _ h; omega,hk⟩
theorem St.pk (S:St w0 H0 w H L) (is:List Nat) (hn:okpk is=true:=by exact rfl) (he:pick L [] is=L':=by exact rfl):St w0 H0 w H L':=by
  subst he
  exact S.picked (List.nil_sublist L) hn fun e h=>nomatch h
end
end Go.Eng
