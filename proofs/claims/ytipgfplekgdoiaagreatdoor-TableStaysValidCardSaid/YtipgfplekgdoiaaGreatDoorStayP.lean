/- A part of the proof of laws of the seat. -/
import Derived.Test.YtipgfplekgdoiaaGreatDoorFindC
import Derived.Test.YtipgfplekgdoiaaGreatDoorTabW
set_option linter.unusedVariables false
namespace Go.Eng.Pure
open Go Go.Eng
set_option linter.unusedVariables false
def idN:Str:=[105,100,101,110,116,105,116,121]
def stepQ (k:Int) (v:Str) (st:Int×Int) (p:GPref):Int×Int:=if st.1<zIP k p.fRange v then (zIP k p.fRange v,p.fQ) else st
def bestQ (k:Int) (l:List GPref) (v:Str) (q:Int):Int×Int:=l.foldl (stepQ k v) (-1,q)
def qualS (k:Int) (l:List GPref) (pr:Bool) (v:Str):Int :=
  if !pr then 1000 else (bestQ k l v (if k=4∧fold v idN=true then 1 else 0)).2
theorem zLw (k : Int) (v : Str) (q q' : Int) : ∀ (l : List GPref) (st st' : Int × Int), st.1 = st'.1 → (st.1 = -1 → st.2 = q ∧ st'.2 = q') → (0 ≤ st.1 → st.2 = st'.2) → -1 ≤ st.1 →
    (l.foldl (stepQ k v) st).1=(l.foldl (stepQ k v) st').1∧((l.foldl (stepQ k v) st).1=-1→(l.foldl (stepQ k v) st).2=q∧(l.foldl (stepQ k v) st').2=q')∧(0≤(l.foldl (stepQ k v) st).1→(l.foldl (stepQ k v) st).2=(l.foldl (stepQ k v) st').2)∧-1≤(l.foldl (stepQ k v) st).1
  | [],st,st',h1,h2,h3,h4=>⟨h1,h2,h3,h4⟩
  | p :: l,st,st',h1,h2,h3,h4=>by
    rw [List.foldl_cons,List.foldl_cons]
    refine zLw k v q q' l _ _ ?_ ?_ ?_ ?_
    all_goals
      unfold stepQ
      try rw [← h1]
      by_cases h:st.1<zIP k p.fRange v
      · rw [if_pos h]; first | rw [if_pos h] | skip
        all_goals first | rfl | (intro h5; simp only [] at h5; omega) | (intro _; rfl) | (simp only []; omega)
      · rw [if_neg h]; first | rw [if_neg h] | skip
        all_goals assumption
def smPr (l:List GPref):Prop:=l.length≤1000000∧∀ p ∈ l,p.fRange.length≤1000000
theorem zOA (k:Int) (l:List GPref) (pr:Bool) (v:Str) (h:smPr l) (hv:v.length≤1000000):zE1 k l pr v=some (qualS k l pr v):=by
  unfold zE1 qualS
  cases pr with
  | false=>rfl
  | true =>
    have hl:=h.1
    rw [Bool.not_true,zAB,if_neg (by decide)]
    have:=zBB (fun (st:Int×Int) i=>(st.1,st.2,i)) l (stepQ k v) id (zC2 k l v) (fun n st=>True) (-1,0) trivial ?_ ?_
    · rw [this,zAA]
      obtain ⟨e1,e2,e3,e4⟩:=zLw k v 0 (if k=4∧fold v idN=true then 1 else 0) l (-1,0) (-1,(if k=4∧fold v idN=true then 1 else 0)) rfl (fun _=>⟨rfl,rfl⟩) (fun h=>by simp only [] at h; omega) (by simp only []; omega)
      unfold bestQ
      generalize l.foldl (stepQ k v) (-1,0)=a at *
      generalize l.foldl (stepQ k v) (-1,(if k=4∧fold v idN=true then 1 else 0))=b at *
      obtain ⟨a1,a2⟩:=a
      simp only [id] at e1 e2 e3 e4 ⊢
      rw [zI1 v _ (by omega) (by decide),zAA]
      by_cases h0:a1=-1
      · obtain ⟨f1,f2⟩:=e2 h0
        rw [f2,f1,decide_eq_true (show a1<0 by omega),Bool.true_and]
        by_cases hk:k=4
        · rw [show (k==4)=true by simpa using hk,zAC,zAA]
          show (bif fold v idN then _ else _)=_
          cases hf:fold v idN with
          | true=>rw [if_pos ⟨hk,rfl⟩]; rfl
          | false=>rw [if_neg (fun h=>by simp at h)]; rfl
        · rw [show (k==4)=false by simpa using hk,if_neg (fun h=>hk h.1)]; rfl
      · rw [decide_eq_false (show ¬ a1<0 by omega),Bool.false_and,zAB,zAA,zAB,e3 (by omega)]
    · intro n hn st _
      have hp:=h.2 _ (List.getElem_mem hn)
      refine ⟨?_,trivial⟩
      unfold zC2 stepQ
      simp only []
      rw [zAK hn,zAC,zAG hn,zAA,zP3 k _ v hp hv,zAA,wrs (by omega)]
      by_cases hc:st.1<zIP k l[n].fRange v
      · rw [decide_eq_true hc,zAC,if_pos hc]
      · rw [decide_eq_false hc,zAB,if_neg hc]
    · intro st _
      unfold zC2
      simp only []
      rw [zAH (Nat.le_refl _),zAB]; rfl
section
variable (Q:Str→Int)
def Dsc (l:List Str):Prop:=l.Pairwise fun a b=>Q b≤Q a
def cls (q:Int) (l:List Str):List Str:=l.filter fun v=>Q v==q
theorem zDy {Q:Str→Int} {q:Int} {l:List Str} {v:Str}:v ∈ cls Q q l↔v ∈ l∧Q v=q:=by
  unfold cls; rw [List.mem_filter,beq_iff_eq]
theorem zJC (q:Int) (a b:List Str):cls Q q (a++b)=cls Q q a++cls Q q b:=List.filter_append ..
theorem zFG (q:Int) (v:Str) (l:List Str):cls Q q (v :: l)=if Q v=q then v :: cls Q q l else cls Q q l:=by
  unfold cls
  rw [List.filter_cons]
  by_cases h:Q v=q
  · rw [if_pos h,if_pos (by simpa using h)]
  · rw [if_neg h,if_neg (by simpa using h)]
theorem zFQ {q:Int} {l:List Str} (h:∀ v ∈ l,Q v≠q):cls Q q l=[]:=by
  unfold cls
  rw [List.filter_eq_nil_iff]
  intro v hv
  simpa using h v hv
theorem zNi:∀ l m:List Str,Dsc Q l→Dsc Q m→(∀ q,cls Q q l=cls Q q m)→l=m
  | [],[],_,_,_=>rfl
  | [],b :: m,_,_,h=>by
    have:=h (Q b)
    rw [zFG,if_pos rfl] at this
    cases this
  | a :: l,[],_,_,h=>by
    have:=h (Q a)
    rw [zFG,if_pos rfl] at this
    cases this
  | a :: l,b :: m,hl,hm,h=>by
    unfold Dsc at hl hm
    rw [List.pairwise_cons] at hl hm
    have h1:Q b≤Q a:=by
      have hb:b ∈ cls Q (Q b) (a :: l):=by rw [h (Q b)]; exact zDy.2 ⟨List.mem_cons_self,rfl⟩
      rcases List.mem_cons.1 (zDy.1 hb).1 with e | e
      · rw [e]; exact Int.le_refl _
      · exact hl.1 b e
    have h2:Q a≤Q b:=by
      have hb:a ∈ cls Q (Q a) (b :: m):=by rw [← h (Q a)]; exact zDy.2 ⟨List.mem_cons_self,rfl⟩
      rcases List.mem_cons.1 (zDy.1 hb).1 with e | e
      · rw [e]; exact Int.le_refl _
      · exact hm.1 a e
    have h3:Q a=Q b:=by omega
    have h4:=h (Q a)
    rw [zFG,if_pos rfl,zFG,if_pos h3.symm] at h4
    injection h4 with e1 e2
    have:l=m:=by
      refine zNi l m hl.2 hm.2 fun q=>?_
      have h5:=h q
      rw [zFG,zFG,← h3] at h5
      by_cases hq:Q a=q
      · rw [if_pos hq,if_pos hq] at h5; injection h5
      · rw [if_neg hq,if_neg hq] at h5; exact h5
    rw [e1,this]
def Ord (out vs:List Str):Prop:=Dsc Q out∧∀ q,cls Q q out=if 0<q then cls Q q vs else []
theorem zNm {vs a b:List Str} (ha:Ord Q a vs) (hb:Ord Q b vs):a=b:=zNi Q a b ha.1 hb.1 fun q=>by rw [ha.2,hb.2]
theorem zOk {out vs : List Str} (h : Ord Q out vs) (v : Str) (hv : 0 < Q v) (at_ : Nat) (hat : at_ ≤ out.length) (h1 : ∀ x ∈ out.take at_, Q v ≤ Q x) (h2 : ∀ x ∈ out.drop at_, Q x < Q v) :
    Ord Q (out.take at_++[v]++out.drop at_) (vs++[v]):=by
  refine ⟨?_,fun q=>?_⟩
  · have hd:=h.1
    unfold Dsc at hd ⊢
    rw [← List.take_append_drop at_ out,List.pairwise_append] at hd
    rw [List.append_assoc,List.pairwise_append]
    refine ⟨hd.1,?_,?_⟩
    · rw [List.singleton_append,List.pairwise_cons]
      exact ⟨fun b hb=>by have:=h2 b hb; omega,hd.2.1⟩
    · intro a ha b hb
      rcases List.mem_append.1 hb with hb | hb
      · rw [List.mem_singleton] at hb; subst hb; exact h1 a ha
      · exact hd.2.2 a ha b hb
  · have hq:=h.2 q
    rw [← List.take_append_drop at_ out,zJC] at hq
    rw [zJC,zJC,zJC,zFG]
    show cls Q q (out.take at_)++(if Q v=q then [v] else [])++cls Q q (out.drop at_)=_
    by_cases he:Q v=q
    · subst he
      rw [zFQ Q (l:=out.drop at_) (fun x hx=>by have:=h2 x hx; omega),List.append_nil] at hq ⊢
      rw [hq,if_pos hv,if_pos hv,if_pos rfl,if_pos rfl]; rfl
    · rw [if_neg he,List.append_nil,hq]
      split
      · rw [show cls Q q []=[] from rfl,List.append_nil]
      · rfl
theorem zNY {out vs:List Str} (h:Ord Q out vs) (v:Str) (hv:¬ 0<Q v):Ord Q out (vs++[v]):=by
  refine ⟨h.1,fun q=>?_⟩
  rw [h.2 q]
  split
  · rw [zJC,show cls Q q [v]=[] from by rw [zFG,if_neg (by omega)]; rfl,List.append_nil]
  · rfl
end
theorem zOg (Q : Str → Int) (out : List Str) (hl : out.length ≤ 1000000) (q : Int) (hd : Dsc Q out) : ∀ n, n ≤ out.length → (∀ x ∈ out.drop n, Q x < q) →
    ∃ m,m≤out.length∧zAF (zD1 (out.map Q) q) (n:Int)=some ((m:Nat):Int)∧(∀ x ∈ out.take m,q≤Q x)∧∀ x ∈ out.drop m,Q x<q:=by
  intro n
  induction n with
  | zero =>
    intro hn h
    refine ⟨0,by omega,zAE ?_,by simp,h⟩
    unfold zD1
    rfl
  | succ n ih =>
    intro hn h
    have hlt:n<out.length:=by omega
    have hlm:n<(out.map Q).length:=by rw [List.length_map]; exact hlt
    have hb:zD1 (out.map Q) q ((n+1:Nat):Int)=some (if Q out[n]<q then .inl (n:Int) else .inr ((n+1:Nat):Int)):=by
      unfold zD1
      have e:((n+1:Nat):Int) - 1=(n:Int):=by omega
      rw [decide_eq_true (by omega),zAC,e,wrn (by omega),zAG hlm,zAA,zAA,List.getElem_map]
      by_cases hc:Q out[n]<q
      · rw [decide_eq_true hc,zAC,if_pos hc]
      · rw [decide_eq_false hc,zAB,if_neg hc]
    by_cases hc:Q out[n]<q
    · rw [if_pos hc] at hb
      obtain ⟨m,h1,h2,h3,h4⟩:=ih (by omega) (by
        intro x hx
        rw [List.drop_eq_getElem_cons hlt] at hx
        rcases List.mem_cons.1 hx with rfl | hx
        · exact hc
        · exact h x hx)
      exact ⟨m,h1,by rw [zAI hb]; exact h2,h3,h4⟩
    · rw [if_neg hc] at hb
      refine ⟨n+1,hn,zAE hb,?_,h⟩
      intro x hx
      rw [List.take_succ_eq_append_getElem hlt] at hx
      rcases List.mem_append.1 hx with hx | hx
      · unfold Dsc at hd
        rw [← List.take_append_drop n out,List.pairwise_append] at hd
        have:=hd.2.2 x hx out[n] (by rw [List.drop_eq_getElem_cons hlt]; exact List.mem_cons_self)
        omega
      · rw [List.mem_singleton] at hx; subst hx; omega
theorem zNd {α:Type} (l:List α) (n:Nat) (x:α) (h:n≤l.length) (hl:l.length≤1000000):insS l (n:Int) [x]=some (l.take n++[x]++l.drop n):=by
  unfold insS
  rw [if_pos ⟨by omega,by omega,rfl,by simp only [big]; omega⟩]
  rfl
theorem zQf (k:Int) (l:List GPref) (pr:Bool) (vs:List Str) (Q:Str→Int) (hv:vs.length≤100000) (hQ:∀ v ∈ vs,zE1 k l pr v=some (Q v)):∃ out,zGa k l pr vs=some out∧Ord Q out vs:=by
  have key:∀ (j n:Nat) (out:List Str),n+j=vs.length→out.length≤n→Ord Q out (vs.take n)→∃ r,zAF (zCL k l pr vs) (out,out.map Q,(n:Int))=some r∧Ord Q r vs:=by
    intro j
    induction j with
    | zero =>
      intro n out hn ho h
      have:n=vs.length:=by omega
      subst this
      rw [List.take_length] at h
      refine ⟨out,zAE ?_,h⟩
      unfold zCL
      simp only []
      rw [zAH (Nat.le_refl _),zAB]
    | succ j ih =>
      intro n out hn ho h
      have hlt:n<vs.length:=by omega
      have hx:=hQ _ (List.getElem_mem hlt)
      have ht:=zAl hlt
      by_cases hq:0<Q vs[n]
      · obtain ⟨m,h1,h2,h3,h4⟩:=zOg Q out (by omega) (Q vs[n]) h.1 out.length (Nat.le_refl _) (by simp)
        have hb:zCL k l pr vs (out,out.map Q,(n:Int))=some (.inl (out.take m++[vs[n]]++out.drop m,(out.take m++[vs[n]]++out.drop m).map Q,((n+1:Nat):Int))):=by
          unfold zCL
          simp only []
          rw [zAK hlt,zAC,zAG hlt,zAA,hx,zAA,decide_eq_false (by omega),zAB,List.length_map,h2,zAA,zNd out m _ h1 (by omega),zAA,
            zNd (out.map Q) m _ (by rw [List.length_map]; exact h1) (by rw [List.length_map]; omega),zAA,wrs (by omega)]
          simp only [List.map_append,List.map_take,List.map_drop,List.map_cons,List.map_nil]
        rw [zAI hb]
        refine ih (n+1) _ (by omega) ?_ ?_
        · simp only [List.length_append,List.length_take,List.length_drop,List.length_singleton]; omega
        · rw [ht]; exact zOk Q h _ hq m h1 h3 h4
      · have hb : zCL k l pr vs (out, out.map Q, (n : Int)) = some (.inl (out, out.map Q, ((n + 1 : Nat) : Int))) := by
          unfold zCL
          simp only []
          rw [zAK hlt,zAC,zAG hlt,zAA,hx,zAA,decide_eq_true (by omega),zAC,wrs (by omega)]
        rw [zAI hb]
        refine ih (n+1) _ (by omega) (by omega) ?_
        rw [ht]; exact zNY Q h _ hq
  obtain ⟨r,h1,h2⟩:=key vs.length 0 [] (by omega) (by simp) ⟨List.Pairwise.nil,fun q=>by split <;> rfl⟩
  refine ⟨r,?_,h2⟩
  unfold zGa
  rw [show ((0:Nat):Int)=0 from rfl] at h1
  rw [show (([]:List Str),([]:List Int),(0:Int))=([],List.map Q [],0) from rfl,h1,zAA]
structure RInv (Q:Str→Int) (vs out:List Str) (T:Int):Prop where
  dsc:Dsc Q out
  ge:∀ v ∈ out,T≤Q v∧0<Q v
  cl:∀ q,T≤q→0<q→cls Q q out=cls Q q vs
  nil:out=[]→∀ v ∈ vs,Q v<T
  lst:∀ x,out.getLast?=some x→Q x=T
theorem zRf {Q:Str→Int} {out vs:List Str} (h:Ord Q out vs):∀ v ∈ out,v ∈ vs:=by
  intro v hv
  have h1:v ∈ cls Q (Q v) out:=zDy.2 ⟨hv,rfl⟩
  rw [h.2] at h1
  split at h1
  · exact (zDy.1 h1).1
  · cases h1
theorem zRZ {Q:Str→Int} {out vs:List Str} (h:Ord Q out vs):out.length≤vs.length:=by
  have:out.Perm (vs.filter fun v=>decide (0<Q v)):=by
    refine List.perm_iff_count.2 fun a=>?_
    have hc:∀ l:List Str,(cls Q (Q a) l).count a=l.count a:=fun l=>List.count_filter (by simp)
    rw [← hc out,h.2]
    by_cases ha:0<Q a
    · rw [if_pos ha,hc,List.count_filter (by simpa using ha)]
    · rw [if_neg ha,List.count_nil,List.count_eq_zero.2 (fun hm=>ha (by simpa using (List.mem_filter.1 hm).2))]
  rw [this.length_eq]
  exact List.length_filter_le _ _
end Go.Eng.Pure
namespace Go.Eng.Pure
open Go Go.Eng
set_option linter.unusedVariables false
def insQ (Q:Str→Int) (out:List Str) (v:Str):List Str:=if 0<Q v then out.takeWhile (fun x=>decide (Q v≤Q x))++[v]++out.dropWhile (fun x=>decide (Q v≤Q x)) else out
def rankS (Q:Str→Int) (vs:List Str):List Str:=vs.foldl (insQ Q) []
theorem zNf (Q:Str→Int) (q:Int):∀ out:List Str,Dsc Q out→∀ x ∈ out.dropWhile (fun x=>decide (q≤Q x)),Q x<q
  | [],_,x,hx=>by cases hx
  | a :: out,h,x,hx=>by
    unfold Dsc at h
    rw [List.pairwise_cons] at h
    rw [List.dropWhile_cons] at hx
    by_cases ha:q≤Q a
    · rw [if_pos (by simpa using ha)] at hx
      exact zNf Q q out h.2 x hx
    · rw [if_neg (by simpa using ha)] at hx
      rcases List.mem_cons.1 hx with rfl | hx
      · omega
      · have:=h.1 x hx; omega
theorem zL6 (Q:Str→Int) (q:Int):∀ (out:List Str),∀ x ∈ out.takeWhile (fun x=>decide (q≤Q x)),q≤Q x
  | [],x,hx=>by cases hx
  | a :: out,x,hx=>by
    rw [List.takeWhile_cons] at hx
    split at hx
    · rename_i ha
      rcases List.mem_cons.1 hx with rfl | hx
      · simpa using ha
      · exact zL6 Q q out x hx
    · cases hx
theorem zNc (Q:Str→Int):∀ (vs done out:List Str),Ord Q out done→Ord Q (vs.foldl (insQ Q) out) (done++vs)
  | [],done,out,h=>by rw [List.append_nil]; exact h
  | v :: vs,done,out,h=>by
    rw [List.foldl_cons,show done++v :: vs=(done++[v])++vs by simp]
    refine zNc Q vs _ _ ?_
    unfold insQ
    by_cases hv:0<Q v
    · rw [if_pos hv]
      have h2:Ord Q (out.takeWhile (fun x=>decide (Q v≤Q x))++out.dropWhile (fun x=>decide (Q v≤Q x))) done:=by rw [List.takeWhile_append_dropWhile]; exact h
      have:=zOk Q h2 v hv (out.takeWhile (fun x=>decide (Q v≤Q x))).length (by rw [List.length_append]; omega) (by rw [List.take_left]; exact zL6 Q _ out) (by rw [List.drop_left]; exact zNf Q _ out h.1)
      rw [List.take_left,List.drop_left] at this
      exact this
    · rw [if_neg hv]; exact zNY Q h v hv
theorem zJw (Q:Str→Int) (vs:List Str):Ord Q (rankS Q vs) vs:=by
  have:=zNc Q vs [] [] ⟨List.Pairwise.nil,fun q=>by split <;> rfl⟩
  rwa [List.nil_append] at this
theorem zRo (k:Int) (l:List GPref) (pr:Bool) (vs:List Str) (h:smPr l) (hv:vs.length≤100000) (hs:∀ v ∈ vs,v.length≤1000000):zGa k l pr vs=some (rankS (qualS k l pr) vs):=by
  obtain ⟨r,h1,h2⟩:=zQf k l pr vs (qualS k l pr) hv fun v hm=>zOA k l pr v h (hs v hm)
  rw [h1,zNm _ h2 (zJw _ vs)]
theorem zNO (k:Int) (l:List GField) (hl:smL l):smPr (zH3 k l).1:=by
  have hm:=zHv l (nameF k)
  have hs:=zID l (nameF k) 300 fun f hf=>(hl.2 f hf).2
  unfold zH3
  split
  · exact ⟨by simp,by simp⟩
  split
  · refine ⟨Nat.le_trans (List.length_filterMap_le _ _) (by omega),fun p hp=>?_⟩
    rw [List.mem_filterMap] at hp
    obtain ⟨m,h1,h2⟩:=hp
    unfold prefO at h2
    split at h2
    · injection h2 with h2; subst h2
      exact zQ1 k m (hs m h1)
    · cases h2
  · exact ⟨by simp,by simp⟩
def rk0 (a:GAxis) (l:List GField):List Str :=
  if kindF a.fName≠0 then rankS (qualS (kindF a.fName) (zH3 (kindF a.fName) l).1 (zH3 (kindF a.fName) l).2) a.fValues
  else if a.fValues.contains (join (allM l a.fName)) then [join (allM l a.fName)] else []
def rkS (l:List GField) (strict:Bool) (a:GAxis):List Str:=if !axN a then [] else if (rk0 a l).isEmpty&&!strict then a.fValues.take 1 else rk0 a l
theorem zRm (a:GAxis):valB [a]=axN a:=by
  unfold valB chk okA
  simp [chk]
theorem zLN {a:GAxis} (h:axN a=true):1≤a.fValues.length∧a.fValues.length≤16∧chk (okV (domF a.fName)) [] a.fValues=true:=by
  unfold axN axV at h
  simp only [Bool.and_eq_true,decide_eq_true_eq] at h
  exact ⟨h.2.1.1,h.2.1.2,h.2.2⟩
theorem zOF (a:GAxis) (l:List GField) (strict:Bool) (ha:smA a) (hl:smL l):zDp a l strict=some (rkS l strict a):=by
  have hn:=ha.1
  obtain ⟨b1,b2⟩:=zLD hl
  obtain ⟨j1,j2⟩:=zK5 hl a.fName
  unfold zDp rkS
  rw [zHH [a] (fun x hx=>by rw [List.mem_singleton] at hx; subst hx; exact ha),zAA,zRm]
  cases hax:axN a with
  | false=>rfl
  | true =>
    obtain ⟨v1,v2,v3⟩:=zLN hax
    have h0:((bif kindF a.fName !=0 then
      (zEw (kindF a.fName) l).bind fun r29=>(zGa (kindF a.fName) r29.1 r29.2 a.fValues).bind fun r36=>some r36
    else
      (zEA l a.fName).bind fun r42=>(zGP r42).bind fun r48=>(zAg a.fValues r48).bind fun r53=>(bif r53 then some ([r48]:List Str) else some ([]:List Str))))=some (rk0 a l):=by
      unfold rk0
      by_cases hk:kindF a.fName=0
      · rw [hk,if_neg (by simp),show ((0:Int) !=0)=false from rfl,zAB,zKJ l _ b1 b2 (by omega),zAA,zPb _ (by omega) (by omega),zAA,zJs _ _ (by omega),zAA]
        cases a.fValues.contains (join (allM l a.fName)) <;> rfl
      · rw [if_pos hk,show (kindF a.fName !=0)=true by simpa using hk,zAC,zQM _ l hl,zAA,zRo _ _ _ _ (zNO _ l hl) (by omega) ha.2,zAA]
    rw [Bool.not_true,zAB,zM7 _ (by omega),zAA,h0,zAA,if_neg (by decide),show (((rk0 a l).length:Int)==0)=((rk0 a l).length==0) from eqI _ 0]
    have e:((rk0 a l).length==0)=(rk0 a l).isEmpty:=by cases rk0 a l <;> rfl
    rw [e]
    cases hc:(rk0 a l).isEmpty&&!strict with
    | true =>
      rw [zAC,if_pos rfl]
      cases hvs:a.fValues with
      | nil=>rw [hvs] at v1; simp at v1
      | cons x xs=>rfl
    | false=>rw [zAB,if_neg (by decide),zAA]
theorem zO2 (a:GAxis) (l:List GField) (strict:Bool):(rkS l strict a).length≤16∧∀ v ∈ rkS l strict a,v ∈ a.fValues:=by
  unfold rkS
  cases hax:axN a with
  | false=>exact ⟨by simp,by simp⟩
  | true =>
    obtain ⟨v1,v2,v3⟩:=zLN hax
    rw [if_neg (by decide)]
    split
    · exact ⟨by rw [List.length_take]; omega,fun v hv=>List.mem_of_mem_take hv⟩
    · unfold rk0
      split
      · have:=zJw (qualS (kindF a.fName) (zH3 (kindF a.fName) l).1 (zH3 (kindF a.fName) l).2) a.fValues
        exact ⟨Nat.le_trans (zRZ this) v2,zRf this⟩
      · split
        · rename_i hc
          exact ⟨by simp,fun v hv=>by rw [List.mem_singleton] at hv; subst hv; simpa using hc⟩
        · exact ⟨by simp,by simp⟩
end Go.Eng.Pure
namespace Go.Eng.Pure
open Go Go.Eng
set_option linter.unusedVariables false
def zFF (R:List (List Str)):List Str:=R.map fun r=>r.headD []
def rowsS (axes:List GAxis) (l:List GField) (strict:Bool):List (List Str):=axes.map (rkS l strict)
def fullR (R:List (List Str)):Bool:=R.all fun r=>!r.isEmpty
def bestS (axes:List GAxis) (l:List GField) (strict:Bool):List Str×Bool:=if valB axes&&fullR (rowsS axes l strict) then (zFF (rowsS axes l strict),true) else ([],false)
theorem zN3 {axes:List GAxis} (h:valB axes=true):1≤axes.length∧axes.length≤4:=by
  unfold valB at h
  simp only [Bool.and_eq_true,decide_eq_true_eq] at h
  exact h.1
theorem zJi {α:Type} {l:List α} {n:Nat} (x:α) (h:n<l.length):xput l (n:Int) x=some (l.set n x):=by
  unfold xput
  rw [if_pos ⟨by omega,by omega⟩]; rfl
theorem zKF {α:Type} (n:Nat) (z:α) (h:n≤1000):xmake (n:Int) z=some (List.replicate n z):=by
  unfold xmake
  rw [if_pos ⟨by omega,by omega⟩]; rfl
theorem zPE {α:Type} (a:List α) (z x:α) (k:Nat):(a++List.replicate (k+1) z).set a.length x=(a++[x])++List.replicate k z:=by
  rw [List.set_append_right _ _ (Nat.le_refl _),Nat.sub_self,List.replicate_succ,List.set_cons_zero,List.append_assoc]; rfl
theorem zPT (axes : List GAxis) (l : List GField) (strict : Bool) (ha : ∀ a ∈ axes, smA a) (hl : smL l) (hn : axes.length ≤ 4) :
    zAF (zBi axes l strict) (0,List.replicate axes.length [])=some (if fullR (rowsS axes l strict) then .inl (rowsS axes l strict) else .inr []):=by
  have:=zHt (fun (st:List (List Str)) i=>(i,st++List.replicate (axes.length - st.length) [])) axes (fun st a=>if (rkS l strict a).isEmpty then .inr (.inr []) else .inl (st++[rkS l strict a])) (fun st=>(.inl st:List (List Str) ⊕ List (List Str))) (zBi axes l strict) (fun n st=>st.length=n) [] rfl ?_ ?_
  · simp only [List.nil_append,List.length_nil,Nat.sub_zero] at this
    rw [this]
    have e:∀ (xs:List GAxis) (st:List (List Str)),run (fun st a=>if (rkS l strict a).isEmpty then .inr (.inr []) else .inl (st++[rkS l strict a])) (fun st=>(.inl st:List (List Str) ⊕ List (List Str))) xs st=if fullR (xs.map (rkS l strict)) then .inl (st++xs.map (rkS l strict)) else .inr []:=by
      intro xs
      induction xs with
      | nil=>intro st; simp [run,fullR]
      | cons x xs ih =>
        intro st
        unfold run
        cases hx:(rkS l strict x).isEmpty with
        | true=>simp [fullR,hx]
        | false =>
          rw [if_neg (by decide)]
          simp only []
          rw [ih]
          unfold fullR
          rw [List.map_cons,List.all_cons,hx,Bool.not_false,Bool.true_and,List.append_assoc]; rfl
    rw [e,List.nil_append]; rfl
  · intro n hlt st hI
    subst hI
    have hm:=ha _ (List.getElem_mem hlt)
    have hk:axes.length - st.length=(axes.length - (st.length+1))+1:=by omega
    refine ⟨?_,?_⟩
    · unfold zBi
      simp only []
      rw [zAK hlt,zAC,zAG hlt,zAA,zOF _ l strict hm hl,zAA]
      generalize rkS l strict axes[st.length]=r
      rw [hk]
      have hln:st.length<(st++List.replicate (axes.length - (st.length+1)+1) ([]:List Str)).length:=by simp
      rw [zAG hln,zAA,zJi r hln,zAA,zPE]
      have hl2:st.length<((st++[r])++List.replicate (axes.length - (st.length+1)) ([]:List Str)).length:=by simp
      have hg:((st++[r])++List.replicate (axes.length - (st.length+1)) ([]:List Str))[st.length]=r:=by simp
      rw [zAG hl2,zAA,hg,show ((r.length:Int)==0)=r.isEmpty by rw [show ((r.length:Int)==0)=(r.length==0) from eqI _ 0]; cases r <;> rfl,wrs (by omega)]
      cases r.isEmpty with
      | true=>rfl
      | false =>
        rw [zAB,if_neg (by decide)]
        simp only [List.length_append,List.length_singleton]
    · intro st' h
      split at h
      · cases h
      · injection h with h; subst h; simp
  · intro st hI
    unfold zBi
    simp only []
    rw [zAH (Nat.le_refl _),zAB,hI,Nat.sub_self,List.replicate_zero,List.append_nil]
theorem zRC (R:List (List Str)) (hf:fullR R=true) (hn:R.length≤4):zAF (zBh R (List.replicate R.length 0)) (0,List.replicate R.length [])=some (zFF R):=by
  have hz:(List.replicate R.length (0:Int)).length=R.length:=List.length_replicate
  have:=zBB (fun (st:List Str) i=>(i,st++List.replicate (R.length - st.length) [])) R (fun st r=>st++[r.headD []]) id (zBh R (List.replicate R.length 0)) (fun n st=>st.length=n) [] rfl ?_ ?_
  · simp only [List.nil_append,List.length_nil,Nat.sub_zero] at this
    rw [this]
    have e:∀ (xs:List (List Str)) (st:List Str),xs.foldl (fun st r=>st++[r.headD []]) st=st++zFF xs:=by
      intro xs
      induction xs with
      | nil=>intro st; simp [zFF]
      | cons x xs ih=>intro st; rw [List.foldl_cons,ih,List.append_assoc]; rfl
    rw [e]; rfl
  · intro n hlt st hI
    subst hI
    have hk:R.length - st.length=(R.length - (st.length+1))+1:=by omega
    refine ⟨?_,by simp⟩
    unfold zBh
    simp only []
    have hzl:st.length<(List.replicate R.length (0:Int)).length:=by rw [hz]; exact hlt
    have hr:∃ x xs,R[st.length]=x :: xs:=by
      unfold fullR at hf
      rw [List.all_eq_true] at hf
      have:=hf _ (List.getElem_mem hlt)
      cases hr:R[st.length] with
      | nil=>rw [hr] at this; simp at this
      | cons x xs=>exact ⟨x,xs,rfl⟩
    obtain ⟨x,xs,hr⟩:=hr
    rw [hz,zAK hlt,zAC,zAG hzl,zAA,zAG hlt,zAA,List.getElem_replicate,hr,zBF,zAA,hk]
    have hln:st.length<(st++List.replicate (R.length - (st.length+1)+1) ([]:Str)).length:=by simp
    rw [zAG hln,zAA,zJi x hln,zAA,zPE,wrs (by omega)]
    simp only [List.length_append,List.length_singleton,List.headD_cons]
  · intro st hI
    unfold zBh
    simp only []
    rw [hz,zAH (Nat.le_refl _),zAB,hI,Nat.sub_self,List.replicate_zero,List.append_nil]; rfl
theorem zOW (R:List (List Str)) (hn:R.length≤4) (hr:∀ r ∈ R,r.length≤16):∀ n,n≤R.length→∃ y:Int,y<R.length∧zAF (zBg R) ((n:Int) - 1,List.replicate R.length 0)=some (y,List.replicate R.length 0):=by
  have hz:(List.replicate R.length (0:Int)).length=R.length:=List.length_replicate
  intro n
  induction n with
  | zero =>
    intro _
    refine ⟨-1,by omega,zAE ?_⟩
    unfold zBg
    rfl
  | succ n ih =>
    intro hle
    have hlt:n<R.length:=by omega
    have hzl:n<(List.replicate R.length (0:Int)).length:=by rw [hz]; exact hlt
    have hrl:=hr _ (List.getElem_mem hlt)
    have e:((n+1:Nat):Int) - 1=(n:Int):=by omega
    have hb:zBg R ((n:Int),List.replicate R.length 0)=some (if R[n].length=1 then .inl ((n:Int) - 1,List.replicate R.length 0) else .inr ((n:Int),List.replicate R.length 0)):=by
      unfold zBg
      simp only []
      rw [decide_eq_true (by omega),zAC,zAG hzl,zAA,zAG hlt,zAA,List.getElem_replicate,zAA,wr_eq ⟨by omega,by omega⟩,wr_eq ⟨by omega,by omega⟩,zAA,zJi 0 hzl,zAA]
      have hs:(List.replicate R.length (0:Int)).set n 0=List.replicate R.length 0:=by
        apply List.ext_getElem (by simp)
        intro i h1 h2
        rw [List.getElem_set]
        simp
      rw [hs]
      by_cases h1:R[n].length=1
      · rw [if_pos h1,show ((0:Int)==(R[n].length:Int) - 1)=true by rw [beq_iff_eq]; omega,zAC]
      · rw [if_neg h1,show ((0:Int)==(R[n].length:Int) - 1)=false by rw [beq_eq_false_iff_ne]; omega,zAB]
    rw [e]
    by_cases h1:R[n].length=1
    · rw [if_pos h1] at hb
      obtain ⟨y,h2,h3⟩:=ih (by omega)
      exact ⟨y,h2,by rw [zAI hb]; exact h3⟩
    · rw [if_neg h1] at hb
      exact ⟨n,by omega,zAE hb⟩
theorem zQW (axes : List GAxis) (R : List (List Str)) (he : axes.length = R.length) (hf : fullR R = true) (hn : R.length ≤ 4) (hr : ∀ r ∈ R, r.length ≤ 16) :
    zAF (zBJ axes 1 R) (([]:List (List Str)),List.replicate R.length 0)=some [zFF R]:=by
  have hz:(List.replicate R.length (0:Int)).length=R.length:=List.length_replicate
  obtain ⟨y,h1,h2⟩:=zOW R hn hr R.length (Nat.le_refl _)
  have hdone:∀ D:List Int,zAF (zBJ axes 1 R) ([zFF R],D)=some [zFF R]:=by
    intro D
    refine zAE ?_
    unfold zBJ
    rfl
  have hb:zBJ axes 1 R (([]:List (List Str)),List.replicate R.length 0)=some (if y<0 then .inr [zFF R] else .inl ([zFF R],(List.replicate R.length (0:Int)).set y.toNat 1)):=by
    unfold zBJ
    simp only []
    rw [show decide ((([]:List (List Str)).length:Int)<1)=true from rfl,zAC,he,zKF _ _ (by omega),zAA,zRC R hf hn,zAA,zAc (by simp) (zA1 _),zAA,hz,wr_eq ⟨by omega,by omega⟩,h2,zAA]
    simp only [List.nil_append]
    by_cases hy:y<0
    · rw [decide_eq_true hy,zAC,if_pos hy]
    · have hyn:y=((y.toNat:Nat):Int):=by omega
      have hlt:y.toNat<(List.replicate R.length (0:Int)).length:=by rw [hz]; omega
      rw [decide_eq_false hy,zAB,if_neg hy]
      generalize y.toNat=m at *
      subst hyn
      rw [zAG hlt,zAA,zAA,List.getElem_replicate,zJi _ hlt,zAA]
      rfl
  by_cases hy:y<0
  · rw [if_pos hy] at hb; exact zAE hb
  · rw [if_neg hy] at hb; rw [zAI hb]; exact hdone _
theorem zRx (axes:List GAxis) (l:List GField) (strict:Bool):∀ r ∈ rowsS axes l strict,r.length≤16:=by
  intro r hr
  unfold rowsS at hr
  rw [List.mem_map] at hr
  obtain ⟨a,_,rfl⟩:=hr
  exact (zO2 a l strict).1
theorem zRd (axes:List GAxis) (l:List GField) (strict:Bool) (ha:∀ a ∈ axes,smA a) (hl:smL l):zEn axes l strict=some (bestS axes l strict):=by
  unfold zEn zGB bestS
  rw [zHH axes ha,zAA]
  cases hv:valB axes with
  | false=>rfl
  | true =>
    obtain ⟨n1,n2⟩:=zN3 hv
    have he:axes.length=(rowsS axes l strict).length:=by unfold rowsS; rw [List.length_map]
    rw [Bool.not_true,zAB,zKF _ _ (by omega),zAA,zPT axes l strict ha hl n2,zAA,zKF _ _ (by omega),Bool.true_and]
    simp only [zAA]
    cases hf:fullR (rowsS axes l strict) with
    | false=>rfl
    | true =>
      rw [if_pos rfl,if_pos rfl]
      simp only []
      have:=zQW axes (rowsS axes l strict) he hf (by omega) (zRx axes l strict)
      rw [← he] at this
      rw [this,zAA,zAA]
      rfl
end Go.Eng.Pure
namespace Go.Eng.Pure
open Go Go.Eng
set_option linter.unusedVariables false
def badX (a:GAxis):Bool:=decide (100<a.fName.length)||!keepS a.fValues
def keepX (l:List GAxis):Bool:=!((l.take 7).any badX)&&decide (l.length≤6)
theorem zLx (l:List GAxis):zIU l=some (keepX l):=by
  unfold zIU keepX
  rw [zGZ l 7 badX]
  · have e:decide ((l.length:Int)≤6)=decide (l.length≤6):=zFB l.length 6
    rw [e]
    cases (l.take 7).any badX <;> simp
  · intro n hn hm
    have e1:decide ((n:Int)<7)=true:=zAK hm
    have e2:wr ((n:Int)+1)=(n:Int)+1:=by rw [wrs (n:=n) (by omega)]; omega
    have e3:decide (100<((l[n].fName.length:Nat):Int))=decide (100<l[n].fName.length):=zJO 100 _
    simp only [zFr,zAK hn,e1,Bool.and_self,zAC,zAG hn,zAA,e2,zEN,e3]
    unfold badX
    cases decide (100<l[n].fName.length) <;> cases keepS l[n].fValues <;> rfl
  · intro n hn
    have:(decide ((n:Int)<(l.length:Int))&&decide ((n:Int)<7))=false:=by
      rcases hn with h | h
      · rw [zAH h]; rfl
      · rw [show decide ((n:Int)<7)=false from zAH h]; simp
    simp only [zFr,this,zAB]
def keepT (t:GTable):Bool:=!((t.fEntries.take 9).any fun e=>!keepE e)&&(decide (t.fEntries.length≤8)&&keepX t.fAxes)
theorem zLK (t:GTable):zHj t=some (keepT t):=by
  unfold zHj keepT
  rw [zGZ t.fEntries 9 (fun e=>!keepE e),zAA,zLx]
  · have e:decide ((t.fEntries.length:Int)≤8)=decide (t.fEntries.length≤8):=zFB _ 8
    rw [e]
    cases (t.fEntries.take 9).any (fun e=>!keepE e) <;> cases decide (t.fEntries.length≤8) <;> cases keepX t.fAxes <;> rfl
  · intro n hn hm
    have e1:decide ((n:Int)<9)=true:=zAK hm
    have e2:wr ((n:Int)+1)=(n:Int)+1:=by rw [wrs (n:=n) (by omega)]; omega
    simp only [zFH,zAK hn,e1,Bool.and_self,zAC,zAG hn,zAA,e2,zLc]
    cases keepE t.fEntries[n] <;> rfl
  · intro n hn
    have:(decide ((n:Int)<(t.fEntries.length:Int))&&decide ((n:Int)<9))=false:=by
      rcases hn with h | h
      · rw [zAH h]; rfl
      · rw [show decide ((n:Int)<9)=false from zAH h]; simp
    simp only [zFH,this,zAB]
def kpA (l:List GAxis):Prop:=l.length≤6∧∀ a ∈ l,a.fName.length≤100∧a.fValues.length≤20∧∀ v ∈ a.fValues,v.length≤100
theorem zNU {l:List GAxis} (h:keepX l=true):kpA l:=by
  unfold keepX at h
  simp only [Bool.and_eq_true,Bool.not_eq_true',decide_eq_true_eq] at h
  refine ⟨h.2,fun a ha=>?_⟩
  rw [List.take_of_length_le (by omega)] at h
  have:=List.any_eq_false.1 h.1 a ha
  simp only [badX,Bool.or_eq_true,decide_eq_true_eq,Bool.not_eq_true',not_or,Bool.not_eq_false] at this
  have h2:=zNu this.2
  exact ⟨by omega,h2.1,h2.2⟩
theorem zO6 {l:List GAxis} (h:kpA l):∀ a ∈ l,smA a:=fun a ha=>by
  obtain ⟨h1,h2,h3⟩:=h.2 a ha
  exact ⟨by omega,fun v hv=>by have:=h3 v hv; omega⟩
theorem zLk {l:List GAxis} (h:kpA l):smAx l:=⟨by have:=h.1; omega,fun a ha=>by have:=(h.2 a ha).1; omega⟩
theorem zLE {l:List GAxis} (h:kpA l):∀ a ∈ l,a.fValues.length≤1000000:=fun a ha=>by have:=(h.2 a ha).2.1; omega
theorem zLA {e:GEntry} (h:smE e):smEn e:=by
  obtain ⟨⟨h1,h2⟩,h3,h4,h5,_⟩:=h
  exact ⟨by omega,fun k hk=>by have:=(h2 k hk).1; omega,by have:=h3.1; omega,by have:=h4.1; omega,by have:=h5.1; omega⟩
theorem zJf {e:GEntry} (h:smE e):smKs e.fKeys:=by
  obtain ⟨⟨h1,h2⟩,_⟩:=h
  exact ⟨by omega,fun k hk=>⟨by have:=(h2 k hk).1; omega,fun v hv=>by have:=(h2 k hk).2 v hv; omega⟩⟩
def kpT (t:GTable):Prop:=kpA t.fAxes∧t.fEntries.length≤8∧∀ e ∈ t.fEntries,smE e
theorem zJc {t:GTable} (h:keepT t=true):kpT t:=by
  unfold keepT at h
  simp only [Bool.and_eq_true,Bool.not_eq_true',decide_eq_true_eq] at h
  obtain ⟨h1,h2,h3⟩:=h
  refine ⟨zNU h3,h2,fun e he=>?_⟩
  rw [List.take_of_length_le (by omega)] at h1
  have:=List.any_eq_false.1 h1 e he
  exact zLV (by simpa using this)
theorem zJj {t:GTable} (h:kpT t):smTb t:=⟨zLk h.1,zLE h.1,by have:=h.2.1; omega,fun e he=>⟨zLA (h.2.2 e he),zJf (h.2.2 e he)⟩⟩
structure FindOK (t:GTable) (l:List GField):Prop where
  ax:∀ a ∈ t.fAxes,smA a
  al:t.fAxes.length≤1000000
  nm:t.fEntries.length≤1000000
  vr:∀ e ∈ t.fEntries,e.fVary.length≤1000∧∀ n ∈ e.fVary,n.length≤1073741824
  sn:∀ e ∈ t.fEntries,e.fSnapshot.length≤1073741824
  ks:∀ e ∈ t.fEntries,smKs e.fKeys
  fl:smL l
theorem zN4 {t:GTable} {l:List GField} (h:kpT t) (hl:smL l):FindOK t l:=by
  refine ⟨zO6 h.1,by have:=h.1.1; omega,by have:=h.2.1; omega,fun e he=>?_,fun e he=>?_,fun e he=>zJf (h.2.2 e he),hl⟩
  · obtain ⟨_,h3,_⟩:=h.2.2 e he
    exact ⟨h3.1,fun n hn=>by have:=h3.2 n hn; omega⟩
  · obtain ⟨_,_,h4,_⟩:=h.2.2 e he
    have:=h4.1; omega
def findS (t:GTable) (l:List GField) (strict:Bool):Int×Bool :=
  bif t.fAxes.isEmpty then (lastI t.fEntries (fun e=>snapF l e.fVary==e.fSnapshot) t.fEntries.length,true)
  else bif (bestS t.fAxes l strict).2 then (lastI t.fEntries (fun e=>hasB t.fAxes e (bestS t.fAxes l strict).1) t.fEntries.length,true) else (-1,false)
theorem zP9 {axes:List GAxis} (l:List GField) (strict:Bool) (ha:∀ a ∈ axes,smA a) (hn:axes.length≤1000000):(bestS axes l strict).1.length≤1000000∧smKy (bestS axes l strict).1:=by
  unfold bestS
  split
  · refine ⟨by unfold zFF rowsS; simp only [List.length_map]; exact hn,fun v hv=>?_⟩
    unfold zFF rowsS at hv
    simp only [List.mem_map] at hv
    obtain ⟨r,⟨a,ham,rfl⟩,rfl⟩:=hv
    have h2:=(zO2 a l strict).2
    cases hr:rkS l strict a with
    | nil=>simp
    | cons x xs =>
      rw [hr] at h2
      exact (ha a ham).2 x (h2 x List.mem_cons_self)
  · exact ⟨by simp,fun v hv=>by cases hv⟩
theorem zRL {α:Type} (l:List α):((l.length:Int)==0)=l.isEmpty:=by
  rw [show ((l.length:Int)==0)=(l.length==0) from eqI _ 0]; cases l <;> rfl
theorem zOm (t:GTable) (l:List GField) (strict:Bool) (h:FindOK t l):zFW t l strict=some (findS t l strict):=by
  unfold zFW findS
  have hnm:=h.nm
  rw [zRL]
  cases hx:t.fAxes.isEmpty with
  | true =>
    rw [zAC,zAC,zMm t.fEntries _ (fun e=>snapF l e.fVary==e.fSnapshot) (by omega) (fun e he=>by
      unfold zFt
      rw [zQo _ _ l h.fl (h.vr e he).1 (h.vr e he).2]; rfl),zAA]
  | false =>
    obtain ⟨s1,s2⟩:=zP9 l strict h.ax h.al
    rw [zAB,zAB,zRd _ l strict h.ax h.fl,zAA]
    cases hb:(bestS t.fAxes l strict).2 with
    | false=>rfl
    | true =>
      rw [Bool.not_true,zAB,zAC,zMm t.fEntries _ (fun e=>hasB t.fAxes e (bestS t.fAxes l strict).1) (by omega) (fun e he=>by
        unfold zFq
        rw [zOs _ e _ ⟨h.al,fun a ha=>(h.ax a ha).1⟩ (h.ks e he) s1 s2]; rfl),zAA]
end Go.Eng.Pure
namespace Go.Eng.Pure
open Go Go.Eng
set_option linter.unusedVariables false
def wkX:List GAxis:=[⟨[97,99,99,101,112,116,45,108,97,110,103,117,97,103,101],[[101,110],[102,114]]⟩]
def wkE:GEntry:=⟨[[[101,110]],[[102,114]]],[],[],[],[],[49],0,0⟩
def wkF:GEntry:=⟨[[[102,114]]],[],[],[],[],[50],0,0⟩
def wkL:List GField:=[⟨[65,99,99,101,112,116,45,76,97,110,103,117,97,103,101],[101,110]⟩]
def wkT:GTable:=⟨wkX,[wkF]⟩
theorem wk1:putS ⟨[],[]⟩ wkE wkX 5=⟨wkX,[wkE]⟩:=by decide +kernel
theorem wk2:putS ⟨wkX,[wkE]⟩ wkF wkX 5=wkT:=by decide +kernel
theorem wk3:findS wkT wkL true=(-1,true):=by decide +kernel
theorem wk4:zPr wkT 5=true:=by decide +kernel
theorem zNT:kpA wkX:=zNU (by decide +kernel)
theorem zRN:smE wkE:=zLV (by decide +kernel)
theorem zRT:smE wkF:=zLV (by decide +kernel)
theorem zR1:kpT ⟨[],[]⟩:=zJc (by decide +kernel)
theorem zRh:kpT ⟨wkX,[wkE]⟩:=zJc (by decide +kernel)
theorem zO8:kpT wkT:=zJc (by decide +kernel)
theorem zSH:smL wkL:=zLJ (by decide +kernel)
theorem zM4:zFY=some true:=by
  have p1:=zPQ ⟨[],[]⟩ wkE wkX 5 (zJj zR1) (zLA zRN) (zJf zRN) (zLk zNT) (zLE zNT) (by omega)
  have p2:=zPQ ⟨wkX,[wkE]⟩ wkF wkX 5 (zJj zRh) (zLA zRT) (zJf zRT) (zLk zNT) (zLE zNT) (by omega)
  have p3:=zOm wkT wkL true (zN4 zO8 zSH)
  have p4:=zOQ wkT 5 (zJj zO8) (zO6 zO8.1)
  rw [wk1] at p1
  rw [wk2] at p2
  rw [wk3] at p3
  rw [wk4] at p4
  unfold zFY
  show (zEy ⟨[],[]⟩ wkE wkX 5).bind _=_
  rw [p1,zAA]
  show (zEy ⟨wkX,[wkE]⟩ wkF wkX 5).bind _=_
  rw [p2,zAA]
  show (zFW wkT wkL true).bind _=_
  rw [p3,zAA]
  show (((some true).bind fun b82=>_):Option Bool)=_
  rw [zAA]
  show ((zFb wkT 5).bind _).bind _=_
  rw [p4]; rfl
theorem zNg (t:GTable) (e:GEntry) (axes:List GAxis):(∀ x ∈ putE t e axes,x ∈ t.fEntries∨x=e)∧(putE t e axes).length≤t.fEntries.length+1:=by
  unfold putE
  refine ⟨fun x hx=>?_,?_⟩
  · rcases List.mem_append.1 hx with hx | hx
    · split at hx
      · exact .inl (List.mem_filter.1 hx).1
      · cases hx
    · exact .inr (List.mem_singleton.1 hx)
  · rw [List.length_append,List.length_singleton]
    split
    · have:=List.length_filter_le (fun x=>!replB axes e x) t.fEntries; omega
    · simp
theorem zQe {t:GTable} {e:GEntry} {axes:List GAxis} {limit:Int}:(∀ x ∈ (putS t e axes limit).fEntries,x ∈ t.fEntries∨x=e)∧(putS t e axes limit).fEntries.length≤t.fEntries.length+1:=by
  obtain ⟨h1,h2⟩:=zNg t e axes
  unfold putS
  exact ⟨fun x hx=>h1 x (List.mem_of_mem_drop hx),by simp only [List.length_drop]; omega⟩
end Go.Eng.Pure
namespace Go.Eng.Pure
open Go Go.Eng
set_option linter.unusedVariables false
theorem zRK:∀ {l:List Str},Asc l→asc l=true
  | [],_=>rfl
  | [_],_=>rfl
  | a :: b :: l,h=>by
    unfold asc
    have h1:=(List.pairwise_cons.1 h).1 b (by simp)
    rw [zRK (List.pairwise_cons.1 h).2,Proofs.bytesLess_eq,decide_eq_true h1]; rfl
theorem zOX (l:List GField):asc (zHh l).1=true:=by
  unfold zHh
  split
  · rfl
  · exact zRK (zKm _).1
theorem zO5:∀ (al:List GAxis) (kl acc out:List Str),kl.length=al.length→resL al kl acc=some out→∃ vs,out=acc++vs∧inAx al vs=true∧vs.length=al.length
  | [],kl,acc,out,hl,h=>by
    unfold resL at h
    refine ⟨[],?_,rfl,rfl⟩
    cases kl <;> (injection h with h; subst h; simp)
  | a :: al,[],acc,out,hl,h=>by cases hl
  | a :: al,k :: kl,acc,out,hl,h=>by
    unfold resL at h
    cases hf:a.fValues.find? (samV a k) with
    | none=>rw [hf] at h; cases h
    | some v =>
      rw [hf] at h
      obtain ⟨vs,h1,h2,h3⟩:=zO5 al kl _ out (by simpa using hl) h
      refine ⟨v :: vs,by rw [h1]; simp,?_,by simp [h3]⟩
      unfold inAx
      rw [h2,Bool.and_true,List.contains_iff_mem]
      exact List.mem_of_find?_eq_some hf
theorem zP2 {axes:List GAxis} {k:List Str} (h:(resS axes k).2=true):zFm axes (resS axes k).1=true:=by
  unfold resS at h ⊢
  split at h
  · rename_i hl
    rw [if_pos hl]
    cases hr:resL axes k [] with
    | none=>rw [hr] at h; cases h
    | some o =>
      obtain ⟨vs,h1,h2,h3⟩:=zO5 axes k [] o hl hr
      rw [List.nil_append] at h1
      subst h1
      unfold zFm
      simp only []
      rw [h2,h3]; simp
  · cases h
theorem zNb:∀ {axes:List GAxis} {k:List Str},inAx axes k=true→k.length=axes.length→∀ v ∈ k,∃ a ∈ axes,v ∈ a.fValues
  | [],[],_,_,v,hv=>by cases hv
  | [],x :: xs,_,hl,v,hv=>by cases hl
  | a :: l,[],_,hl,v,hv=>by cases hl
  | a :: l,x :: xs,h,hl,v,hv=>by
    unfold inAx at h
    rw [Bool.and_eq_true,List.contains_iff_mem] at h
    rcases List.mem_cons.1 hv with e | hv
    · subst e; exact ⟨a,by simp,h.1⟩
    · obtain ⟨b,hb,hvb⟩:=zNb h.2 (by simpa using hl) v hv
      exact ⟨b,by simp [hb],hvb⟩
theorem zPh {l:List GField} {axes:List GAxis} (h:(parK l axes).2=0):∀ k ∈ (parK l axes).1,zFm axes k=true:=by
  unfold parK at h ⊢
  cases hv:valB axes with
  | false=>rw [hv] at h; exact absurd h (by simp)
  | true =>
    rw [hv,if_pos rfl] at h
    rw [if_pos rfl]
    by_cases h0:(allM l keyN).length=0
    · rw [if_pos h0] at h; exact absurd h (by simp)
    · rw [if_neg h0] at h
      rw [if_neg h0]
      cases ho:optL memK (allM l keyN) with
      | none=>rw [ho] at h; exact absurd h (by simp)
      | some ks =>
        rw [ho] at h
        simp only [] at h ⊢
        cases ha:addK axes ks [] with
        | none=>rw [ha] at h; exact absurd h (by simp)
        | some o =>
          simp only []
          obtain ⟨a1,a2,a3,a4⟩:=zM2 axes ks [] o ha
          intro k hk
          rcases a4 k hk with h | ⟨k',_,h1,h2⟩
          · simp at h
          · rw [← h2]; exact zP2 h1
structure MadeOK (q:GRequest) (r:GResponse) (e:GEntry) (axes:List GAxis):Prop where
  en:smEn e
  ks:smKs e.fKeys
  ax:smX axes
  vr:e.fVary.length≤1000∧∀ n ∈ e.fVary,n.length≤1000
  sn:e.fSnapshot.length≤1000
  ok:(axes=[]∧e.fKeys=[]∧e.fSnapshot=snapF q.fFields e.fVary∧asc e.fVary=true)∨(valB axes=true∧zKr axes e=true)
theorem zSF (q:GRequest) (r:GResponse) (hr:smL r.fFields):MadeOK q r (mkS q r 0 0).1 (mkS q r 0 0).2:=by
  have hm:=zNH hr
  obtain ⟨n1,n2⟩:=zLQ hr
  have hl:=(zSI q r 0 0 hr).1
  unfold mkS at hl ⊢
  split
  · rename_i h
    rw [if_pos h] at hl
    rw [Bool.and_eq_true,beq_iff_eq,beq_iff_eq] at h
    obtain ⟨k1,k2,k3,k4⟩:=zKs hm h.2
    have hf:=zPh h.2
    have hx:=zK2 hm
    refine ⟨hl,⟨by simp only []; omega,fun k hk=>⟨by simp only [] at hk; rw [k4 k hk]; have:=hx.1; omega,fun v hv=>?_⟩⟩,hx,⟨by simp,by simp⟩,by simp,.inr ⟨k1,?_⟩⟩
    · have h1:=hf k hk
      unfold zFm at h1
      rw [Bool.and_eq_true] at h1
      obtain ⟨a,ha,hva⟩:=zNb h1.2 (k4 k hk) v hv
      exact (hx.2 a ha).1.2 v hva
    · unfold zKr
      simp only []
      rw [Bool.and_eq_true]
      refine ⟨decide_eq_true ⟨List.length_pos_iff.2 k2,k3,rfl⟩,List.all_eq_true.2 hf⟩
  · rename_i h
    rw [if_neg h] at hl
    refine ⟨hl,⟨by simp,by simp⟩,⟨by simp,by simp⟩,⟨by simp only []; omega,fun n hn=>by have:=n2 n hn; omega⟩,by simp only []; rw [zJk]; omega,.inl ⟨rfl,rfl,rfl,zOX _⟩⟩
theorem zNl {axes:List GAxis} (h:smX axes):smAx axes:=⟨by have:=h.1; omega,fun a ha=>(h.2 a ha).1.1⟩
theorem zQ7 {axes:List GAxis} (h:smX axes):∀ a ∈ axes,a.fValues.length≤1000000:=fun a ha=>by have:=(h.2 a ha).2; omega
theorem zS7 (t : GTable) : (List.range t.fEntries.length).all (okAt t) = true ↔
    (∀ e ∈ t.fEntries,(bif t.fAxes.isEmpty then zLS e else zKr t.fAxes e)=true)∧(t.fAxes.isEmpty=false→t.fEntries.Pairwise fun x y=>replB t.fAxes y x=false):=by
  rw [List.all_eq_true]
  constructor
  · intro h
    have hi:∀ (i:Nat) (hi:i<t.fEntries.length),(bif t.fAxes.isEmpty then zLS t.fEntries[i] else zKr t.fAxes t.fEntries[i]&&!((t.fEntries.take i).any fun x=>replB t.fAxes t.fEntries[i] x))=true:=by
      intro i hi
      have:=h i (List.mem_range.2 hi)
      unfold okAt at this
      rw [List.getElem?_eq_getElem hi] at this
      exact this
    refine ⟨fun e he=>?_,fun hx=>?_⟩
    · obtain ⟨i,hl,rfl⟩:=List.mem_iff_getElem.1 he
      have:=hi i hl
      cases hx:t.fAxes.isEmpty with
      | true=>rw [hx] at this; exact this
      | false =>
        rw [hx,zAB,Bool.and_eq_true] at this
        exact this.1
    · rw [List.pairwise_iff_getElem]
      intro i j h1 h2 hij
      have:=hi j h2
      rw [hx,zAB,Bool.and_eq_true,Bool.not_eq_true'] at this
      have:=List.any_eq_false.1 this.2 t.fEntries[i] (by
        rw [List.mem_iff_getElem]
        exact ⟨i,by rw [List.length_take]; omega,by rw [List.getElem_take]⟩)
      simpa using this
  · intro ⟨h1,h2⟩ i hi
    have hl:=List.mem_range.1 hi
    unfold okAt
    rw [List.getElem?_eq_getElem hl]
    show (bif t.fAxes.isEmpty then _ else _)=true
    have ha:=h1 _ (List.getElem_mem hl)
    cases hx:t.fAxes.isEmpty with
    | true=>rw [hx] at ha; exact ha
    | false =>
      rw [hx,zAB] at ha
      rw [zAB,ha,Bool.true_and,Bool.not_eq_true',List.any_eq_false]
      intro x hxm
      obtain ⟨j,hj,rfl⟩:=List.mem_iff_getElem.1 hxm
      rw [List.length_take] at hj
      rw [List.getElem_take]
      have:=List.pairwise_iff_getElem.1 (h2 hx) j i (by omega) hl (by omega)
      simpa using this
theorem zTB (t : GTable) (q : GRequest) (r : GResponse) (e : GEntry) (axes : List GAxis) (limit : Int) (h1 : 1 ≤ limit) (ht : (List.range t.fEntries.length).all (okAt t) = true) (h : MadeOK q r e axes) :
    zPr (putS t e axes limit) limit=true:=by
  obtain ⟨o1,o2⟩:=(zS7 t).1 ht
  have hpw:axes.isEmpty=false→(putE t e axes).Pairwise fun x y=>replB axes y x=false:=by
    intro hx
    unfold putE
    rw [List.pairwise_append]
    refine ⟨?_,List.pairwise_singleton _ _,fun a ha b hb=>?_⟩
    · split
      · rename_i heq
        rw [heq] at o2
        exact List.Pairwise.sublist List.filter_sublist (o2 hx)
      · exact List.Pairwise.nil
    · rw [List.mem_singleton] at hb
      subst hb
      split at ha
      · have:=(List.mem_filter.1 ha).2
        simpa using this
      · cases ha
  have hev:(bif axes.isEmpty then zLS e else zKr axes e)=true:=by
    rcases h.ok with ⟨g1,g2,g3,g4⟩ | ⟨g1,g2⟩
    · subst g1
      show zLS e=true
      unfold zLS
      rw [g2,g3,g4,zJk]; simp
    · have : axes.isEmpty = false := by
        cases axes with
        | nil=>cases g1
        | cons=>rfl
      rw [this]; exact g2
  have hmem:∀ x ∈ putE t e axes,(bif axes.isEmpty then zLS x else zKr axes x)=true:=by
    intro x hx
    unfold putE at hx
    rcases List.mem_append.1 hx with hx | hx
    · split at hx
      · rename_i heq
        rw [heq] at o1
        exact o1 x (List.mem_filter.1 hx).1
      · cases hx
    · rw [List.mem_singleton] at hx; subst hx; exact hev
  unfold zPr
  rw [Bool.and_eq_true,Bool.and_eq_true]
  refine ⟨⟨?_,?_⟩,?_⟩
  · unfold putS limN
    simp only [List.length_drop]
    rw [if_neg (by omega)]
    exact decide_eq_true (by omega)
  · show (axes.isEmpty||valB axes)=true
    rcases h.ok with ⟨g1,_⟩ | ⟨g1,_⟩
    · rw [g1]; rfl
    · rw [g1]; simp
  · rw [zS7]
    refine ⟨fun x hx=>hmem x (List.mem_of_mem_drop hx),fun hx=>?_⟩
    exact List.Pairwise.sublist (List.drop_sublist _ _) (hpw hx)
theorem zQQ (t:GTable) (e:GEntry) (axes:List GAxis):1≤(putE t e axes).length:=by
  unfold putE; simp
theorem zP7 (t:GTable) (e:GEntry) (axes:List GAxis) (n:Nat) (hn:n<(putE t e axes).length):((putE t e axes).drop n)[((putE t e axes).drop n).length - 1]?=some e:=by
  have hd:(putE t e axes).getLast?=some e:=by unfold putE; simp
  rw [← List.getLast?_eq_getElem?,List.getLast?_drop,if_neg (by omega),hd]
theorem zSu (t:GTable) (q:GRequest) (r:GResponse) (limit:Int):zSh t q r limit=some true:=by
  unfold zSh
  rw [zLK,zAA,zJ0,zAA,zJT,zAA]
  cases ht:keepT t with
  | false=>rfl
  | true =>
  cases hq:keepQ q with
  | false=>rfl
  | true =>
  cases hr:keepR r with
  | false=>rfl
  | true =>
  by_cases hl1:limit<1
  · rw [decide_eq_true hl1]; rfl
  by_cases hl2:64<limit
  · rw [decide_eq_false hl1,decide_eq_true hl2]; rfl
  rw [decide_eq_false hl1,decide_eq_false hl2]
  simp only [Bool.not_true,zAB,zAA,Bool.or_self]
  unfold keepQ at hq
  unfold keepR at hr
  simp only [Bool.and_eq_true] at hq hr
  have h1:=zNt hq.1.2
  have h2:=zNt hr.1.2
  have hk:=zJc ht
  have hsm:=zJj hk
  rw [zS9 t limit hsm (zO6 hk.1),zAA]
  cases hv:zPr t limit with
  | false=>rfl
  | true =>
  rw [Bool.not_true,zAA,zAB,zRc _ _ _ _ h1 h2,zAA]
  have hM:=zSF q r h2
  obtain ⟨s1,s2,s3⟩:=zSI q r 0 0 h2
  generalize hMk:mkS q r 0 0=M at *
  obtain ⟨e,axes⟩:=M
  simp only [] at hM s1 s2 s3 ⊢
  rw [zPQ t e axes limit hsm hM.en hM.ks (zNl hM.ax) (zQ7 hM.ax) (by omega),zAA]
  obtain ⟨q1,q2⟩:=zQe (t:=t) (e:=e) (axes:=axes) (limit:=limit)
  have hn:=hk.2.1
  have hsm2:smTb (putS t e axes limit):=by
    refine ⟨zNl hM.ax,zQ7 hM.ax,by omega,fun x hx=>?_⟩
    rcases q1 x hx with h | h
    · exact hsm.2.2.2 x h
    · rw [h]; exact ⟨hM.en,hM.ks⟩
  have hvt:(List.range t.fEntries.length).all (okAt t)=true:=by
    unfold zPr at hv
    rw [Bool.and_eq_true] at hv; exact hv.2
  rw [zOQ _ limit hsm2 (fun a ha=>(hM.ax.2 a ha).1),zAA,zTB t q r e axes limit (by omega) hvt hM]
  have hp:=zQQ t e axes
  have hlen:(putS t e axes limit).fEntries.length=(putE t e axes).length - ((putE t e axes).length - limN limit):=by unfold putS; simp only [List.length_drop]
  have hlim:((limN limit:Nat):Int)=limit:=by unfold limN; rw [if_neg (by omega)]; omega
  have c1:1≤(putS t e axes limit).fEntries.length:=by omega
  have c2:((putS t e axes limit).fEntries.length:Int)≤limit:=by omega
  rw [decide_eq_true (by omega),decide_eq_true c2]
  simp only [Bool.and_self,zAC]
  have hx:xnth (putS t e axes limit).fEntries (wr (((putS t e axes limit).fEntries.length:Int) - 1))=some e:=by
    have e1:wr (((putS t e axes limit).fEntries.length:Int) - 1)=(((putS t e axes limit).fEntries.length - 1:Nat):Int):=by rw [wr_eq ⟨by omega,by omega⟩]; omega
    rw [e1,zFn]
    exact zP7 t e axes _ (by omega)
  rw [hx,zAA,zTK e e s1,zAA,decide_eq_true rfl,zAA,zAC]
  show ((zSq axes axes).bind _).bind _=_
  rw [zS5 axes axes s2 s3,zAA,decide_eq_true rfl,zAA,zAC,zM4]
  rfl
end Go.Eng.Pure
