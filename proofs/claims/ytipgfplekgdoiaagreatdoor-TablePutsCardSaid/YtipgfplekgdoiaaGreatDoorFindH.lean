/- A part of the proof of laws of the seat. -/
import Derived.Test.YtipgfplekgdoiaaGreatDoorFindC
set_option linter.unusedVariables false
namespace Go.Eng.Pure
open Go Go.Eng
set_option linter.unusedVariables false
def idN:Str:=[105,100,101,110,116,105,116,121]
def stepQ (k:Int) (v:Str) (st:Int×Int) (p:GPref):Int×Int:=if st.1<zH4 k p.fRange v then (zH4 k p.fRange v,p.fQ) else st
def bestQ (k:Int) (l:List GPref) (v:Str) (q:Int):Int×Int:=l.foldl (stepQ k v) (-1,q)
def qualS (k:Int) (l:List GPref) (pr:Bool) (v:Str):Int :=
  if !pr then 1000 else (bestQ k l v (if k=4∧fold v idN=true then 1 else 0)).2
theorem zKn (k : Int) (v : Str) (q q' : Int) : ∀ (l : List GPref) (st st' : Int × Int), st.1 = st'.1 → (st.1 = -1 → st.2 = q ∧ st'.2 = q') → (0 ≤ st.1 → st.2 = st'.2) → -1 ≤ st.1 →
    (l.foldl (stepQ k v) st).1=(l.foldl (stepQ k v) st').1∧((l.foldl (stepQ k v) st).1=-1→(l.foldl (stepQ k v) st).2=q∧(l.foldl (stepQ k v) st').2=q')∧(0≤(l.foldl (stepQ k v) st).1→(l.foldl (stepQ k v) st).2=(l.foldl (stepQ k v) st').2)∧-1≤(l.foldl (stepQ k v) st).1
  | [],st,st',h1,h2,h3,h4=>⟨h1,h2,h3,h4⟩
  | p :: l,st,st',h1,h2,h3,h4=>by
    rw [List.foldl_cons,List.foldl_cons]
    refine zKn k v q q' l _ _ ?_ ?_ ?_ ?_
    all_goals
      unfold stepQ
      try rw [← h1]
      by_cases h:st.1<zH4 k p.fRange v
      · rw [if_pos h]; first | rw [if_pos h] | skip
        all_goals first | rfl | (intro h5; simp only [] at h5; omega) | (intro _; rfl) | (simp only []; omega)
      · rw [if_neg h]; first | rw [if_neg h] | skip
        all_goals assumption
def smPr (l:List GPref):Prop:=l.length≤1000000∧∀ p ∈ l,p.fRange.length≤1000000
theorem zMj (k:Int) (l:List GPref) (pr:Bool) (v:Str) (h:smPr l) (hv:v.length≤1000000):zEX k l pr v=some (qualS k l pr v):=by
  unfold zEX qualS
  cases pr with
  | false=>rfl
  | true =>
    have hl:=h.1
    rw [Bool.not_true,zAB,if_neg (by decide)]
    have:=zBI (fun (st:Int×Int) i=>(st.1,st.2,i)) l (stepQ k v) id (zCk k l v) (fun n st=>True) (-1,0) trivial ?_ ?_
    · rw [this,zAA]
      obtain ⟨e1,e2,e3,e4⟩:=zKn k v 0 (if k=4∧fold v idN=true then 1 else 0) l (-1,0) (-1,(if k=4∧fold v idN=true then 1 else 0)) rfl (fun _=>⟨rfl,rfl⟩) (fun h=>by simp only [] at h; omega) (by simp only []; omega)
      unfold bestQ
      generalize l.foldl (stepQ k v) (-1,0)=a at *
      generalize l.foldl (stepQ k v) (-1,(if k=4∧fold v idN=true then 1 else 0))=b at *
      obtain ⟨a1,a2⟩:=a
      simp only [id] at e1 e2 e3 e4 ⊢
      rw [zIK v _ (by omega) (by decide),zAA]
      by_cases h0:a1=-1
      · obtain ⟨f1,f2⟩:=e2 h0
        rw [f2,f1,decide_eq_true (show a1<0 by omega),Bool.true_and]
        by_cases hk:k=4
        · rw [show (k==4)=true by simpa using hk,zAC,zAA]
          show (bif fold v idN then _ else _)=_
          cases hf:fold v idN with
          | true=>rw [if_pos ⟨hk,rfl⟩]; rfl
          | false=>rw [if_neg (fun h=>by simp at h)]; rfl
        · rw [show (k==4)=false by simpa using hk,if_neg (fun h=>hk h.1)]; rfl
      · rw [decide_eq_false (show ¬ a1<0 by omega),Bool.false_and,zAB,zAA,zAB,e3 (by omega)]
    · intro n hn st _
      have hp:=h.2 _ (List.getElem_mem hn)
      refine ⟨?_,trivial⟩
      unfold zCk stepQ
      simp only []
      rw [zAK hn,zAC,zAG hn,zAA,zN0 k _ v hp hv,zAA,wrs (by omega)]
      by_cases hc:st.1<zH4 k l[n].fRange v
      · rw [decide_eq_true hc,zAC,if_pos hc]
      · rw [decide_eq_false hc,zAB,if_neg hc]
    · intro st _
      unfold zCk
      simp only []
      rw [zAI (Nat.le_refl _),zAB]; rfl
section
variable (Q:Str→Int)
def Dsc (l:List Str):Prop:=l.Pairwise fun a b=>Q b≤Q a
def cls (q:Int) (l:List Str):List Str:=l.filter fun v=>Q v==q
theorem zDW {Q:Str→Int} {q:Int} {l:List Str} {v:Str}:v ∈ cls Q q l↔v ∈ l∧Q v=q:=by
  unfold cls; rw [List.mem_filter,beq_iff_eq]
theorem zIF (q:Int) (a b:List Str):cls Q q (a++b)=cls Q q a++cls Q q b:=List.filter_append ..
theorem zEz (q:Int) (v:Str) (l:List Str):cls Q q (v :: l)=if Q v=q then v :: cls Q q l else cls Q q l:=by
  unfold cls
  rw [List.filter_cons]
  by_cases h:Q v=q
  · rw [if_pos h,if_pos (by simpa using h)]
  · rw [if_neg h,if_neg (by simpa using h)]
theorem zEo {q:Int} {l:List Str} (h:∀ v ∈ l,Q v≠q):cls Q q l=[]:=by
  unfold cls
  rw [List.filter_eq_nil_iff]
  intro v hv
  simpa using h v hv
theorem zL6:∀ l m:List Str,Dsc Q l→Dsc Q m→(∀ q,cls Q q l=cls Q q m)→l=m
  | [],[],_,_,_=>rfl
  | [],b :: m,_,_,h=>by
    have:=h (Q b)
    rw [zEz,if_pos rfl] at this
    cases this
  | a :: l,[],_,_,h=>by
    have:=h (Q a)
    rw [zEz,if_pos rfl] at this
    cases this
  | a :: l,b :: m,hl,hm,h=>by
    unfold Dsc at hl hm
    rw [List.pairwise_cons] at hl hm
    have h1:Q b≤Q a:=by
      have hb:b ∈ cls Q (Q b) (a :: l):=by rw [h (Q b)]; exact zDW.2 ⟨List.mem_cons_self,rfl⟩
      rcases List.mem_cons.1 (zDW.1 hb).1 with e | e
      · rw [e]; exact Int.le_refl _
      · exact hl.1 b e
    have h2:Q a≤Q b:=by
      have hb:a ∈ cls Q (Q a) (b :: m):=by rw [← h (Q a)]; exact zDW.2 ⟨List.mem_cons_self,rfl⟩
      rcases List.mem_cons.1 (zDW.1 hb).1 with e | e
      · rw [e]; exact Int.le_refl _
      · exact hm.1 a e
    have h3:Q a=Q b:=by omega
    have h4:=h (Q a)
    rw [zEz,if_pos rfl,zEz,if_pos h3.symm] at h4
    injection h4 with e1 e2
    have:l=m:=by
      refine zL6 l m hl.2 hm.2 fun q=>?_
      have h5:=h q
      rw [zEz,zEz,← h3] at h5
      by_cases hq:Q a=q
      · rw [if_pos hq,if_pos hq] at h5; injection h5
      · rw [if_neg hq,if_neg hq] at h5; exact h5
    rw [e1,this]
def Ord (out vs:List Str):Prop:=Dsc Q out∧∀ q,cls Q q out=if 0<q then cls Q q vs else []
theorem zMV {vs a b:List Str} (ha:Ord Q a vs) (hb:Ord Q b vs):a=b:=zL6 Q a b ha.1 hb.1 fun q=>by rw [ha.2,hb.2]
theorem zN9 {out vs : List Str} (h : Ord Q out vs) (v : Str) (hv : 0 < Q v) (at_ : Nat) (hat : at_ ≤ out.length) (h1 : ∀ x ∈ out.take at_, Q v ≤ Q x) (h2 : ∀ x ∈ out.drop at_, Q x < Q v) :
    Ord Q (out.take at_++[v]++out.drop at_) (vs++[v]):=by
  refine ⟨?_,fun q=>?_⟩
  · have hd:=h.1
    unfold Dsc at hd ⊢
    rw [← List.take_append_drop at_ out,List.pairwise_append] at hd
    rw [List.append_assoc,List.pairwise_append]
    refine ⟨hd.1,?_,?_⟩
    · rw [List.singleton_append,List.pairwise_cons]
      exact ⟨fun b hb=>by have:=h2 b hb; omega,hd.2.1⟩
    · intro a ha b hb
      rcases List.mem_append.1 hb with hb | hb
      · rw [List.mem_singleton] at hb; subst hb; exact h1 a ha
      · exact hd.2.2 a ha b hb
  · have hq:=h.2 q
    rw [← List.take_append_drop at_ out,zIF] at hq
    rw [zIF,zIF,zIF,zEz]
    show cls Q q (out.take at_)++(if Q v=q then [v] else [])++cls Q q (out.drop at_)=_
    by_cases he:Q v=q
    · subst he
      rw [zEo Q (l:=out.drop at_) (fun x hx=>by have:=h2 x hx; omega),List.append_nil] at hq ⊢
      rw [hq,if_pos hv,if_pos hv,if_pos rfl,if_pos rfl]; rfl
    · rw [if_neg he,List.append_nil,hq]
      split
      · rw [show cls Q q []=[] from rfl,List.append_nil]
      · rfl
theorem zLz {out vs:List Str} (h:Ord Q out vs) (v:Str) (hv:¬ 0<Q v):Ord Q out (vs++[v]):=by
  refine ⟨h.1,fun q=>?_⟩
  rw [h.2 q]
  split
  · rw [zIF,show cls Q q [v]=[] from by rw [zEz,if_neg (by omega)]; rfl,List.append_nil]
  · rfl
end
theorem zM7 (Q : Str → Int) (out : List Str) (hl : out.length ≤ 1000000) (q : Int) (hd : Dsc Q out) : ∀ n, n ≤ out.length → (∀ x ∈ out.drop n, Q x < q) →
    ∃ m,m≤out.length∧zAF (zDb (out.map Q) q) (n:Int)=some ((m:Nat):Int)∧(∀ x ∈ out.take m,q≤Q x)∧∀ x ∈ out.drop m,Q x<q:=by
  intro n
  induction n with
  | zero =>
    intro hn h
    refine ⟨0,by omega,zAE ?_,by simp,h⟩
    unfold zDb
    rfl
  | succ n ih =>
    intro hn h
    have hlt:n<out.length:=by omega
    have hlm:n<(out.map Q).length:=by rw [List.length_map]; exact hlt
    have hb:zDb (out.map Q) q ((n+1:Nat):Int)=some (if Q out[n]<q then .inl (n:Int) else .inr ((n+1:Nat):Int)):=by
      unfold zDb
      have e:((n+1:Nat):Int) - 1=(n:Int):=by omega
      rw [decide_eq_true (by omega),zAC,e,wrn (by omega),zAG hlm,zAA,zAA,List.getElem_map]
      by_cases hc:Q out[n]<q
      · rw [decide_eq_true hc,zAC,if_pos hc]
      · rw [decide_eq_false hc,zAB,if_neg hc]
    by_cases hc:Q out[n]<q
    · rw [if_pos hc] at hb
      obtain ⟨m,h1,h2,h3,h4⟩:=ih (by omega) (by
        intro x hx
        rw [List.drop_eq_getElem_cons hlt] at hx
        rcases List.mem_cons.1 hx with rfl | hx
        · exact hc
        · exact h x hx)
      exact ⟨m,h1,by rw [zAJ hb]; exact h2,h3,h4⟩
    · rw [if_neg hc] at hb
      refine ⟨n+1,hn,zAE hb,?_,h⟩
      intro x hx
      rw [List.take_succ_eq_append_getElem hlt] at hx
      rcases List.mem_append.1 hx with hx | hx
      · unfold Dsc at hd
        rw [← List.take_append_drop n out,List.pairwise_append] at hd
        have:=hd.2.2 x hx out[n] (by rw [List.drop_eq_getElem_cons hlt]; exact List.mem_cons_self)
        omega
      · rw [List.mem_singleton] at hx; subst hx; omega
theorem zMX {α:Type} (l:List α) (n:Nat) (x:α) (h:n≤l.length) (hl:l.length≤1000000):insS l (n:Int) [x]=some (l.take n++[x]++l.drop n):=by
  unfold insS
  rw [if_pos ⟨by omega,by omega,rfl,by simp only [big]; omega⟩]
  rfl
theorem zOZ (k:Int) (l:List GPref) (pr:Bool) (vs:List Str) (Q:Str→Int) (hv:vs.length≤100000) (hQ:∀ v ∈ vs,zEX k l pr v=some (Q v)):∃ out,zFs k l pr vs=some out∧Ord Q out vs:=by
  have key:∀ (j n:Nat) (out:List Str),n+j=vs.length→out.length≤n→Ord Q out (vs.take n)→∃ r,zAF (zB6 k l pr vs) (out,out.map Q,(n:Int))=some r∧Ord Q r vs:=by
    intro j
    induction j with
    | zero =>
      intro n out hn ho h
      have:n=vs.length:=by omega
      subst this
      rw [List.take_length] at h
      refine ⟨out,zAE ?_,h⟩
      unfold zB6
      simp only []
      rw [zAI (Nat.le_refl _),zAB]
    | succ j ih =>
      intro n out hn ho h
      have hlt:n<vs.length:=by omega
      have hx:=hQ _ (List.getElem_mem hlt)
      have ht:=zAg hlt
      by_cases hq:0<Q vs[n]
      · obtain ⟨m,h1,h2,h3,h4⟩:=zM7 Q out (by omega) (Q vs[n]) h.1 out.length (Nat.le_refl _) (by simp)
        have hb:zB6 k l pr vs (out,out.map Q,(n:Int))=some (.inl (out.take m++[vs[n]]++out.drop m,(out.take m++[vs[n]]++out.drop m).map Q,((n+1:Nat):Int))):=by
          unfold zB6
          simp only []
          rw [zAK hlt,zAC,zAG hlt,zAA,hx,zAA,decide_eq_false (by omega),zAB,List.length_map,h2,zAA,zMX out m _ h1 (by omega),zAA,
            zMX (out.map Q) m _ (by rw [List.length_map]; exact h1) (by rw [List.length_map]; omega),zAA,wrs (by omega)]
          simp only [List.map_append,List.map_take,List.map_drop,List.map_cons,List.map_nil]
        rw [zAJ hb]
        refine ih (n+1) _ (by omega) ?_ ?_
        · simp only [List.length_append,List.length_take,List.length_drop,List.length_singleton]; omega
        · rw [ht]; exact zN9 Q h _ hq m h1 h3 h4
      · have hb : zB6 k l pr vs (out, out.map Q, (n : Int)) = some (.inl (out, out.map Q, ((n + 1 : Nat) : Int))) := by
          unfold zB6
          simp only []
          rw [zAK hlt,zAC,zAG hlt,zAA,hx,zAA,decide_eq_true (by omega),zAC,wrs (by omega)]
        rw [zAJ hb]
        refine ih (n+1) _ (by omega) (by omega) ?_
        rw [ht]; exact zLz Q h _ hq
  obtain ⟨r,h1,h2⟩:=key vs.length 0 [] (by omega) (by simp) ⟨List.Pairwise.nil,fun q=>by split <;> rfl⟩
  refine ⟨r,?_,h2⟩
  unfold zFs
  rw [show ((0:Nat):Int)=0 from rfl] at h1
  rw [show (([]:List Str),([]:List Int),(0:Int))=([],List.map Q [],0) from rfl,h1,zAA]
structure RInv (Q:Str→Int) (vs out:List Str) (T:Int):Prop where
  dsc:Dsc Q out
  ge:∀ v ∈ out,T≤Q v∧0<Q v
  cl:∀ q,T≤q→0<q→cls Q q out=cls Q q vs
  nil:out=[]→∀ v ∈ vs,Q v<T
  lst:∀ x,out.getLast?=some x→Q x=T
theorem zPr {Q:Str→Int} {out vs:List Str} (h:Ord Q out vs):∀ v ∈ out,v ∈ vs:=by
  intro v hv
  have h1:v ∈ cls Q (Q v) out:=zDW.2 ⟨hv,rfl⟩
  rw [h.2] at h1
  split at h1
  · exact (zDW.1 h1).1
  · cases h1
theorem zPt {Q:Str→Int} {out vs:List Str} (h:Ord Q out vs):out.length≤vs.length:=by
  have:out.Perm (vs.filter fun v=>decide (0<Q v)):=by
    refine List.perm_iff_count.2 fun a=>?_
    have hc:∀ l:List Str,(cls Q (Q a) l).count a=l.count a:=fun l=>List.count_filter (by simp)
    rw [← hc out,h.2]
    by_cases ha:0<Q a
    · rw [if_pos ha,hc,List.count_filter (by simpa using ha)]
    · rw [if_neg ha,List.count_nil,List.count_eq_zero.2 (fun hm=>ha (by simpa using (List.mem_filter.1 hm).2))]
  rw [this.length_eq]
  exact List.length_filter_le _ _
end Go.Eng.Pure
namespace Go.Eng.Pure
open Go Go.Eng
set_option linter.unusedVariables false
def insQ (Q:Str→Int) (out:List Str) (v:Str):List Str:=if 0<Q v then out.takeWhile (fun x=>decide (Q v≤Q x))++[v]++out.dropWhile (fun x=>decide (Q v≤Q x)) else out
def rankS (Q:Str→Int) (vs:List Str):List Str:=vs.foldl (insQ Q) []
theorem zMa (Q:Str→Int) (q:Int):∀ out:List Str,Dsc Q out→∀ x ∈ out.dropWhile (fun x=>decide (q≤Q x)),Q x<q
  | [],_,x,hx=>by cases hx
  | a :: out,h,x,hx=>by
    unfold Dsc at h
    rw [List.pairwise_cons] at h
    rw [List.dropWhile_cons] at hx
    by_cases ha:q≤Q a
    · rw [if_pos (by simpa using ha)] at hx
      exact zMa Q q out h.2 x hx
    · rw [if_neg (by simpa using ha)] at hx
      rcases List.mem_cons.1 hx with rfl | hx
      · omega
      · have:=h.1 x hx; omega
theorem zLQ (Q:Str→Int) (q:Int):∀ (out:List Str),∀ x ∈ out.takeWhile (fun x=>decide (q≤Q x)),q≤Q x
  | [],x,hx=>by cases hx
  | a :: out,x,hx=>by
    rw [List.takeWhile_cons] at hx
    split at hx
    · rename_i ha
      rcases List.mem_cons.1 hx with rfl | hx
      · simpa using ha
      · exact zLQ Q q out x hx
    · cases hx
theorem zL4 (Q:Str→Int):∀ (vs done out:List Str),Ord Q out done→Ord Q (vs.foldl (insQ Q) out) (done++vs)
  | [],done,out,h=>by rw [List.append_nil]; exact h
  | v :: vs,done,out,h=>by
    rw [List.foldl_cons,show done++v :: vs=(done++[v])++vs by simp]
    refine zL4 Q vs _ _ ?_
    unfold insQ
    by_cases hv:0<Q v
    · rw [if_pos hv]
      have h2:Ord Q (out.takeWhile (fun x=>decide (Q v≤Q x))++out.dropWhile (fun x=>decide (Q v≤Q x))) done:=by rw [List.takeWhile_append_dropWhile]; exact h
      have:=zN9 Q h2 v hv (out.takeWhile (fun x=>decide (Q v≤Q x))).length (by rw [List.length_append]; omega) (by rw [List.take_left]; exact zLQ Q _ out) (by rw [List.drop_left]; exact zMa Q _ out h.1)
      rw [List.take_left,List.drop_left] at this
      exact this
    · rw [if_neg hv]; exact zLz Q h v hv
theorem zJA (Q:Str→Int) (vs:List Str):Ord Q (rankS Q vs) vs:=by
  have:=zL4 Q vs [] [] ⟨List.Pairwise.nil,fun q=>by split <;> rfl⟩
  rwa [List.nil_append] at this
theorem zPl (k:Int) (l:List GPref) (pr:Bool) (vs:List Str) (h:smPr l) (hv:vs.length≤100000) (hs:∀ v ∈ vs,v.length≤1000000):zFs k l pr vs=some (rankS (qualS k l pr) vs):=by
  obtain ⟨r,h1,h2⟩:=zOZ k l pr vs (qualS k l pr) hv fun v hm=>zMj k l pr v h (hs v hm)
  rw [h1,zMV _ h2 (zJA _ vs)]
theorem zMO (k:Int) (l:List GField) (hl:smL l):smPr (zHJ k l).1:=by
  have hm:=zIw l (nameF k)
  have hs:=zJc l (nameF k) 300 fun f hf=>(hl.2 f hf).2
  unfold zHJ
  split
  · exact ⟨by simp,by simp⟩
  split
  · refine ⟨Nat.le_trans (List.length_filterMap_le _ _) (by omega),fun p hp=>?_⟩
    rw [List.mem_filterMap] at hp
    obtain ⟨m,h1,h2⟩:=hp
    unfold prefO at h2
    split at h2
    · injection h2 with h2; subst h2
      exact zOa k m (hs m h1)
    · cases h2
  · exact ⟨by simp,by simp⟩
def rk0 (a:GAxis) (l:List GField):List Str :=
  if kindF a.fName≠0 then rankS (qualS (kindF a.fName) (zHJ (kindF a.fName) l).1 (zHJ (kindF a.fName) l).2) a.fValues
  else if a.fValues.contains (join (allM l a.fName)) then [join (allM l a.fName)] else []
def rkS (l:List GField) (strict:Bool) (a:GAxis):List Str:=if !axN a then [] else if (rk0 a l).isEmpty&&!strict then a.fValues.take 1 else rk0 a l
theorem zPe (a:GAxis):valB [a]=axN a:=by
  unfold valB chk okA
  simp [chk]
theorem zJ5 {a:GAxis} (h:axN a=true):1≤a.fValues.length∧a.fValues.length≤16∧chk (okV (domF a.fName)) [] a.fValues=true:=by
  unfold axN axV at h
  simp only [Bool.and_eq_true,decide_eq_true_eq] at h
  exact ⟨h.2.1.1,h.2.1.2,h.2.2⟩
theorem zNA (a:GAxis) (l:List GField) (strict:Bool) (ha:smA a) (hl:smL l):zDU a l strict=some (rkS l strict a):=by
  have hn:=ha.1
  obtain ⟨b1,b2⟩:=zKX hl
  obtain ⟨j1,j2⟩:=zIs hl a.fName
  unfold zDU rkS
  rw [zJO [a] (fun x hx=>by rw [List.mem_singleton] at hx; subst hx; exact ha),zAA,zPe]
  cases hax:axN a with
  | false=>rfl
  | true =>
    obtain ⟨v1,v2,v3⟩:=zJ5 hax
    have h0:((bif kindF a.fName !=0 then
      (zER (kindF a.fName) l).bind fun r29=>(zFs (kindF a.fName) r29.1 r29.2 a.fValues).bind fun r36=>some r36
    else
      (zGF l a.fName).bind fun r42=>(zFy r42).bind fun r48=>(zAb a.fValues r48).bind fun r53=>(bif r53 then some ([r48]:List Str) else some ([]:List Str))))=some (rk0 a l):=by
      unfold rk0
      by_cases hk:kindF a.fName=0
      · rw [hk,if_neg (by simp),show ((0:Int) !=0)=false from rfl,zAB,zNk l _ b1 b2 (by omega),zAA,zOC _ (by omega) (by omega),zAA,zI7 _ _ (by omega),zAA]
        cases a.fValues.contains (join (allM l a.fName)) <;> rfl
      · rw [if_pos hk,show (kindF a.fName !=0)=true by simpa using hk,zAC,zO0 _ l hl,zAA,zPl _ _ _ _ (zMO _ l hl) (by omega) ha.2,zAA]
    rw [Bool.not_true,zAB,zLj _ (by omega),zAA,h0,zAA,if_neg (by decide),show (((rk0 a l).length:Int)==0)=((rk0 a l).length==0) from eqI _ 0]
    have e:((rk0 a l).length==0)=(rk0 a l).isEmpty:=by cases rk0 a l <;> rfl
    rw [e]
    cases hc:(rk0 a l).isEmpty&&!strict with
    | true =>
      rw [zAC,if_pos rfl]
      cases hvs:a.fValues with
      | nil=>rw [hvs] at v1; simp at v1
      | cons x xs=>rfl
    | false=>rw [zAB,if_neg (by decide),zAA]
theorem zNQ (a:GAxis) (l:List GField) (strict:Bool):(rkS l strict a).length≤16∧∀ v ∈ rkS l strict a,v ∈ a.fValues:=by
  unfold rkS
  cases hax:axN a with
  | false=>exact ⟨by simp,by simp⟩
  | true =>
    obtain ⟨v1,v2,v3⟩:=zJ5 hax
    rw [if_neg (by decide)]
    split
    · exact ⟨by rw [List.length_take]; omega,fun v hv=>List.mem_of_mem_take hv⟩
    · unfold rk0
      split
      · have:=zJA (qualS (kindF a.fName) (zHJ (kindF a.fName) l).1 (zHJ (kindF a.fName) l).2) a.fValues
        exact ⟨Nat.le_trans (zPt this) v2,zPr this⟩
      · split
        · rename_i hc
          exact ⟨by simp,fun v hv=>by rw [List.mem_singleton] at hv; subst hv; simpa using hc⟩
        · exact ⟨by simp,by simp⟩
end Go.Eng.Pure
namespace Go.Eng.Pure
open Go Go.Eng
set_option linter.unusedVariables false
def zEh (R:List (List Str)):List Str:=R.map fun r=>r.headD []
def rowsS (axes:List GAxis) (l:List GField) (strict:Bool):List (List Str):=axes.map (rkS l strict)
def fullR (R:List (List Str)):Bool:=R.all fun r=>!r.isEmpty
def bestS (axes:List GAxis) (l:List GField) (strict:Bool):List Str×Bool:=if valB axes&&fullR (rowsS axes l strict) then (zEh (rowsS axes l strict),true) else ([],false)
theorem zL1 {axes:List GAxis} (h:valB axes=true):1≤axes.length∧axes.length≤4:=by
  unfold valB at h
  simp only [Bool.and_eq_true,decide_eq_true_eq] at h
  exact h.1
theorem zIp {α:Type} {l:List α} {n:Nat} (x:α) (h:n<l.length):xput l (n:Int) x=some (l.set n x):=by
  unfold xput
  rw [if_pos ⟨by omega,by omega⟩]; rfl
theorem zJV {α:Type} (n:Nat) (z:α) (h:n≤1000):xmake (n:Int) z=some (List.replicate n z):=by
  unfold xmake
  rw [if_pos ⟨by omega,by omega⟩]; rfl
theorem zNS {α:Type} (a:List α) (z x:α) (k:Nat):(a++List.replicate (k+1) z).set a.length x=(a++[x])++List.replicate k z:=by
  rw [List.set_append_right _ _ (Nat.le_refl _),Nat.sub_self,List.replicate_succ,List.set_cons_zero,List.append_assoc]; rfl
theorem zOK (axes : List GAxis) (l : List GField) (strict : Bool) (ha : ∀ a ∈ axes, smA a) (hl : smL l) (hn : axes.length ≤ 4) :
    zAF (zBY axes l strict) (0,List.replicate axes.length [])=some (if fullR (rowsS axes l strict) then .inl (rowsS axes l strict) else .inr []):=by
  have:=zG9 (fun (st:List (List Str)) i=>(i,st++List.replicate (axes.length - st.length) [])) axes (fun st a=>if (rkS l strict a).isEmpty then .inr (.inr []) else .inl (st++[rkS l strict a])) (fun st=>(.inl st:List (List Str) ⊕ List (List Str))) (zBY axes l strict) (fun n st=>st.length=n) [] rfl ?_ ?_
  · simp only [List.nil_append,List.length_nil,Nat.sub_zero] at this
    rw [this]
    have e:∀ (xs:List GAxis) (st:List (List Str)),run (fun st a=>if (rkS l strict a).isEmpty then .inr (.inr []) else .inl (st++[rkS l strict a])) (fun st=>(.inl st:List (List Str) ⊕ List (List Str))) xs st=if fullR (xs.map (rkS l strict)) then .inl (st++xs.map (rkS l strict)) else .inr []:=by
      intro xs
      induction xs with
      | nil=>intro st; simp [run,fullR]
      | cons x xs ih =>
        intro st
        unfold run
        cases hx:(rkS l strict x).isEmpty with
        | true=>simp [fullR,hx]
        | false =>
          rw [if_neg (by decide)]
          simp only []
          rw [ih]
          unfold fullR
          rw [List.map_cons,List.all_cons,hx,Bool.not_false,Bool.true_and,List.append_assoc]; rfl
    rw [e,List.nil_append]; rfl
  · intro n hlt st hI
    subst hI
    have hm:=ha _ (List.getElem_mem hlt)
    have hk:axes.length - st.length=(axes.length - (st.length+1))+1:=by omega
    refine ⟨?_,?_⟩
    · unfold zBY
      simp only []
      rw [zAK hlt,zAC,zAG hlt,zAA,zNA _ l strict hm hl,zAA]
      generalize rkS l strict axes[st.length]=r
      rw [hk]
      have hln:st.length<(st++List.replicate (axes.length - (st.length+1)+1) ([]:List Str)).length:=by simp
      rw [zAG hln,zAA,zIp r hln,zAA,zNS]
      have hl2:st.length<((st++[r])++List.replicate (axes.length - (st.length+1)) ([]:List Str)).length:=by simp
      have hg:((st++[r])++List.replicate (axes.length - (st.length+1)) ([]:List Str))[st.length]=r:=by simp
      rw [zAG hl2,zAA,hg,show ((r.length:Int)==0)=r.isEmpty by rw [show ((r.length:Int)==0)=(r.length==0) from eqI _ 0]; cases r <;> rfl,wrs (by omega)]
      cases r.isEmpty with
      | true=>rfl
      | false =>
        rw [zAB,if_neg (by decide)]
        simp only [List.length_append,List.length_singleton]
    · intro st' h
      split at h
      · cases h
      · injection h with h; subst h; simp
  · intro st hI
    unfold zBY
    simp only []
    rw [zAI (Nat.le_refl _),zAB,hI,Nat.sub_self,List.replicate_zero,List.append_nil]
theorem zOj (R:List (List Str)) (hf:fullR R=true) (hn:R.length≤4):zAF (zBV R (List.replicate R.length 0)) (0,List.replicate R.length [])=some (zEh R):=by
  have hz:(List.replicate R.length (0:Int)).length=R.length:=List.length_replicate
  have:=zBI (fun (st:List Str) i=>(i,st++List.replicate (R.length - st.length) [])) R (fun st r=>st++[r.headD []]) id (zBV R (List.replicate R.length 0)) (fun n st=>st.length=n) [] rfl ?_ ?_
  · simp only [List.nil_append,List.length_nil,Nat.sub_zero] at this
    rw [this]
    have e:∀ (xs:List (List Str)) (st:List Str),xs.foldl (fun st r=>st++[r.headD []]) st=st++zEh xs:=by
      intro xs
      induction xs with
      | nil=>intro st; simp [zEh]
      | cons x xs ih=>intro st; rw [List.foldl_cons,ih,List.append_assoc]; rfl
    rw [e]; rfl
  · intro n hlt st hI
    subst hI
    have hk:R.length - st.length=(R.length - (st.length+1))+1:=by omega
    refine ⟨?_,by simp⟩
    unfold zBV
    simp only []
    have hzl:st.length<(List.replicate R.length (0:Int)).length:=by rw [hz]; exact hlt
    have hr:∃ x xs,R[st.length]=x :: xs:=by
      unfold fullR at hf
      rw [List.all_eq_true] at hf
      have:=hf _ (List.getElem_mem hlt)
      cases hr:R[st.length] with
      | nil=>rw [hr] at this; simp at this
      | cons x xs=>exact ⟨x,xs,rfl⟩
    obtain ⟨x,xs,hr⟩:=hr
    rw [hz,zAK hlt,zAC,zAG hzl,zAA,zAG hlt,zAA,List.getElem_replicate,hr,zBZ,zAA,hk]
    have hln:st.length<(st++List.replicate (R.length - (st.length+1)+1) ([]:Str)).length:=by simp
    rw [zAG hln,zAA,zIp x hln,zAA,zNS,wrs (by omega)]
    simp only [List.length_append,List.length_singleton,List.headD_cons]
  · intro st hI
    unfold zBV
    simp only []
    rw [hz,zAI (Nat.le_refl _),zAB,hI,Nat.sub_self,List.replicate_zero,List.append_nil]; rfl
theorem zND (R:List (List Str)) (hn:R.length≤4) (hr:∀ r ∈ R,r.length≤16):∀ n,n≤R.length→∃ y:Int,y<R.length∧zAF (zBX R) ((n:Int) - 1,List.replicate R.length 0)=some (y,List.replicate R.length 0):=by
  have hz:(List.replicate R.length (0:Int)).length=R.length:=List.length_replicate
  intro n
  induction n with
  | zero =>
    intro _
    refine ⟨-1,by omega,zAE ?_⟩
    unfold zBX
    rfl
  | succ n ih =>
    intro hle
    have hlt:n<R.length:=by omega
    have hzl:n<(List.replicate R.length (0:Int)).length:=by rw [hz]; exact hlt
    have hrl:=hr _ (List.getElem_mem hlt)
    have e:((n+1:Nat):Int) - 1=(n:Int):=by omega
    have hb:zBX R ((n:Int),List.replicate R.length 0)=some (if R[n].length=1 then .inl ((n:Int) - 1,List.replicate R.length 0) else .inr ((n:Int),List.replicate R.length 0)):=by
      unfold zBX
      simp only []
      rw [decide_eq_true (by omega),zAC,zAG hzl,zAA,zAG hlt,zAA,List.getElem_replicate,zAA,wr_eq ⟨by omega,by omega⟩,wr_eq ⟨by omega,by omega⟩,zAA,zIp 0 hzl,zAA]
      have hs:(List.replicate R.length (0:Int)).set n 0=List.replicate R.length 0:=by
        apply List.ext_getElem (by simp)
        intro i h1 h2
        rw [List.getElem_set]
        simp
      rw [hs]
      by_cases h1:R[n].length=1
      · rw [if_pos h1,show ((0:Int)==(R[n].length:Int) - 1)=true by rw [beq_iff_eq]; omega,zAC]
      · rw [if_neg h1,show ((0:Int)==(R[n].length:Int) - 1)=false by rw [beq_eq_false_iff_ne]; omega,zAB]
    rw [e]
    by_cases h1:R[n].length=1
    · rw [if_pos h1] at hb
      obtain ⟨y,h2,h3⟩:=ih (by omega)
      exact ⟨y,h2,by rw [zAJ hb]; exact h3⟩
    · rw [if_neg h1] at hb
      exact ⟨n,by omega,zAE hb⟩
theorem zOb (axes : List GAxis) (R : List (List Str)) (he : axes.length = R.length) (hf : fullR R = true) (hn : R.length ≤ 4) (hr : ∀ r ∈ R, r.length ≤ 16) :
    zAF (zA8 axes 1 R) (([]:List (List Str)),List.replicate R.length 0)=some [zEh R]:=by
  have hz:(List.replicate R.length (0:Int)).length=R.length:=List.length_replicate
  obtain ⟨y,h1,h2⟩:=zND R hn hr R.length (Nat.le_refl _)
  have hdone:∀ D:List Int,zAF (zA8 axes 1 R) ([zEh R],D)=some [zEh R]:=by
    intro D
    refine zAE ?_
    unfold zA8
    rfl
  have hb:zA8 axes 1 R (([]:List (List Str)),List.replicate R.length 0)=some (if y<0 then .inr [zEh R] else .inl ([zEh R],(List.replicate R.length (0:Int)).set y.toNat 1)):=by
    unfold zA8
    simp only []
    rw [show decide ((([]:List (List Str)).length:Int)<1)=true from rfl,zAC,he,zJV _ _ (by omega),zAA,zOj R hf hn,zAA,zAj (by simp) (zA5 _),zAA,hz,wr_eq ⟨by omega,by omega⟩,h2,zAA]
    simp only [List.nil_append]
    by_cases hy:y<0
    · rw [decide_eq_true hy,zAC,if_pos hy]
    · have hyn:y=((y.toNat:Nat):Int):=by omega
      have hlt:y.toNat<(List.replicate R.length (0:Int)).length:=by rw [hz]; omega
      rw [decide_eq_false hy,zAB,if_neg hy]
      generalize y.toNat=m at *
      subst hyn
      rw [zAG hlt,zAA,zAA,List.getElem_replicate,zIp _ hlt,zAA]
      rfl
  by_cases hy:y<0
  · rw [if_pos hy] at hb; exact zAE hb
  · rw [if_neg hy] at hb; rw [zAJ hb]; exact hdone _
theorem zPi (axes:List GAxis) (l:List GField) (strict:Bool):∀ r ∈ rowsS axes l strict,r.length≤16:=by
  intro r hr
  unfold rowsS at hr
  rw [List.mem_map] at hr
  obtain ⟨a,_,rfl⟩:=hr
  exact (zNQ a l strict).1
theorem zPp (axes:List GAxis) (l:List GField) (strict:Bool) (ha:∀ a ∈ axes,smA a) (hl:smL l):zEJ axes l strict=some (bestS axes l strict):=by
  unfold zEJ zFi bestS
  rw [zJO axes ha,zAA]
  cases hv:valB axes with
  | false=>rfl
  | true =>
    obtain ⟨n1,n2⟩:=zL1 hv
    have he:axes.length=(rowsS axes l strict).length:=by unfold rowsS; rw [List.length_map]
    rw [Bool.not_true,zAB,zJV _ _ (by omega),zAA,zOK axes l strict ha hl n2,zAA,zJV _ _ (by omega),Bool.true_and]
    simp only [zAA]
    cases hf:fullR (rowsS axes l strict) with
    | false=>rfl
    | true =>
      rw [if_pos rfl,if_pos rfl]
      simp only []
      have:=zOb axes (rowsS axes l strict) he hf (by omega) (zPi axes l strict)
      rw [← he] at this
      rw [this,zAA,zAA]
      rfl
end Go.Eng.Pure
namespace Go.Eng.Pure
open Go Go.Eng
set_option linter.unusedVariables false
def badX (a:GAxis):Bool:=decide (100<a.fName.length)||!keepS a.fValues
def keepX (l:List GAxis):Bool:=!((l.take 7).any badX)&&decide (l.length≤6)
theorem zK5 (l:List GAxis):zHr l=some (keepX l):=by
  unfold zHr keepX
  rw [zFx l 7 badX]
  · have e:decide ((l.length:Int)≤6)=decide (l.length≤6):=zHL l.length 6
    rw [e]
    cases (l.take 7).any badX <;> simp
  · intro n hn hm
    have e1:decide ((n:Int)<7)=true:=zAK hm
    have e2:wr ((n:Int)+1)=(n:Int)+1:=by rw [wrs (n:=n) (by omega)]; omega
    have e3:decide (100<((l[n].fName.length:Nat):Int))=decide (100<l[n].fName.length):=zHs 100 _
    simp only [zFS,zAK hn,e1,Bool.and_self,zAC,zAG hn,zAA,e2,zDy,e3]
    unfold badX
    cases decide (100<l[n].fName.length) <;> cases keepS l[n].fValues <;> rfl
  · intro n hn
    have:(decide ((n:Int)<(l.length:Int))&&decide ((n:Int)<7))=false:=by
      rcases hn with h | h
      · rw [zAI h]; rfl
      · rw [show decide ((n:Int)<7)=false from zAI h]; simp
    simp only [zFS,this,zAB]
def keepT (t:GTable):Bool:=!((t.fEntries.take 9).any fun e=>!keepE e)&&(decide (t.fEntries.length≤8)&&keepX t.fAxes)
theorem zKZ (t:GTable):zG4 t=some (keepT t):=by
  unfold zG4 keepT
  rw [zFx t.fEntries 9 (fun e=>!keepE e),zAA,zK5]
  · have e:decide ((t.fEntries.length:Int)≤8)=decide (t.fEntries.length≤8):=zHL _ 8
    rw [e]
    cases (t.fEntries.take 9).any (fun e=>!keepE e) <;> cases decide (t.fEntries.length≤8) <;> cases keepX t.fAxes <;> rfl
  · intro n hn hm
    have e1:decide ((n:Int)<9)=true:=zAK hm
    have e2:wr ((n:Int)+1)=(n:Int)+1:=by rw [wrs (n:=n) (by omega)]; omega
    simp only [zEr,zAK hn,e1,Bool.and_self,zAC,zAG hn,zAA,e2,zKf]
    cases keepE t.fEntries[n] <;> rfl
  · intro n hn
    have:(decide ((n:Int)<(t.fEntries.length:Int))&&decide ((n:Int)<9))=false:=by
      rcases hn with h | h
      · rw [zAI h]; rfl
      · rw [show decide ((n:Int)<9)=false from zAI h]; simp
    simp only [zEr,this,zAB]
def kpA (l:List GAxis):Prop:=l.length≤6∧∀ a ∈ l,a.fName.length≤100∧a.fValues.length≤20∧∀ v ∈ a.fValues,v.length≤100
theorem zMe {l:List GAxis} (h:keepX l=true):kpA l:=by
  unfold keepX at h
  simp only [Bool.and_eq_true,Bool.not_eq_true',decide_eq_true_eq] at h
  refine ⟨h.2,fun a ha=>?_⟩
  rw [List.take_of_length_le (by omega)] at h
  have:=List.any_eq_false.1 h.1 a ha
  simp only [badX,Bool.or_eq_true,decide_eq_true_eq,Bool.not_eq_true',not_or,Bool.not_eq_false] at this
  have h2:=zMU this.2
  exact ⟨by omega,h2.1,h2.2⟩
theorem zON {l:List GAxis} (h:kpA l):∀ a ∈ l,smA a:=fun a ha=>by
  obtain ⟨h1,h2,h3⟩:=h.2 a ha
  exact ⟨by omega,fun v hv=>by have:=h3 v hv; omega⟩
theorem zKT {l:List GAxis} (h:kpA l):smAx l:=⟨by have:=h.1; omega,fun a ha=>by have:=(h.2 a ha).1; omega⟩
theorem zKU {l:List GAxis} (h:kpA l):∀ a ∈ l,a.fValues.length≤1000000:=fun a ha=>by have:=(h.2 a ha).2.1; omega
theorem zJ3 {e:GEntry} (h:smE e):smEn e:=by
  obtain ⟨⟨h1,h2⟩,h3,h4,h5,_⟩:=h
  exact ⟨by omega,fun k hk=>by have:=(h2 k hk).1; omega,by have:=h3.1; omega,by have:=h4.1; omega,by have:=h5.1; omega⟩
theorem zI0 {e:GEntry} (h:smE e):smKs e.fKeys:=by
  obtain ⟨⟨h1,h2⟩,_⟩:=h
  exact ⟨by omega,fun k hk=>⟨by have:=(h2 k hk).1; omega,fun v hv=>by have:=(h2 k hk).2 v hv; omega⟩⟩
def kpT (t:GTable):Prop:=kpA t.fAxes∧t.fEntries.length≤8∧∀ e ∈ t.fEntries,smE e
theorem zIu {t:GTable} (h:keepT t=true):kpT t:=by
  unfold keepT at h
  simp only [Bool.and_eq_true,Bool.not_eq_true',decide_eq_true_eq] at h
  obtain ⟨h1,h2,h3⟩:=h
  refine ⟨zMe h3,h2,fun e he=>?_⟩
  rw [List.take_of_length_le (by omega)] at h1
  have:=List.any_eq_false.1 h1 e he
  exact zKL (by simpa using this)
theorem zKR {t:GTable} (h:kpT t):smTb t:=⟨zKT h.1,zKU h.1,by have:=h.2.1; omega,fun e he=>⟨zJ3 (h.2.2 e he),zI0 (h.2.2 e he)⟩⟩
structure FindOK (t:GTable) (l:List GField):Prop where
  ax:∀ a ∈ t.fAxes,smA a
  al:t.fAxes.length≤1000000
  nm:t.fEntries.length≤1000000
  vr:∀ e ∈ t.fEntries,e.fVary.length≤1000∧∀ n ∈ e.fVary,n.length≤1073741824
  sn:∀ e ∈ t.fEntries,e.fSnapshot.length≤1073741824
  ks:∀ e ∈ t.fEntries,smKs e.fKeys
  fl:smL l
theorem zL7 {t:GTable} {l:List GField} (h:kpT t) (hl:smL l):FindOK t l:=by
  refine ⟨zON h.1,by have:=h.1.1; omega,by have:=h.2.1; omega,fun e he=>?_,fun e he=>?_,fun e he=>zI0 (h.2.2 e he),hl⟩
  · obtain ⟨_,h3,_⟩:=h.2.2 e he
    exact ⟨h3.1,fun n hn=>by have:=h3.2 n hn; omega⟩
  · obtain ⟨_,_,h4,_⟩:=h.2.2 e he
    have:=h4.1; omega
def findS (t:GTable) (l:List GField) (strict:Bool):Int×Bool :=
  bif t.fAxes.isEmpty then (lastI t.fEntries (fun e=>snapF l e.fVary==e.fSnapshot) t.fEntries.length,true)
  else bif (bestS t.fAxes l strict).2 then (lastI t.fEntries (fun e=>hasB t.fAxes e (bestS t.fAxes l strict).1) t.fEntries.length,true) else (-1,false)
theorem zNF {axes:List GAxis} (l:List GField) (strict:Bool) (ha:∀ a ∈ axes,smA a) (hn:axes.length≤1000000):(bestS axes l strict).1.length≤1000000∧smKy (bestS axes l strict).1:=by
  unfold bestS
  split
  · refine ⟨by unfold zEh rowsS; simp only [List.length_map]; exact hn,fun v hv=>?_⟩
    unfold zEh rowsS at hv
    simp only [List.mem_map] at hv
    obtain ⟨r,⟨a,ham,rfl⟩,rfl⟩:=hv
    have h2:=(zNQ a l strict).2
    cases hr:rkS l strict a with
    | nil=>simp
    | cons x xs =>
      rw [hr] at h2
      exact (ha a ham).2 x (h2 x List.mem_cons_self)
  · exact ⟨by simp,fun v hv=>by cases hv⟩
theorem zP6 {α:Type} (l:List α):((l.length:Int)==0)=l.isEmpty:=by
  rw [show ((l.length:Int)==0)=(l.length==0) from eqI _ 0]; cases l <;> rfl
theorem zNy (t:GTable) (l:List GField) (strict:Bool) (h:FindOK t l):zE2 t l strict=some (findS t l strict):=by
  unfold zE2 findS
  have hnm:=h.nm
  rw [zP6]
  cases hx:t.fAxes.isEmpty with
  | true =>
    rw [zAC,zAC,zLs t.fEntries _ (fun e=>snapF l e.fVary==e.fSnapshot) (by omega) (fun e he=>by
      unfold zFT
      rw [zO2 _ _ l h.fl (h.vr e he).1 (h.vr e he).2]; rfl),zAA]
  | false =>
    obtain ⟨s1,s2⟩:=zNF l strict h.ax h.al
    rw [zAB,zAB,zPp _ l strict h.ax h.fl,zAA]
    cases hb:(bestS t.fAxes l strict).2 with
    | false=>rfl
    | true =>
      rw [Bool.not_true,zAB,zAC,zLs t.fEntries _ (fun e=>hasB t.fAxes e (bestS t.fAxes l strict).1) (by omega) (fun e he=>by
        unfold zFf
        rw [zOM _ e _ ⟨h.al,fun a ha=>(h.ax a ha).1⟩ (h.ks e he) s1 s2]; rfl),zAA]
end Go.Eng.Pure
namespace Go.Eng.Pure
open Go Go.Eng
set_option linter.unusedVariables false
def wkX:List GAxis:=[⟨[97,99,99,101,112,116,45,108,97,110,103,117,97,103,101],[[101,110],[102,114]]⟩]
def wkE:GEntry:=⟨[[[101,110]],[[102,114]]],[],[],[],[],[49],0,0⟩
def wkF:GEntry:=⟨[[[102,114]]],[],[],[],[],[50],0,0⟩
def wkL:List GField:=[⟨[65,99,99,101,112,116,45,76,97,110,103,117,97,103,101],[101,110]⟩]
def wkT:GTable:=⟨wkX,[wkF]⟩
theorem wk1:putS ⟨[],[]⟩ wkE wkX 5=⟨wkX,[wkE]⟩:=by decide +kernel
theorem wk2:putS ⟨wkX,[wkE]⟩ wkF wkX 5=wkT:=by decide +kernel
theorem wk3:findS wkT wkL true=(-1,true):=by decide +kernel
theorem wk4:zNX wkT 5=true:=by decide +kernel
theorem zL0:kpA wkX:=zMe (by decide +kernel)
theorem zPO:smE wkE:=zKL (by decide +kernel)
theorem zPT:smE wkF:=zKL (by decide +kernel)
theorem zPs:kpT ⟨[],[]⟩:=zIu (by decide +kernel)
theorem zPb:kpT ⟨wkX,[wkE]⟩:=zIu (by decide +kernel)
theorem zNU:kpT wkT:=zIu (by decide +kernel)
theorem zQE:smL wkL:=zKN (by decide +kernel)
theorem zPj:zGP=some true:=by
  have p1:=zPF ⟨[],[]⟩ wkE wkX 5 (zKR zPs) (zJ3 zPO) (zI0 zPO) (zKT zL0) (zKU zL0) (by omega)
  have p2:=zPF ⟨wkX,[wkE]⟩ wkF wkX 5 (zKR zPb) (zJ3 zPT) (zI0 zPT) (zKT zL0) (zKU zL0) (by omega)
  have p3:=zNy wkT wkL true (zL7 zNU zQE)
  have p4:=zMp wkT 5 (zKR zNU) (zON zNU.1)
  rw [wk1] at p1
  rw [wk2] at p2
  rw [wk3] at p3
  rw [wk4] at p4
  unfold zGP
  show (zFB ⟨[],[]⟩ wkE wkX 5).bind _=_
  rw [p1,zAA]
  show (zFB ⟨wkX,[wkE]⟩ wkF wkX 5).bind _=_
  rw [p2,zAA]
  show (zE2 wkT wkL true).bind _=_
  rw [p3,zAA]
  show (((some true).bind fun b82=>_):Option Bool)=_
  rw [zAA]
  show ((zFQ wkT 5).bind _).bind _=_
  rw [p4]; rfl
theorem zQ1 (t:GTable) (e:GEntry) (axes:List GAxis):(∀ x ∈ putE t e axes,x ∈ t.fEntries∨x=e)∧(putE t e axes).length≤t.fEntries.length+1:=by
  unfold putE
  refine ⟨fun x hx=>?_,?_⟩
  · rcases List.mem_append.1 hx with hx | hx
    · split at hx
      · exact .inl (List.mem_filter.1 hx).1
      · cases hx
    · exact .inr (List.mem_singleton.1 hx)
  · rw [List.length_append,List.length_singleton]
    split
    · have:=List.length_filter_le (fun x=>!replB axes e x) t.fEntries; omega
    · simp
theorem zQz {t:GTable} {e:GEntry} {axes:List GAxis} {limit:Int}:(∀ x ∈ (putS t e axes limit).fEntries,x ∈ t.fEntries∨x=e)∧(putS t e axes limit).fEntries.length≤t.fEntries.length+1:=by
  obtain ⟨h1,h2⟩:=zQ1 t e axes
  unfold putS
  exact ⟨fun x hx=>h1 x (List.mem_of_mem_drop hx),by simp only [List.length_drop]; omega⟩
theorem wf_le {n:Int} (hn:(Lit.int .i64 n).wf=true):n≤9223372036854775807:=by
  unfold Lit.wf at hn
  simp only [Bool.and_eq_true,decide_eq_true_eq] at hn
  have hmx:IntKind.max .i64=9223372036854775807:=by decide
  rw [hmx] at hn; exact hn.2
theorem zQo (t:GTable) (e:GEntry) (axes:List GAxis) (limit:Int) (hn:(Lit.int .i64 limit).wf=true):zQY t e axes limit=some true:=by
  have hlim:=wf_le hn
  unfold zQY
  rw [zKZ,zAA,zKf,zAA,zK5,zAA]
  cases ht:keepT t with
  | false=>rfl
  | true =>
    cases he:keepE e with
    | false=>rfl
    | true =>
      cases ha:keepX axes with
      | false=>rfl
      | true =>
        have h1:=zKR (zIu ht)
        have h2:=zKL he
        have h3:=zMe ha
        have hk:=zIu ht
        obtain ⟨q1,q2⟩:=zQz (t:=t) (e:=e) (axes:=axes) (limit:=limit)
        rw [zQw t (by have:=h1.1.1; omega) (fun a ha=>by have:=h1.2.1 a ha; omega) (by have:=h1.2.2.1; omega) (fun e he=>(h1.2.2.2 e he).1)]
        simp only [Bool.not_true,zAB,zAA]
        rw [zPF t e axes limit h1 (zJ3 h2) (zI0 h2) (zKT h3) (zKU h3) hlim,zAA,zQ5 t e axes limit h1 (zJ3 h2) (zI0 h2) (zKT h3) (zKU h3),zAA,
          zQu _ _ (by have:=h3.1; show axes.length≤_; omega) (fun x hx=>by have:=zKU h3 x hx; omega) (by have:=hk.2.1; omega) (fun x hx=>by
            rcases q1 x hx with q | q
            · exact zJ3 (hk.2.2 x q)
            · rw [q]; exact zJ3 h2),zAA,decide_eq_true rfl,zAC,zPj]
        rfl
end Go.Eng.Pure
