/- A part. -/
import Derived.Test.YtipgfplekgdoiaaGreatDoorFindB
set_option linter.unusedVariables false
namespace Go.Eng.Pure
open Go Go.Eng
set_option linter.unusedVariables false
def isQ (p:GParam):Bool:=p.fName==[113]
def qAt (l:List GParam):Nat:=l.findIdx isQ
theorem zRP (l:List GParam):qAt l≤l.length:=List.findIdx_le_length
theorem zSP (l:List GParam) (hl:l.length≤1073741824):zAT l zCN=some (if qAt l<l.length then (qAt l:Int) else -1):=by
  have key:∀ (k n:Nat),n+k=l.length→zAF (zAL l zCN) (n:Int)=some (if n+qAt (l.drop n)<l.length then .inr ((n+qAt (l.drop n):Nat):Int) else .inl ()):=by
    intro k
    induction k with
    | zero =>
      intro n hn
      obtain rfl:n=l.length:=by omega
      rw [zAE (r:=.inl ()),if_neg (by omega)]
      simp only [zAL,zAH (Nat.le_refl l.length),zAB]
    | succ k ih =>
      intro n hn
      have hlt:n<l.length:=by omega
      have hb:zAL l zCN (n:Int)=some (if isQ l[n] then .inr (.inr (n:Int)) else .inl ((n+1:Nat):Int)):=by
        simp only [zAL,zAK hlt,zAC,zAG hlt,zAA,wrs (show n≤4*1073741824 by omega)]
        unfold zCN
        rw [zAA]
        show (bif isQ l[n] then _ else _)=_
        cases isQ l[n] <;> rfl
      have hq:qAt (l.drop n)=if isQ l[n] then 0 else qAt (l.drop (n+1))+1:=by
        unfold qAt
        rw [List.drop_eq_getElem_cons hlt,List.findIdx_cons]
        cases isQ l[n] <;> rfl
      rw [hq]
      cases hp:isQ l[n] with
      | true =>
        rw [hp,if_pos rfl] at hb
        rw [zAE hb,if_pos rfl,if_pos (by omega)]; rfl
      | false =>
        rw [hp,if_neg (by decide)] at hb
        rw [zAI hb,ih (n+1) (by omega),if_neg (show ¬ (false=true) by decide)]
        have e:n+1+qAt (l.drop (n+1))=n+(qAt (l.drop (n+1))+1):=by omega
        rw [e]
  have:=key l.length 0 (by omega)
  rw [show ((0:Nat):Int)=0 from rfl,List.drop_zero,Nat.zero_add] at this
  unfold zAT
  rw [this,zAA]
  by_cases h:qAt l<l.length
  · rw [if_pos h,if_pos h]
  · rw [if_neg h,if_neg h]
theorem zSA (r:Str×List GParam×Bool) (hl:r.2.1.length≤1073741824):zAF (zBo r) 0=some ((qAt r.2.1:Nat):Int):=by
  have key:∀ (k n:Nat),n+k=r.2.1.length→zAF (zBo r) (n:Int)=some ((n+qAt (r.2.1.drop n):Nat):Int):=by
    intro k
    induction k with
    | zero =>
      intro n hn
      obtain rfl:n=r.2.1.length:=by omega
      rw [zAE (r:=(r.2.1.length:Int))]
      · rw [List.drop_length]; rfl
      · simp only [zBo,zAH (Nat.le_refl r.2.1.length),zAB,zAA]
    | succ k ih =>
      intro n hn
      have hlt:n<r.2.1.length:=by omega
      have hb:zBo r (n:Int)=some (if isQ r.2.1[n] then .inr (n:Int) else .inl ((n+1:Nat):Int)):=by
        simp only [zBo,zAK hlt,zAC,zAG hlt,zAA,wrs (show n≤4*1073741824 by omega)]
        show (bif !(isQ r.2.1[n]) then _ else _)=_
        cases isQ r.2.1[n] <;> rfl
      have hq:qAt (r.2.1.drop n)=if isQ r.2.1[n] then 0 else qAt (r.2.1.drop (n+1))+1:=by
        unfold qAt
        rw [List.drop_eq_getElem_cons hlt,List.findIdx_cons]
        cases isQ r.2.1[n] <;> rfl
      rw [hq]
      cases hp:isQ r.2.1[n] with
      | true =>
        rw [hp,if_pos rfl] at hb
        rw [zAE hb,if_pos rfl]; rfl
      | false =>
        rw [hp,if_neg (by decide)] at hb
        rw [zAI hb,ih (n+1) (by omega),if_neg (show ¬ (false=true) by decide)]
        have e:n+1+qAt (r.2.1.drop (n+1))=n+(qAt (r.2.1.drop (n+1))+1):=by omega
        rw [e]
  have:=key r.2.1.length 0 (by omega)
  rw [show ((0:Nat):Int)=0 from rfl,List.drop_zero,Nat.zero_add] at this
  exact this
def rngS (k:Int) (v:Str) (ps:List GParam):Str×Bool :=
  if k=1 then (wrtT ⟨(zCB v).1.fType,(zCB v).1.fSub,ps⟩,(zCB v).2)
  else if k=2 then (canS k v,((v==[42])||langS v)&&((ps.length:Int)==0))
  else (canS k v,tok v&&((ps.length:Int)==0))
def qOf (l:List GParam):Int×Bool:=match l[qAt l]? with | some p=>zDW p.fValue | none=>(1000,true)
def prefT (k:Int) (r:Str×List GParam×Bool):GPref×Bool :=
  if !r.2.2 then (⟨[],0⟩,false) else if !(qOf r.2.1).2 then (⟨[],0⟩,false)
  else (⟨(rngS k r.1 (r.2.1.take (qAt r.2.1))).1,(qOf r.2.1).1⟩,(rngS k r.1 (r.2.1.take (qAt r.2.1))).2)
def prefS (k:Int) (m:Str):GPref×Bool:=prefT k (parS m)
theorem zLy (k:Int) (v:Str) (ps:List GParam) (hv:v.length≤1000) (hp:smPs ps):zFI k v ps=some (rngS k v ps):=by
  obtain ⟨r1,r2,_,_⟩:=zHJ v
  unfold zFI rngS
  by_cases h1:k=1
  · rw [if_pos h1,decide_eq_true h1,zAC]
    unfold zFk
    rw [zJt v (by omega),zAA,zOB _ (by simp only []; omega) (by simp only []; omega) hp,zAA,zAA]
  rw [if_neg h1,decide_eq_false h1,zAB]
  by_cases h2:k=2
  · rw [if_pos h2,decide_eq_true h2,zAC]
    unfold zFi
    rw [zMD k v (by omega),zAA,zMf v (by omega),zAA,zAA]
  rw [if_neg h2,decide_eq_false h2,zAB,zMD k v (by omega),zAA,zCk v (by omega),zAA]
theorem zRU (l:List GParam) (h:smPs l):smPs (l.take (qAt l)) :=
  ⟨by rw [List.length_take]; have:=h.1; omega,fun p hp=>h.2 p (List.mem_of_mem_take hp)⟩
theorem zOo {m:Str} (h:m.length≤300):(parS m).1.length≤300∧smPs (parS m).2.1:=by
  obtain ⟨l1,l2⟩:=zHw m
  have l3:=zLM m
  exact ⟨by omega,by omega,fun p hp=>by have:=l3 p hp; omega⟩
theorem zRY (k:Int) (m:Str) (h:m.length≤300):zGf k m=some (prefS k m):=by
  obtain ⟨h1,h2⟩:=zOo h
  unfold zGf prefS
  rw [zMV m (by omega),zAA]
  generalize parS m=r at *
  obtain ⟨v,ps,ok⟩:=r
  unfold prefT
  simp only [] at h1 h2 ⊢
  cases ok with
  | false=>rfl
  | true =>
    have hl:=h2.1
    have hle:=zRP ps
    rw [Bool.not_true,zAB,if_neg (by decide),zSP ps (by omega),zAA]
    unfold qOf
    by_cases hq:qAt ps<ps.length
    · rw [if_pos hq,decide_eq_true (by omega),zAC,zAG hq,zAA,zPa,zAA,List.getElem?_eq_getElem hq]
      simp only []
      cases hb:(zDW ps[qAt ps].fValue).2 with
      | false=>rfl
      | true =>
        rw [Bool.not_true,zAB,zD9 (by omega),zAA,zAA]
        simp only []
        rw [zLy k v _ (by omega) (zRU ps h2),zAA]
        rfl
    · have hx:qAt ps=ps.length:=by omega
      rw [if_neg hq,List.getElem?_eq_none (by omega)]
      simp only []
      rw [show decide ((0:Int)≤-1)=false from rfl,zAB,zAA]
      simp only []
      rw [zLy k v _ (by omega) h2,zAA,hx,List.take_length]
      rfl
theorem zPH (k:Int) (m:Str) (h:m.length≤300):zF5 k m=some (prefS k m):=by
  obtain ⟨h1,h2⟩:=zOo h
  unfold zF5 prefS
  rw [zKy m (by omega),zAA]
  generalize hr:parS m=r at *
  obtain ⟨v,ps,ok⟩:=r
  unfold prefT
  simp only [] at h1 h2 ⊢
  cases ok with
  | false=>rfl
  | true =>
    have hl:=h2.1
    have hle:=zRP ps
    rw [Bool.not_true,zAB,if_neg (by decide),zSA (v,ps,true) (by simp only []; omega),zAA]
    simp only []
    obtain ⟨r1,r2,_,_⟩:=zHJ v
    have hrest : ∀ q : Int, (((bif k == 1 then
        (zBU v).bind fun r104 =>
        (xsub ps 0 (qAt ps:Int)).bind fun l114 =>
        (zCa (⟨r104.1.fType,r104.1.fSub,l114⟩:GMediaType)).bind fun r118 =>
        some (.inr ((⟨r118,q⟩:GPref),r104.2))
      else
        (bif k==2 then
          (zEa v).bind fun r125 =>
          some (.inl r125)
        else
          (zA6 v).bind fun r130 =>
          some (.inl r130)))).bind fun (j102:(Bool ⊕ (GPref×Bool)))=>match j102 with
      | .inr e=>some e
      | .inl y_97 =>
        (zA7 k v).bind fun r135 =>
        some ((⟨r135,q⟩:GPref),(y_97&&((qAt ps:Int)==0))))=some (⟨(rngS k v (ps.take (qAt ps))).1,q⟩,(rngS k v (ps.take (qAt ps))).2):=by
      intro q
      have htl:(((ps.take (qAt ps)).length:Nat):Int)=(qAt ps:Int):=by rw [List.length_take]; omega
      unfold rngS
      rw [htl]
      by_cases k1:k=1
      · subst k1
        rw [if_pos rfl,show ((1:Int)==1)=true from rfl,zAC,zJy v (by omega),zAA,zD9 hle,zAA,zM1 _ (by simp only []; omega) (by simp only []; omega) (zRU ps h2),zAA,zAA]
      rw [if_neg k1,show (k==1)=false by simpa using k1,zAB]
      by_cases k2:k=2
      · subst k2
        rw [if_pos rfl,show ((2:Int)==2)=true from rfl,zAC,zKq v (by omega),zAA,zAA]
        simp only []
        rw [zHK _ v (by omega),zAA]
      rw [if_neg k2,show (k==2)=false by simpa using k2,zAB,zCs v (by omega),zAA,zAA]
      simp only []
      rw [zHK _ v (by omega),zAA]
    unfold qOf
    by_cases hq:qAt ps<ps.length
    · rw [zAK hq,zAC,zAG hq,zAA,zLz,zAA,List.getElem?_eq_getElem hq]
      simp only []
      cases hb:(zDW ps[qAt ps].fValue).2 with
      | false=>rfl
      | true =>
        rw [Bool.not_true,zAB,zAA,if_neg (by decide)]
        exact hrest _
    · rw [zAH (by omega),zAB,zAA,List.getElem?_eq_none (by omega),if_neg (by decide)]
      exact hrest _
def nameF (k:Int):Str:=if k=1 then [65,99,99,101,112,116] else if k=2 then [65,99,99,101,112,116,45,76,97,110,103,117,97,103,101]
  else if k=3 then [65,99,99,101,112,116,45,67,104,97,114,115,101,116] else if k=4 then [65,99,99,101,112,116,45,69,110,99,111,100,105,110,103] else []
theorem zO1 (k:Int):zBV k=some (nameF k):=by
  unfold zBV nameF
  by_cases h1:k=1
  · subst h1; rfl
  by_cases h2:k=2
  · subst h2; rfl
  by_cases h3:k=3
  · subst h3; rfl
  by_cases h4:k=4
  · subst h4; rfl
  rw [show (k==1)=false by simpa using h1,show (k==2)=false by simpa using h2,show (k==3)=false by simpa using h3,show (k==4)=false by simpa using h4,if_neg h1,if_neg h2,if_neg h3,if_neg h4]
  rfl
theorem zQ0 (k:Int):zBf k=some (nameF k):=zO1 k
theorem zLt (k:Int):(nameF k).length≤100:=by
  unfold nameF
  split
  · decide
  split
  · decide
  split
  · decide
  split <;> decide
def prefO (k:Int) (m:Str):Option GPref:=if (prefS k m).2 then some (prefS k m).1 else none
def zH3 (k:Int) (l:List GField):List GPref×Bool:=if nameF k=[] then ([],false) else if hasF l (nameF k) then ((allM l (nameF k)).filterMap (prefO k),true) else ([],false)
theorem zMF (k:Int) (ms:List Str) (acc:List GPref):ms.foldl (fun a x=>if (prefS k x).2 then a++[(prefS k x).1] else a) acc=acc++ms.filterMap (prefO k):=by
  rw [← zKD]
  congr 1
  funext a x
  unfold prefO
  cases (prefS k x).2 <;> rfl
theorem zLD {l:List GField} (h:smL l):l.length≤1073741824∧∀ f ∈ l,smF f:=⟨by have:=h.1; omega,fun f hf=>by have:=h.2 f hf; exact ⟨by omega,by omega⟩⟩
theorem zQM (k:Int) (l:List GField) (hl:smL l):zEw k l=some (zH3 k l):=by
  obtain ⟨b1,b2⟩:=zLD hl
  have hn:=zLt k
  have hm:=zHv l (nameF k)
  have hs:=zID l (nameF k) 300 fun f hf=>(hl.2 f hf).2
  unfold zEw zH3
  rw [zO1,zAA,zPV l _ b1 b2 (by omega),zAA,zKJ l _ b1 b2 (by omega),zAA]
  generalize allM l (nameF k)=ms at *
  have:=zBB (fun (st:List GPref) i=>(st,i)) ms (fun a x=>if (prefS k x).2 then a++[(prefS k x).1] else a) id (zCv k ms) (fun n st=>st.length≤n) [] (by simp) ?_ ?_
  · rw [this,zAA,zMF,List.nil_append]
    by_cases h1:nameF k=[]
    · rw [if_pos h1,h1]; rfl
    · rw [if_neg h1,show (nameF k==[])=false by simpa using h1,zAB,zAA]
      cases hasF l (nameF k) <;> rfl
  · intro n hn st hI
    have hx:=hs _ (List.getElem_mem hn)
    refine ⟨?_,?_⟩
    · unfold zCv
      simp only []
      rw [zAK hn,zAC,zAG hn,zAA,zRY k _ hx,zAA,wrs (by omega)]
      cases (prefS k ms[n]).2 with
      | true=>rw [zAC,zAc (by omega) (zA1 _),zAA]; rfl
      | false=>rfl
    · split
      · rw [List.length_append,List.length_singleton]; omega
      · omega
  · intro st hI
    unfold zCv
    simp only []
    rw [zAH (Nat.le_refl _),zAB]; rfl
theorem zPf (k:Int) (l:List GField) (hl:smL l):zFc k l=some (zH3 k l):=by
  obtain ⟨b1,b2⟩:=zLD hl
  have hn:=zLt k
  have hm:=zHv l (nameF k)
  have hs:=zID l (nameF k) 300 fun f hf=>(hl.2 f hf).2
  unfold zFc zH3
  rw [zQ0]
  simp only [zAA]
  rw [zR5 l _ b1 b2 (by omega),zAA,zOj l _ b1 b2 (by omega),zAA]
  generalize allM l (nameF k)=ms at *
  have:=zBB (fun (st:List GPref) i=>(st,i)) ms (fun a x=>if (prefS k x).2 then a++[(prefS k x).1] else a) id (zDd k ms) (fun n st=>st.length≤n) [] (by simp) ?_ ?_
  · rw [this,zAA,zMF,List.nil_append]
    by_cases h1:nameF k=[]
    · rw [if_pos h1,h1]; rfl
    · rw [if_neg h1,show (nameF k==[])=false by simpa using h1,zAB,zAA]
      cases hasF l (nameF k) <;> rfl
  · intro n hn st hI
    have hx:=hs _ (List.getElem_mem hn)
    refine ⟨?_,?_⟩
    · unfold zDd
      simp only []
      rw [zAK hn,zAC,zAG hn,zAA,zPH k _ hx,zAA,wrs (by omega)]
      cases (prefS k ms[n]).2 with
      | true=>rw [zAC,zAc (by omega) (zA1 _),zAA]; rfl
      | false=>rfl
    · split
      · rw [List.length_append,List.length_singleton]; omega
      · omega
  · intro st hI
    unfold zDd
    simp only []
    rw [zAH (Nat.le_refl _),zAB]; rfl
theorem zRv (k:Int) (s:Str):(canS k s).length≤s.length+10:=by
  unfold canS
  split
  · simp
  split
  · simp
  · rw [zCG]; omega
theorem zL4 (B:Nat):∀ l:List GParam,(∀ p ∈ l,(parT p).length≤B)→(l.flatMap parT).length≤B*l.length
  | [],_=>by simp
  | p :: l,h=>by
    have h1:=h p List.mem_cons_self
    have h2:=zL4 B l fun q hq=>h q (List.mem_cons_of_mem _ hq)
    rw [List.flatMap_cons,List.length_append,List.length_cons,Nat.mul_succ]; omega
theorem zQ1 (k:Int) (m:Str) (h:m.length≤300):(prefS k m).1.fRange.length≤1000000:=by
  obtain ⟨h1,h2⟩:=zOo h
  obtain ⟨l1,l2⟩:=zHw m
  have l3:=zLM m
  unfold prefS
  generalize parS m=r at *
  obtain ⟨v,ps,ok⟩:=r
  unfold prefT
  simp only [] at h1 h2 l2 l3 ⊢
  have hr:(rngS k v (ps.take (qAt ps))).1.length≤1000000:=by
    obtain ⟨r1,r2,_,_⟩:=zHJ v
    have hc:=zRv k v
    unfold rngS
    split
    · have hb := zL4 910 (ps.take (qAt ps)) (fun p hp => by
        have h3:=l3 p (List.mem_of_mem_take hp)
        have h4:=zLX p.fValue
        unfold parT
        simp only [List.length_append,List.length_cons,List.length_nil]
        omega)
      have ht:(ps.take (qAt ps)).length≤301:=by rw [List.length_take]; omega
      simp only []
      unfold wrtT wrtP
      simp only [List.length_append,List.length_cons,List.length_nil]
      omega
    · split
      · simp only []; omega
      · simp only []; omega
  split
  · simp
  split
  · simp
  · exact hr
end Go.Eng.Pure
namespace Go.Eng.Pure
open Go Go.Eng
set_option linter.unusedVariables false
def idN:Str:=[105,100,101,110,116,105,116,121]
def stepQ (k:Int) (v:Str) (st:Int×Int) (p:GPref):Int×Int:=if st.1<zIP k p.fRange v then (zIP k p.fRange v,p.fQ) else st
def bestQ (k:Int) (l:List GPref) (v:Str) (q:Int):Int×Int:=l.foldl (stepQ k v) (-1,q)
def qualS (k:Int) (l:List GPref) (pr:Bool) (v:Str):Int :=
  if !pr then 1000 else (bestQ k l v (if k=4∧fold v idN=true then 1 else 0)).2
theorem zLw (k : Int) (v : Str) (q q' : Int) : ∀ (l : List GPref) (st st' : Int × Int), st.1 = st'.1 → (st.1 = -1 → st.2 = q ∧ st'.2 = q') → (0 ≤ st.1 → st.2 = st'.2) → -1 ≤ st.1 →
    (l.foldl (stepQ k v) st).1=(l.foldl (stepQ k v) st').1∧((l.foldl (stepQ k v) st).1=-1→(l.foldl (stepQ k v) st).2=q∧(l.foldl (stepQ k v) st').2=q')∧(0≤(l.foldl (stepQ k v) st).1→(l.foldl (stepQ k v) st).2=(l.foldl (stepQ k v) st').2)∧-1≤(l.foldl (stepQ k v) st).1
  | [],st,st',h1,h2,h3,h4=>⟨h1,h2,h3,h4⟩
  | p :: l,st,st',h1,h2,h3,h4=>by
    rw [List.foldl_cons,List.foldl_cons]
    refine zLw k v q q' l _ _ ?_ ?_ ?_ ?_
    all_goals
      unfold stepQ
      try rw [← h1]
      by_cases h:st.1<zIP k p.fRange v
      · rw [if_pos h]; first | rw [if_pos h] | skip
        all_goals first | rfl | (intro h5; simp only [] at h5; omega) | (intro _; rfl) | (simp only []; omega)
      · rw [if_neg h]; first | rw [if_neg h] | skip
        all_goals assumption
def smPr (l:List GPref):Prop:=l.length≤1000000∧∀ p ∈ l,p.fRange.length≤1000000
theorem zOA (k:Int) (l:List GPref) (pr:Bool) (v:Str) (h:smPr l) (hv:v.length≤1000000):zE1 k l pr v=some (qualS k l pr v):=by
  unfold zE1 qualS
  cases pr with
  | false=>rfl
  | true =>
    have hl:=h.1
    rw [Bool.not_true,zAB,if_neg (by decide)]
    have:=zBB (fun (st:Int×Int) i=>(st.1,st.2,i)) l (stepQ k v) id (zC2 k l v) (fun n st=>True) (-1,0) trivial ?_ ?_
    · rw [this,zAA]
      obtain ⟨e1,e2,e3,e4⟩:=zLw k v 0 (if k=4∧fold v idN=true then 1 else 0) l (-1,0) (-1,(if k=4∧fold v idN=true then 1 else 0)) rfl (fun _=>⟨rfl,rfl⟩) (fun h=>by simp only [] at h; omega) (by simp only []; omega)
      unfold bestQ
      generalize l.foldl (stepQ k v) (-1,0)=a at *
      generalize l.foldl (stepQ k v) (-1,(if k=4∧fold v idN=true then 1 else 0))=b at *
      obtain ⟨a1,a2⟩:=a
      simp only [id] at e1 e2 e3 e4 ⊢
      rw [zI1 v _ (by omega) (by decide),zAA]
      by_cases h0:a1=-1
      · obtain ⟨f1,f2⟩:=e2 h0
        rw [f2,f1,decide_eq_true (show a1<0 by omega),Bool.true_and]
        by_cases hk:k=4
        · rw [show (k==4)=true by simpa using hk,zAC,zAA]
          show (bif fold v idN then _ else _)=_
          cases hf:fold v idN with
          | true=>rw [if_pos ⟨hk,rfl⟩]; rfl
          | false=>rw [if_neg (fun h=>by simp at h)]; rfl
        · rw [show (k==4)=false by simpa using hk,if_neg (fun h=>hk h.1)]; rfl
      · rw [decide_eq_false (show ¬ a1<0 by omega),Bool.false_and,zAB,zAA,zAB,e3 (by omega)]
    · intro n hn st _
      have hp:=h.2 _ (List.getElem_mem hn)
      refine ⟨?_,trivial⟩
      unfold zC2 stepQ
      simp only []
      rw [zAK hn,zAC,zAG hn,zAA,zP3 k _ v hp hv,zAA,wrs (by omega)]
      by_cases hc:st.1<zIP k l[n].fRange v
      · rw [decide_eq_true hc,zAC,if_pos hc]
      · rw [decide_eq_false hc,zAB,if_neg hc]
    · intro st _
      unfold zC2
      simp only []
      rw [zAH (Nat.le_refl _),zAB]; rfl
theorem zMx (k:Int) (l:List GPref) (pr:Bool) (v:Str) (h:smPr l) (hv:v.length≤1000000):zBA k l pr v=some (qualS k l pr v):=by
  unfold zBA qualS
  cases pr with
  | false=>rfl
  | true =>
    have hl:=h.1
    rw [Bool.not_true,zAB,if_neg (by decide),zEj v _ (by omega) (by decide),zAA]
    have e:(((bif k==4 then some (fold v [105,100,101,110,116,105,116,121]) else some false).bind fun b9=>(bif b9 then some 1 else some 0)):Option Int)=some (if k=4∧fold v idN=true then 1 else 0):=by
      show (((bif k==4 then some (fold v idN) else some false).bind fun b9=>(bif b9 then some 1 else some 0)):Option Int)=_
      by_cases hk:k=4
      · rw [show (k==4)=true by simpa using hk,zAC,zAA]
        cases hf:fold v idN with
        | true=>rw [if_pos ⟨hk,rfl⟩]; rfl
        | false=>rw [if_neg (fun h=>by simp at h)]; rfl
      · rw [show (k==4)=false by simpa using hk,if_neg (fun h=>hk h.1)]; rfl
    have e2:∀ F:Int→Option Int,(((bif k==4 then some (fold v [105,100,101,110,116,105,116,121]) else some false).bind fun b9=>((bif b9 then some 1 else some 0):Option Int).bind F))=F (if k=4∧fold v idN=true then 1 else 0):=by
      intro F
      have:=congrArg (fun o=>Option.bind o F) e
      simp only [Option.bind_assoc,zAA] at this
      exact this
    rw [e2]
    generalize (if k=4∧fold v idN=true then (1:Int) else 0)=q0
    have:=zBB (fun (st:Int×Int) i=>(st.1,st.2,i)) l (stepQ k v) (fun st=>st.2) (zCZ k l v) (fun n st=>True) (-1,q0) trivial ?_ ?_
    · rw [this,zAA]; rfl
    · intro n hn st _
      have hp:=h.2 _ (List.getElem_mem hn)
      refine ⟨?_,trivial⟩
      unfold zCZ stepQ
      simp only []
      rw [zAK hn,zAC,zAG hn,zAA,zN9 k _ v hp hv,zAA,wrs (by omega)]
      by_cases hc:st.1<zIP k l[n].fRange v
      · rw [decide_eq_true hc,zAC,if_pos hc,zAA]
      · rw [decide_eq_false hc,zAB,if_neg hc]
    · intro st _
      unfold zCZ
      simp only []
      rw [zAH (Nat.le_refl _),zAB]
section
variable (Q:Str→Int)
def Dsc (l:List Str):Prop:=l.Pairwise fun a b=>Q b≤Q a
def cls (q:Int) (l:List Str):List Str:=l.filter fun v=>Q v==q
theorem zDy {Q:Str→Int} {q:Int} {l:List Str} {v:Str}:v ∈ cls Q q l↔v ∈ l∧Q v=q:=by
  unfold cls; rw [List.mem_filter,beq_iff_eq]
theorem zJC (q:Int) (a b:List Str):cls Q q (a++b)=cls Q q a++cls Q q b:=List.filter_append ..
theorem zFG (q:Int) (v:Str) (l:List Str):cls Q q (v :: l)=if Q v=q then v :: cls Q q l else cls Q q l:=by
  unfold cls
  rw [List.filter_cons]
  by_cases h:Q v=q
  · rw [if_pos h,if_pos (by simpa using h)]
  · rw [if_neg h,if_neg (by simpa using h)]
theorem zFQ {q:Int} {l:List Str} (h:∀ v ∈ l,Q v≠q):cls Q q l=[]:=by
  unfold cls
  rw [List.filter_eq_nil_iff]
  intro v hv
  simpa using h v hv
theorem zNi:∀ l m:List Str,Dsc Q l→Dsc Q m→(∀ q,cls Q q l=cls Q q m)→l=m
  | [],[],_,_,_=>rfl
  | [],b :: m,_,_,h=>by
    have:=h (Q b)
    rw [zFG,if_pos rfl] at this
    cases this
  | a :: l,[],_,_,h=>by
    have:=h (Q a)
    rw [zFG,if_pos rfl] at this
    cases this
  | a :: l,b :: m,hl,hm,h=>by
    unfold Dsc at hl hm
    rw [List.pairwise_cons] at hl hm
    have h1:Q b≤Q a:=by
      have hb:b ∈ cls Q (Q b) (a :: l):=by rw [h (Q b)]; exact zDy.2 ⟨List.mem_cons_self,rfl⟩
      rcases List.mem_cons.1 (zDy.1 hb).1 with e | e
      · rw [e]; exact Int.le_refl _
      · exact hl.1 b e
    have h2:Q a≤Q b:=by
      have hb:a ∈ cls Q (Q a) (b :: m):=by rw [← h (Q a)]; exact zDy.2 ⟨List.mem_cons_self,rfl⟩
      rcases List.mem_cons.1 (zDy.1 hb).1 with e | e
      · rw [e]; exact Int.le_refl _
      · exact hm.1 a e
    have h3:Q a=Q b:=by omega
    have h4:=h (Q a)
    rw [zFG,if_pos rfl,zFG,if_pos h3.symm] at h4
    injection h4 with e1 e2
    have:l=m:=by
      refine zNi l m hl.2 hm.2 fun q=>?_
      have h5:=h q
      rw [zFG,zFG,← h3] at h5
      by_cases hq:Q a=q
      · rw [if_pos hq,if_pos hq] at h5; injection h5
      · rw [if_neg hq,if_neg hq] at h5; exact h5
    rw [e1,this]
def Ord (out vs:List Str):Prop:=Dsc Q out∧∀ q,cls Q q out=if 0<q then cls Q q vs else []
theorem zNm {vs a b:List Str} (ha:Ord Q a vs) (hb:Ord Q b vs):a=b:=zNi Q a b ha.1 hb.1 fun q=>by rw [ha.2,hb.2]
theorem zOk {out vs : List Str} (h : Ord Q out vs) (v : Str) (hv : 0 < Q v) (at_ : Nat) (hat : at_ ≤ out.length) (h1 : ∀ x ∈ out.take at_, Q v ≤ Q x) (h2 : ∀ x ∈ out.drop at_, Q x < Q v) :
    Ord Q (out.take at_++[v]++out.drop at_) (vs++[v]):=by
  refine ⟨?_,fun q=>?_⟩
  · have hd:=h.1
    unfold Dsc at hd ⊢
    rw [← List.take_append_drop at_ out,List.pairwise_append] at hd
    rw [List.append_assoc,List.pairwise_append]
    refine ⟨hd.1,?_,?_⟩
    · rw [List.singleton_append,List.pairwise_cons]
      exact ⟨fun b hb=>by have:=h2 b hb; omega,hd.2.1⟩
    · intro a ha b hb
      rcases List.mem_append.1 hb with hb | hb
      · rw [List.mem_singleton] at hb; subst hb; exact h1 a ha
      · exact hd.2.2 a ha b hb
  · have hq:=h.2 q
    rw [← List.take_append_drop at_ out,zJC] at hq
    rw [zJC,zJC,zJC,zFG]
    show cls Q q (out.take at_)++(if Q v=q then [v] else [])++cls Q q (out.drop at_)=_
    by_cases he:Q v=q
    · subst he
      rw [zFQ Q (l:=out.drop at_) (fun x hx=>by have:=h2 x hx; omega),List.append_nil] at hq ⊢
      rw [hq,if_pos hv,if_pos hv,if_pos rfl,if_pos rfl]; rfl
    · rw [if_neg he,List.append_nil,hq]
      split
      · rw [show cls Q q []=[] from rfl,List.append_nil]
      · rfl
theorem zNY {out vs:List Str} (h:Ord Q out vs) (v:Str) (hv:¬ 0<Q v):Ord Q out (vs++[v]):=by
  refine ⟨h.1,fun q=>?_⟩
  rw [h.2 q]
  split
  · rw [zJC,show cls Q q [v]=[] from by rw [zFG,if_neg (by omega)]; rfl,List.append_nil]
  · rfl
end
theorem zOg (Q : Str → Int) (out : List Str) (hl : out.length ≤ 1000000) (q : Int) (hd : Dsc Q out) : ∀ n, n ≤ out.length → (∀ x ∈ out.drop n, Q x < q) →
    ∃ m,m≤out.length∧zAF (zD1 (out.map Q) q) (n:Int)=some ((m:Nat):Int)∧(∀ x ∈ out.take m,q≤Q x)∧∀ x ∈ out.drop m,Q x<q:=by
  intro n
  induction n with
  | zero =>
    intro hn h
    refine ⟨0,by omega,zAE ?_,by simp,h⟩
    unfold zD1
    rfl
  | succ n ih =>
    intro hn h
    have hlt:n<out.length:=by omega
    have hlm:n<(out.map Q).length:=by rw [List.length_map]; exact hlt
    have hb:zD1 (out.map Q) q ((n+1:Nat):Int)=some (if Q out[n]<q then .inl (n:Int) else .inr ((n+1:Nat):Int)):=by
      unfold zD1
      have e:((n+1:Nat):Int) - 1=(n:Int):=by omega
      rw [decide_eq_true (by omega),zAC,e,wrn (by omega),zAG hlm,zAA,zAA,List.getElem_map]
      by_cases hc:Q out[n]<q
      · rw [decide_eq_true hc,zAC,if_pos hc]
      · rw [decide_eq_false hc,zAB,if_neg hc]
    by_cases hc:Q out[n]<q
    · rw [if_pos hc] at hb
      obtain ⟨m,h1,h2,h3,h4⟩:=ih (by omega) (by
        intro x hx
        rw [List.drop_eq_getElem_cons hlt] at hx
        rcases List.mem_cons.1 hx with rfl | hx
        · exact hc
        · exact h x hx)
      exact ⟨m,h1,by rw [zAI hb]; exact h2,h3,h4⟩
    · rw [if_neg hc] at hb
      refine ⟨n+1,hn,zAE hb,?_,h⟩
      intro x hx
      rw [List.take_succ_eq_append_getElem hlt] at hx
      rcases List.mem_append.1 hx with hx | hx
      · unfold Dsc at hd
        rw [← List.take_append_drop n out,List.pairwise_append] at hd
        have:=hd.2.2 x hx out[n] (by rw [List.drop_eq_getElem_cons hlt]; exact List.mem_cons_self)
        omega
      · rw [List.mem_singleton] at hx; subst hx; omega
theorem zNd {α:Type} (l:List α) (n:Nat) (x:α) (h:n≤l.length) (hl:l.length≤1000000):insS l (n:Int) [x]=some (l.take n++[x]++l.drop n):=by
  unfold insS
  rw [if_pos ⟨by omega,by omega,rfl,by simp only [big]; omega⟩]
  rfl
theorem zQf (k:Int) (l:List GPref) (pr:Bool) (vs:List Str) (Q:Str→Int) (hv:vs.length≤100000) (hQ:∀ v ∈ vs,zE1 k l pr v=some (Q v)):∃ out,zGa k l pr vs=some out∧Ord Q out vs:=by
  have key:∀ (j n:Nat) (out:List Str),n+j=vs.length→out.length≤n→Ord Q out (vs.take n)→∃ r,zAF (zCL k l pr vs) (out,out.map Q,(n:Int))=some r∧Ord Q r vs:=by
    intro j
    induction j with
    | zero =>
      intro n out hn ho h
      have:n=vs.length:=by omega
      subst this
      rw [List.take_length] at h
      refine ⟨out,zAE ?_,h⟩
      unfold zCL
      simp only []
      rw [zAH (Nat.le_refl _),zAB]
    | succ j ih =>
      intro n out hn ho h
      have hlt:n<vs.length:=by omega
      have hx:=hQ _ (List.getElem_mem hlt)
      have ht:=zAl hlt
      by_cases hq:0<Q vs[n]
      · obtain ⟨m,h1,h2,h3,h4⟩:=zOg Q out (by omega) (Q vs[n]) h.1 out.length (Nat.le_refl _) (by simp)
        have hb:zCL k l pr vs (out,out.map Q,(n:Int))=some (.inl (out.take m++[vs[n]]++out.drop m,(out.take m++[vs[n]]++out.drop m).map Q,((n+1:Nat):Int))):=by
          unfold zCL
          simp only []
          rw [zAK hlt,zAC,zAG hlt,zAA,hx,zAA,decide_eq_false (by omega),zAB,List.length_map,h2,zAA,zNd out m _ h1 (by omega),zAA,
            zNd (out.map Q) m _ (by rw [List.length_map]; exact h1) (by rw [List.length_map]; omega),zAA,wrs (by omega)]
          simp only [List.map_append,List.map_take,List.map_drop,List.map_cons,List.map_nil]
        rw [zAI hb]
        refine ih (n+1) _ (by omega) ?_ ?_
        · simp only [List.length_append,List.length_take,List.length_drop,List.length_singleton]; omega
        · rw [ht]; exact zOk Q h _ hq m h1 h3 h4
      · have hb : zCL k l pr vs (out, out.map Q, (n : Int)) = some (.inl (out, out.map Q, ((n + 1 : Nat) : Int))) := by
          unfold zCL
          simp only []
          rw [zAK hlt,zAC,zAG hlt,zAA,hx,zAA,decide_eq_true (by omega),zAC,wrs (by omega)]
        rw [zAI hb]
        refine ih (n+1) _ (by omega) (by omega) ?_
        rw [ht]; exact zNY Q h _ hq
  obtain ⟨r,h1,h2⟩:=key vs.length 0 [] (by omega) (by simp) ⟨List.Pairwise.nil,fun q=>by split <;> rfl⟩
  refine ⟨r,?_,h2⟩
  unfold zGa
  rw [show ((0:Nat):Int)=0 from rfl] at h1
  rw [show (([]:List Str),([]:List Int),(0:Int))=([],List.map Q [],0) from rfl,h1,zAA]
structure RInv (Q:Str→Int) (vs out:List Str) (T:Int):Prop where
  dsc:Dsc Q out
  ge:∀ v ∈ out,T≤Q v∧0<Q v
  cl:∀ q,T≤q→0<q→cls Q q out=cls Q q vs
  nil:out=[]→∀ v ∈ vs,Q v<T
  lst:∀ x,out.getLast?=some x→Q x=T
def mxS (Q:Str→Int) (T:Int) (a:Int) (v:Str):Int:=if Q v<T then (if a<Q v then Q v else a) else a
theorem zN7 (Q:Str→Int) (T:Int):∀ (vs:List Str) (a:Int),0≤a→a≤vs.foldl (mxS Q T) a∧(∀ v ∈ vs,Q v<T→Q v≤vs.foldl (mxS Q T) a)∧(vs.foldl (mxS Q T) a=a∨∃ v ∈ vs,Q v<T∧Q v=vs.foldl (mxS Q T) a)
  | [],a,_=>⟨Int.le_refl _,by simp,.inl rfl⟩
  | v :: vs,a,ha=>by
    have hs:a≤mxS Q T a v∧(Q v<T→Q v≤mxS Q T a v)∧(mxS Q T a v=a∨Q v<T∧Q v=mxS Q T a v):=by
      unfold mxS
      split
      · split
        · exact ⟨by omega,fun _=>by omega,.inr ⟨by assumption,rfl⟩⟩
        · exact ⟨by omega,fun _=>by omega,.inl rfl⟩
      · exact ⟨by omega,fun h=>by omega,.inl rfl⟩
    obtain ⟨h1,h2,h3⟩:=zN7 Q T vs (mxS Q T a v) (by omega)
    rw [List.foldl_cons]
    refine ⟨by omega,?_,?_⟩
    · intro x hx hlt
      rcases List.mem_cons.1 hx with rfl | hx
      · have:=hs.2.1 hlt; omega
      · exact h2 x hx hlt
    · rcases h3 with h3 | ⟨x,hx,h4,h5⟩
      · rcases hs.2.2 with h6 | ⟨h6,h7⟩
        · left; omega
        · right; exact ⟨v,List.mem_cons_self,h6,by omega⟩
      · right; exact ⟨x,List.mem_cons_of_mem _ hx,h4,h5⟩
theorem zRg (k : Int) (l : List GPref) (pr : Bool) (vs out : List Str) (Q : Str → Int) (T last : Int) (hv : vs.length ≤ 100000) (hQ : ∀ v ∈ vs, zBA k l pr v = some (Q v))
    (hc:∀ v ∈ vs,(((out.length:Int)==0)||decide (Q v<last))=decide (Q v<T)):zAF (zDA k l pr vs out last) (0,0)=some (vs.foldl (mxS Q T) 0):=by
  refine zBB (fun (st:Int) i=>(st,i)) vs (mxS Q T) id (zDA k l pr vs out last) (fun n st=>True) 0 trivial ?_ ?_
  · intro n hn st _
    have hm:=List.getElem_mem hn
    refine ⟨?_,trivial⟩
    unfold zDA mxS
    simp only []
    rw [zAK hn,zAC,zAG hn,zAA,hQ _ hm,zAA,hc _ hm,wrs (by omega)]
    by_cases h:Q vs[n]<T
    · rw [decide_eq_true h,zAC,if_pos h]
    · rw [decide_eq_false h,zAB,if_neg h]
  · intro st _
    unfold zDA
    simp only []
    rw [zAH (Nat.le_refl _),zAB]; rfl
theorem zNj (Q:Str→Int) (q:Int):∀ (vs acc:List Str),vs.foldl (fun a v=>if Q v=q then a++[v] else a) acc=acc++cls Q q vs
  | [],acc=>by simp [cls]
  | v :: vs,acc=>by
    rw [List.foldl_cons,zNj Q q vs,zFG]
    split
    · rw [List.append_assoc]; rfl
    · rfl
theorem zQq (k:Int) (l:List GPref) (pr:Bool) (vs out:List Str) (Q:Str→Int) (q:Int) (hv:vs.length≤100000) (ho:out.length≤100000) (hQ:∀ v ∈ vs,zBA k l pr v=some (Q v)):zAF (zDC k l pr vs q) (out,0)=some (out++cls Q q vs):=by
  rw [← zNj]
  refine zBB (fun (st:List Str) i=>(st,i)) vs (fun a v=>if Q v=q then a++[v] else a) id (zDC k l pr vs q) (fun n st=>st.length≤100000+n) out (by omega) ?_ ?_
  · intro n hn st hI
    have hm:=List.getElem_mem hn
    refine ⟨?_,?_⟩
    · unfold zDC
      simp only []
      rw [zAK hn,zAC,zAG hn,zAA,hQ _ hm,zAA,zAA,wrs (by omega)]
      by_cases h:Q vs[n]=q
      · rw [show (Q vs[n]==q)=true by simpa using h,zAC,zAc (by omega) (zA1 _),zAA,if_pos h]
      · rw [show (Q vs[n]==q)=false by simpa using h,zAB,if_neg h]
    · split
      · rw [List.length_append,List.length_singleton]; omega
      · omega
  · intro st _
    unfold zDC
    simp only []
    rw [zAH (Nat.le_refl _),zAB]; rfl
theorem zNr {Q:Str→Int} {vs out:List Str} {T:Int} (h:RInv Q vs out T) (hn:∀ v ∈ vs,Q v<T→Q v≤0):Ord Q out vs:=by
  refine ⟨h.dsc,fun q=>?_⟩
  by_cases hq:0<q
  · rw [if_pos hq]
    by_cases hT:T≤q
    · exact h.cl q hT hq
    · rw [zFQ Q (fun v hv=>by have:=h.ge v hv; omega),zFQ Q (fun v hv e=>by have:=hn v hv (by omega); omega)]
  · rw [if_neg hq,zFQ Q (fun v hv=>by have:=h.ge v hv; omega)]
theorem zPo {Q:Str→Int} {vs out:List Str} {T:Int} (h:RInv Q vs out T):out.length=(vs.filter fun v=>decide (T≤Q v∧0<Q v)).length:=by
  refine List.Perm.length_eq (List.perm_iff_count.2 fun a=>?_)
  have hc:∀ l:List Str,(cls Q (Q a) l).count a=l.count a:=fun l=>List.count_filter (by simp)
  by_cases ha:T≤Q a∧0<Q a
  · rw [← hc out,h.cl _ ha.1 ha.2,hc vs,List.count_filter (by simpa using ha)]
  · rw [List.count_eq_zero.2 (fun hm=>ha (h.ge a hm)),List.count_eq_zero.2 (fun hm=>ha (by simpa using (List.mem_filter.1 hm).2))]
theorem zPB {Q:Str→Int} {vs out:List Str} {T m:Int} (h:RInv Q vs out T) (hm:0<m) (hT:m<T) (h1:∀ v ∈ vs,Q v<T→Q v≤m) (h2:∃ v ∈ vs,Q v=m):RInv Q vs (out++cls Q m vs) m:=by
  refine ⟨?_,?_,?_,?_,?_⟩
  · unfold Dsc
    rw [List.pairwise_append]
    refine ⟨h.dsc,?_,?_⟩
    · rw [List.pairwise_iff_forall_sublist]
      intro a b hs
      have ha:=hs.subset (List.mem_cons_self (a:=a))
      have hb:=hs.subset (List.mem_cons_of_mem a (List.mem_cons_self (a:=b)))
      have ha:=(zDy.1 ha).2
      have hb:=(zDy.1 hb).2
      omega
    · intro a ha b hb
      have h3:=h.ge a ha
      have h4:=(zDy.1 hb).2
      omega
  · intro v hv
    rcases List.mem_append.1 hv with hv | hv
    · have:=h.ge v hv; omega
    · have:=(zDy.1 hv).2; omega
  · intro q h3 h4
    rw [zJC]
    by_cases hq:q=m
    · subst hq
      rw [zFQ Q (fun v hv=>by have:=h.ge v hv; omega),List.nil_append]
      unfold cls
      rw [List.filter_filter]; simp
    · rw [zFQ Q (l:=cls Q m vs) (fun v hv=>by have:=(zDy.1 hv).2; omega),List.append_nil]
      by_cases h5:T≤q
      · exact h.cl q h5 h4
      · rw [zFQ Q (fun v hv=>by have:=h.ge v hv; omega),zFQ Q (fun v hv e=>by have:=h1 v hv (by omega); omega)]
  · intro he
    obtain ⟨v,hv,e⟩:=h2
    have:v ∈ out++cls Q m vs:=List.mem_append_right _ (zDy.2 ⟨hv,e⟩)
    rw [he] at this; cases this
  · intro x hx
    rw [List.getLast?_append] at hx
    cases hl:(cls Q m vs).getLast? with
    | some y =>
      rw [hl] at hx
      injection hx with hx; subst hx
      exact (zDy.1 (List.mem_of_getLast? hl)).2
    | none =>
      rw [List.getLast?_eq_none_iff] at hl
      obtain ⟨v,hv,e⟩:=h2
      have:v ∈ cls Q m vs:=zDy.2 ⟨hv,e⟩
      rw [hl] at this; cases this
theorem zKt (k : Int) (l : List GPref) (pr : Bool) (vs : List Str) (Q : Str → Int) (hv : vs.length ≤ 100000) (hQ : ∀ v ∈ vs, zBA k l pr v = some (Q v)) (out : List Str) (T : Int) (h : RInv Q vs out T) (ho : ∀ v ∈ out, v ∈ vs) :
    (∃ r,zDH k l pr vs out=some (.inr r)∧Ord Q r vs)∨∃ r m,zDH k l pr vs out=some (.inl r)∧RInv Q vs r m∧(∀ v ∈ r,v ∈ vs)∧(vs.filter fun v=>decide (Q v<m)).length<(vs.filter fun v=>decide (Q v<T)).length:=by
  have hp:=zPo h
  have hfl:(vs.filter fun v=>decide (T≤Q v∧0<Q v)).length≤vs.length:=List.length_filter_le _ _
  unfold zDH
  by_cases hg:out.length<vs.length
  · rw [zAK hg,zAC]
    obtain ⟨last, hlast, hcand⟩ : ∃ last : Int, ((bif decide (0 < (out.length : Int)) then (xnth out (wr ((out.length : Int) - 1))).bind fun x32 => (zBA k l pr x32).bind fun r35 => some r35 else some 0) : Option Int) = some last ∧
        ∀ v ∈ vs,(((out.length:Int)==0)||decide (Q v<last))=decide (Q v<T):=by
      cases hgl:out.getLast? with
      | none =>
        rw [List.getLast?_eq_none_iff] at hgl
        subst hgl
        refine ⟨0,rfl,fun v hvm=>?_⟩
        rw [decide_eq_true (h.nil rfl v hvm)]; rfl
      | some x =>
        have hx:x ∈ out:=List.mem_of_getLast? hgl
        have hpos:0<out.length:=List.length_pos_of_mem hx
        have hq:=h.lst x hgl
        refine ⟨T,?_,fun v hvm=>?_⟩
        · have e:(out.length:Int) - 1=((out.length - 1:Nat):Int):=by omega
          rw [decide_eq_true (by omega),zAC,e,wrn (by omega),zFn,← List.getLast?_eq_getElem?,hgl,zAA,hQ x (ho x hx),zAA,hq]
        · rw [show (((out.length:Int)==0):Bool)=false by rw [beq_eq_false_iff_ne]; omega,Bool.false_or]
    rw [hlast,zAA,zRg k l pr vs out Q T last hv hQ hcand,zAA]
    obtain ⟨m1,m2,m3⟩:=zN7 Q T vs 0 (Int.le_refl 0)
    generalize vs.foldl (mxS Q T) 0=m at *
    by_cases hm:m≤0
    · rw [decide_eq_true hm,zAC]
      exact .inl ⟨out,rfl,zNr h fun v hvm hlt=>by have:=m2 v hvm hlt; omega⟩
    · rw [decide_eq_false hm,zAB,zQq k l pr vs out Q m hv (by omega) hQ,zAA]
      rcases m3 with m3 | ⟨x,hx,hx1,hx2⟩
      · omega
      · refine .inr ⟨_,m,rfl,zPB h (by omega) (by omega) m2 ⟨x,hx,hx2⟩,?_,?_⟩
        · intro v hvm
          rcases List.mem_append.1 hvm with hvm | hvm
          · exact ho v hvm
          · exact (zDy.1 hvm).1
        · have e : (vs.filter fun v => decide (Q v < m)) = (vs.filter fun v => decide (Q v < T)).filter fun v => decide (Q v < m) := by
            rw [List.filter_filter]
            refine List.filter_congr fun v _=>?_
            by_cases h1:Q v<m
            · rw [decide_eq_true h1,decide_eq_true (show Q v<T by omega)]; rfl
            · rw [decide_eq_false h1]; rfl
          rw [e,List.length_filter_lt_length_iff_exists]
          exact ⟨x,List.mem_filter.2 ⟨hx,by simpa using hx1⟩,by simp; omega⟩
  · rw [zAH (by omega),zAB]
    refine .inl ⟨out,rfl,zNr h fun v hvm hlt=>?_⟩
    have hall:∀ v ∈ vs,decide (T≤Q v∧0<Q v)=true:=List.length_filter_eq_length_iff.1 (by omega)
    have:=hall v hvm
    simp only [decide_eq_true_eq] at this
    omega
theorem zQD (k:Int) (l:List GPref) (pr:Bool) (vs:List Str) (Q:Str→Int) (hv:vs.length≤100000) (hQ:∀ v ∈ vs,zBA k l pr v=some (Q v)):∃ out,zFV k l pr vs=some out∧Ord Q out vs:=by
  have key:∀ (j:Nat) (out:List Str) (T:Int),RInv Q vs out T→(∀ v ∈ out,v ∈ vs)→(vs.filter fun v=>decide (Q v<T)).length≤j→∃ r,zAF (zDH k l pr vs) out=some r∧Ord Q r vs:=by
    intro j
    induction j with
    | zero =>
      intro out T h ho hj
      rcases zKt k l pr vs Q hv hQ out T h ho with ⟨r,h1,h2⟩ | ⟨r,m,h1,h2,h3,h4⟩
      · exact ⟨r,zAE h1,h2⟩
      · omega
    | succ j ih =>
      intro out T h ho hj
      rcases zKt k l pr vs Q hv hQ out T h ho with ⟨r,h1,h2⟩ | ⟨r,m,h1,h2,h3,h4⟩
      · exact ⟨r,zAE h1,h2⟩
      · obtain ⟨x,h5,h6⟩:=ih r m h2 h3 (by omega)
        exact ⟨x,by rw [zAI h1]; exact h5,h6⟩
  have hT:∃ T:Int,0<T∧∀ v ∈ vs,Q v<T:=by
    clear hv hQ key
    induction vs with
    | nil=>exact ⟨1,by omega,by simp⟩
    | cons v vs ih =>
      obtain ⟨T,h1,h2⟩:=ih
      refine ⟨if Q v<T then T else Q v+1,by split <;> omega,fun x hx=>?_⟩
      rcases List.mem_cons.1 hx with rfl | hx
      · split <;> omega
      · have:=h2 x hx
        split <;> omega
  obtain ⟨T,hT1,hT2⟩:=hT
  obtain ⟨r,h1,h2⟩:=key _ [] T ⟨List.Pairwise.nil,by simp,fun q h3 _=>by rw [zFQ Q (l:=vs) (fun v hvm e=>by have:=hT2 v hvm; omega)]; rfl,fun _=>hT2,by simp⟩ (by simp) (Nat.le_refl _)
  refine ⟨r,?_,h2⟩
  unfold zFV
  rw [h1,zAA]
theorem zRf {Q:Str→Int} {out vs:List Str} (h:Ord Q out vs):∀ v ∈ out,v ∈ vs:=by
  intro v hv
  have h1:v ∈ cls Q (Q v) out:=zDy.2 ⟨hv,rfl⟩
  rw [h.2] at h1
  split at h1
  · exact (zDy.1 h1).1
  · cases h1
theorem zRZ {Q:Str→Int} {out vs:List Str} (h:Ord Q out vs):out.length≤vs.length:=by
  have:out.Perm (vs.filter fun v=>decide (0<Q v)):=by
    refine List.perm_iff_count.2 fun a=>?_
    have hc:∀ l:List Str,(cls Q (Q a) l).count a=l.count a:=fun l=>List.count_filter (by simp)
    rw [← hc out,h.2]
    by_cases ha:0<Q a
    · rw [if_pos ha,hc,List.count_filter (by simpa using ha)]
    · rw [if_neg ha,List.count_nil,List.count_eq_zero.2 (fun hm=>ha (by simpa using (List.mem_filter.1 hm).2))]
  rw [this.length_eq]
  exact List.length_filter_le _ _
end Go.Eng.Pure
namespace Go.Eng.Pure
open Go Go.Eng
set_option linter.unusedVariables false
def insQ (Q:Str→Int) (out:List Str) (v:Str):List Str:=if 0<Q v then out.takeWhile (fun x=>decide (Q v≤Q x))++[v]++out.dropWhile (fun x=>decide (Q v≤Q x)) else out
def rankS (Q:Str→Int) (vs:List Str):List Str:=vs.foldl (insQ Q) []
theorem zNf (Q:Str→Int) (q:Int):∀ out:List Str,Dsc Q out→∀ x ∈ out.dropWhile (fun x=>decide (q≤Q x)),Q x<q
  | [],_,x,hx=>by cases hx
  | a :: out,h,x,hx=>by
    unfold Dsc at h
    rw [List.pairwise_cons] at h
    rw [List.dropWhile_cons] at hx
    by_cases ha:q≤Q a
    · rw [if_pos (by simpa using ha)] at hx
      exact zNf Q q out h.2 x hx
    · rw [if_neg (by simpa using ha)] at hx
      rcases List.mem_cons.1 hx with rfl | hx
      · omega
      · have:=h.1 x hx; omega
theorem zL6 (Q:Str→Int) (q:Int):∀ (out:List Str),∀ x ∈ out.takeWhile (fun x=>decide (q≤Q x)),q≤Q x
  | [],x,hx=>by cases hx
  | a :: out,x,hx=>by
    rw [List.takeWhile_cons] at hx
    split at hx
    · rename_i ha
      rcases List.mem_cons.1 hx with rfl | hx
      · simpa using ha
      · exact zL6 Q q out x hx
    · cases hx
theorem zNc (Q:Str→Int):∀ (vs done out:List Str),Ord Q out done→Ord Q (vs.foldl (insQ Q) out) (done++vs)
  | [],done,out,h=>by rw [List.append_nil]; exact h
  | v :: vs,done,out,h=>by
    rw [List.foldl_cons,show done++v :: vs=(done++[v])++vs by simp]
    refine zNc Q vs _ _ ?_
    unfold insQ
    by_cases hv:0<Q v
    · rw [if_pos hv]
      have h2:Ord Q (out.takeWhile (fun x=>decide (Q v≤Q x))++out.dropWhile (fun x=>decide (Q v≤Q x))) done:=by rw [List.takeWhile_append_dropWhile]; exact h
      have:=zOk Q h2 v hv (out.takeWhile (fun x=>decide (Q v≤Q x))).length (by rw [List.length_append]; omega) (by rw [List.take_left]; exact zL6 Q _ out) (by rw [List.drop_left]; exact zNf Q _ out h.1)
      rw [List.take_left,List.drop_left] at this
      exact this
    · rw [if_neg hv]; exact zNY Q h v hv
theorem zJw (Q:Str→Int) (vs:List Str):Ord Q (rankS Q vs) vs:=by
  have:=zNc Q vs [] [] ⟨List.Pairwise.nil,fun q=>by split <;> rfl⟩
  rwa [List.nil_append] at this
theorem zRo (k:Int) (l:List GPref) (pr:Bool) (vs:List Str) (h:smPr l) (hv:vs.length≤100000) (hs:∀ v ∈ vs,v.length≤1000000):zGa k l pr vs=some (rankS (qualS k l pr) vs):=by
  obtain ⟨r,h1,h2⟩:=zQf k l pr vs (qualS k l pr) hv fun v hm=>zOA k l pr v h (hs v hm)
  rw [h1,zNm _ h2 (zJw _ vs)]
theorem zQK (k:Int) (l:List GPref) (pr:Bool) (vs:List Str) (h:smPr l) (hv:vs.length≤100000) (hs:∀ v ∈ vs,v.length≤1000000):zFV k l pr vs=some (rankS (qualS k l pr) vs):=by
  obtain ⟨r,h1,h2⟩:=zQD k l pr vs (qualS k l pr) hv fun v hm=>zMx k l pr v h (hs v hm)
  rw [h1,zNm _ h2 (zJw _ vs)]
theorem zNO (k:Int) (l:List GField) (hl:smL l):smPr (zH3 k l).1:=by
  have hm:=zHv l (nameF k)
  have hs:=zID l (nameF k) 300 fun f hf=>(hl.2 f hf).2
  unfold zH3
  split
  · exact ⟨by simp,by simp⟩
  split
  · refine ⟨Nat.le_trans (List.length_filterMap_le _ _) (by omega),fun p hp=>?_⟩
    rw [List.mem_filterMap] at hp
    obtain ⟨m,h1,h2⟩:=hp
    unfold prefO at h2
    split at h2
    · injection h2 with h2; subst h2
      exact zQ1 k m (hs m h1)
    · cases h2
  · exact ⟨by simp,by simp⟩
def rk0 (a:GAxis) (l:List GField):List Str :=
  if kindF a.fName≠0 then rankS (qualS (kindF a.fName) (zH3 (kindF a.fName) l).1 (zH3 (kindF a.fName) l).2) a.fValues
  else if a.fValues.contains (join (allM l a.fName)) then [join (allM l a.fName)] else []
def rkS (l:List GField) (strict:Bool) (a:GAxis):List Str:=if !axN a then [] else if (rk0 a l).isEmpty&&!strict then a.fValues.take 1 else rk0 a l
theorem zRm (a:GAxis):valB [a]=axN a:=by
  unfold valB chk okA
  simp [chk]
theorem zLN {a:GAxis} (h:axN a=true):1≤a.fValues.length∧a.fValues.length≤16∧chk (okV (domF a.fName)) [] a.fValues=true:=by
  unfold axN axV at h
  simp only [Bool.and_eq_true,decide_eq_true_eq] at h
  exact ⟨h.2.1.1,h.2.1.2,h.2.2⟩
theorem zMY (d:Gvariants_domain):∀ (l prev:List Str),chk (okV d) prev l=true→l.Nodup∧∀ x ∈ l,x ∉ prev
  | [],prev,_=>⟨List.nodup_nil,by simp⟩
  | v :: l,prev,h=>by
    unfold chk okV at h
    simp only [Bool.and_eq_true,Bool.not_eq_true',List.any_eq_false] at h
    obtain ⟨⟨h1,h2⟩,h3⟩:=h
    obtain ⟨h4,h5⟩:=zMY d l (prev++[v]) h3
    refine ⟨List.nodup_cons.2 ⟨fun hm=>h5 v hm (List.mem_append_right _ (List.mem_singleton.2 rfl)),h4⟩,?_⟩
    intro x hx hp
    rcases List.mem_cons.1 hx with rfl | hx
    · exact h2 x hp (by simp)
    · exact h5 x hx (List.mem_append_left _ hp)
theorem zMd (h:Str):∀ (vs acc:List Str),vs.Nodup→vs.foldl (fun a v=>if v=h then a++[h] else a) acc=acc++(if vs.contains h then [h] else [])
  | [],acc,_=>by simp
  | v :: vs,acc,hn=>by
    rw [List.nodup_cons] at hn
    rw [List.foldl_cons,zMd h vs _ hn.2,List.contains_cons]
    by_cases e:v=h
    · subst e
      rw [if_pos rfl,show vs.contains v=false by simpa using hn.1,show (v==v)=true by simp]
      simp
    · rw [if_neg e,show (h==v)=false by rw [beq_eq_false_iff_ne]; exact fun e2=>e e2.symm,Bool.false_or]
theorem zOF (a:GAxis) (l:List GField) (strict:Bool) (ha:smA a) (hl:smL l):zDp a l strict=some (rkS l strict a):=by
  have hn:=ha.1
  obtain ⟨b1,b2⟩:=zLD hl
  obtain ⟨j1,j2⟩:=zK5 hl a.fName
  unfold zDp rkS
  rw [zHH [a] (fun x hx=>by rw [List.mem_singleton] at hx; subst hx; exact ha),zAA,zRm]
  cases hax:axN a with
  | false=>rfl
  | true =>
    obtain ⟨v1,v2,v3⟩:=zLN hax
    have h0:((bif kindF a.fName !=0 then
      (zEw (kindF a.fName) l).bind fun r29=>(zGa (kindF a.fName) r29.1 r29.2 a.fValues).bind fun r36=>some r36
    else
      (zEA l a.fName).bind fun r42=>(zGP r42).bind fun r48=>(zAg a.fValues r48).bind fun r53=>(bif r53 then some ([r48]:List Str) else some ([]:List Str))))=some (rk0 a l):=by
      unfold rk0
      by_cases hk:kindF a.fName=0
      · rw [hk,if_neg (by simp),show ((0:Int) !=0)=false from rfl,zAB,zKJ l _ b1 b2 (by omega),zAA,zPb _ (by omega) (by omega),zAA,zJs _ _ (by omega),zAA]
        cases a.fValues.contains (join (allM l a.fName)) <;> rfl
      · rw [if_pos hk,show (kindF a.fName !=0)=true by simpa using hk,zAC,zQM _ l hl,zAA,zRo _ _ _ _ (zNO _ l hl) (by omega) ha.2,zAA]
    rw [Bool.not_true,zAB,zM7 _ (by omega),zAA,h0,zAA,if_neg (by decide),show (((rk0 a l).length:Int)==0)=((rk0 a l).length==0) from eqI _ 0]
    have e:((rk0 a l).length==0)=(rk0 a l).isEmpty:=by cases rk0 a l <;> rfl
    rw [e]
    cases hc:(rk0 a l).isEmpty&&!strict with
    | true =>
      rw [zAC,if_pos rfl]
      cases hvs:a.fValues with
      | nil=>rw [hvs] at v1; simp at v1
      | cons x xs=>rfl
    | false=>rw [zAB,if_neg (by decide),zAA]
theorem zOV (a:GAxis) (l:List GField) (strict:Bool) (ha:smA a) (hl:smL l):zFy a l strict=some (rkS l strict a):=by
  have hn:=ha.1
  obtain ⟨b1,b2⟩:=zLD hl
  obtain ⟨j1,j2⟩:=zK5 hl a.fName
  unfold zFy rkS
  rw [zIv a ha,zAA]
  cases hax:axN a with
  | false=>rfl
  | true =>
    obtain ⟨v1,v2,v3⟩:=zLN hax
    have hloop:zAF (zCI a (join (allM l a.fName))) (([]:List Str),0)=some (if a.fValues.contains (join (allM l a.fName)) then [join (allM l a.fName)] else []):=by
      generalize join (allM l a.fName)=have_ at *
      have:=zMd have_ a.fValues [] (zMY _ _ _ v3).1
      rw [List.nil_append] at this
      rw [← this]
      refine zBB (fun (st:List Str) i=>(st,i)) a.fValues (fun a v=>if v=have_ then a++[have_] else a) id _ (fun n st=>st.length≤n) [] (by simp) ?_ ?_
      · intro n hlt st hI
        refine ⟨?_,?_⟩
        · unfold zCI
          simp only []
          rw [zAK hlt,zAC,zAG hlt,zAA,wrs (by omega)]
          by_cases he:a.fValues[n]=have_
          · rw [show (a.fValues[n]==have_)=true by simpa using he,zAC,zAc (by omega) (zA1 _),zAA,if_pos he]
          · rw [show (a.fValues[n]==have_)=false by simpa using he,zAB,if_neg he]
        · split
          · rw [List.length_append,List.length_singleton]; omega
          · omega
      · intro st hI
        unfold zCI
        simp only []
        rw [zAH (Nat.le_refl _),zAB]; rfl
    have h0:((bif kindF a.fName !=0 then
      (zFc (kindF a.fName) l).bind fun r24=>(zFV (kindF a.fName) r24.1 r24.2 a.fValues).bind fun r31=>some r31
    else
      (zGN l a.fName).bind fun r37=>(zGb r37).bind fun r43=>(zAF (zCI a r43) (([]:List Str),0)).bind fun y_61=>some y_61))=some (rk0 a l):=by
      unfold rk0
      by_cases hk:kindF a.fName=0
      · rw [hk,if_neg (by simp),show ((0:Int) !=0)=false from rfl,zAB,zOj l _ b1 b2 (by omega),zAA,zRB _ (by omega) (by omega),zAA,hloop,zAA]
      · rw [if_pos hk,show (kindF a.fName !=0)=true by simpa using hk,zAC,zPf _ l hl,zAA,zQK _ _ _ _ (zNO _ l hl) (by omega) ha.2,zAA]
    rw [Bool.not_true,zAB,zK9 _ (by omega),zAA,h0,zAA,if_neg (by decide),show (((rk0 a l).length:Int)==0)=((rk0 a l).length==0) from eqI _ 0]
    have e:((rk0 a l).length==0)=(rk0 a l).isEmpty:=by cases rk0 a l <;> rfl
    rw [e]
    cases hc:(rk0 a l).isEmpty&&!strict with
    | true =>
      rw [zAC,if_pos rfl]
      cases hvs:a.fValues with
      | nil=>rw [hvs] at v1; simp at v1
      | cons x xs=>rfl
    | false=>rw [zAB,if_neg (by decide),zAA]
theorem zO2 (a:GAxis) (l:List GField) (strict:Bool):(rkS l strict a).length≤16∧∀ v ∈ rkS l strict a,v ∈ a.fValues:=by
  unfold rkS
  cases hax:axN a with
  | false=>exact ⟨by simp,by simp⟩
  | true =>
    obtain ⟨v1,v2,v3⟩:=zLN hax
    rw [if_neg (by decide)]
    split
    · exact ⟨by rw [List.length_take]; omega,fun v hv=>List.mem_of_mem_take hv⟩
    · unfold rk0
      split
      · have:=zJw (qualS (kindF a.fName) (zH3 (kindF a.fName) l).1 (zH3 (kindF a.fName) l).2) a.fValues
        exact ⟨Nat.le_trans (zRZ this) v2,zRf this⟩
      · split
        · rename_i hc
          exact ⟨by simp,fun v hv=>by rw [List.mem_singleton] at hv; subst hv; simpa using hc⟩
        · exact ⟨by simp,by simp⟩
end Go.Eng.Pure
