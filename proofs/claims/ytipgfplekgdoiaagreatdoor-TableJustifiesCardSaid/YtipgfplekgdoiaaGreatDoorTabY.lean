/- A part of the proof of laws of the seat. -/
import Derived.Test.YtipgfplekgdoiaaGreatDoorVarsQ
set_option linter.unusedVariables false
namespace Go.Eng.Pure
open Go Go.Eng
set_option linter.unusedVariables false
def okV (d:Gvariants_domain) (prev:List Str) (v:Str):Bool:=(formD d v).2&&!(prev.any fun u=>(formD d u).1==(formD d v).1)
def axV (a:GAxis):Bool:=(decide (1≤a.fValues.length)&&decide (a.fValues.length≤16))&&chk (okV (domF a.fName)) [] a.fValues
def smA (a:GAxis):Prop:=a.fName.length≤1000000∧∀ v ∈ a.fValues,v.length≤1000000
theorem zNR {β:Type} (m:List (Str×β)) (k k':Str) (v z:β):(mget (mset m k v) k' z).1=if k'==k then v else (mget m k' z).1:=by
  unfold mget
  rw [zLy]
  cases k'==k <;> rfl
theorem zM0 (a : GAxis) (h : smA a) (hl : a.fValues.length ≤ 16) : ∀ (k n : Nat) (m : List (Str × Bool)), n + k = a.fValues.length → (∀ q, (mget m q false).1 = (a.fValues.take n).any fun u => (formD (domF a.fName) u).1 == q) →
    zAF (zBB a (domF a.fName)) ((n:Int),m)=some (if chk (okV (domF a.fName)) (a.fValues.take n) (a.fValues.drop n) then .inl () else .inr false):=by
  intro k
  induction k with
  | zero =>
    intro n m hn hI
    have:n=a.fValues.length:=by omega
    subst this
    have hb:zBB a (domF a.fName) ((a.fValues.length:Int),m)=some (.inr (.inl ())):=by
      unfold zBB
      simp only []
      rw [zAI (Nat.le_refl _),zAB]
    rw [zAE hb,List.drop_length]; rfl
  | succ k ih =>
    intro n m hn hI
    have hlt:n<a.fValues.length:=by omega
    have hm:=h.2 _ (List.getElem_mem hlt)
    conv=>rhs; rw [List.drop_eq_getElem_cons hlt]
    unfold chk
    generalize hv:a.fValues[n]=v at *
    have hb:zBB a (domF a.fName) ((n:Int),m)=some (if okV (domF a.fName) (a.fValues.take n) v then .inl (((n+1:Nat):Int),mset m (formD (domF a.fName) v).1 true) else .inr (.inr false)):=by
      unfold zBB okV
      simp only []
      rw [zAK hlt,zAC,zAG hlt,hv,zAA,zLv _ v hm,zAA,zAA,hI,wrs (by omega)]
      cases (formD (domF a.fName) v).2 <;> cases (a.fValues.take n).any (fun u=>(formD (domF a.fName) u).1==(formD (domF a.fName) v).1) <;> rfl
    cases ho:okV (domF a.fName) (a.fValues.take n) v with
    | false=>rw [ho] at hb; rw [zAE hb]; rfl
    | true =>
      rw [ho] at hb
      rw [zAJ hb,ih (n+1) _ (by omega) ?_,Bool.true_and,zAg hlt,hv]
      intro q
      rw [zNR,zAg hlt,hv,List.any_append,hI q]
      simp only [List.any_cons,List.any_nil,Bool.or_false]
      have e:(q==(formD (domF a.fName) v).1)=((formD (domF a.fName) v).1==q):=by
        rw [Bool.eq_iff_iff,beq_iff_eq,beq_iff_eq]; exact ⟨Eq.symm,Eq.symm⟩
      rw [e]
      cases (formD (domF a.fName) v).1==q <;> simp
theorem lt1 (n:Nat):decide ((n:Int)<1)=!decide (1≤n):=by
  rw [Bool.eq_iff_iff]; simp only [decide_eq_true_eq,Bool.not_eq_true',decide_eq_false_iff_not]; omega
theorem gt16 (n:Nat):decide ((16:Int)<(n:Int))=!decide (n≤16):=by
  rw [Bool.eq_iff_iff]; simp only [decide_eq_true_eq,Bool.not_eq_true',decide_eq_false_iff_not]; omega
theorem gt4 (n:Nat):decide ((4:Int)<(n:Int))=!decide (n≤4):=by
  rw [Bool.eq_iff_iff]; simp only [decide_eq_true_eq,Bool.not_eq_true',decide_eq_false_iff_not]; omega
theorem zNK (a:GAxis) (h:smA a):zEL a=some (axV a):=by
  unfold zEL axV
  rw [lt1,gt16]
  by_cases h1:1≤a.fValues.length
  · by_cases h2:a.fValues.length≤16
    · rw [decide_eq_true h1,decide_eq_true h2,zMG _ (by have:=h.1; omega)]
      simp only [Bool.not_true,Bool.or_self,zAB,zAA,Bool.and_self,Bool.true_and]
      have:=zM0 a h h2 a.fValues.length 0 [] (by omega) (fun q=>rfl)
      rw [show ((0:Nat):Int)=0 from rfl,List.take_zero,List.drop_zero] at this
      rw [this,zAA]
      cases chk (okV (domF a.fName)) [] a.fValues <;> rfl
    · rw [decide_eq_false h2]; simp
  · rw [decide_eq_false h1]; simp
def axN (a:GAxis):Bool:=(tok a.fName&&(lower a.fName==a.fName))&&axV a
theorem zH7 (a:GAxis) (h:smA a):zCe a=some (axN a):=by
  have hn:=h.1
  unfold zCe axN axV
  rw [zCj _ (by omega),zAA,lt1,gt16]
  have hlow:(bif !tok a.fName then some true else (zBN a.fName).bind fun r13=>some (r13 !=a.fName))=some (!(tok a.fName&&(lower a.fName==a.fName))):=by
    rw [zDz _ (by omega),zAA]
    cases tok a.fName <;> rfl
  rw [hlow,zAA]
  cases (tok a.fName&&(lower a.fName==a.fName)) with
  | false=>rfl
  | true =>
    by_cases h1:1≤a.fValues.length
    · by_cases h2:a.fValues.length≤16
      · rw [decide_eq_true h1,decide_eq_true h2]
        simp only [Bool.not_true,Bool.or_self,zAB,Bool.and_self,Bool.true_and]
        have:=zJ4 a.fValues (okV (domF a.fName)) (zBq a) ?_ ?_
        · rw [this,zAA]
          cases chk (okV (domF a.fName)) [] a.fValues <;> rfl
        · intro n hlt
          have hm:=h.2 _ (List.getElem_mem hlt)
          unfold zBq okV
          rw [zAK hlt,zAC,zAG hlt,zAA]
          generalize hv:a.fValues[n]=v at *
          rw [zM2 _ _ (by omega) hm,zAA]
          cases (formD (domF a.fName) v).2 with
          | false=>rfl
          | true =>
            rw [Bool.not_true,zAB]
            have hw:zAF (zBl a (n:Int)) 0=some (if (a.fValues.take n).any (fun u=>(formD (domF a.fName) u).1==(formD (domF a.fName) v).1) then .inr (.inr (.inr false)) else .inl ()):=by
              refine zCY (ρ:=Unit ⊕ (Int ⊕ (Unit ⊕ Bool))) _ (a.fValues.take n) _ (.inr (.inr (.inr false))) (.inl ()) ?_ ?_
              · intro i hi
                have hi2:i<n:=by rw [List.length_take] at hi; omega
                have hi3:i<a.fValues.length:=by omega
                have hmi:=h.2 _ (List.getElem_mem hi3)
                unfold zBl
                rw [zAK hi2,zAC,zAG hlt,hv,zAA,zAG hi3,zAA,zMI _ _ _ (by omega) hm hmi,zAA,List.getElem_take,wrs (by omega)]
                have e:((formD (domF a.fName) v).1==(formD (domF a.fName) a.fValues[i]).1)=((formD (domF a.fName) a.fValues[i]).1==(formD (domF a.fName) v).1):=by
                  rw [Bool.eq_iff_iff,beq_iff_eq,beq_iff_eq]; exact ⟨Eq.symm,Eq.symm⟩
                rw [e]
                cases (formD (domF a.fName) a.fValues[i]).1==(formD (domF a.fName) v).1 <;> simp
              · unfold zBl
                have:(a.fValues.take n).length=n:=by rw [List.length_take]; omega
                rw [this,zAI (Nat.le_refl _),zAB]
            rw [hw,zAA,wrs (by omega)]
            cases (a.fValues.take n).any (fun u=>(formD (domF a.fName) u).1==(formD (domF a.fName) v).1) <;> rfl
        · unfold zBq
          rw [zAI (Nat.le_refl _),zAB]
      · rw [decide_eq_false h2]; simp
    · rw [decide_eq_false h1]; simp
def okA (prev:List GAxis) (a:GAxis):Bool:=axN a&&!(prev.any fun b=>a.fName==b.fName)
def valB (l:List GAxis):Bool:=(decide (1≤l.length)&&decide (l.length≤4))&&chk okA [] l
theorem zJO (l:List GAxis) (h:∀ a ∈ l,smA a):zCR l=some (valB l):=by
  unfold zCR valB
  rw [lt1,gt4]
  by_cases h1:1≤l.length
  · by_cases h2:l.length≤4
    · rw [decide_eq_true h1,decide_eq_true h2]
      simp only [Bool.not_true,Bool.or_self,zAB,Bool.and_self,Bool.true_and]
      have:=zJ4 l okA (zB1 l) ?_ ?_
      · rw [this,zAA]
        cases chk okA [] l <;> rfl
      · intro n hlt
        have hm:=h _ (List.getElem_mem hlt)
        unfold zB1 okA axN
        rw [zAK hlt,zAC,zAG hlt,zAA]
        generalize hv:l[n]=a at *
        have hn:=hm.1
        rw [zDS _ (by omega),zAA,zBt _ (by omega),zAA,zNK a hm]
        have hw:zAF (zB4 a (l.take n)) 0=some (if (l.take n).any (fun b=>a.fName==b.fName) then .inr (.inr (.inr false)) else .inl ()):=by
          refine zCY (ρ:=Unit ⊕ (Int ⊕ (Unit ⊕ Bool))) _ (l.take n) _ (.inr (.inr (.inr false))) (.inl ()) ?_ ?_
          · intro i hi
            have hi2:i<n:=by rw [List.length_take] at hi; omega
            unfold zB4
            rw [zAK hi,zAC,zAG hi,zAA,wrs (by omega)]
            cases a.fName==(l.take n)[i].fName <;> simp
          · unfold zB4
            rw [zAI (Nat.le_refl _),zAB]
        rw [zD8 (by omega),wrs (by omega)]
        simp only [zAA]
        rw [hw]
        have e:(lower a.fName !=a.fName)=!(lower a.fName==a.fName):=rfl
        rw [e]
        cases tok a.fName <;> cases lower a.fName==a.fName <;> cases axV a <;> cases (l.take n).any (fun b=>a.fName==b.fName) <;> rfl
      · unfold zB1
        rw [zAI (Nat.le_refl _),zAB]
    · rw [decide_eq_false h2]; simp
  · rw [decide_eq_false h1]; simp
theorem zNn (l:List GAxis) (h:∀ a ∈ l,smA a):zGQ l=some (valB l):=by
  unfold zGQ valB
  rw [lt1,gt4]
  by_cases h1:1≤l.length
  · by_cases h2:l.length≤4
    · rw [decide_eq_true h1,decide_eq_true h2]
      simp only [Bool.not_true,Bool.or_self,zAB,Bool.and_self,Bool.true_and]
      have:=zJ4 l okA (zDF l) ?_ ?_
      · rw [this,zAA]
        cases chk okA [] l <;> rfl
      · intro n hlt
        have hm:=h _ (List.getElem_mem hlt)
        have hx:=zAG hlt
        unfold zDF okA
        rw [zAK hlt,zAC,hx,zAA]
        generalize hv:l[n]=a at *
        rw [zH7 a hm,zAA]
        have hw:zAF (zDI l (n:Int)) 0=some (if (l.take n).any (fun b=>a.fName==b.fName) then .inr (.inr (.inr false)) else .inl ()):=by
          refine zCY (ρ:=Unit ⊕ (Int ⊕ (Unit ⊕ Bool))) _ (l.take n) _ (.inr (.inr (.inr false))) (.inl ()) ?_ ?_
          · intro i hi
            have hi2:i<n:=by rw [List.length_take] at hi; omega
            have hi3:i<l.length:=by omega
            unfold zDI
            rw [zAK hi2,zAC,hx,zAA,zAG hi3,zAA,wrs (by omega),List.getElem_take]
            cases a.fName==l[i].fName <;> simp
          · unfold zDI
            have:(l.take n).length=n:=by rw [List.length_take]; omega
            rw [this,zAI (Nat.le_refl _),zAB]
        rw [hw,wrs (by omega)]
        cases axN a <;> cases (l.take n).any (fun b=>a.fName==b.fName) <;> rfl
      · unfold zDF
        rw [zAI (Nat.le_refl _),zAB]
    · rw [decide_eq_false h2]; simp
  · rw [decide_eq_false h1]; simp
end Go.Eng.Pure
namespace Go.Eng.Pure
open Go Go.Eng
set_option linter.unusedVariables false
theorem zNt (ms:List (List Str)) (f:List Str→Option Bool) (p:List Str→Bool) (hl:ms.length≤1073741824) (h:∀ m ∈ ms,f m=some (p m)):zAX ms f=some (ms.any p):=by
  have key:∀ (k n:Nat),n+k=ms.length→∃ r,zAF (zAR ms f) (n:Int)=some r∧(match r with | .inr e=>(0:Int)≤e∧(ms.drop n).any p=true | .inl _=>(ms.drop n).any p=false):=by
    intro k
    induction k with
    | zero =>
      intro n hn
      obtain rfl:n=ms.length:=by omega
      refine ⟨.inl (),zAE ?_,by rw [List.drop_length]; rfl⟩
      simp only [zAR,zAI (Nat.le_refl ms.length),zAB]
    | succ k ih =>
      intro n hn
      have hlt:n<ms.length:=by omega
      have hb:zAR ms f (n:Int)=some (if p ms[n] then .inr (.inr (n:Int)) else .inl ((n+1:Nat):Int)):=by
        simp only [zAR,zAK hlt,zAC,zAG hlt,zAA,h _ (List.getElem_mem hlt),wrs (show n≤4*1073741824 by omega)]
        cases p ms[n] <;> rfl
      rw [List.drop_eq_getElem_cons hlt,List.any_cons]
      cases hp:p ms[n] with
      | true =>
        rw [hp,if_pos rfl] at hb
        exact ⟨_,zAE hb,by simp only []; exact ⟨by omega,rfl⟩⟩
      | false =>
        rw [hp,if_neg (by decide)] at hb
        obtain ⟨r,hr,hm⟩:=ih (n+1) (by omega)
        refine ⟨r,by rw [zAJ hb]; exact hr,?_⟩
        cases r <;> simpa using hm
  obtain ⟨r,hr,hm⟩:=key ms.length 0 (by omega)
  rw [show ((0:Nat):Int)=0 from rfl] at hr
  rw [List.drop_zero] at hm
  unfold zAX zA2
  rw [hr,zAA]
  cases r with
  | inr e=>simp only [] at hm ⊢; rw [zAA,hm.2,decide_eq_true hm.1]
  | inl u=>simp only [] at hm ⊢; rw [zAA,hm]; rfl
end Go.Eng.Pure
namespace Go.Eng.Pure
open Go Go.Eng
set_option linter.unusedVariables false
theorem zIA (s:List Str) (h:s.length≤1073741824):zAV s=some s:=by
  unfold zAV
  rw [zAj (by simp) (by omega)]; rfl
theorem zNz (s:List GField) (h:s.length≤1073741824):zAf s=some s:=by
  unfold zAf
  rw [zAj (by simp) (by omega)]; rfl
theorem zID {S α ρ : Type} (mk : List α → Int → S) (fin : List α → ρ) (l : List α) (body : S → Option (S ⊕ ρ)) (hl : l.length ≤ 1073741824)
    (h:∀ (n:Nat) (hn:n<l.length) (out:List α),out.length≤n→body (mk out n)=some (.inl (mk (out++[l[n]]) ((n+1:Nat):Int))))
    (h':∀ out,out.length≤l.length→body (mk out l.length)=some (.inr (fin out))):zAF body (mk [] 0)=some (fin l):=by
  have:=zBI mk l (fun out x=>out++[x]) fin body (fun n out=>out.length≤n) [] (by simp) (fun n hn st hI=>⟨h n hn st hI,by rw [List.length_append]; simp; exact hI⟩) h'
  rw [this]
  have e:∀ (l acc:List α),l.foldl (fun out x=>out++[x]) acc=acc++l:=by
    intro l
    induction l with
    | nil=>intro acc; simp
    | cons x l ih=>intro acc; rw [List.foldl_cons,ih]; simp
  rw [e]; rfl
theorem zId (l:List GAxis) (hl:l.length≤1073741824) (hv:∀ a ∈ l,a.fValues.length≤1073741824):zF7 l=some l:=by
  unfold zF7
  have:=zID (fun out n=>(out,n)) id l (zDp l) hl ?_ ?_
  · rw [this]; rfl
  · intro n hn out ho
    simp only [zDp]
    rw [zAK hn,zAC,zAG hn,zAA,zIA _ (hv _ (List.getElem_mem hn)),zAA,zAj (by omega) (zA5 _),zAA,wrs (by omega)]
  · intro out _
    simp only [zDp]
    rw [zAI (Nat.le_refl _),zAB]; rfl
def smEn (e:GEntry):Prop:=e.fKeys.length≤1073741824∧(∀ k ∈ e.fKeys,k.length≤1073741824)∧e.fVary.length≤1073741824∧e.fSnapshot.length≤1073741824∧e.fFields.length≤1073741824
theorem zH2 (e:GEntry) (h:smEn e):zD6 e=some e:=by
  obtain ⟨h1,h2,h3,h4,h5⟩:=h
  unfold zD6
  have:=zID (fun out n=>(n,out,e.fVary,e.fSnapshot,e.fReason,e.fFields,e.fBody,e.fRequested,e.fReceived)) (fun out=>(out,e.fVary,e.fSnapshot,e.fReason,e.fFields,e.fBody,e.fRequested,e.fReceived)) e.fKeys (zDG e) h1 ?_ ?_
  · rw [this,zAA]
    simp only []
    rw [zIA _ h3,zAA,zIA _ h4,zAA,zNz _ h5]; rfl
  · intro n hn out ho
    simp only [zDG]
    rw [zAK hn,zAC,zAG hn,zAA,zIA _ (h2 _ (List.getElem_mem hn)),zAA,zAj (by omega) (zA5 _),zAA,wrs (by omega)]
  · intro out _
    simp only [zDG]
    rw [zAI (Nat.le_refl _),zAB]
theorem zJ8 (t:GTable) (h1:t.fAxes.length≤1073741824) (h2:∀ a ∈ t.fAxes,a.fValues.length≤1073741824) (h3:t.fEntries.length≤1073741824) (h4:∀ e ∈ t.fEntries,smEn e):zGK t=some t:=by
  unfold zGK
  rw [zId _ h1 h2,zAA]
  have:=zID (fun out n=>(n,t.fAxes,out)) (fun out=>(t.fAxes,out)) t.fEntries (zDK t) h3 ?_ ?_
  · rw [this,zAA]
  · intro n hn out ho
    simp only [zDK]
    rw [zAK hn,zAC,zAG hn,zAA,zH2 _ (h4 _ (List.getElem_mem hn)),zAA,zAj (by omega) (zA5 _),zAA,wrs (by omega)]
  · intro out _
    simp only [zDK]
    rw [zAI (Nat.le_refl _),zAB]
theorem zQD (ms:List GEntry) (f:GEntry→Option Bool) (p:GEntry→Bool) (hl:ms.length≤1073741824) (h:∀ m ∈ ms,f m=some (p m)):zAl ms f=some (match ms.findIdx? p with | some i=>(i:Int) | none=>-1):=by
  have key:∀ (k n:Nat),n+k=ms.length→zAF (zAP ms f) (n:Int)=some (match (ms.drop n).findIdx? p with | some i=>.inr ((n+i:Nat):Int) | none=>.inl ()):=by
    intro k
    induction k with
    | zero =>
      intro n hn
      obtain rfl:n=ms.length:=by omega
      rw [zAE (r:=.inl ())]
      · rw [List.drop_length]; rfl
      · simp only [zAP,zAI (Nat.le_refl ms.length),zAB]
    | succ k ih =>
      intro n hn
      have hlt:n<ms.length:=by omega
      have hb:zAP ms f (n:Int)=some (if p ms[n] then .inr (.inr (n:Int)) else .inl ((n+1:Nat):Int)):=by
        simp only [zAP,zAK hlt,zAC,zAG hlt,zAA,h _ (List.getElem_mem hlt),wrs (show n≤4*1073741824 by omega)]
        cases p ms[n] <;> rfl
      rw [List.drop_eq_getElem_cons hlt,List.findIdx?_cons]
      cases hp:p ms[n] with
      | true =>
        rw [hp,if_pos rfl] at hb
        rw [zAE hb]; rfl
      | false =>
        rw [hp,if_neg (by decide)] at hb
        rw [zAJ hb,ih (n+1) (by omega)]
        cases hd:(ms.drop (n+1)).findIdx? p with
        | none=>rfl
        | some i=>simp; omega
  have:=key ms.length 0 (by omega)
  rw [show ((0:Nat):Int)=0 from rfl,List.drop_zero] at this
  unfold zAl
  rw [this,zAA]
  cases ms.findIdx? p with
  | none=>rfl
  | some i=>simp
theorem zNN {α:Type} (xs:List α) (f:α→Option Bool) (p:α→Bool) (h:∀ x ∈ xs,f x=some (p x)):∀ (k n:Nat) (K:List α),n+k=xs.length→zAF (delL xs f) (K,(n:Int))=some (K++(xs.drop n).filter fun x=>!p x)
  | 0,n,K,hn=>by
    have:n=xs.length:=by omega
    subst this
    have hb:delL xs f (K,(xs.length:Int))=some (.inr K):=by
      unfold delL
      rw [zAI (Nat.le_refl _),zAB]
    rw [zAE hb]; simp
  | k+1,n,K,hn=>by
    have hlt:n<xs.length:=by omega
    have hb:delL xs f (K,(n:Int))=some (.inl (bif p xs[n] then K else K++[xs[n]],((n+1:Nat):Int))):=by
      unfold delL
      rw [zAK hlt,zAC,zAG hlt,zAA,h _ (List.getElem_mem hlt),zAA]; rfl
    rw [zAJ hb,zNN xs f p h k (n+1) _ (by omega),List.drop_eq_getElem_cons hlt,List.filter_cons]
    cases p xs[n] <;> simp
theorem zIX {α:Type} (p:α→Bool):∀ (xs:List α) (i:Nat),xs.findIdx? p=some i→i<xs.length∧xs.filter (fun x=>!p x)=xs.take i++(xs.drop (i+1)).filter fun x=>!p x
  | [],i,h=>by simp at h
  | x :: xs,i,h=>by
    rw [List.findIdx?_cons] at h
    cases hp:p x with
    | true =>
      rw [hp] at h
      simp at h; subst h
      simp [hp]
    | false =>
      rw [hp] at h
      simp only [Bool.false_eq_true,if_false,Option.map_eq_some_iff] at h
      obtain ⟨j,hj,rfl⟩:=h
      obtain ⟨h1,h2⟩:=zIX p xs j hj
      refine ⟨by simp; omega,?_⟩
      rw [List.filter_cons,hp]
      simp [h2]
theorem zLb {α:Type} (p:α→Bool) (xs:List α) (h:xs.findIdx? p=none):xs.filter (fun x=>!p x)=xs:=by
  rw [List.filter_eq_self]
  intro x hx
  have:=List.findIdx?_eq_none_iff.1 h x hx
  simp [this]
theorem zPd (xs:List GEntry) (f:GEntry→Option Bool) (p:GEntry→Bool) (hl:xs.length≤1073741824) (h:∀ x ∈ xs,f x=some (p x)):zAQ xs f=some (xs.filter fun x=>!p x):=by
  unfold zAQ
  rw [zQD xs f p hl h,zAA]
  unfold delR
  cases hi:xs.findIdx? p with
  | none=>rw [zLb p xs hi]; rfl
  | some i =>
    obtain ⟨h1,h2⟩:=zIX p xs i hi
    have e1:((i:Int)==-1)=false:=by simp
    have e2:decide (0≤(i:Int)∧(i:Int)<(xs.length:Int))=true:=decide_eq_true ⟨by omega,by omega⟩
    simp only []
    rw [e1,zAB,e2,zAC,Int.toNat_natCast,show ((i:Int)+1)=((i+1:Nat):Int) from rfl,zNN xs f p h (xs.length - (i+1)) (i+1) _ (by omega),h2]
end Go.Eng.Pure
namespace Go.Eng.Pure
open Go Go.Eng
set_option linter.unusedVariables false
def sameV (a:GAxis) (x y:Str):Bool:=(formD (domF a.fName) x).1==(formD (domF a.fName) y).1
def sameL:List GAxis→List Str→List Str→Bool
  | a :: l,x :: xs,y :: ys=>sameV a x y&&sameL l xs ys
  | [],[],[]=>true
  | _,_,_=>false
theorem zGl:∀ {l:List GAxis} {xs ys:List Str},sameL l xs ys=true→xs.length=l.length∧ys.length=l.length
  | a :: l,x :: xs,y :: ys,h=>by
    simp only [sameL,Bool.and_eq_true] at h
    obtain ⟨h1,h2⟩:=zGl h.2
    simp [h1,h2]
  | [],[],[],_=>⟨rfl,rfl⟩
  | [],[],y :: ys,h=>by simp [sameL] at h
  | [],x :: xs,ys,h=>by simp [sameL] at h
  | a :: l,[],ys,h=>by simp [sameL] at h
  | a :: l,x :: xs,[],h=>by simp [sameL] at h
def smAx (l:List GAxis):Prop:=l.length≤1000000∧∀ a ∈ l,a.fName.length≤1000000
def smKy (k:List Str):Prop:=∀ v ∈ k,v.length≤1000000
theorem zLd (axes:List GAxis) (a b:List Str) (h:smAx axes) (ha:smKy a) (hb:smKy b) (hla:a.length≤1000000) (hlb:b.length≤1000000):zEv axes a b=some (sameL axes a b):=by
  have key : ∀ (k n : Nat), n + k = axes.length → a.length = axes.length → b.length = axes.length →
      zAF (zBh axes a b) (n:Int)=some (if sameL (axes.drop n) (a.drop n) (b.drop n) then .inl () else .inr false):=by
    intro k
    induction k with
    | zero =>
      intro n hn h1 h2
      have:n=axes.length:=by omega
      subst this
      rw [zAE (r:=.inl ())]
      · rw [List.drop_length,List.drop_of_length_le (by omega),List.drop_of_length_le (by omega)]; rfl
      · simp only [zBh,zAI (Nat.le_refl axes.length),zAB]
    | succ k ih =>
      intro n hn h1 h2
      have hlt:n<axes.length:=by omega
      have hb':zBh axes a b (n:Int)=some (if sameV axes[n] (a[n]'(by omega)) (b[n]'(by omega)) then .inl ((n+1:Nat):Int) else .inr (.inr false)):=by
        simp only [zBh,zAK hlt,zAC,zAG hlt,zAA,zAG (show n<a.length by omega),zAG (show n<b.length by omega)]
        rw [zMI _ _ _ (by have:=h.2 _ (List.getElem_mem hlt); omega) (ha _ (List.getElem_mem _)) (hb _ (List.getElem_mem _)),zAA,wrs (show n≤4*1073741824 by have:=h.1; omega)]
        show (bif !(sameV _ _ _) then _ else _)=_
        cases sameV axes[n] (a[n]'(by omega)) (b[n]'(by omega)) <;> rfl
      rw [List.drop_eq_getElem_cons hlt,List.drop_eq_getElem_cons (show n<a.length by omega),List.drop_eq_getElem_cons (show n<b.length by omega),sameL]
      cases hs:sameV axes[n] (a[n]'(by omega)) (b[n]'(by omega)) with
      | true =>
        rw [hs,if_pos rfl] at hb'
        rw [zAJ hb',ih (n+1) (by omega) h1 h2]; rfl
      | false =>
        rw [hs,if_neg (by simp)] at hb'
        rw [zAE hb']; rfl
  unfold zEv
  by_cases h1:a.length=axes.length
  · by_cases h2:b.length=axes.length
    · have e:(((a.length:Int) !=(axes.length:Int))||((b.length:Int) !=(axes.length:Int)))=false:=by simp [h1,h2]
      rw [e,zAB,show (0:Int)=((0:Nat):Int) from rfl,key axes.length 0 (by omega) h1 h2,zAA]
      simp only [List.drop_zero]
      cases sameL axes a b <;> rfl
    · have e:(((a.length:Int) !=(axes.length:Int))||((b.length:Int) !=(axes.length:Int)))=true:=by simp; right; omega
      have e2:sameL axes a b=false:=by
        cases hs:sameL axes a b with
        | false=>rfl
        | true=>exact absurd (zGl hs).2 h2
      rw [e,zAC,e2]
  · have e:(((a.length:Int) !=(axes.length:Int))||((b.length:Int) !=(axes.length:Int)))=true:=by simp; left; omega
    have e2:sameL axes a b=false:=by
      cases hs:sameL axes a b with
      | false=>rfl
      | true=>exact absurd (zGl hs).1 h1
    rw [e,zAC,e2]
theorem zOu (axes:List GAxis) (a b:List Str) (h:smAx axes) (ha:smKy a) (hb:smKy b) (hla:a.length≤1000000) (hlb:b.length≤1000000):zD3 axes a b=some (sameL axes a b):=by
  have key : ∀ (k n : Nat), n + k = axes.length → a.length = axes.length → b.length = axes.length →
      ∃ m,zAF (zAM a b axes) ((n:Int),(n:Int) - 1)=some (if sameL (axes.drop n) (a.drop n) (b.drop n) then .inl m else .inr (false,m)):=by
    intro k
    induction k with
    | zero =>
      intro n hn h1 h2
      have:n=axes.length:=by omega
      subst this
      refine ⟨(axes.length:Int) - 1,?_⟩
      rw [zAE (r:=.inl ((axes.length:Int) - 1))]
      · rw [List.drop_length,List.drop_of_length_le (by omega),List.drop_of_length_le (by omega)]; rfl
      · simp only [zAM]
        rw [← h1,zAI (Nat.le_refl a.length),zAB]
    | succ k ih =>
      intro n hn h1 h2
      have hlt:n<axes.length:=by omega
      have e1:wr ((n:Int) - 1+1)=(n:Int):=by rw [wr_eq ⟨by omega,by have:=h.1; omega⟩]; omega
      have hb':zAM a b axes ((n:Int),(n:Int) - 1)=some (if sameV axes[n] (a[n]'(by omega)) (b[n]'(by omega)) then .inl (((n+1:Nat):Int),((n+1:Nat):Int) - 1) else .inr (.inr (false,(n:Int)))):=by
        simp only [zAM,zC8]
        rw [zAK (show n<a.length by omega),zAC,zAG (show n<a.length by omega),zAA,zAG (show n<b.length by omega),zAA,e1,zAG hlt,zAA,
          zOl _ _ _ (by have:=h.2 _ (List.getElem_mem hlt); omega) (ha _ (List.getElem_mem _)) (hb _ (List.getElem_mem _)),zAA,zAA,wrs (show n≤4*1073741824 by have:=h.1; omega)]
        show (bif !(sameV _ _ _) then _ else _)=_
        have e2:((n+1:Nat):Int) - 1=(n:Int):=by omega
        rw [e2]
        cases sameV axes[n] (a[n]'(by omega)) (b[n]'(by omega)) <;> rfl
      rw [List.drop_eq_getElem_cons hlt,List.drop_eq_getElem_cons (show n<a.length by omega),List.drop_eq_getElem_cons (show n<b.length by omega),sameL]
      cases hs:sameV axes[n] (a[n]'(by omega)) (b[n]'(by omega)) with
      | true =>
        rw [hs,if_pos rfl] at hb'
        rw [zAJ hb']
        obtain ⟨m,hm⟩:=ih (n+1) (by omega) h1 h2
        exact ⟨m,by rw [hm]; rfl⟩
      | false =>
        rw [hs,if_neg (by simp)] at hb'
        exact ⟨(n:Int),by rw [zAE hb']; rfl⟩
  unfold zD3
  by_cases h1:a.length=axes.length
  · have e0:((a.length:Int) !=(axes.length:Int))=false:=by simp [h1]
    rw [e0,zAB]
    unfold zAn
    by_cases h2:b.length=axes.length
    · have e:((a.length:Int) !=(b.length:Int))=false:=by simp [h1,h2]
      obtain ⟨m,hm⟩:=key axes.length 0 (by omega) h1 h2
      rw [e,zAB,show ((0:Int),(-1:Int))=(((0:Nat):Int),((0:Nat):Int) - 1) from rfl,hm,zAA]
      simp only [List.drop_zero]
      cases sameL axes a b <;> rfl
    · have e:((a.length:Int) !=(b.length:Int))=true:=by simp; omega
      have e2:sameL axes a b=false:=by
        cases hs:sameL axes a b with
        | false=>rfl
        | true=>exact absurd (zGl hs).2 h2
      rw [e,zAC,e2]; rfl
  · have e:((a.length:Int) !=(axes.length:Int))=true:=by simp; omega
    have e2:sameL axes a b=false:=by
      cases hs:sameL axes a b with
      | false=>rfl
      | true=>exact absurd (zGl hs).1 h1
    rw [e,zAC,e2]
end Go.Eng.Pure
namespace Go.Eng.Pure
open Go Go.Eng
set_option linter.unusedVariables false
def smKs (l:List (List Str)):Prop:=l.length≤1000000∧∀ k ∈ l,k.length≤1000000∧smKy k
def hasB (axes:List GAxis) (e:GEntry) (key:List Str):Bool:=e.fKeys.any fun k=>sameL axes k key
theorem zOM (axes:List GAxis) (e:GEntry) (key:List Str) (h:smAx axes) (he:smKs e.fKeys) (hk:key.length≤1000000) (hk2:smKy key):zGo axes e key=some (hasB axes e key):=by
  unfold zGo
  rw [zNt e.fKeys (fun x0=>zFM x0 axes key) (fun k=>sameL axes k key) (by have:=he.1; omega) fun k hm=>by
    unfold zFM
    rw [zOu axes k key h (he.2 k hm).2 hk2 (he.2 k hm).1 hk]; rfl]
  rfl
def replB (axes:List GAxis) (e old:GEntry):Bool:=bif axes.isEmpty then e.fVary==old.fVary&&e.fSnapshot==old.fSnapshot else e.fKeys.any fun k=>hasB axes old k
theorem zL5 (axes:List GAxis) (e old:GEntry) (h:smAx axes) (he:smKs e.fKeys) (ho:smKs old.fKeys) (hv:e.fVary.length≤1073741824) (hs:e.fSnapshot.length≤1073741824):zDQ axes e old=some (replB axes e old):=by
  unfold zDQ replB
  cases hx:axes with
  | nil =>
    rw [show ((([]:List GAxis).length:Int)==0)=true from rfl,zAC,zIC _ _ hv,zAA,show ([]:List GAxis).isEmpty=true from rfl,zAC]
    cases e.fVary==old.fVary with
    | true=>rw [zAC,zIC _ _ hs]; rfl
    | false=>rfl
  | cons a l =>
    rw [← hx]
    have e1:((axes.length:Int)==0)=false:=by rw [hx]; simp; omega
    have e2:axes.isEmpty=false:=by rw [hx]; rfl
    rw [e1,zAB,e2,zAB,zNt e.fKeys (fun x0=>zCG x0 axes old) (fun k=>hasB axes old k) (by have:=he.1; omega) fun k hm=>by
      unfold zCG
      rw [zOM axes old k h ho (he.2 k hm).1 (he.2 k hm).2]; rfl]
    rfl
end Go.Eng.Pure
namespace Go.Eng.Pure
open Go Go.Eng
set_option linter.unusedVariables false
theorem zN6 (a b:List GAxis) (ha:a.length≤1073741824) (hs:∀ x ∈ a,x.fValues.length≤1073741824):zEO a b=some (decide (a=b)):=by
  unfold zEO zAY
  by_cases hl:a.length=b.length
  · have e:((a.length:Int) !=(b.length:Int))=false:=by simp [hl]
    rw [e,zAB,zIR a b _ hl]
    · by_cases h:a=b <;> simp [h]
    · intro n hn hb
      simp only [zAO,zDT]
      rw [zAK hn,zAC,zAG hn,zAA,zAG hb,zAA,wrs (show n≤4*1073741824 by omega)]
      have hd:(a[n]=b[n])↔(a[n].fName=b[n].fName∧a[n].fValues=b[n].fValues):=by
        constructor
        · intro h; rw [h]; exact ⟨rfl,rfl⟩
        · intro ⟨h1,h2⟩
          cases ha':a[n]; cases hb':b[n]
          rw [ha',hb'] at h1 h2
          simp at h1 h2
          rw [h1,h2]
      by_cases h1:a[n].fName=b[n].fName
      · rw [show (a[n].fName==b[n].fName)=true from by simp [h1],zAC,zIC _ _ (hs _ (List.getElem_mem hn)),zAA,zAA,zAA]
        by_cases h2:a[n].fValues=b[n].fValues
        · rw [if_pos (hd.2 ⟨h1,h2⟩)]; simp [h2]
        · rw [if_neg (fun h=>h2 (hd.1 h).2),show (a[n].fValues==b[n].fValues)=false from by simp [h2]]; rfl
      · rw [show (a[n].fName==b[n].fName)=false from by simp [h1],zAB,zAA,zAA,if_neg (fun h=>h1 (hd.1 h).1)]
        rfl
    · simp only [zAO]
      rw [zAI (Nat.le_refl _),zAB]
  · have e:((a.length:Int) !=(b.length:Int))=true:=by simp; omega
    have:a≠b:=fun h=>hl (by rw [h])
    rw [e,zAC]
    simp [this]
def limN (limit:Int):Nat:=(if limit<0 then 0 else limit).toNat
def putE (t:GTable) (e:GEntry) (axes:List GAxis):List GEntry:=(if t.fAxes=axes then t.fEntries.filter (fun x=>!replB axes e x) else [])++[e]
def putS (t:GTable) (e:GEntry) (axes:List GAxis) (limit:Int):GTable:=⟨axes,(putE t e axes).drop ((putE t e axes).length - limN limit)⟩
def smTb (t:GTable):Prop:=smAx t.fAxes∧(∀ a ∈ t.fAxes,a.fValues.length≤1000000)∧t.fEntries.length≤1000000∧∀ e ∈ t.fEntries,smEn e∧smKs e.fKeys
theorem zPF (t : GTable) (e : GEntry) (axes : List GAxis) (limit : Int) (ht : smTb t) (he : smEn e) (hk : smKs e.fKeys) (ha : smAx axes) (hav : ∀ a ∈ axes, a.fValues.length ≤ 1000000) (hlim : limit ≤ 9223372036854775807) :
    zFB t e axes limit=some (putS t e axes limit):=by
  obtain ⟨ht1,ht2,ht3,ht4⟩:=ht
  have hj : ∀ m : List GEntry, m.length ≤ 1000000 → (∀ x ∈ m, smKs x.fKeys) → ((zAQ m fun x0 => zFG x0 axes e).bind fun l60 =>
      (zD6 e).bind fun r69=>(xapp l60 ([r69]:List GEntry)).bind fun l87 =>
      (xsub l87 (if (wr ((l87.length:Int) - (if limit<0 then 0 else limit)))<0 then 0 else (wr ((l87.length:Int) - (if limit<0 then 0 else limit)))) l87.length).bind fun l96 =>
      some (⟨axes,l96⟩:GTable))=some ⟨axes,((m.filter fun x=>!replB axes e x)++[e]).drop (((m.filter fun x=>!replB axes e x)++[e]).length - limN limit)⟩:=by
    intro m hm hks
    rw [zPd m _ (fun x=>replB axes e x) (by omega) (fun x hx=>by
      unfold zFG
      rw [zL5 axes e x ha hk (hks x hx) (by have:=he.2.2.1; omega) (by have:=he.2.2.2.1; omega)]; rfl),zAA,zH2 e he,zAA]
    have hfl:=List.length_filter_le (fun x=>!replB axes e x) m
    rw [zAj (by omega) (zA5 _),zAA]
    generalize hM:(m.filter fun x=>!replB axes e x)++[e]=M
    have hMl:M.length≤1000001:=by rw [← hM,List.length_append,List.length_singleton]; omega
    have hw:(if (wr ((M.length:Int) - (if limit<0 then 0 else limit)))<0 then (0:Int) else (wr ((M.length:Int) - (if limit<0 then 0 else limit))))=((M.length - limN limit:Nat):Int):=by
      unfold limN
      by_cases h0:limit<0
      · rw [if_pos h0,wr_eq ⟨by omega,by omega⟩,if_neg (by omega)]; simp
      · rw [if_neg h0,wr_eq ⟨by omega,by omega⟩]
        split <;> omega
    rw [hw,zCl (by omega),zAA]
  unfold zFB putS putE
  rw [zJ8 t (by have:=ht1.1; omega) (fun a h=>by have:=ht2 a h; omega) (by omega) (fun x h=>(ht4 x h).1),zAA,zN6 _ _ (by have:=ht1.1; omega) (fun a h=>by have:=ht2 a h; omega),zAA]
  by_cases hx:t.fAxes=axes
  · rw [decide_eq_true hx,Bool.not_true,zAB,zAA,if_pos hx]
    simp only []
    rw [hx]
    exact hj t.fEntries ht3 fun x h=>(ht4 x h).2
  · rw [decide_eq_false hx,Bool.not_false,zAC,zId axes (by have:=ha.1; omega) (fun a h=>by have:=hav a h; omega),zAA,zAA,if_neg hx]
    simp only []
    exact hj [] (by simp) (by simp)
end Go.Eng.Pure
namespace Go.Eng.Pure
open Go Go.Eng
set_option linter.unusedVariables false
def lastI {α:Type} (l:List α) (p:α→Bool):Nat→Int
  | 0=>-1
  | n+1=>if (l[n]?).any p then (n:Int) else lastI l p n
theorem zRD {α:Type} (l:List α) (p:α→Bool):∀ n,lastI l p n=-1∨0≤lastI l p n∧lastI l p n<n
  | 0=>.inl rfl
  | n+1=>by
    unfold lastI
    split
    · exact .inr ⟨by omega,by omega⟩
    · rcases zRD l p n with h | h
      · exact .inl h
      · exact .inr ⟨h.1,by omega⟩
theorem zLs (l:List GEntry) (f:GEntry→Option Bool) (p:GEntry→Bool) (hl:l.length≤1073741824) (h:∀ x ∈ l,f x=some (p x)):zE6 l f=some (lastI l p l.length):=by
  have key:∀ n,n≤l.length→zAF (zCv l f) ((n:Int) - 1)=some (if lastI l p n=-1 then .inl () else .inr (lastI l p n)):=by
    intro n
    induction n with
    | zero =>
      intro _
      rw [zAE (r:=.inl ())]
      · rfl
      · simp only [zCv]; rfl
    | succ n ih =>
      intro hn
      have hlt:n<l.length:=by omega
      have e1:((n+1:Nat):Int) - 1=(n:Int):=by omega
      have hb:zCv l f (n:Int)=some (if p l[n] then .inr (.inr (n:Int)) else .inl ((n:Int) - 1)):=by
        simp only [zCv]
        rw [decide_eq_true (by omega),zAC,zAG hlt,zAA,h _ (List.getElem_mem hlt),zAA,wr_eq ⟨by omega,by omega⟩]
        cases p l[n] <;> rfl
      rw [e1]
      have hg:(l[n]?).any p=p l[n]:=by rw [List.getElem?_eq_getElem hlt]; rfl
      unfold lastI
      rw [hg]
      cases hp:p l[n] with
      | true =>
        rw [hp,if_pos rfl] at hb
        rw [zAE hb,if_pos rfl,if_neg (by omega)]
      | false =>
        rw [hp,if_neg (by simp)] at hb
        rw [zAJ hb,ih (by omega)]
        simp only [Bool.false_eq_true,if_false]
  unfold zE6
  rw [wr_eq ⟨by omega,by omega⟩,key l.length (Nat.le_refl _),zAA]
  by_cases hx:lastI l p l.length=-1
  · rw [if_pos hx]; simp only []; rw [hx]
  · rw [if_neg hx]
theorem zKu {α:Type} (l:List α) (p:α→Bool):∀ n,n≤l.length→decide (0≤lastI l p n)=(l.take n).any p
  | 0,_=>rfl
  | n+1,hn=>by
    have hlt:n<l.length:=by omega
    have hg:(l[n]?).any p=p l[n]:=by rw [List.getElem?_eq_getElem hlt]; rfl
    unfold lastI
    rw [hg,List.take_succ_eq_append_getElem hlt,List.any_append]
    cases hp:p l[n] with
    | true=>simp [hp]
    | false =>
      rw [if_neg (by simp),zKu l p n (by omega)]; simp [hp]
end Go.Eng.Pure
namespace Go.Eng.Pure
open Go Go.Eng
set_option linter.unusedVariables false
def asc:List Str→Bool
  | a :: b :: l=>Op.bytesLess a b&&asc (b :: l)
  | _=>true
theorem zOf (l : List Str) (body : Int → Option (Int ⊕ (Unit ⊕ Bool))) (hl : l.length ≤ 1073741824)
    (h:∀ n (h1:n+1<l.length),body ((n+1:Nat):Int)=some (if Op.bytesLess (l[n]'(by omega)) l[n+1] then .inl ((n+2:Nat):Int) else .inr (.inr false)))
    (h':∀ n,l.length≤n→body (n:Int)=some (.inr (.inl ()))):zAF body 1=some (if asc l then .inl () else .inr false):=by
  have key:∀ (k n:Nat),n+k=l.length→zAF body ((n+1:Nat):Int)=some (if asc (l.drop n) then .inl () else .inr false):=by
    intro k
    induction k with
    | zero =>
      intro n hn
      rw [zAE (h' (n+1) (by omega)),List.drop_of_length_le (by omega)]; rfl
    | succ k ih =>
      intro n hn
      by_cases h1:n+1<l.length
      · have hb:=h n h1
        rw [List.drop_eq_getElem_cons (show n<l.length by omega),List.drop_eq_getElem_cons h1,asc,← List.drop_eq_getElem_cons h1]
        cases hp:Op.bytesLess (l[n]'(by omega)) l[n+1] with
        | true =>
          rw [hp,if_pos rfl] at hb
          rw [zAJ hb,ih (n+1) (by omega),Bool.true_and]
        | false =>
          rw [hp,if_neg (by simp)] at hb
          rw [zAE hb]; rfl
      · rw [zAE (h' (n+1) (by omega))]
        have:l.drop n=[l[n]'(by omega)]:=by
          rw [List.drop_eq_getElem_cons (show n<l.length by omega),List.drop_of_length_le (by omega)]
        rw [this]; rfl
  have:=key l.length 0 (by omega)
  rw [List.drop_zero] at this
  exact this
def zKQ (e:GEntry):Bool:=e.fKeys.isEmpty&&e.fVary.length==e.fSnapshot.length&&asc e.fVary
theorem zMw (e:GEntry) (hv:e.fVary.length≤1073741824):zFZ e=some (zKQ e):=by
  unfold zFZ zKQ
  rw [zOf e.fVary (zCi e) hv]
  · cases hk:e.fKeys with
    | cons k l=>rw [show decide (0<(((k :: l).length:Nat):Int))=true from decide_eq_true (by simp),Bool.true_or,zAC]; rfl
    | nil =>
      rw [show decide (0<((([]:List (List Str)).length:Nat):Int))=false from rfl,Bool.false_or]
      by_cases h1:e.fVary.length=e.fSnapshot.length
      · rw [show ((e.fVary.length:Int) !=(e.fSnapshot.length:Int))=false from by simp [h1],zAB,zAA,show (e.fVary.length==e.fSnapshot.length)=true from by simp [h1]]
        cases asc e.fVary <;> rfl
      · rw [show ((e.fVary.length:Int) !=(e.fSnapshot.length:Int))=true from by simp; omega,zAC,show (e.fVary.length==e.fSnapshot.length)=false from by simp [h1]]; rfl
  · intro n h1
    simp only [zCi]
    rw [zAK h1,zAC,show ((n+1:Nat):Int) - 1=(n:Int) by omega,wr_eq ⟨by omega,by omega⟩,zAG (show n<e.fVary.length by omega),zAA,zAG h1,zAA,wrs (by omega)]
    cases Op.bytesLess (e.fVary[n]'(by omega)) e.fVary[n+1] <;> rfl
  · intro n hn
    simp only [zCi]
    rw [zAI hn,zAB]
end Go.Eng.Pure
namespace Go.Eng.Pure
open Go Go.Eng
set_option linter.unusedVariables false
theorem zI7 (l:List Str) (v:Str) (hl:l.length≤1073741824):zAb l v=some (l.contains v):=by
  have key:∀ (k n:Nat),n+k=l.length→∃ r,zAF (zAc l v) (n:Int)=some r∧(match r with | .inr i=>decide (0≤i) | .inl _=>false)=(l.drop n).contains v:=by
    intro k
    induction k with
    | zero =>
      intro n hn
      have:n=l.length:=by omega
      subst this
      refine ⟨.inl (),zAE ?_,by simp⟩
      simp only [zAc]
      rw [zAI (Nat.le_refl _),zAB]
    | succ k ih =>
      intro n hn
      have hlt:n<l.length:=by omega
      have hb:zAc l v (n:Int)=some (if v==l[n] then .inr (.inr (n:Int)) else .inl ((n+1:Nat):Int)):=by
        simp only [zAc]
        rw [zAK hlt,zAC,zAG hlt,zAA,wrs (show n≤4*1073741824 by omega)]
        cases v==l[n] <;> rfl
      rw [List.drop_eq_getElem_cons hlt,List.contains_cons]
      cases hp:v==l[n] with
      | true =>
        rw [hp,if_pos rfl] at hb
        exact ⟨_,zAE hb,by simp⟩
      | false =>
        rw [hp,if_neg (by simp)] at hb
        obtain ⟨r,h1,h2⟩:=ih (n+1) (by omega)
        exact ⟨r,by rw [zAJ hb,h1],by rw [h2]; rfl⟩
  obtain ⟨r,h1,h2⟩:=key l.length 0 (by omega)
  unfold zAb zBg
  rw [show (0:Int)=((0:Nat):Int) from rfl,h1,zAA]
  rw [List.drop_zero] at h2
  cases r with
  | inl u=>simp only [] at h2 ⊢; rw [← h2]; rfl
  | inr i=>simp only [] at h2 ⊢; rw [← h2]; rfl
def inAx:List GAxis→List Str→Bool
  | a :: l,x :: xs=>a.fValues.contains x&&inAx l xs
  | [],_=>true
  | _ :: _,[]=>false
def zHc (axes:List GAxis) (k:List Str):Bool:=k.length==axes.length&&inAx axes k
def zMN (axes:List GAxis) (e:GEntry):Bool:=decide (1≤e.fKeys.length∧e.fKeys.length≤64∧e.fVary.length+e.fSnapshot.length=0)&&e.fKeys.all (zHc axes)
theorem zOU (axes : List GAxis) (k : List Str) (hl : axes.length ≤ 1073741824) (hv : ∀ a ∈ axes, a.fValues.length ≤ 1073741824) (hk : k.length = axes.length) :
    zAF (zBx axes k) 0=some (if inAx axes k then .inl () else .inr (.inr (.inr false))):=by
  have key:∀ (j n:Nat),n+j=axes.length→zAF (zBx axes k) (n:Int)=some (if inAx (axes.drop n) (k.drop n) then .inl () else .inr (.inr (.inr false))):=by
    intro j
    induction j with
    | zero =>
      intro n hn
      have:n=axes.length:=by omega
      subst this
      rw [zAE (r:=.inl ())]
      · rw [List.drop_length]; rfl
      · simp only [zBx]
        rw [zAI (Nat.le_refl _),zAB]
    | succ j ih =>
      intro n hn
      have hlt:n<axes.length:=by omega
      have hb:zBx axes k (n:Int)=some (if axes[n].fValues.contains (k[n]'(by omega)) then .inl ((n+1:Nat):Int) else .inr (.inr (.inr (.inr false)))):=by
        simp only [zBx]
        rw [zAK hlt,zAC,zAG hlt,zAA,zAG (show n<k.length by omega),zAA,zI7 _ _ (hv _ (List.getElem_mem hlt)),zAA,wrs (show n≤4*1073741824 by omega)]
        cases axes[n].fValues.contains (k[n]'(by omega)) <;> rfl
      rw [List.drop_eq_getElem_cons hlt,List.drop_eq_getElem_cons (show n<k.length by omega),inAx]
      cases hp:axes[n].fValues.contains (k[n]'(by omega)) with
      | true =>
        rw [hp,if_pos rfl] at hb
        rw [zAJ hb,ih (n+1) (by omega),Bool.true_and]
      | false =>
        rw [hp,if_neg (by simp)] at hb
        rw [zAE hb]; rfl
  have:=key axes.length 0 (by omega)
  rw [List.drop_zero,List.drop_zero] at this
  exact this
theorem zOF (axes : List GAxis) (e : GEntry) (hl : axes.length ≤ 1073741824) (hv : ∀ a ∈ axes, a.fValues.length ≤ 1073741824) (hk : e.fKeys.length ≤ 1073741824) (h1 : e.fVary.length ≤ 1073741824) (h2 : e.fSnapshot.length ≤ 1073741824) :
    zGE axes e=some (zMN axes e):=by
  have hloop:zAF (zCN axes e) 0=some (if e.fKeys.any (fun k=>!zHc axes k) then .inr false else .inl ()):=by
    refine zCY (zCN axes e) e.fKeys (fun k=>!zHc axes k) (.inr false) (.inl ()) ?_ ?_
    · intro n hn
      simp only [zCN]
      rw [zAK hn,zAC,zAG hn,zAA]
      unfold zHc
      by_cases hkl:e.fKeys[n].length=axes.length
      · rw [show ((e.fKeys[n].length:Int) !=(axes.length:Int))=false from by simp [hkl],zAB,zOU axes _ hl hv hkl,zAA,show (e.fKeys[n].length==axes.length)=true from by simp [hkl],Bool.true_and,wrs (show n≤4*1073741824 by omega)]
        cases inAx axes e.fKeys[n] <;> rfl
      · rw [show ((e.fKeys[n].length:Int) !=(axes.length:Int))=true from by simp; omega,zAC,show (e.fKeys[n].length==axes.length)=false from by simp [hkl]]; rfl
    · simp only [zCN]
      rw [zAI (Nat.le_refl _),zAB]
  have hany:e.fKeys.any (fun k=>!zHc axes k)=!e.fKeys.all (zHc axes):=by
    rw [List.all_eq_not_any_not]; simp
  unfold zGE zMN
  rw [hloop,wr_eq ⟨by omega,by omega⟩]
  by_cases hc:1≤e.fKeys.length∧e.fKeys.length≤64∧e.fVary.length+e.fSnapshot.length=0
  · rw [decide_eq_true hc,Bool.true_and]
    have e1:((decide ((e.fKeys.length:Int)<1)||decide (64<(e.fKeys.length:Int)))||decide (0<(e.fVary.length:Int)+(e.fSnapshot.length:Int)))=false:=by
      rw [decide_eq_false (by omega),decide_eq_false (by omega),decide_eq_false (by omega)]; rfl
    rw [e1,zAB,zAA,hany]
    cases e.fKeys.all (zHc axes) <;> rfl
  · rw [decide_eq_false hc,Bool.false_and]
    have e1:((decide ((e.fKeys.length:Int)<1)||decide (64<(e.fKeys.length:Int)))||decide (0<(e.fVary.length:Int)+(e.fSnapshot.length:Int)))=true:=by
      simp only [Bool.or_eq_true,decide_eq_true_eq]; omega
    rw [e1,zAC]
end Go.Eng.Pure
namespace Go.Eng.Pure
open Go Go.Eng
set_option linter.unusedVariables false
def okAt (t:GTable) (i:Nat):Bool:=(t.fEntries[i]?).any fun e=>bif t.fAxes.isEmpty then zKQ e else zMN t.fAxes e&&!((t.fEntries.take i).any fun x=>replB t.fAxes e x)
def zNX (t:GTable) (limit:Int):Bool:=decide ((t.fEntries.length:Int)≤limit)&&(t.fAxes.isEmpty||valB t.fAxes)&&(List.range t.fEntries.length).all (okAt t)
theorem zMu (t:GTable) (ht:smTb t):zAF (zCO t) 0=some (if (List.range t.fEntries.length).any (fun i=>!okAt t i) then .inr false else .inl ()):=by
  obtain ⟨ht1,ht2,ht3,ht4⟩:=ht
  refine zCY (zCO t) (List.range t.fEntries.length) (fun i=>!okAt t i) (.inr false) (.inl ()) ?_ ?_
  · intro n hn
    have hlt:n<t.fEntries.length:=by simpa using hn
    obtain ⟨he,hk⟩:=ht4 _ (List.getElem_mem hlt)
    rw [List.getElem_range]
    unfold okAt
    rw [List.getElem?_eq_getElem hlt,Option.any_some]
    simp only [zCO]
    rw [zAK hlt,zAC,zAG hlt,zAA]
    cases hx:t.fAxes with
    | nil =>
      rw [show ((([]:List GAxis).length:Int)==0)=true from rfl,zAC,zMw _ (by have:=he.2.2.1; omega),zAA,wrs (show n≤4*1073741824 by omega),show ([]:List GAxis).isEmpty=true from rfl,zAC]
      cases zKQ t.fEntries[n] <;> rfl
    | cons a l =>
      rw [← hx]
      have e0:((t.fAxes.length:Int)==0)=false:=by rw [hx]; simp; omega
      have e2:t.fAxes.isEmpty=false:=by rw [hx]; rfl
      rw [e0,zAB,e2,zAB,zOF t.fAxes _ (by have:=ht1.1; omega) (fun a h=>by have:=ht2 a h; omega) (by have:=hk.1; omega) (by have:=he.2.2.1; omega) (by have:=he.2.2.2.1; omega),zAA]
      cases zMN t.fAxes t.fEntries[n] with
      | false=>rfl
      | true =>
        rw [Bool.not_true,zAB,zD8 (show n≤t.fEntries.length by omega),zAA,zLs (t.fEntries.take n) _ (fun x=>replB t.fAxes t.fEntries[n] x) (by rw [List.length_take]; omega) (fun x hx'=>by
          unfold zEu
          rw [zL5 t.fAxes _ x ht1 hk (ht4 x (List.mem_of_mem_take hx')).2 (by have:=he.2.2.1; omega) (by have:=he.2.2.2.1; omega)]; rfl),zAA,zAA,zKu _ _ _ (Nat.le_refl _),List.take_length,wrs (show n≤4*1073741824 by omega)]
        cases (t.fEntries.take n).any fun x=>replB t.fAxes t.fEntries[n] x <;> rfl
  · simp only [zCO]
    rw [List.length_range,zAI (Nat.le_refl _),zAB]
theorem zMp (t:GTable) (limit:Int) (ht:smTb t) (hA:∀ a ∈ t.fAxes,smA a):zFQ t limit=some (zNX t limit):=by
  unfold zFQ zNX
  rw [zMu t ht,zJO _ hA]
  have hany:(List.range t.fEntries.length).any (fun i=>!okAt t i)=!(List.range t.fEntries.length).all (okAt t):=by
    rw [List.all_eq_not_any_not]; simp
  rw [hany]
  by_cases hl:limit<(t.fEntries.length:Int)
  · rw [decide_eq_true hl,zAC,zAA,zAC,decide_eq_false (by omega)]; rfl
  · rw [decide_eq_false hl,zAB,show decide ((t.fEntries.length:Int)≤limit)=true from decide_eq_true (by omega),Bool.true_and]
    cases hx:t.fAxes with
    | nil =>
      rw [show decide (0<((([]:List GAxis).length:Nat):Int))=false from rfl,zAB]
      cases (List.range t.fEntries.length).all (okAt t) <;> rfl
    | cons a l =>
      rw [← hx,show decide (0<(t.fAxes.length:Int))=true from decide_eq_true (by rw [hx]; simp),zAC,show t.fAxes.isEmpty=false from by rw [hx]; rfl]
      cases valB t.fAxes <;> cases (List.range t.fEntries.length).all (okAt t) <;> rfl
end Go.Eng.Pure
