/- A part. -/
import Derived.Test.YtipgfplekgdoiaaGreatDoorVarsQ
set_option linter.unusedVariables false
namespace Go.Eng.Pure
open Go Go.Eng
set_option linter.unusedVariables false
def okV (d:Gvariants_domain) (prev:List Str) (v:Str):Bool:=(formD d v).2&&!(prev.any fun u=>(formD d u).1==(formD d v).1)
def axV (a:GAxis):Bool:=(decide (1≤a.fValues.length)&&decide (a.fValues.length≤16))&&chk (okV (domF a.fName)) [] a.fValues
def smA (a:GAxis):Prop:=a.fName.length≤1000000∧∀ v ∈ a.fValues,v.length≤1000000
theorem zLv {β:Type} (m:List (Str×β)) (k k':Str) (v z:β):(mget (mset m k v) k' z).1=if k'==k then v else (mget m k' z).1:=by
  unfold mget
  rw [zM6]
  cases k'==k <;> rfl
theorem zOY (a : GAxis) (h : smA a) (hl : a.fValues.length ≤ 16) : ∀ (k n : Nat) (m : List (Str × Bool)), n + k = a.fValues.length → (∀ q, (mget m q false).1 = (a.fValues.take n).any fun u => (formD (domF a.fName) u).1 == q) →
    zAF (zBI a (domF a.fName)) ((n:Int),m)=some (if chk (okV (domF a.fName)) (a.fValues.take n) (a.fValues.drop n) then .inl () else .inr false):=by
  intro k
  induction k with
  | zero =>
    intro n m hn hI
    have:n=a.fValues.length:=by omega
    subst this
    have hb:zBI a (domF a.fName) ((a.fValues.length:Int),m)=some (.inr (.inl ())):=by
      unfold zBI
      simp only []
      rw [zAH (Nat.le_refl _),zAB]
    rw [zAE hb,List.drop_length]; rfl
  | succ k ih =>
    intro n m hn hI
    have hlt:n<a.fValues.length:=by omega
    have hm:=h.2 _ (List.getElem_mem hlt)
    conv=>rhs; rw [List.drop_eq_getElem_cons hlt]
    unfold chk
    generalize hv:a.fValues[n]=v at *
    have hb:zBI a (domF a.fName) ((n:Int),m)=some (if okV (domF a.fName) (a.fValues.take n) v then .inl (((n+1:Nat):Int),mset m (formD (domF a.fName) v).1 true) else .inr (.inr false)):=by
      unfold zBI okV
      simp only []
      rw [zAK hlt,zAC,zAG hlt,hv,zAA,zMs _ v hm,zAA,zAA,hI,wrs (by omega)]
      cases (formD (domF a.fName) v).2 <;> cases (a.fValues.take n).any (fun u=>(formD (domF a.fName) u).1==(formD (domF a.fName) v).1) <;> rfl
    cases ho:okV (domF a.fName) (a.fValues.take n) v with
    | false=>rw [ho] at hb; rw [zAE hb]; rfl
    | true =>
      rw [ho] at hb
      rw [zAI hb,ih (n+1) _ (by omega) ?_,Bool.true_and,zAl hlt,hv]
      intro q
      rw [zLv,zAl hlt,hv,List.any_append,hI q]
      simp only [List.any_cons,List.any_nil,Bool.or_false]
      have e:(q==(formD (domF a.fName) v).1)=((formD (domF a.fName) v).1==q):=by
        rw [Bool.eq_iff_iff,beq_iff_eq,beq_iff_eq]; exact ⟨Eq.symm,Eq.symm⟩
      rw [e]
      cases (formD (domF a.fName) v).1==q <;> simp
theorem lt1 (n:Nat):decide ((n:Int)<1)=!decide (1≤n):=by
  rw [Bool.eq_iff_iff]; simp only [decide_eq_true_eq,Bool.not_eq_true',decide_eq_false_iff_not]; omega
theorem gt16 (n:Nat):decide ((16:Int)<(n:Int))=!decide (n≤16):=by
  rw [Bool.eq_iff_iff]; simp only [decide_eq_true_eq,Bool.not_eq_true',decide_eq_false_iff_not]; omega
theorem gt4 (n:Nat):decide ((4:Int)<(n:Int))=!decide (n≤4):=by
  rw [Bool.eq_iff_iff]; simp only [decide_eq_true_eq,Bool.not_eq_true',decide_eq_false_iff_not]; omega
theorem zPi (a:GAxis) (h:smA a):zEo a=some (axV a):=by
  unfold zEo axV
  rw [lt1,gt16]
  by_cases h1:1≤a.fValues.length
  · by_cases h2:a.fValues.length≤16
    · rw [decide_eq_true h1,decide_eq_true h2,zNh _ (by have:=h.1; omega)]
      simp only [Bool.not_true,Bool.or_self,zAB,zAA,Bool.and_self,Bool.true_and]
      have:=zOY a h h2 a.fValues.length 0 [] (by omega) (fun q=>rfl)
      rw [show ((0:Nat):Int)=0 from rfl,List.take_zero,List.drop_zero] at this
      rw [this,zAA]
      cases chk (okV (domF a.fName)) [] a.fValues <;> rfl
    · rw [decide_eq_false h2]; simp
  · rw [decide_eq_false h1]; simp
def axN (a:GAxis):Bool:=(tok a.fName&&(lower a.fName==a.fName))&&axV a
theorem zIv (a:GAxis) (h:smA a):zCu a=some (axN a):=by
  have hn:=h.1
  unfold zCu axN axV
  rw [zCs _ (by omega),zAA,lt1,gt16]
  have hlow:(bif !tok a.fName then some true else (zBl a.fName).bind fun r13=>some (r13 !=a.fName))=some (!(tok a.fName&&(lower a.fName==a.fName))):=by
    rw [zEu _ (by omega),zAA]
    cases tok a.fName <;> rfl
  rw [hlow,zAA]
  cases (tok a.fName&&(lower a.fName==a.fName)) with
  | false=>rfl
  | true =>
    by_cases h1:1≤a.fValues.length
    · by_cases h2:a.fValues.length≤16
      · rw [decide_eq_true h1,decide_eq_true h2]
        simp only [Bool.not_true,Bool.or_self,zAB,Bool.and_self,Bool.true_and]
        have:=zLT a.fValues (okV (domF a.fName)) (zB4 a) ?_ ?_
        · rw [this,zAA]
          cases chk (okV (domF a.fName)) [] a.fValues <;> rfl
        · intro n hlt
          have hm:=h.2 _ (List.getElem_mem hlt)
          unfold zB4 okV
          rw [zAK hlt,zAC,zAG hlt,zAA]
          generalize hv:a.fValues[n]=v at *
          rw [zOZ _ _ (by omega) hm,zAA]
          cases (formD (domF a.fName) v).2 with
          | false=>rfl
          | true =>
            rw [Bool.not_true,zAB]
            have hw:zAF (zBw a (n:Int)) 0=some (if (a.fValues.take n).any (fun u=>(formD (domF a.fName) u).1==(formD (domF a.fName) v).1) then .inr (.inr (.inr false)) else .inl ()):=by
              refine zDe (ρ:=Unit ⊕ (Int ⊕ (Unit ⊕ Bool))) _ (a.fValues.take n) _ (.inr (.inr (.inr false))) (.inl ()) ?_ ?_
              · intro i hi
                have hi2:i<n:=by rw [List.length_take] at hi; omega
                have hi3:i<a.fValues.length:=by omega
                have hmi:=h.2 _ (List.getElem_mem hi3)
                unfold zBw
                rw [zAK hi2,zAC,zAG hlt,hv,zAA,zAG hi3,zAA,zN2 _ _ _ (by omega) hm hmi,zAA,List.getElem_take,wrs (by omega)]
                have e:((formD (domF a.fName) v).1==(formD (domF a.fName) a.fValues[i]).1)=((formD (domF a.fName) a.fValues[i]).1==(formD (domF a.fName) v).1):=by
                  rw [Bool.eq_iff_iff,beq_iff_eq,beq_iff_eq]; exact ⟨Eq.symm,Eq.symm⟩
                rw [e]
                cases (formD (domF a.fName) a.fValues[i]).1==(formD (domF a.fName) v).1 <;> simp
              · unfold zBw
                have:(a.fValues.take n).length=n:=by rw [List.length_take]; omega
                rw [this,zAH (Nat.le_refl _),zAB]
            rw [hw,zAA,wrs (by omega)]
            cases (a.fValues.take n).any (fun u=>(formD (domF a.fName) u).1==(formD (domF a.fName) v).1) <;> rfl
        · unfold zB4
          rw [zAH (Nat.le_refl _),zAB]
      · rw [decide_eq_false h2]; simp
    · rw [decide_eq_false h1]; simp
def okA (prev:List GAxis) (a:GAxis):Bool:=axN a&&!(prev.any fun b=>a.fName==b.fName)
def valB (l:List GAxis):Bool:=(decide (1≤l.length)&&decide (l.length≤4))&&chk okA [] l
theorem zHH (l:List GAxis) (h:∀ a ∈ l,smA a):zBd l=some (valB l):=by
  unfold zBd valB
  rw [lt1,gt4]
  by_cases h1:1≤l.length
  · by_cases h2:l.length≤4
    · rw [decide_eq_true h1,decide_eq_true h2]
      simp only [Bool.not_true,Bool.or_self,zAB,Bool.and_self,Bool.true_and]
      have:=zLT l okA (zCH l) ?_ ?_
      · rw [this,zAA]
        cases chk okA [] l <;> rfl
      · intro n hlt
        have hm:=h _ (List.getElem_mem hlt)
        unfold zCH okA axN
        rw [zAK hlt,zAC,zAG hlt,zAA]
        generalize hv:l[n]=a at *
        have hn:=hm.1
        rw [zCk _ (by omega),zAA,zBL _ (by omega),zAA,zPi a hm]
        have hw:zAF (zCE a (l.take n)) 0=some (if (l.take n).any (fun b=>a.fName==b.fName) then .inr (.inr (.inr false)) else .inl ()):=by
          refine zDe (ρ:=Unit ⊕ (Int ⊕ (Unit ⊕ Bool))) _ (l.take n) _ (.inr (.inr (.inr false))) (.inl ()) ?_ ?_
          · intro i hi
            have hi2:i<n:=by rw [List.length_take] at hi; omega
            unfold zCE
            rw [zAK hi,zAC,zAG hi,zAA,wrs (by omega)]
            cases a.fName==(l.take n)[i].fName <;> simp
          · unfold zCE
            rw [zAH (Nat.le_refl _),zAB]
        rw [zD9 (by omega),wrs (by omega)]
        simp only [zAA]
        rw [hw]
        have e:(lower a.fName !=a.fName)=!(lower a.fName==a.fName):=rfl
        rw [e]
        cases tok a.fName <;> cases lower a.fName==a.fName <;> cases axV a <;> cases (l.take n).any (fun b=>a.fName==b.fName) <;> rfl
      · unfold zCH
        rw [zAH (Nat.le_refl _),zAB]
    · rw [decide_eq_false h2]; simp
  · rw [decide_eq_false h1]; simp
theorem zPI (l:List GAxis) (h:∀ a ∈ l,smA a):zGw l=some (valB l):=by
  unfold zGw valB
  rw [lt1,gt4]
  by_cases h1:1≤l.length
  · by_cases h2:l.length≤4
    · rw [decide_eq_true h1,decide_eq_true h2]
      simp only [Bool.not_true,Bool.or_self,zAB,Bool.and_self,Bool.true_and]
      have:=zLT l okA (zDh l) ?_ ?_
      · rw [this,zAA]
        cases chk okA [] l <;> rfl
      · intro n hlt
        have hm:=h _ (List.getElem_mem hlt)
        have hx:=zAG hlt
        unfold zDh okA
        rw [zAK hlt,zAC,hx,zAA]
        generalize hv:l[n]=a at *
        rw [zIv a hm,zAA]
        have hw:zAF (zDV l (n:Int)) 0=some (if (l.take n).any (fun b=>a.fName==b.fName) then .inr (.inr (.inr false)) else .inl ()):=by
          refine zDe (ρ:=Unit ⊕ (Int ⊕ (Unit ⊕ Bool))) _ (l.take n) _ (.inr (.inr (.inr false))) (.inl ()) ?_ ?_
          · intro i hi
            have hi2:i<n:=by rw [List.length_take] at hi; omega
            have hi3:i<l.length:=by omega
            unfold zDV
            rw [zAK hi2,zAC,hx,zAA,zAG hi3,zAA,wrs (by omega),List.getElem_take]
            cases a.fName==l[i].fName <;> simp
          · unfold zDV
            have:(l.take n).length=n:=by rw [List.length_take]; omega
            rw [this,zAH (Nat.le_refl _),zAB]
        rw [hw,wrs (by omega)]
        cases axN a <;> cases (l.take n).any (fun b=>a.fName==b.fName) <;> rfl
      · unfold zDh
        rw [zAH (Nat.le_refl _),zAB]
    · rw [decide_eq_false h2]; simp
  · rw [decide_eq_false h1]; simp
end Go.Eng.Pure
namespace Go.Eng.Pure
open Go Go.Eng
set_option linter.unusedVariables false
theorem zSJ (ms:List Str) (f:Str→Option Bool) (p:Str→Bool) (hl:ms.length≤1073741824) (h:∀ m ∈ ms,f m=some (p m)):zAq ms f=some (match ms.findIdx? p with | some i=>(i:Int) | none=>-1):=by
  have key:∀ (k n:Nat),n+k=ms.length→zAF (zAX ms f) (n:Int)=some (match (ms.drop n).findIdx? p with | some i=>.inr ((n+i:Nat):Int) | none=>.inl ()):=by
    intro k
    induction k with
    | zero =>
      intro n hn
      obtain rfl:n=ms.length:=by omega
      rw [zAE (r:=.inl ())]
      · rw [List.drop_length]; rfl
      · simp only [zAX,zAH (Nat.le_refl ms.length),zAB]
    | succ k ih =>
      intro n hn
      have hlt:n<ms.length:=by omega
      have hb:zAX ms f (n:Int)=some (if p ms[n] then .inr (.inr (n:Int)) else .inl ((n+1:Nat):Int)):=by
        simp only [zAX,zAK hlt,zAC,zAG hlt,zAA,h _ (List.getElem_mem hlt),wrs (show n≤4*1073741824 by omega)]
        cases p ms[n] <;> rfl
      rw [List.drop_eq_getElem_cons hlt,List.findIdx?_cons]
      cases hp:p ms[n] with
      | true =>
        rw [hp,if_pos rfl] at hb
        rw [zAE hb]; rfl
      | false =>
        rw [hp,if_neg (by decide)] at hb
        rw [zAI hb,ih (n+1) (by omega)]
        cases hd:(ms.drop (n+1)).findIdx? p with
        | none=>rfl
        | some i=>simp; omega
  have:=key ms.length 0 (by omega)
  rw [show ((0:Nat):Int)=0 from rfl,List.drop_zero] at this
  unfold zAq
  rw [this,zAA]
  cases ms.findIdx? p with
  | none=>rfl
  | some i=>simp
def samV (a:GAxis) (k v:Str):Bool:=(formD (domF a.fName) v).1==(formD (domF a.fName) k).1
def resL:List GAxis→List Str→List Str→Option (List Str)
  | a :: al,k :: kl,acc=>match a.fValues.find? (samV a k) with | some v=>resL al kl (acc++[v]) | none=>none
  | _,_,acc=>some acc
def resS (axes:List GAxis) (key:List Str):List Str×Bool :=
  if key.length=axes.length then match resL axes key [] with | some l=>(l,true) | none=>([],false) else ([],false)
theorem zR4 {α:Type} (p:α→Bool) (l:List α):match l.findIdx? p with | some i=>∃ h:i<l.length,l.find? p=some l[i] | none=>l.find? p=none:=by
  induction l with
  | nil=>rfl
  | cons x l ih =>
    rw [List.findIdx?_cons,List.find?_cons]
    cases hp:p x with
    | true=>exact ⟨by simp,rfl⟩
    | false =>
      simp only [Bool.false_eq_true,if_false]
      cases hi:l.findIdx? p with
      | none=>rw [hi] at ih; exact ih
      | some i =>
        rw [hi] at ih
        obtain ⟨h,e⟩:=ih
        exact ⟨by simp; omega,by rw [e]; rfl⟩
theorem zQy (axes : List GAxis) (key : List Str) (hlen : key.length = axes.length) (hl : axes.length ≤ 1000) (ha : ∀ a ∈ axes, smA a ∧ a.fValues.length ≤ 1000) (hk : ∀ v ∈ key, v.length ≤ 1000000) :
    ∀ (k n:Nat) (m:List Str),n+k=axes.length→m.length=axes.length →
      zAF (zAh axes key) ((n:Int),m)=some (match resL (axes.drop n) (key.drop n) (m.take n) with | some l=>.inl l | none=>.inr ([],false)):=by
  intro k
  induction k with
  | zero =>
    intro n m hn hm
    have:n=axes.length:=by omega
    subst this
    have hb:zAh axes key ((axes.length:Int),m)=some (.inr (.inl m)):=by
      unfold zAh
      simp only []
      rw [zAH (Nat.le_refl _),zAB]
    rw [zAE hb,List.drop_length,← hm,List.take_length]; rfl
  | succ k ih =>
    intro n m hn hm
    have hlt:n<axes.length:=by omega
    have hlt2:n<key.length:=by omega
    have hlt3:n<m.length:=by omega
    obtain ⟨hs,hv⟩:=ha _ (List.getElem_mem hlt)
    have hkn:=hk _ (List.getElem_mem hlt2)
    rw [List.drop_eq_getElem_cons hlt,List.drop_eq_getElem_cons hlt2]
    unfold resL
    have hx:=zAG hlt
    have hxk:=zAG hlt2
    generalize axes[n]=a at *
    generalize key[n]=q at *
    have hix:zAq a.fValues (fun x0=>zBX x0 a key (n:Int))=some (match a.fValues.findIdx? (samV a q) with | some i=>(i:Int) | none=>-1):=by
      refine zSJ _ _ _ (by omega) fun v hvm=>?_
      unfold zBX
      rw [hxk,zAA,zNJ _ _ _ (by have:=hs.1; omega) (hs.2 v hvm) hkn,zAA]
      rfl
    have hfi:=zR4 (samV a q) a.fValues
    cases hfind:a.fValues.findIdx? (samV a q) with
    | none =>
      rw [hfind] at hfi hix
      have hb:zAh axes key ((n:Int),m)=some (.inr (.inr ([],false))):=by
        unfold zAh
        simp only []
        rw [zAK hlt,zAC,hx,zAA,hix,zAA]
        rfl
      rw [zAE hb,hfi]
    | some i =>
      rw [hfind] at hfi hix
      obtain ⟨hi,he⟩:=hfi
      have hput:xput m (n:Int) a.fValues[i]=some (m.set n a.fValues[i]):=by unfold xput; rw [if_pos ⟨by omega,by omega⟩,Int.toNat_natCast]
      have hb:zAh axes key ((n:Int),m)=some (.inl (((n+1:Nat):Int),m.set n a.fValues[i])):=by
        unfold zAh
        simp only []
        rw [zAK hlt,zAC,hx,zAA,hix,zAA]
        show (bif decide ((i:Int)<0) then _ else _)=_
        rw [show decide ((i:Int)<0)=false from decide_eq_false (by omega),zAB,zAG hi,zAA,zAG hlt3,zAA,hput,zAA,wrs (by omega)]
      have e1:(m.set n a.fValues[i]).take (n+1)=m.take n++[a.fValues[i]]:=by
        rw [zAl (by rw [List.length_set]; exact hlt3),List.take_set_of_le (Nat.le_refl n),List.getElem_set_self]
      rw [zAI hb,ih (n+1) _ (by omega) (by rw [List.length_set,hm]),e1,he]
theorem zOK (axes:List GAxis) (key:List Str) (hl:axes.length≤1000) (ha:∀ a ∈ axes,smA a∧a.fValues.length≤1000) (hk:∀ v ∈ key,v.length≤1000000):zCp axes key=some (resS axes key):=by
  unfold zCp resS
  rw [neI]
  by_cases hlen:key.length=axes.length
  · rw [show (key.length !=axes.length)=false by simpa using hlen,zAB,if_pos hlen]
    have hmk:xmake (key.length:Int) ([]:Str)=some (List.replicate key.length []):=by
      unfold xmake; rw [if_pos ⟨by omega,by omega⟩,Int.toNat_natCast]
    have:=zQy axes key hlen hl ha hk axes.length 0 (List.replicate key.length []) (by omega) (by rw [List.length_replicate,hlen])
    rw [show ((0:Nat):Int)=0 from rfl,List.drop_zero,List.drop_zero,List.take_zero] at this
    rw [hmk,zAA,this,zAA]
    cases resL axes key [] <;> rfl
  · rw [show (key.length !=axes.length)=true by simpa using hlen,zAC,if_neg hlen]
end Go.Eng.Pure
namespace Go.Eng.Pure
open Go Go.Eng
set_option linter.unusedVariables false
theorem zNa {α:Type} (ok:List α→α→Bool):∀ (l prev:List α),chk ok prev l=true→∀ j (hj:j<l.length),ok (prev++l.take j) l[j]=true
  | [],_,_,j,hj=>absurd hj (by simp)
  | x :: l,prev,h,0,hj=>by
    unfold chk at h
    rw [Bool.and_eq_true] at h
    simpa using h.1
  | x :: l,prev,h,j+1,hj=>by
    unfold chk at h
    rw [Bool.and_eq_true] at h
    have:=zNa ok l (prev++[x]) h.2 j (by simpa using hj)
    simpa using this
end Go.Eng.Pure
namespace Go.Eng.Pure
open Go Go.Eng
set_option linter.unusedVariables false
def sp (c:UInt8):Bool:=c==32
def plB (c:UInt8):Bool:=!(([32,9,40,41,44,34]:Str).contains c)
def qe:Str→Nat→Nat
  | [],i=>i
  | c :: l,i=>if c=92 then (match l with | []=>i+2 | _ :: l'=>qe l' (i+2)) else if c=34 then i else qe l (i+1)
theorem drop2 {s:Str} {i:Nat} (h:i<s.length):(match s.drop (i+1) with | []=>i+2 | _ :: l'=>qe l' (i+2))=qe (s.drop (i+2)) (i+2):=by
  by_cases h2:i+1<s.length
  · rw [List.drop_eq_getElem_cons h2]
  · rw [List.drop_eq_nil_of_le (by omega),List.drop_eq_nil_of_le (by omega)]; rfl
theorem zQS (s:Str) (hs:s.length≤1073741824):∀ (k i:Nat),s.length≤i+k→i≤s.length+1→zAF (zAx s) (i:Int)=some (if qe (s.drop i) i<s.length then .inr ((qe (s.drop i) i+1:Nat):Int) else .inl ()):=by
  intro k
  induction k using Nat.strongRecOn with
  | ind k ih =>
    intro i hk hi
    by_cases hlt:i<s.length
    · have hc:=zAG hlt
      rw [List.drop_eq_getElem_cons hlt]
      generalize s[i]=c at hc
      unfold qe
      by_cases h92:c=92
      · rw [if_pos h92,drop2 hlt]
        have hb:zAx s (i:Int)=some (.inl ((i+2:Nat):Int)):=by
          unfold zAx
          rw [zAK hlt,zAC,hc,zAA,h92,wrs (by omega),wrs (by omega)]; rfl
        rw [zAI hb,ih (k - 2) (by omega) (i+2) (by omega) (by omega)]
      · rw [if_neg h92]
        have e92:(c==92)=false:=by simpa using h92
        by_cases h34:c=34
        · rw [if_pos h34,if_pos hlt]
          have hb:zAx s (i:Int)=some (.inr (.inr ((i+1:Nat):Int))):=by
            unfold zAx
            rw [zAK hlt,zAC,hc,zAA,e92,zAB,h34,wrs (by omega)]; rfl
          rw [zAE hb]
        · rw [if_neg h34]
          have e34:(c==34)=false:=by simpa using h34
          have hb:zAx s (i:Int)=some (.inl ((i+1:Nat):Int)):=by
            unfold zAx
            rw [zAK hlt,zAC,hc,zAA,e92,zAB,e34,zAB,wrs (by omega)]
          rw [zAI hb,ih (k - 1) (by omega) (i+1) (by omega) (by omega)]
    · have hb : zAx s (i : Int) = some (.inr (.inl ())) := by
        unfold zAx
        rw [zAH (by omega),zAB]
      rw [zAE hb,List.drop_eq_nil_of_le (by omega)]
      unfold qe
      rw [if_neg (by omega)]
theorem zPP (s:Str) (hs:s.length≤1073741824):zEv s=some (((if qe (s.drop 1) 1<s.length then qe (s.drop 1) 1+1 else 0:Nat)):Int):=by
  unfold zEv
  have:=zQS s hs s.length 1 (by omega) (by omega)
  rw [show ((1:Nat):Int)=1 from rfl] at this
  rw [this,zAA]
  by_cases h:qe (s.drop 1) 1<s.length
  · rw [if_pos h,if_pos h]
  · rw [if_neg h,if_neg h]; rfl
theorem zKp (cs:Str):∀ s:Str,(Lib.indexAny s cs=-1∧s.takeWhile (fun c=>!cs.contains c)=s)∨(Lib.indexAny s cs=((s.takeWhile (fun c=>!cs.contains c)).length:Int)∧(s.takeWhile (fun c=>!cs.contains c)).length<s.length)
  | []=>.inl ⟨rfl,rfl⟩
  | c :: s=>by
    rw [Lib.indexAny,List.takeWhile_cons]
    cases hc:cs.contains c with
    | true=>exact .inr ⟨by simp,by simp⟩
    | false =>
      rcases zKp cs s with ⟨h1,h2⟩ | ⟨h1,h2⟩
      · refine .inl ⟨by rw [h1]; rfl,by rw [Bool.not_false,if_pos rfl,h2]⟩
      · refine .inr ⟨?_,by rw [Bool.not_false,if_pos rfl,List.length_cons,List.length_cons]; omega⟩
        rw [h1]
        have:(((s.takeWhile (fun c=>!cs.contains c)).length:Int)==-1)=false:=beq_eq_false_iff_ne.2 (by omega)
        simp only [this,Bool.false_eq_true,if_false,Bool.not_false,if_true,List.length_cons]
        push_cast; rfl
theorem zRy (s:Str) (hs:s.length≤1073741824):zHm s=some (((s.takeWhile plB).length:Nat):Int):=by
  unfold zHm zCc
  rw [if_pos ⟨by decide,by decide,by decide,hs⟩,zAA]
  rcases zKp [32,9,40,41,44,34] s with ⟨h1,h2⟩ | ⟨h1,h2⟩
  · rw [h1]
    show some ((s.length:Nat):Int)=_
    have:s.takeWhile plB=s:=h2
    rw [this]
  · rw [h1,decide_eq_true (by omega),zAC]; rfl
def unitN (s:Str):Nat:=if s.head?=some 34 then (if qe (s.drop 1) 1<s.length then qe (s.drop 1) 1+1 else 0) else (s.takeWhile plB).length
def badR (s:Str):Bool:=match s with | []=>false | c :: _=>c !=32
def unitV (s:Str):Option (Str×Str) :=
  if unitN s=0 then none else if badR (s.drop (unitN s)) then none
  else if s.head?=some 34 then (if (unq (s.take (unitN s))).2 then some ((unq (s.take (unitN s))).1,s.drop (unitN s)) else none) else some (s.take (unitN s),s.drop (unitN s))
def grd:Nat→Str→List Str→List Str×Bool
  | 0,_,out=>(out,true)
  | k+1,s,out=>if s.dropWhile sp=[] then (out,true) else match unitV (s.dropWhile sp) with | none=>([],false) | some (v,r)=>grd k r (out++[v])
theorem zLj (s:Str):unitN s≤s.length:=by
  unfold unitN
  split
  · split <;> omega
  · exact (List.takeWhile_sublist _).length_le
theorem zNk {s v r:Str} (h:unitV s=some (v,r)):r.length<s.length:=by
  unfold unitV at h
  have hle:=zLj s
  split at h
  · cases h
  · rename_i h0
    split at h
    · cases h
    · split at h
      · split at h
        · injection h with h; obtain ⟨_,rfl⟩:=Prod.mk.inj h; rw [List.length_drop]; omega
        · cases h
      · injection h with h; obtain ⟨_,rfl⟩:=Prod.mk.inj h; rw [List.length_drop]; omega
theorem zNx (s:Str):(s.dropWhile sp).length≤s.length:=(List.dropWhile_sublist _).length_le
theorem zNp (s:Str):zDq s [32]=some (s.dropWhile sp):=by
  unfold zDq
  cases s with
  | nil=>rfl
  | cons c s =>
    have h1:((c :: s==[])||(([32]:Str)==[]))=false:=rfl
    rw [h1,zAB]
    show ((zBa (c :: s) 32).bind fun r10=>some r10)=_
    unfold zBa
    have:=zIH (zBb 32) sp (fun s c=>by
      unfold zBb
      rw [zLF,zAC,zBF,zAA,zAA]
      have hx:xsub (c :: s) 1 ((c :: s).length:Int)=some s:=by
        have:=zBz (l:=c :: s) (i:=1) (by simp)
        simpa using this
      rw [hx]
      unfold sp
      cases c==32 <;> rfl) (by rfl) (c :: s)
    rw [this]; rfl
theorem zId (c:UInt8) (s:Str):((c :: s).head?=some 34)↔(c==34)=true:=by simp
theorem xsub0 (s:Str) (n:Nat) (h:n≤s.length):xsub s 0 (n:Int)=some (s.take n):=zD9 h
theorem zP0:∀ (k:Nat) (s:Str) (out:List Str),s.length<k→k≤1000000→out.length+k≤2000000→zAF zCT (s,out)=some (grd k s out):=by
  intro k
  induction k with
  | zero=>intro s out h; exact absurd h (Nat.not_lt_zero _)
  | succ k ih =>
    intro s out h hk ho
    have hd:=zNx s
    unfold grd
    have hT:=zNp s
    by_cases hnil:s.dropWhile sp=[]
    · rw [if_pos hnil]
      have hb:zCT (s,out)=some (.inr (out,true)):=by
        unfold zCT
        simp only []
        rw [zNp,zAA,hnil]; rfl
      rw [zAE hb]
    · rw [if_neg hnil]
      generalize s.dropWhile sp=t at *
      have hne:(t==[])=false:=by simpa using hnil
      obtain ⟨c,t',rfl⟩:∃ c t',t=c :: t':=by cases t with
        | nil=>exact absurd rfl hnil
        | cons c t'=>exact ⟨c,t',rfl⟩
      have hN:((bif c==34 then (zEv (c :: t')).bind fun r43=>some r43 else some (((List.takeWhile plB (c :: t')).length:Nat):Int)))=some ((unitN (c :: t'):Nat):Int):=by
        unfold unitN
        by_cases h34:(c==34)=true
        · rw [h34,zAC,zPP _ (by omega),zAA,if_pos ((zId c t').2 h34)]
        · rw [Bool.not_eq_true] at h34
          rw [h34,zAB,if_neg (by rw [zId,h34]; decide)]
      have hle:=zLj (c :: t')
      have hB : (bif (((unitN (c :: t') : Nat) : Int) == 0) then some true else
          (bif decide (((unitN (c :: t'):Nat):Int)<((c :: t').length:Int)) then (xnth (c :: t') ((unitN (c :: t'):Nat):Int)).bind fun c52=>some (c52 !=32) else some false).bind fun b53=>some b53) =
          some (decide (unitN (c :: t')=0)||badR ((c :: t').drop (unitN (c :: t')))):=by
        generalize unitN (c :: t')=n at *
        by_cases h0:n=0
        · subst h0; rfl
        · rw [show (((n:Int)==0):Bool)=false from beq_eq_false_iff_ne.2 (by omega),zAB,decide_eq_false h0,Bool.false_or]
          by_cases hlt:n<(c :: t').length
          · rw [zAK hlt,zAC,zAG hlt,zAA,zAA,List.drop_eq_getElem_cons hlt]; rfl
          · rw [zAH (by omega),zAB,zAA,List.drop_eq_nil_of_le (by omega)]; rfl
      have hb:zCT (s,out)=match unitV (c :: t') with | none=>some (.inr ([],false)) | some (v,r)=>some (.inl (r,out++[v])):=by
        unfold zCT
        simp only []
        rw [hT,zAA,hne,zAB,zRy _ (by omega),zAA,zBF,zAA,hN,zAA,hB,zAA]
        unfold unitV
        by_cases h0:unitN (c :: t')=0
        · rw [if_pos h0,decide_eq_true h0]; rfl
        · rw [if_neg h0,decide_eq_false h0,Bool.false_or]
          cases hbad:badR ((c :: t').drop (unitN (c :: t'))) with
          | true=>rfl
          | false =>
            rw [zAB,if_neg (by decide),xsub0 _ _ hle,zAA,zAA]
            have hux:(unq ((c :: t').take (unitN (c :: t')))).1.length≤(c :: t').length∨True:=.inr trivial
            by_cases h34:(c==34)=true
            · rw [h34,zAC,if_pos ((zId c t').2 h34),zKx _ (by rw [List.length_take]; omega),zAA]
              cases hu:(unq ((c :: t').take (unitN (c :: t')))).2 with
              | false=>rfl
              | true =>
                rw [Bool.not_true,zAB,zAA,if_pos rfl]
                simp only []
                rw [zAc (by omega) (zA1 _),zAA,zBz hle,zAA]
            · rw [Bool.not_eq_true] at h34
              rw [h34,zAB,zAA,if_neg (by rw [zId,h34]; decide)]
              simp only []
              rw [zAc (by omega) (zA1 _),zAA,zBz hle,zAA]
      cases hu:unitV (c :: t') with
      | none=>rw [hu] at hb; rw [zAE hb]
      | some p =>
        obtain ⟨v,r⟩:=p
        rw [hu] at hb
        have h1:=zNk hu
        rw [zAI hb,ih r _ (by omega) (by omega) (by rw [List.length_append,List.length_singleton]; omega)]
def grpS (s:Str):List Str×Bool :=
  if s.length<2∨s.head?≠some 40∨s.getLast?≠some 41 then ([],false) else grd (s.length+1) ((s.drop 1).take (s.length - 2)) []
theorem zQk (s : Str) (hs : s.length ≤ 100000) : (((bif decide ((s.length : Int) < 2) then some true else (xnth s 0).bind fun c3 => some (c3 != 40)).bind fun b4 =>
    (bif b4 then some true else (xnth s (wr ((s.length:Int) - 1))).bind fun c7=>some (c7 !=41))):Option Bool)=some (decide (s.length<2∨s.head?≠some 40∨s.getLast?≠some 41)):=by
  by_cases h2:s.length<2
  · rw [decide_eq_true (show (s.length:Int)<2 by omega),zAC,zAA,zAC,decide_eq_true (.inl h2)]
  · rw [decide_eq_false (show ¬ (s.length:Int)<2 by omega),zAB]
    obtain ⟨c,s',rfl⟩:∃ c s',s=c :: s':=by cases s with
      | nil=>exact absurd (by simp) h2
      | cons c s'=>exact ⟨c,s',rfl⟩
    rw [zBF,zAA,zAA]
    by_cases hc:c=40
    · subst hc
      rw [show ((40:UInt8) !=40)=false from rfl,zAB,zDZ (by omega) (by simp only [List.length_cons] at *; omega)]
      rcases List.eq_nil_or_concat (40 :: s') with h | ⟨a,z,h⟩
      · cases h
      · rw [List.concat_eq_append] at h
        rw [h,zI9,zAA,List.getLast?_concat]
        have hl:¬ (a++[z]).length<2:=by rw [← h]; exact h2
        have hh:(a++[z]).head?=some 40:=by rw [← h]; rfl
        by_cases hz:z=41
        · subst hz; rw [show ((41:UInt8) !=41)=false from rfl,decide_eq_false (by rw [hh]; simp at hl ⊢; omega)]
        · rw [show (z !=41)=true by simpa using hz,decide_eq_true (.inr (.inr (by simpa using hz)))]
    · rw [show (c !=40)=true by simpa using hc,zAC,decide_eq_true (.inr (.inl (by simpa using hc)))]
theorem zM5 (s:Str) (hs:s.length≤100000):zGQ s=some (grpS s):=by
  unfold zGQ grpS
  have hh:=zQk s hs
  rw [← Option.bind_assoc,hh,zAA]
  by_cases h:s.length<2∨s.head?≠some 40∨s.getLast?≠some 41
  · rw [if_pos h,decide_eq_true h]; rfl
  · rw [if_neg h,decide_eq_false h,zAB]
    have h2:2≤s.length:=by omega
    have hx:xsub s 1 (wr ((s.length:Int) - 1))=some ((s.drop 1).take (s.length - 2)):=by
      have hw:=zRs (n:=s.length) (by omega) (by omega)
      rw [hw]
      have:=zGx (l:=s) (i:=1) (j:=s.length - 1) ⟨by omega,by omega⟩
      rw [show ((1:Nat):Int)=1 from rfl] at this
      rw [this,List.drop_take,show s.length - 1 - 1=s.length - 2 by omega]
    rw [hx,zAA,zP0 (s.length+1) _ [] (by rw [List.length_take,List.length_drop]; omega) (by omega) (by simp; omega),zAA]
end Go.Eng.Pure
namespace Go.Eng.Pure
open Go Go.Eng
set_option linter.unusedVariables false
def optL {α β:Type} (f:α→Option β):List α→Option (List β)
  | []=>some []
  | x :: l=>match f x with | none=>none | some y=>match optL f l with | none=>none | some ys=>some (y :: ys)
theorem zOn {α β ρ : Type} (l : List α) (f : α → Option β) (e : ρ) (body : (List β × Int) → Option ((List β × Int) ⊕ (List β ⊕ ρ)))
    (h:∀ n (hn:n<l.length) (out:List β),out.length≤n→body (out,(n:Int))=some (match f l[n] with | some y=>.inl (out++[y],((n+1:Nat):Int)) | none=>.inr (.inr e)))
    (h':∀ out:List β,body (out,(l.length:Int))=some (.inr (.inl out))) :
    ∀ (k n:Nat) (out:List β),n+k=l.length→out.length≤n→zAF body (out,(n:Int))=some (match optL f (l.drop n) with | some ys=>.inl (out++ys) | none=>.inr e):=by
  intro k
  induction k with
  | zero =>
    intro n out hn ho
    have:n=l.length:=by omega
    subst this
    rw [zAE (h' out),List.drop_length]; simp [optL]
  | succ k ih =>
    intro n out hn ho
    have hlt:n<l.length:=by omega
    have hb:=h n hlt out ho
    rw [List.drop_eq_getElem_cons hlt]
    unfold optL
    cases hf:f l[n] with
    | none=>rw [hf] at hb; rw [zAE hb]
    | some y =>
      rw [hf] at hb
      rw [zAI hb,ih (n+1) _ (by omega) (by rw [List.length_append,List.length_singleton]; omega)]
      simp only []
      cases optL f (l.drop (n+1)) with
      | none=>rfl
      | some ys=>simp
theorem zKo {α β ρ : Type} (l : List α) (f : α → Option β) (e : ρ) (body : (List β × Int) → Option ((List β × Int) ⊕ (List β ⊕ ρ)))
    (h:∀ n (hn:n<l.length) (out:List β),out.length≤n→body (out,(n:Int))=some (match f l[n] with | some y=>.inl (out++[y],((n+1:Nat):Int)) | none=>.inr (.inr e)))
    (h':∀ out:List β,body (out,(l.length:Int))=some (.inr (.inl out))):zAF body ([],0)=some (match optL f l with | some ys=>.inl ys | none=>.inr e):=by
  have:=zOn l f e body h h' l.length 0 [] (by omega) (by simp)
  rw [show ((0:Nat):Int)=0 from rfl,List.drop_zero] at this
  rw [this]
  cases optL f l <;> simp
theorem zJl {α β:Type} (f:α→Option β):∀ (l:List α) (ys:List β),optL f l=some ys→ys.length=l.length∧∀ y ∈ ys,∃ x ∈ l,f x=some y
  | [],ys,h=>by cases h; exact ⟨rfl,by simp⟩
  | x :: l,ys,h=>by
    unfold optL at h
    cases hx:f x with
    | none=>rw [hx] at h; cases h
    | some y =>
      rw [hx] at h
      cases hl:optL f l with
      | none=>rw [hl] at h; cases h
      | some zs =>
        rw [hl] at h
        cases h
        obtain ⟨h1,h2⟩:=zJl f l zs hl
        refine ⟨by simp [h1],fun z hz=>?_⟩
        rcases List.mem_cons.1 hz with rfl | hz
        · exact ⟨x,by simp,hx⟩
        · obtain ⟨x',hx',e⟩:=h2 z hz
          exact ⟨x',by simp [hx'],e⟩
def midL (l:List GField):Prop:=l.length≤1000000∧∀ f ∈ l,f.fName.length≤100000∧f.fValue.length≤100000
theorem zP6 {l:List GField} (h:midL l):l.length≤1073741824∧∀ f ∈ l,smF f:=⟨by have:=h.1; omega,fun f hf=>by have:=h.2 f hf; exact ⟨by omega,by omega⟩⟩
theorem zNH {l:List GField} (h:smL l):midL l:=⟨by have:=h.1; omega,fun f hf=>by have:=h.2 f hf; exact ⟨by omega,by omega⟩⟩
theorem zIo {l:List GField} (h:midL l) (n:Str):(allM l n).length≤64∧∀ m ∈ allM l n,m.length≤100000:=⟨zHv l n,zID l n 100000 fun f hf=>(h.2 f hf).2⟩
theorem zSE:∀ (k:Nat) (s:Str) (out:List Str),(∀ v ∈ (grd k s out).1,v ∈ out∨v.length≤s.length)∧(grd k s out).1.length≤out.length+s.length:=by
  intro k
  induction k with
  | zero=>intro s out; exact ⟨fun v h=>.inl h,Nat.le_add_right _ _⟩
  | succ k ih =>
    intro s out
    unfold grd
    split
    · exact ⟨fun v h=>.inl h,Nat.le_add_right _ _⟩
    · cases hu:unitV (s.dropWhile sp) with
      | none=>exact ⟨fun v h=>by simp at h,by simp⟩
      | some p =>
        obtain ⟨v,r⟩:=p
        have h1:=zNk hu
        have h2:=zNx s
        obtain ⟨g1,g2⟩:=ih r (out++[v])
        have hv:v.length≤s.length:=by
          have hle:=zLj (s.dropWhile sp)
          unfold unitV at hu
          split at hu
          · cases hu
          · split at hu
            · cases hu
            · split at hu
              · split at hu
                · injection hu with hu
                  rw [← (Prod.mk.inj hu).1]
                  have:=zP8 ((s.dropWhile sp).take (unitN (s.dropWhile sp)))
                  rw [List.length_take] at this; omega
                · cases hu
              · injection hu with hu
                rw [← (Prod.mk.inj hu).1,List.length_take]; omega
        refine ⟨fun u hu=>?_,?_⟩
        · rcases g1 u hu with h | h
          · rcases List.mem_append.1 h with h | h
            · exact .inl h
            · rw [List.mem_singleton] at h; subst h; exact .inr hv
          · exact .inr (by omega)
        · rw [List.length_append,List.length_singleton] at g2; simp only []; omega
theorem zPL (s:Str):(∀ v ∈ (grpS s).1,v.length≤s.length)∧(grpS s).1.length≤s.length:=by
  unfold grpS
  split
  · exact ⟨fun v h=>by simp at h,by simp⟩
  · obtain ⟨g1,g2⟩:=zSE (s.length+1) ((s.drop 1).take (s.length - 2)) []
    have hl:((s.drop 1).take (s.length - 2)).length≤s.length:=by rw [List.length_take]; omega
    refine ⟨fun v h=>?_,?_⟩
    · rcases g1 v h with h | h
      · simp at h
      · omega
    · simp only [List.length_nil,Nat.zero_add] at g2; omega
def varN:Str:=[86,97,114,105,97,110,116,115]
def keyN:Str:=[86,97,114,105,97,110,116,45,75,101,121]
def memV (m:Str):Option GAxis :=
  if 61 ∈ m then (if (grpS (m.drop (m.idxOf 61+1))).2&&tok (m.take (m.idxOf 61)) then some ⟨lower (m.take (m.idxOf 61)),(grpS (m.drop (m.idxOf 61+1))).1⟩ else none) else none
def parV (l:List GField):List GAxis×Int :=
  if hasF l varN then (match optL memV (allM l varN) with | none=>([],1) | some xs=>if valB xs then (xs,0) else ([],11)) else ([],12)
theorem zRu {m:Str} {a:GAxis} (h:memV m=some a) (hm:m.length≤100000):smA a∧a.fValues.length≤100000:=by
  unfold memV at h
  split at h
  · split at h
    · injection h with h
      subst h
      obtain ⟨h1,h2⟩:=zPL (m.drop (m.idxOf 61+1))
      have hd:(m.drop (m.idxOf 61+1)).length≤m.length:=by rw [List.length_drop]; omega
      refine ⟨⟨?_,fun v hv=>?_⟩,by simp only []; omega⟩
      · simp only []
        rw [zCG,List.length_take]; omega
      · have:=h1 v hv; omega
    · cases h
  · cases h
theorem zPU {l:List GField} (hl:midL l) {xs:List GAxis} (h:optL memV (allM l varN)=some xs):xs.length≤64∧∀ a ∈ xs,smA a∧a.fValues.length≤100000:=by
  obtain ⟨h1,h2⟩:=zJl _ _ _ h
  obtain ⟨a1,a2⟩:=zIo hl varN
  refine ⟨by omega,fun a ha=>?_⟩
  obtain ⟨m,hm,e⟩:=h2 a ha
  exact zRu e (a2 m hm)
theorem zPR (l:List GField) (hl:midL l):zEi l=some (parV l):=by
  obtain ⟨h1,h2⟩:=zP6 hl
  obtain ⟨a1,a2⟩:=zIo hl varN
  unfold zEi parV
  rw [zPV l _ h1 h2 (by decide),zAA]
  show (bif !hasF l varN then _ else _)=_
  cases hasF l varN with
  | false=>rfl
  | true =>
    rw [Bool.not_true,zAB,if_pos rfl,zKJ l _ h1 h2 (by decide),zAA]
    show (zAF (zCK (allM l varN)) ([],0)).bind _=_
    rw [zKo (allM l varN) memV ([],1) _ ?_ ?_]
    · rw [zAA]
      cases ho:optL memV (allM l varN) with
      | none=>rfl
      | some xs =>
        simp only []
        rw [zHH xs fun a ha=>((zPU hl ho).2 a ha).1,zAA]
        cases valB xs <;> rfl
    · intro n hn out ho
      have hm:=a2 _ (List.getElem_mem hn)
      unfold zCK memV
      simp only []
      rw [zAK hn,zAC,zAG hn,zAA]
      generalize (allM l varN)[n]=m at *
      rw [zLg m 61 (by omega),zAA]
      by_cases h61:(61:UInt8) ∈ m
      · rw [if_pos h61,if_pos h61]
        simp only []
        rw [zM5 _ (by rw [List.length_drop]; omega),zAA,zCk _ (by rw [List.length_take]; omega)]
        cases (grpS (m.drop (m.idxOf 61+1))).2 with
        | false=>rfl
        | true =>
          rw [Bool.not_true,zAB,zAA,zAA,Bool.true_and]
          cases tok (m.take (m.idxOf 61)) with
          | false=>rfl
          | true =>
            rw [Bool.not_true,zAB,if_pos rfl,zBL _ (by rw [List.length_take]; omega),zAA,zAc (by omega) (zA1 _),zAA,wrs (by omega)]
      · rw [if_neg h61,if_neg h61]
        simp only []
        rw [zM5 [] (by decide),zAA]
        rfl
    · intro out
      unfold zCK
      simp only []
      rw [zAH (Nat.le_refl _),zAB]
end Go.Eng.Pure
namespace Go.Eng.Pure
open Go Go.Eng
set_option linter.unusedVariables false
theorem zMt (ms:List (List Str)) (f:List Str→Option Bool) (p:List Str→Bool) (hl:ms.length≤1073741824) (h:∀ m ∈ ms,f m=some (p m)):zAO ms f=some (ms.any p):=by
  have key:∀ (k n:Nat),n+k=ms.length→∃ r,zAF (zAS ms f) (n:Int)=some r∧(match r with | .inr e=>(0:Int)≤e∧(ms.drop n).any p=true | .inl _=>(ms.drop n).any p=false):=by
    intro k
    induction k with
    | zero =>
      intro n hn
      obtain rfl:n=ms.length:=by omega
      refine ⟨.inl (),zAE ?_,by rw [List.drop_length]; rfl⟩
      simp only [zAS,zAH (Nat.le_refl ms.length),zAB]
    | succ k ih =>
      intro n hn
      have hlt:n<ms.length:=by omega
      have hb:zAS ms f (n:Int)=some (if p ms[n] then .inr (.inr (n:Int)) else .inl ((n+1:Nat):Int)):=by
        simp only [zAS,zAK hlt,zAC,zAG hlt,zAA,h _ (List.getElem_mem hlt),wrs (show n≤4*1073741824 by omega)]
        cases p ms[n] <;> rfl
      rw [List.drop_eq_getElem_cons hlt,List.any_cons]
      cases hp:p ms[n] with
      | true =>
        rw [hp,if_pos rfl] at hb
        exact ⟨_,zAE hb,by simp only []; exact ⟨by omega,rfl⟩⟩
      | false =>
        rw [hp,if_neg (by decide)] at hb
        obtain ⟨r,hr,hm⟩:=ih (n+1) (by omega)
        refine ⟨r,by rw [zAI hb]; exact hr,?_⟩
        cases r <;> simpa using hm
  obtain ⟨r,hr,hm⟩:=key ms.length 0 (by omega)
  rw [show ((0:Nat):Int)=0 from rfl] at hr
  rw [List.drop_zero] at hm
  unfold zAO zA5
  rw [hr,zAA]
  cases r with
  | inr e=>simp only [] at hm ⊢; rw [zAA,hm.2,decide_eq_true hm.1]
  | inl u=>simp only [] at hm ⊢; rw [zAA,hm]; rfl
def memK (m:Str):Option (List Str):=if (grpS m).2 then some (grpS m).1 else none
def addK (axes:List GAxis):List (List Str)→List (List Str)→Option (List (List Str))
  | [],out=>some out
  | r :: l,out=>if (resS axes r).2 then addK axes l (if out.any (fun k=>k==(resS axes r).1) then out else out++[(resS axes r).1]) else none
def parK (l:List GField) (axes:List GAxis):List (List Str)×Int :=
  if valB axes then (if (allM l keyN).length=0 then ([],12) else match optL memK (allM l keyN) with | none=>([],1) | some ks=>match addK axes ks [] with | none=>([],11) | some out=>(out,0)) else ([],10)
def smX (axes:List GAxis):Prop:=axes.length≤64∧∀ a ∈ axes,smA a∧a.fValues.length≤100000
theorem zK2 {l:List GField} (hl:midL l):smX (parV l).1:=by
  unfold parV
  split
  · cases ho:optL memV (allM l varN) with
    | none=>exact ⟨by simp,fun a h=>by simp at h⟩
    | some xs =>
      simp only []
      split
      · exact zPU hl ho
      · exact ⟨by simp,fun a h=>by simp at h⟩
  · exact ⟨by simp,fun a h=>by simp at h⟩
theorem zPM {l:List GField} (hl:midL l) {ks:List (List Str)} (h:optL memK (allM l keyN)=some ks):ks.length≤64∧∀ k ∈ ks,k.length≤100000∧∀ v ∈ k,v.length≤100000:=by
  obtain ⟨h1,h2⟩:=zJl _ _ _ h
  obtain ⟨a1,a2⟩:=zIo hl keyN
  refine ⟨by omega,fun k hk=>?_⟩
  obtain ⟨m,hm,e⟩:=h2 k hk
  have:=a2 m hm
  obtain ⟨g1,g2⟩:=zPL m
  unfold memK at e
  split at e
  · injection e with e; subst e
    exact ⟨by omega,fun v hv=>by have:=g1 v hv; omega⟩
  · cases e
theorem zRw {axes:List GAxis} (h:valB axes=true):axes.length≤4∧∀ a ∈ axes,axV a=true:=by
  unfold valB at h
  rw [Bool.and_eq_true,Bool.and_eq_true,decide_eq_true_eq,decide_eq_true_eq] at h
  refine ⟨h.1.2,fun a ha=>?_⟩
  obtain ⟨j,hj,e⟩:=List.mem_iff_getElem.1 ha
  have:=zNa _ _ _ h.2 j hj
  rw [e] at this
  unfold okA axN at this
  simp only [Bool.and_eq_true] at this
  exact this.1.2
theorem zRe {a:GAxis} (h:axV a=true):a.fValues.length≤16:=by
  unfold axV at h
  simp only [Bool.and_eq_true,decide_eq_true_eq] at h
  exact h.1.2
theorem zQE (axes : List GAxis) (hx : smX axes) (hv : valB axes = true) (ks : List (List Str)) (hk : ks.length ≤ 64 ∧ ∀ k ∈ ks, k.length ≤ 100000 ∧ ∀ v ∈ k, v.length ≤ 100000) :
    ∀ (k n:Nat) (out:List (List Str)),n+k=ks.length→out.length≤n→(∀ o ∈ out,o.length≤64)→zAF (zAt axes ks) (out,(n:Int))=some (match addK axes (ks.drop n) out with | some o=>.inl o | none=>.inr ([],11)):=by
  obtain ⟨v1,v2⟩:=zRw hv
  intro k
  induction k with
  | zero =>
    intro n out hn ho hs
    have:n=ks.length:=by omega
    subst this
    have hb:zAt axes ks (out,(ks.length:Int))=some (.inr (.inl out)):=by
      unfold zAt
      simp only []
      rw [zAH (Nat.le_refl _),zAB]
    rw [zAE hb,List.drop_length]; rfl
  | succ k ih =>
    intro n out hn ho hs
    have hlt:n<ks.length:=by omega
    obtain ⟨hk1,hk2⟩:=hk.2 _ (List.getElem_mem hlt)
    rw [List.drop_eq_getElem_cons hlt]
    have hg:=zAG hlt
    generalize ks[n]=q at *
    have hres:=zOK axes q (by omega) (fun a ha=>⟨(hx.2 a ha).1,by have:=zRe (v2 a ha); omega⟩) (fun v hv=>by have:=hk2 v hv; omega)
    have hcf:zAO out (fun x0=>zBv x0 (resS axes q).1)=some (out.any fun k=>k==(resS axes q).1):=by
      refine zMt _ _ _ (by omega) fun m hm=>?_
      unfold zBv
      rw [zHZ m _ (by have:=hs m hm; omega),zAA]
    unfold addK
    cases hr:(resS axes q).2 with
    | false =>
      have hb:zAt axes ks (out,(n:Int))=some (.inr (.inr ([],11))):=by
        unfold zAt
        simp only []
        rw [zAK hlt,zAC,hg,zAA,hres,zAA,hr]; rfl
      rw [zAE hb]; rfl
    | true =>
      have hb:zAt axes ks (out,(n:Int))=some (.inl ((if out.any (fun k=>k==(resS axes q).1) then out else out++[(resS axes q).1]),((n+1:Nat):Int))):=by
        unfold zAt
        simp only []
        rw [zAK hlt,zAC,hg,zAA,hres,zAA,hr,Bool.not_true,zAB,hcf,zAA,wrs (by omega)]
        cases out.any (fun k=>k==(resS axes q).1) with
        | true=>rfl
        | false=>rw [Bool.not_false,zAC,zAc (by omega) (zA1 _),zAA]; rfl
      have hlen:(resS axes q).1.length≤64:=by
        have key:∀ (al:List GAxis) (kl acc out:List Str),resL al kl acc=some out→out.length≤acc.length+al.length:=by
          intro al
          induction al with
          | nil=>intro kl acc out h; unfold resL at h; cases kl <;> (injection h with h; subst h; simp)
          | cons a al ih =>
            intro kl acc out h
            cases kl with
            | nil=>unfold resL at h; injection h with h; subst h; simp
            | cons k kl =>
              unfold resL at h
              cases hf:a.fValues.find? (samV a k) with
              | none=>rw [hf] at h; cases h
              | some v =>
                rw [hf] at h
                have:=ih kl _ out h
                simp only [List.length_append,List.length_cons,List.length_nil] at this ⊢; omega
        unfold resS
        split
        · cases hrl:resL axes q [] with
          | none=>simp
          | some o =>
            have:=key axes q [] o hrl
            simp only [List.length_nil] at this ⊢; omega
        · simp
      rw [zAI hb,if_pos rfl,ih (n+1) _ (by omega) ?_ ?_]
      · split
        · omega
        · rw [List.length_append,List.length_singleton]; omega
      · intro o ho2
        split at ho2
        · exact hs o ho2
        · rcases List.mem_append.1 ho2 with h | h
          · exact hs o h
          · rw [List.mem_singleton] at h; subst h; exact hlen
theorem zPw (l:List GField) (axes:List GAxis) (hl:midL l) (hx:smX axes):zDr l axes=some (parK l axes):=by
  obtain ⟨h1,h2⟩:=zP6 hl
  obtain ⟨a1,a2⟩:=zIo hl keyN
  unfold zDr parK
  rw [zHH axes fun a ha=>(hx.2 a ha).1,zAA]
  cases hv:valB axes with
  | false=>rfl
  | true =>
    rw [Bool.not_true,zAB,if_pos rfl,zKJ l _ h1 h2 (by decide),zAA]
    show (bif (((allM l keyN).length:Int)==0) then _ else _)=_
    by_cases h0:(allM l keyN).length=0
    · rw [if_pos h0,show (((allM l keyN).length:Int)==0)=true by simp [h0],zAC]
    · rw [if_neg h0,show (((allM l keyN).length:Int)==0)=false from beq_eq_false_iff_ne.2 (by omega),zAB]
      show (zAF (zBm (allM l keyN)) ([],0)).bind _=_
      rw [zKo (allM l keyN) memK ([],1) _ ?_ ?_]
      · rw [zAA]
        cases ho:optL memK (allM l keyN) with
        | none=>rfl
        | some ks =>
          simp only []
          have:=zQE axes hx hv ks (zPM hl ho) ks.length 0 [] (by omega) (by simp) (by simp)
          rw [show ((0:Nat):Int)=0 from rfl,List.drop_zero] at this
          rw [this,zAA]
          cases addK axes ks [] <;> rfl
      · intro n hn out ho
        have hm:=a2 _ (List.getElem_mem hn)
        unfold zBm memK
        simp only []
        rw [zAK hn,zAC,zAG hn,zAA]
        generalize (allM l keyN)[n]=m at *
        rw [zM5 _ (by omega),zAA]
        cases (grpS m).2 with
        | false=>rfl
        | true=>rw [Bool.not_true,zAB,if_pos rfl,zAc (by omega) (zA1 _),zAA,wrs (by omega)]
      · intro out
        unfold zBm
        simp only []
        rw [zAH (Nat.le_refl _),zAB]
end Go.Eng.Pure
