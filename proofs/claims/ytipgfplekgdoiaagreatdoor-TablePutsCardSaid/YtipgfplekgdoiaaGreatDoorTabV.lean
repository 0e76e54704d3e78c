/- A part of the proof of laws of the seat. -/
import Derived.Test.YtipgfplekgdoiaaGreatDoorMediaQ
set_option linter.unusedVariables false
namespace Go.Eng.Pure
open Go Go.Eng
set_option linter.unusedVariables false
def sameN (p x:GParam):Bool:=x.fName==p.fName
def zLB:List GParam→List GParam→Bool
  | _,[]=>true
  | prev,p :: l=>(p.fName !=[113]&&!(prev.any (sameN p)))&&zLB (prev++[p]) l
theorem zLU (ms:List GParam) (f:GParam→Option Bool) (p:GParam→Bool) (hl:ms.length≤1073741824) (h:∀ m ∈ ms,f m=some (p m)):zAU ms f=some (ms.any p):=by
  have key:∀ (k n:Nat),n+k=ms.length→∃ r,zAF (zAL ms f) (n:Int)=some r∧(match r with | .inr i=>decide (0≤i) | .inl _=>false)=(ms.drop n).any p:=by
    intro k
    induction k with
    | zero =>
      intro n hn
      obtain rfl:n=ms.length:=by omega
      refine ⟨.inl (),zAE ?_,by simp⟩
      simp only [zAL,zAI (Nat.le_refl ms.length),zAB]
    | succ k ih =>
      intro n hn
      have hlt:n<ms.length:=by omega
      have hb:zAL ms f (n:Int)=some (if p ms[n] then .inr (.inr (n:Int)) else .inl ((n+1:Nat):Int)):=by
        simp only [zAL,zAK hlt,zAC,zAG hlt,zAA,h _ (List.getElem_mem hlt),wrs (show n≤4*1073741824 by omega)]
        cases p ms[n] <;> rfl
      rw [List.drop_eq_getElem_cons hlt,List.any_cons]
      cases hp:p ms[n] with
      | true =>
        rw [hp,if_pos rfl] at hb
        exact ⟨_,zAE hb,by show decide ((0:Int)≤(n:Int))=_; rw [decide_eq_true (by omega)]; rfl⟩
      | false =>
        rw [hp,if_neg (by decide)] at hb
        obtain ⟨r,h1,h2⟩:=ih (n+1) (by omega)
        exact ⟨r,by rw [zAJ hb,h1],by rw [h2]; rfl⟩
  obtain ⟨r,h1,h2⟩:=key ms.length 0 (by omega)
  have h1:zAF (zAL ms f) 0=some r:=h1
  unfold zAU zAS
  rw [h1,zAA]
  rw [List.drop_zero] at h2
  rw [← h2]
  cases r <;> rfl
theorem zLN (l : List GParam) (hl : l.length ≤ 1000001) (body : (Bool × Int) → Option ((Bool × Int) ⊕ Bool))
    (h:∀ (n:Nat) (hn:n<l.length) (b:Bool),body (b,(n:Int))=some (.inl (b&&(l[n].fName !=[113]&&!((l.take n).any (sameN l[n]))),((n+1:Nat):Int)))) (h':∀ b,body (b,(l.length:Int))=some (.inr b)) :
    ∀ (k n:Nat) (b:Bool),n+k=l.length→zAF body (b,(n:Int))=some (b&&zLB (l.take n) (l.drop n)):=by
  intro k
  induction k with
  | zero =>
    intro n b hn
    have:n=l.length:=by omega
    subst this
    rw [zAE (h' b),List.drop_length]; unfold zLB; rw [Bool.and_true]
  | succ k ih =>
    intro n b hn
    have hlt:n<l.length:=by omega
    rw [zAJ (h n hlt b),ih (n+1) _ (by omega)]
    conv=>rhs; rw [List.drop_eq_getElem_cons hlt]
    conv=>rhs; unfold zLB
    rw [zAg hlt,Bool.and_assoc]
def zMB (s:Str):Bool:=(typeS s).2&&zLB [] (typeS s).1.fParams
theorem zOw (s:Str) (hs:s.length≤1000000):zCE () s=some (lower s,zMB s):=by
  have hl:=zLG s
  unfold zCE zMB
  rw [zMS s hs,zAA]
  have:=zLN (typeS s).1.fParams (by omega) (zA6 (typeS s)) ?_ ?_ (typeS s).1.fParams.length 0 (typeS s).2 (by omega)
  · rw [show ((0:Nat):Int)=0 from rfl,List.take_zero,List.drop_zero] at this
    rw [this,zAA,zBt _ (by omega),zAA]
  · intro n hn b
    unfold zA6
    simp only []
    rw [zAK hn,zAC,zAG hn,zAA,wrs (by omega)]
    generalize hp:(typeS s).1.fParams[n]=p
    have hc:zAU ((typeS s).1.fParams.take n) (fun x0=>zBr x0 p)=some (((typeS s).1.fParams.take n).any (sameN p)) :=
      zLU _ _ _ (by rw [List.length_take]; omega) (fun m _=>rfl)
    cases hb:b&&(p.fName !=[113]) with
    | true =>
      rw [zAC,zD8 (by omega),zAA,hc,zAA,zAA]
      rw [Bool.and_eq_true] at hb
      rw [hb.1,hb.2,Bool.true_and,Bool.true_and]
    | false =>
      rw [zAB,zAA]
      have:(b&&(p.fName !=[113]&&!(((typeS s).1.fParams.take n).any (sameN p))))=false:=by rw [← Bool.and_assoc,hb]; rfl
      rw [this]
  · intro b
    unfold zA6
    simp only []
    rw [zAI (Nat.le_refl _),zAB]
def txtOK (s:Str):Bool:=((decide (1≤s.length)&&decide (s.length≤100))&&txt s)&&(trim s==s)
def domF (n:Str):Gvariants_domain:=if kindF n=1 then .media else if kindF n=2 then .tags else if kindF n=3∨kindF n=4 then .words (kindF n) else .texts
def formD:Gvariants_domain→Str→Str×Bool
  | .media,s=>(lower s,zMB s)
  | .tags,s=>(lower s,langS s)
  | .words k,s=>(canS k s,tok s&&s !=[42])
  | .texts,s=>(s,txtOK s)
theorem zMG (n:Str) (hn:n.length≤1073741824):zB0 n=some (domF n):=by
  unfold zB0 domF
  rw [zLj n hn,zAA]
  generalize kindF n=k
  by_cases h1:k=1
  · subst h1; rfl
  by_cases h2:k=2
  · subst h2; rfl
  by_cases h3:k=3
  · subst h3; rfl
  by_cases h4:k=4
  · subst h4; rfl
  rw [show (k==1)=false by simpa using h1,show (k==2)=false by simpa using h2,show (k==3)=false by simpa using h3,show (k==4)=false by simpa using h4,if_neg h1,if_neg h2,if_neg (by omega)]
  rfl
theorem le1 (n:Nat):decide ((1:Int)≤(n:Int))=decide (1≤n):=zHL 1 n
theorem le100 (n:Nat):decide ((n:Int)≤100)=decide (n≤100):=zHL n 100
theorem zLv (d:Gvariants_domain) (s:Str) (hs:s.length≤1000000):zBP d s=some (formD d s):=by
  cases d with
  | media=>exact zOw s hs
  | tags =>
    show zCX () s=some (lower s,langS s)
    unfold zCX
    rw [zBt _ (by omega),zAA,zNv s hs,zAA]
  | words k =>
    show zCD k s=some (canS k s,tok s&&s !=[42])
    unfold zCD
    rw [zKz _ _ (by omega),zAA,zDS _ (by omega),zAA]
  | texts =>
    show zCB () s=some (s,txtOK s)
    unfold zCB txtOK
    rw [le1,le100,zN5 _ (by omega),zJK _ (by omega)]
    cases decide (1≤s.length) <;> cases decide (s.length≤100) <;> cases txt s <;> rfl
theorem zOl (n a b:Str) (hn:n.length≤1073741824) (ha:a.length≤1000000) (hb:b.length≤1000000):zEs n a b=some ((formD (domF n) a).1==(formD (domF n) b).1):=by
  unfold zEs
  rw [zMG n hn,zAA,zLv _ a ha,zAA,zLv _ b hb,zAA]
end Go.Eng.Pure
namespace Go.Eng.Pure
open Go Go.Eng
set_option linter.unusedVariables false
theorem zMK (a b:Str):fold a b=(lower a==lower b):=by
  unfold fold
  cases h:lower a==lower b with
  | false=>rw [Bool.and_false]
  | true =>
    have h2:lower a=lower b:=by simpa using h
    have:a.length=b.length:=by rw [← zCM a,h2,zCM]
    rw [Bool.and_true,this]; simp
theorem zMI (n a b:Str) (hn:n.length≤1073741824) (ha:a.length≤1000000) (hb:b.length≤1000000):zFw n a b=some ((formD (domF n) a).1==(formD (domF n) b).1):=by
  unfold zFw domF
  rw [zIt n hn,zAA]
  generalize kindF n=k
  by_cases h1:k=1
  · subst h1; rw [zEN _ _ (by omega) (by omega),zMK]; rfl
  by_cases h2:k=2
  · subst h2; rw [zEN _ _ (by omega) (by omega),zMK]; rfl
  by_cases h3:k=3
  · subst h3; rw [zGg _ _ (by omega),zGg _ _ (by omega)]; rfl
  by_cases h4:k=4
  · subst h4; rw [zGg _ _ (by omega),zGg _ _ (by omega)]; rfl
  rw [show (k==1)=false by simpa using h1,show (k==2)=false by simpa using h2,show (k==3)=false by simpa using h3,show (k==4)=false by simpa using h4,if_neg h1,if_neg h2,if_neg (by omega)]
  rfl
def chk {α:Type} (ok:List α→α→Bool):List α→List α→Bool
  | _,[]=>true
  | prev,x :: l=>ok prev x&&chk ok (prev++[x]) l
theorem zJ4 {α : Type} (l : List α) (ok : List α → α → Bool) (body : Int → Option (Int ⊕ (Unit ⊕ Bool)))
    (h:∀ (n:Nat) (hn:n<l.length),body (n:Int)=some (if ok (l.take n) l[n] then .inl ((n+1:Nat):Int) else .inr (.inr false))) (h':body (l.length:Int)=some (.inr (.inl ()))) :
    zAF body 0=some (if chk ok [] l then .inl () else .inr false):=by
  have key:∀ (k n:Nat),n+k=l.length→zAF body (n:Int)=some (if chk ok (l.take n) (l.drop n) then .inl () else .inr false):=by
    intro k
    induction k with
    | zero =>
      intro n hn
      have:n=l.length:=by omega
      subst this
      rw [zAE h',List.drop_length]; rfl
    | succ k ih =>
      intro n hn
      have hlt:n<l.length:=by omega
      have hb:=h n hlt
      conv=>rhs; rw [List.drop_eq_getElem_cons hlt]
      unfold chk
      cases hs:ok (l.take n) l[n] with
      | true=>rw [hs] at hb; rw [zAJ hb,ih (n+1) (by omega),Bool.true_and,zAg hlt]
      | false=>rw [hs] at hb; rw [zAE hb]; rfl
  have:=key l.length 0 (by omega)
  rw [show ((0:Nat):Int)=0 from rfl,List.take_zero,List.drop_zero] at this
  exact this
end Go.Eng.Pure
namespace Go.Eng.Pure
open Go Go.Eng
set_option linter.unusedVariables false
def okV (d:Gvariants_domain) (prev:List Str) (v:Str):Bool:=(formD d v).2&&!(prev.any fun u=>(formD d u).1==(formD d v).1)
def axV (a:GAxis):Bool:=(decide (1≤a.fValues.length)&&decide (a.fValues.length≤16))&&chk (okV (domF a.fName)) [] a.fValues
def smA (a:GAxis):Prop:=a.fName.length≤1000000∧∀ v ∈ a.fValues,v.length≤1000000
theorem zNR {β:Type} (m:List (Str×β)) (k k':Str) (v z:β):(mget (mset m k v) k' z).1=if k'==k then v else (mget m k' z).1:=by
  unfold mget
  rw [zLy]
  cases k'==k <;> rfl
theorem zM0 (a : GAxis) (h : smA a) (hl : a.fValues.length ≤ 16) : ∀ (k n : Nat) (m : List (Str × Bool)), n + k = a.fValues.length → (∀ q, (mget m q false).1 = (a.fValues.take n).any fun u => (formD (domF a.fName) u).1 == q) →
    zAF (zBB a (domF a.fName)) ((n:Int),m)=some (if chk (okV (domF a.fName)) (a.fValues.take n) (a.fValues.drop n) then .inl () else .inr false):=by
  intro k
  induction k with
  | zero =>
    intro n m hn hI
    have:n=a.fValues.length:=by omega
    subst this
    have hb:zBB a (domF a.fName) ((a.fValues.length:Int),m)=some (.inr (.inl ())):=by
      unfold zBB
      simp only []
      rw [zAI (Nat.le_refl _),zAB]
    rw [zAE hb,List.drop_length]; rfl
  | succ k ih =>
    intro n m hn hI
    have hlt:n<a.fValues.length:=by omega
    have hm:=h.2 _ (List.getElem_mem hlt)
    conv=>rhs; rw [List.drop_eq_getElem_cons hlt]
    unfold chk
    generalize hv:a.fValues[n]=v at *
    have hb:zBB a (domF a.fName) ((n:Int),m)=some (if okV (domF a.fName) (a.fValues.take n) v then .inl (((n+1:Nat):Int),mset m (formD (domF a.fName) v).1 true) else .inr (.inr false)):=by
      unfold zBB okV
      simp only []
      rw [zAK hlt,zAC,zAG hlt,hv,zAA,zLv _ v hm,zAA,zAA,hI,wrs (by omega)]
      cases (formD (domF a.fName) v).2 <;> cases (a.fValues.take n).any (fun u=>(formD (domF a.fName) u).1==(formD (domF a.fName) v).1) <;> rfl
    cases ho:okV (domF a.fName) (a.fValues.take n) v with
    | false=>rw [ho] at hb; rw [zAE hb]; rfl
    | true =>
      rw [ho] at hb
      rw [zAJ hb,ih (n+1) _ (by omega) ?_,Bool.true_and,zAg hlt,hv]
      intro q
      rw [zNR,zAg hlt,hv,List.any_append,hI q]
      simp only [List.any_cons,List.any_nil,Bool.or_false]
      have e:(q==(formD (domF a.fName) v).1)=((formD (domF a.fName) v).1==q):=by
        rw [Bool.eq_iff_iff,beq_iff_eq,beq_iff_eq]; exact ⟨Eq.symm,Eq.symm⟩
      rw [e]
      cases (formD (domF a.fName) v).1==q <;> simp
theorem lt1 (n:Nat):decide ((n:Int)<1)=!decide (1≤n):=by
  rw [Bool.eq_iff_iff]; simp only [decide_eq_true_eq,Bool.not_eq_true',decide_eq_false_iff_not]; omega
theorem gt16 (n:Nat):decide ((16:Int)<(n:Int))=!decide (n≤16):=by
  rw [Bool.eq_iff_iff]; simp only [decide_eq_true_eq,Bool.not_eq_true',decide_eq_false_iff_not]; omega
theorem gt4 (n:Nat):decide ((4:Int)<(n:Int))=!decide (n≤4):=by
  rw [Bool.eq_iff_iff]; simp only [decide_eq_true_eq,Bool.not_eq_true',decide_eq_false_iff_not]; omega
theorem zNK (a:GAxis) (h:smA a):zEL a=some (axV a):=by
  unfold zEL axV
  rw [lt1,gt16]
  by_cases h1:1≤a.fValues.length
  · by_cases h2:a.fValues.length≤16
    · rw [decide_eq_true h1,decide_eq_true h2,zMG _ (by have:=h.1; omega)]
      simp only [Bool.not_true,Bool.or_self,zAB,zAA,Bool.and_self,Bool.true_and]
      have:=zM0 a h h2 a.fValues.length 0 [] (by omega) (fun q=>rfl)
      rw [show ((0:Nat):Int)=0 from rfl,List.take_zero,List.drop_zero] at this
      rw [this,zAA]
      cases chk (okV (domF a.fName)) [] a.fValues <;> rfl
    · rw [decide_eq_false h2]; simp
  · rw [decide_eq_false h1]; simp
def axN (a:GAxis):Bool:=(tok a.fName&&(lower a.fName==a.fName))&&axV a
def okA (prev:List GAxis) (a:GAxis):Bool:=axN a&&!(prev.any fun b=>a.fName==b.fName)
def valB (l:List GAxis):Bool:=(decide (1≤l.length)&&decide (l.length≤4))&&chk okA [] l
theorem zJO (l:List GAxis) (h:∀ a ∈ l,smA a):zCR l=some (valB l):=by
  unfold zCR valB
  rw [lt1,gt4]
  by_cases h1:1≤l.length
  · by_cases h2:l.length≤4
    · rw [decide_eq_true h1,decide_eq_true h2]
      simp only [Bool.not_true,Bool.or_self,zAB,Bool.and_self,Bool.true_and]
      have:=zJ4 l okA (zB1 l) ?_ ?_
      · rw [this,zAA]
        cases chk okA [] l <;> rfl
      · intro n hlt
        have hm:=h _ (List.getElem_mem hlt)
        unfold zB1 okA axN
        rw [zAK hlt,zAC,zAG hlt,zAA]
        generalize hv:l[n]=a at *
        have hn:=hm.1
        rw [zDS _ (by omega),zAA,zBt _ (by omega),zAA,zNK a hm]
        have hw:zAF (zB4 a (l.take n)) 0=some (if (l.take n).any (fun b=>a.fName==b.fName) then .inr (.inr (.inr false)) else .inl ()):=by
          refine zCY (ρ:=Unit ⊕ (Int ⊕ (Unit ⊕ Bool))) _ (l.take n) _ (.inr (.inr (.inr false))) (.inl ()) ?_ ?_
          · intro i hi
            have hi2:i<n:=by rw [List.length_take] at hi; omega
            unfold zB4
            rw [zAK hi,zAC,zAG hi,zAA,wrs (by omega)]
            cases a.fName==(l.take n)[i].fName <;> simp
          · unfold zB4
            rw [zAI (Nat.le_refl _),zAB]
        rw [zD8 (by omega),wrs (by omega)]
        simp only [zAA]
        rw [hw]
        have e:(lower a.fName !=a.fName)=!(lower a.fName==a.fName):=rfl
        rw [e]
        cases tok a.fName <;> cases lower a.fName==a.fName <;> cases axV a <;> cases (l.take n).any (fun b=>a.fName==b.fName) <;> rfl
      · unfold zB1
        rw [zAI (Nat.le_refl _),zAB]
    · rw [decide_eq_false h2]; simp
  · rw [decide_eq_false h1]; simp
end Go.Eng.Pure
namespace Go.Eng.Pure
open Go Go.Eng
set_option linter.unusedVariables false
theorem zNt (ms:List (List Str)) (f:List Str→Option Bool) (p:List Str→Bool) (hl:ms.length≤1073741824) (h:∀ m ∈ ms,f m=some (p m)):zAX ms f=some (ms.any p):=by
  have key:∀ (k n:Nat),n+k=ms.length→∃ r,zAF (zAR ms f) (n:Int)=some r∧(match r with | .inr e=>(0:Int)≤e∧(ms.drop n).any p=true | .inl _=>(ms.drop n).any p=false):=by
    intro k
    induction k with
    | zero =>
      intro n hn
      obtain rfl:n=ms.length:=by omega
      refine ⟨.inl (),zAE ?_,by rw [List.drop_length]; rfl⟩
      simp only [zAR,zAI (Nat.le_refl ms.length),zAB]
    | succ k ih =>
      intro n hn
      have hlt:n<ms.length:=by omega
      have hb:zAR ms f (n:Int)=some (if p ms[n] then .inr (.inr (n:Int)) else .inl ((n+1:Nat):Int)):=by
        simp only [zAR,zAK hlt,zAC,zAG hlt,zAA,h _ (List.getElem_mem hlt),wrs (show n≤4*1073741824 by omega)]
        cases p ms[n] <;> rfl
      rw [List.drop_eq_getElem_cons hlt,List.any_cons]
      cases hp:p ms[n] with
      | true =>
        rw [hp,if_pos rfl] at hb
        exact ⟨_,zAE hb,by simp only []; exact ⟨by omega,rfl⟩⟩
      | false =>
        rw [hp,if_neg (by decide)] at hb
        obtain ⟨r,hr,hm⟩:=ih (n+1) (by omega)
        refine ⟨r,by rw [zAJ hb]; exact hr,?_⟩
        cases r <;> simpa using hm
  obtain ⟨r,hr,hm⟩:=key ms.length 0 (by omega)
  rw [show ((0:Nat):Int)=0 from rfl] at hr
  rw [List.drop_zero] at hm
  unfold zAX zA2
  rw [hr,zAA]
  cases r with
  | inr e=>simp only [] at hm ⊢; rw [zAA,hm.2,decide_eq_true hm.1]
  | inl u=>simp only [] at hm ⊢; rw [zAA,hm]; rfl
end Go.Eng.Pure
namespace Go.Eng.Pure
open Go Go.Eng
set_option linter.unusedVariables false
theorem zQl (a b:List GAxis) (ha:a.length≤1073741824) (hs:∀ x ∈ a,x.fValues.length≤1073741824):zQX a b=some (decide (a=b)):=by
  unfold zQX
  rw [neI]
  by_cases hl:a.length=b.length
  · have e:(a.length !=b.length)=false:=by simp [hl]
    rw [e,zAB,zIR a b _ hl]
    · by_cases h:a=b <;> simp [h]
    · intro n hn hb
      have h1:=hs _ (List.getElem_mem hn)
      unfold zQS
      rw [zAK hn,zAC,zAG hn,zAA,zAG hb,zAA,zAA,zAA,wrs (by omega)]
      generalize a[n]=x at *
      generalize b[n]=y at *
      obtain ⟨xn,xv⟩:=x
      obtain ⟨yn,yv⟩:=y
      simp only [] at h1 ⊢
      rw [zIf _ _ h1]
      by_cases h2:xn=yn
      · by_cases h3:xv=yv
        · subst h2; subst h3; simp
        · have:(xv==yv)=false:=by simpa using h3
          subst h2
          simp only [bne_self_eq_false,zAB,zAA,this,GAxis.mk.injEq,true_and,h3,if_false]; rfl
      · have:(xn !=yn)=true:=by simpa using h2
        simp only [this,zAC,zAA,GAxis.mk.injEq,h2,false_and,if_false]
    · unfold zQS
      rw [zAI (Nat.le_refl _),zAB]
  · have e:(a.length !=b.length)=true:=by simp [hl]
    rw [e,zAC,decide_eq_false (fun h=>hl (by rw [h]))]
end Go.Eng.Pure
namespace Go.Eng.Pure
open Go Go.Eng
set_option linter.unusedVariables false
theorem zIA (s:List Str) (h:s.length≤1073741824):zAV s=some s:=by
  unfold zAV
  rw [zAj (by simp) (by omega)]; rfl
theorem zNz (s:List GField) (h:s.length≤1073741824):zAf s=some s:=by
  unfold zAf
  rw [zAj (by simp) (by omega)]; rfl
theorem zID {S α ρ : Type} (mk : List α → Int → S) (fin : List α → ρ) (l : List α) (body : S → Option (S ⊕ ρ)) (hl : l.length ≤ 1073741824)
    (h:∀ (n:Nat) (hn:n<l.length) (out:List α),out.length≤n→body (mk out n)=some (.inl (mk (out++[l[n]]) ((n+1:Nat):Int))))
    (h':∀ out,out.length≤l.length→body (mk out l.length)=some (.inr (fin out))):zAF body (mk [] 0)=some (fin l):=by
  have:=zBI mk l (fun out x=>out++[x]) fin body (fun n out=>out.length≤n) [] (by simp) (fun n hn st hI=>⟨h n hn st hI,by rw [List.length_append]; simp; exact hI⟩) h'
  rw [this]
  have e:∀ (l acc:List α),l.foldl (fun out x=>out++[x]) acc=acc++l:=by
    intro l
    induction l with
    | nil=>intro acc; simp
    | cons x l ih=>intro acc; rw [List.foldl_cons,ih]; simp
  rw [e]; rfl
theorem zId (l:List GAxis) (hl:l.length≤1073741824) (hv:∀ a ∈ l,a.fValues.length≤1073741824):zF7 l=some l:=by
  unfold zF7
  have:=zID (fun out n=>(out,n)) id l (zDp l) hl ?_ ?_
  · rw [this]; rfl
  · intro n hn out ho
    simp only [zDp]
    rw [zAK hn,zAC,zAG hn,zAA,zIA _ (hv _ (List.getElem_mem hn)),zAA,zAj (by omega) (zA5 _),zAA,wrs (by omega)]
  · intro out _
    simp only [zDp]
    rw [zAI (Nat.le_refl _),zAB]; rfl
def smEn (e:GEntry):Prop:=e.fKeys.length≤1073741824∧(∀ k ∈ e.fKeys,k.length≤1073741824)∧e.fVary.length≤1073741824∧e.fSnapshot.length≤1073741824∧e.fFields.length≤1073741824
theorem zH2 (e:GEntry) (h:smEn e):zD6 e=some e:=by
  obtain ⟨h1,h2,h3,h4,h5⟩:=h
  unfold zD6
  have:=zID (fun out n=>(n,out,e.fVary,e.fSnapshot,e.fReason,e.fFields,e.fBody,e.fRequested,e.fReceived)) (fun out=>(out,e.fVary,e.fSnapshot,e.fReason,e.fFields,e.fBody,e.fRequested,e.fReceived)) e.fKeys (zDG e) h1 ?_ ?_
  · rw [this,zAA]
    simp only []
    rw [zIA _ h3,zAA,zIA _ h4,zAA,zNz _ h5]; rfl
  · intro n hn out ho
    simp only [zDG]
    rw [zAK hn,zAC,zAG hn,zAA,zIA _ (h2 _ (List.getElem_mem hn)),zAA,zAj (by omega) (zA5 _),zAA,wrs (by omega)]
  · intro out _
    simp only [zDG]
    rw [zAI (Nat.le_refl _),zAB]
theorem zJ8 (t:GTable) (h1:t.fAxes.length≤1073741824) (h2:∀ a ∈ t.fAxes,a.fValues.length≤1073741824) (h3:t.fEntries.length≤1073741824) (h4:∀ e ∈ t.fEntries,smEn e):zGK t=some t:=by
  unfold zGK
  rw [zId _ h1 h2,zAA]
  have:=zID (fun out n=>(n,t.fAxes,out)) (fun out=>(t.fAxes,out)) t.fEntries (zDK t) h3 ?_ ?_
  · rw [this,zAA]
  · intro n hn out ho
    simp only [zDK]
    rw [zAK hn,zAC,zAG hn,zAA,zH2 _ (h4 _ (List.getElem_mem hn)),zAA,zAj (by omega) (zA5 _),zAA,wrs (by omega)]
  · intro out _
    simp only [zDK]
    rw [zAI (Nat.le_refl _),zAB]
theorem zQD (ms:List GEntry) (f:GEntry→Option Bool) (p:GEntry→Bool) (hl:ms.length≤1073741824) (h:∀ m ∈ ms,f m=some (p m)):zAl ms f=some (match ms.findIdx? p with | some i=>(i:Int) | none=>-1):=by
  have key:∀ (k n:Nat),n+k=ms.length→zAF (zAP ms f) (n:Int)=some (match (ms.drop n).findIdx? p with | some i=>.inr ((n+i:Nat):Int) | none=>.inl ()):=by
    intro k
    induction k with
    | zero =>
      intro n hn
      obtain rfl:n=ms.length:=by omega
      rw [zAE (r:=.inl ())]
      · rw [List.drop_length]; rfl
      · simp only [zAP,zAI (Nat.le_refl ms.length),zAB]
    | succ k ih =>
      intro n hn
      have hlt:n<ms.length:=by omega
      have hb:zAP ms f (n:Int)=some (if p ms[n] then .inr (.inr (n:Int)) else .inl ((n+1:Nat):Int)):=by
        simp only [zAP,zAK hlt,zAC,zAG hlt,zAA,h _ (List.getElem_mem hlt),wrs (show n≤4*1073741824 by omega)]
        cases p ms[n] <;> rfl
      rw [List.drop_eq_getElem_cons hlt,List.findIdx?_cons]
      cases hp:p ms[n] with
      | true =>
        rw [hp,if_pos rfl] at hb
        rw [zAE hb]; rfl
      | false =>
        rw [hp,if_neg (by decide)] at hb
        rw [zAJ hb,ih (n+1) (by omega)]
        cases hd:(ms.drop (n+1)).findIdx? p with
        | none=>rfl
        | some i=>simp; omega
  have:=key ms.length 0 (by omega)
  rw [show ((0:Nat):Int)=0 from rfl,List.drop_zero] at this
  unfold zAl
  rw [this,zAA]
  cases ms.findIdx? p with
  | none=>rfl
  | some i=>simp
theorem zNN {α:Type} (xs:List α) (f:α→Option Bool) (p:α→Bool) (h:∀ x ∈ xs,f x=some (p x)):∀ (k n:Nat) (K:List α),n+k=xs.length→zAF (delL xs f) (K,(n:Int))=some (K++(xs.drop n).filter fun x=>!p x)
  | 0,n,K,hn=>by
    have:n=xs.length:=by omega
    subst this
    have hb:delL xs f (K,(xs.length:Int))=some (.inr K):=by
      unfold delL
      rw [zAI (Nat.le_refl _),zAB]
    rw [zAE hb]; simp
  | k+1,n,K,hn=>by
    have hlt:n<xs.length:=by omega
    have hb:delL xs f (K,(n:Int))=some (.inl (bif p xs[n] then K else K++[xs[n]],((n+1:Nat):Int))):=by
      unfold delL
      rw [zAK hlt,zAC,zAG hlt,zAA,h _ (List.getElem_mem hlt),zAA]; rfl
    rw [zAJ hb,zNN xs f p h k (n+1) _ (by omega),List.drop_eq_getElem_cons hlt,List.filter_cons]
    cases p xs[n] <;> simp
theorem zIX {α:Type} (p:α→Bool):∀ (xs:List α) (i:Nat),xs.findIdx? p=some i→i<xs.length∧xs.filter (fun x=>!p x)=xs.take i++(xs.drop (i+1)).filter fun x=>!p x
  | [],i,h=>by simp at h
  | x :: xs,i,h=>by
    rw [List.findIdx?_cons] at h
    cases hp:p x with
    | true =>
      rw [hp] at h
      simp at h; subst h
      simp [hp]
    | false =>
      rw [hp] at h
      simp only [Bool.false_eq_true,if_false,Option.map_eq_some_iff] at h
      obtain ⟨j,hj,rfl⟩:=h
      obtain ⟨h1,h2⟩:=zIX p xs j hj
      refine ⟨by simp; omega,?_⟩
      rw [List.filter_cons,hp]
      simp [h2]
theorem zLb {α:Type} (p:α→Bool) (xs:List α) (h:xs.findIdx? p=none):xs.filter (fun x=>!p x)=xs:=by
  rw [List.filter_eq_self]
  intro x hx
  have:=List.findIdx?_eq_none_iff.1 h x hx
  simp [this]
theorem zPd (xs:List GEntry) (f:GEntry→Option Bool) (p:GEntry→Bool) (hl:xs.length≤1073741824) (h:∀ x ∈ xs,f x=some (p x)):zAQ xs f=some (xs.filter fun x=>!p x):=by
  unfold zAQ
  rw [zQD xs f p hl h,zAA]
  unfold delR
  cases hi:xs.findIdx? p with
  | none=>rw [zLb p xs hi]; rfl
  | some i =>
    obtain ⟨h1,h2⟩:=zIX p xs i hi
    have e1:((i:Int)==-1)=false:=by simp
    have e2:decide (0≤(i:Int)∧(i:Int)<(xs.length:Int))=true:=decide_eq_true ⟨by omega,by omega⟩
    simp only []
    rw [e1,zAB,e2,zAC,Int.toNat_natCast,show ((i:Int)+1)=((i+1:Nat):Int) from rfl,zNN xs f p h (xs.length - (i+1)) (i+1) _ (by omega),h2]
end Go.Eng.Pure
namespace Go.Eng.Pure
open Go Go.Eng
set_option linter.unusedVariables false
def sameV (a:GAxis) (x y:Str):Bool:=(formD (domF a.fName) x).1==(formD (domF a.fName) y).1
def sameL:List GAxis→List Str→List Str→Bool
  | a :: l,x :: xs,y :: ys=>sameV a x y&&sameL l xs ys
  | [],[],[]=>true
  | _,_,_=>false
theorem zGl:∀ {l:List GAxis} {xs ys:List Str},sameL l xs ys=true→xs.length=l.length∧ys.length=l.length
  | a :: l,x :: xs,y :: ys,h=>by
    simp only [sameL,Bool.and_eq_true] at h
    obtain ⟨h1,h2⟩:=zGl h.2
    simp [h1,h2]
  | [],[],[],_=>⟨rfl,rfl⟩
  | [],[],y :: ys,h=>by simp [sameL] at h
  | [],x :: xs,ys,h=>by simp [sameL] at h
  | a :: l,[],ys,h=>by simp [sameL] at h
  | a :: l,x :: xs,[],h=>by simp [sameL] at h
def smAx (l:List GAxis):Prop:=l.length≤1000000∧∀ a ∈ l,a.fName.length≤1000000
def smKy (k:List Str):Prop:=∀ v ∈ k,v.length≤1000000
theorem zLd (axes:List GAxis) (a b:List Str) (h:smAx axes) (ha:smKy a) (hb:smKy b) (hla:a.length≤1000000) (hlb:b.length≤1000000):zEv axes a b=some (sameL axes a b):=by
  have key : ∀ (k n : Nat), n + k = axes.length → a.length = axes.length → b.length = axes.length →
      zAF (zBh axes a b) (n:Int)=some (if sameL (axes.drop n) (a.drop n) (b.drop n) then .inl () else .inr false):=by
    intro k
    induction k with
    | zero =>
      intro n hn h1 h2
      have:n=axes.length:=by omega
      subst this
      rw [zAE (r:=.inl ())]
      · rw [List.drop_length,List.drop_of_length_le (by omega),List.drop_of_length_le (by omega)]; rfl
      · simp only [zBh,zAI (Nat.le_refl axes.length),zAB]
    | succ k ih =>
      intro n hn h1 h2
      have hlt:n<axes.length:=by omega
      have hb':zBh axes a b (n:Int)=some (if sameV axes[n] (a[n]'(by omega)) (b[n]'(by omega)) then .inl ((n+1:Nat):Int) else .inr (.inr false)):=by
        simp only [zBh,zAK hlt,zAC,zAG hlt,zAA,zAG (show n<a.length by omega),zAG (show n<b.length by omega)]
        rw [zMI _ _ _ (by have:=h.2 _ (List.getElem_mem hlt); omega) (ha _ (List.getElem_mem _)) (hb _ (List.getElem_mem _)),zAA,wrs (show n≤4*1073741824 by have:=h.1; omega)]
        show (bif !(sameV _ _ _) then _ else _)=_
        cases sameV axes[n] (a[n]'(by omega)) (b[n]'(by omega)) <;> rfl
      rw [List.drop_eq_getElem_cons hlt,List.drop_eq_getElem_cons (show n<a.length by omega),List.drop_eq_getElem_cons (show n<b.length by omega),sameL]
      cases hs:sameV axes[n] (a[n]'(by omega)) (b[n]'(by omega)) with
      | true =>
        rw [hs,if_pos rfl] at hb'
        rw [zAJ hb',ih (n+1) (by omega) h1 h2]; rfl
      | false =>
        rw [hs,if_neg (by simp)] at hb'
        rw [zAE hb']; rfl
  unfold zEv
  by_cases h1:a.length=axes.length
  · by_cases h2:b.length=axes.length
    · have e:(((a.length:Int) !=(axes.length:Int))||((b.length:Int) !=(axes.length:Int)))=false:=by simp [h1,h2]
      rw [e,zAB,show (0:Int)=((0:Nat):Int) from rfl,key axes.length 0 (by omega) h1 h2,zAA]
      simp only [List.drop_zero]
      cases sameL axes a b <;> rfl
    · have e:(((a.length:Int) !=(axes.length:Int))||((b.length:Int) !=(axes.length:Int)))=true:=by simp; right; omega
      have e2:sameL axes a b=false:=by
        cases hs:sameL axes a b with
        | false=>rfl
        | true=>exact absurd (zGl hs).2 h2
      rw [e,zAC,e2]
  · have e:(((a.length:Int) !=(axes.length:Int))||((b.length:Int) !=(axes.length:Int)))=true:=by simp; left; omega
    have e2:sameL axes a b=false:=by
      cases hs:sameL axes a b with
      | false=>rfl
      | true=>exact absurd (zGl hs).1 h1
    rw [e,zAC,e2]
theorem zOu (axes:List GAxis) (a b:List Str) (h:smAx axes) (ha:smKy a) (hb:smKy b) (hla:a.length≤1000000) (hlb:b.length≤1000000):zD3 axes a b=some (sameL axes a b):=by
  have key : ∀ (k n : Nat), n + k = axes.length → a.length = axes.length → b.length = axes.length →
      ∃ m,zAF (zAM a b axes) ((n:Int),(n:Int) - 1)=some (if sameL (axes.drop n) (a.drop n) (b.drop n) then .inl m else .inr (false,m)):=by
    intro k
    induction k with
    | zero =>
      intro n hn h1 h2
      have:n=axes.length:=by omega
      subst this
      refine ⟨(axes.length:Int) - 1,?_⟩
      rw [zAE (r:=.inl ((axes.length:Int) - 1))]
      · rw [List.drop_length,List.drop_of_length_le (by omega),List.drop_of_length_le (by omega)]; rfl
      · simp only [zAM]
        rw [← h1,zAI (Nat.le_refl a.length),zAB]
    | succ k ih =>
      intro n hn h1 h2
      have hlt:n<axes.length:=by omega
      have e1:wr ((n:Int) - 1+1)=(n:Int):=by rw [wr_eq ⟨by omega,by have:=h.1; omega⟩]; omega
      have hb':zAM a b axes ((n:Int),(n:Int) - 1)=some (if sameV axes[n] (a[n]'(by omega)) (b[n]'(by omega)) then .inl (((n+1:Nat):Int),((n+1:Nat):Int) - 1) else .inr (.inr (false,(n:Int)))):=by
        simp only [zAM,zC8]
        rw [zAK (show n<a.length by omega),zAC,zAG (show n<a.length by omega),zAA,zAG (show n<b.length by omega),zAA,e1,zAG hlt,zAA,
          zOl _ _ _ (by have:=h.2 _ (List.getElem_mem hlt); omega) (ha _ (List.getElem_mem _)) (hb _ (List.getElem_mem _)),zAA,zAA,wrs (show n≤4*1073741824 by have:=h.1; omega)]
        show (bif !(sameV _ _ _) then _ else _)=_
        have e2:((n+1:Nat):Int) - 1=(n:Int):=by omega
        rw [e2]
        cases sameV axes[n] (a[n]'(by omega)) (b[n]'(by omega)) <;> rfl
      rw [List.drop_eq_getElem_cons hlt,List.drop_eq_getElem_cons (show n<a.length by omega),List.drop_eq_getElem_cons (show n<b.length by omega),sameL]
      cases hs:sameV axes[n] (a[n]'(by omega)) (b[n]'(by omega)) with
      | true =>
        rw [hs,if_pos rfl] at hb'
        rw [zAJ hb']
        obtain ⟨m,hm⟩:=ih (n+1) (by omega) h1 h2
        exact ⟨m,by rw [hm]; rfl⟩
      | false =>
        rw [hs,if_neg (by simp)] at hb'
        exact ⟨(n:Int),by rw [zAE hb']; rfl⟩
  unfold zD3
  by_cases h1:a.length=axes.length
  · have e0:((a.length:Int) !=(axes.length:Int))=false:=by simp [h1]
    rw [e0,zAB]
    unfold zAn
    by_cases h2:b.length=axes.length
    · have e:((a.length:Int) !=(b.length:Int))=false:=by simp [h1,h2]
      obtain ⟨m,hm⟩:=key axes.length 0 (by omega) h1 h2
      rw [e,zAB,show ((0:Int),(-1:Int))=(((0:Nat):Int),((0:Nat):Int) - 1) from rfl,hm,zAA]
      simp only [List.drop_zero]
      cases sameL axes a b <;> rfl
    · have e:((a.length:Int) !=(b.length:Int))=true:=by simp; omega
      have e2:sameL axes a b=false:=by
        cases hs:sameL axes a b with
        | false=>rfl
        | true=>exact absurd (zGl hs).2 h2
      rw [e,zAC,e2]; rfl
  · have e:((a.length:Int) !=(axes.length:Int))=true:=by simp; omega
    have e2:sameL axes a b=false:=by
      cases hs:sameL axes a b with
      | false=>rfl
      | true=>exact absurd (zGl hs).1 h1
    rw [e,zAC,e2]
end Go.Eng.Pure
namespace Go.Eng.Pure
open Go Go.Eng
set_option linter.unusedVariables false
def smKs (l:List (List Str)):Prop:=l.length≤1000000∧∀ k ∈ l,k.length≤1000000∧smKy k
def hasB (axes:List GAxis) (e:GEntry) (key:List Str):Bool:=e.fKeys.any fun k=>sameL axes k key
theorem zOM (axes:List GAxis) (e:GEntry) (key:List Str) (h:smAx axes) (he:smKs e.fKeys) (hk:key.length≤1000000) (hk2:smKy key):zGo axes e key=some (hasB axes e key):=by
  unfold zGo
  rw [zNt e.fKeys (fun x0=>zFM x0 axes key) (fun k=>sameL axes k key) (by have:=he.1; omega) fun k hm=>by
    unfold zFM
    rw [zOu axes k key h (he.2 k hm).2 hk2 (he.2 k hm).1 hk]; rfl]
  rfl
theorem zPD (axes:List GAxis) (e:GEntry) (key:List Str) (h:smAx axes) (he:smKs e.fKeys) (hk:key.length≤1000000) (hk2:smKy key):zHn axes e key=some (hasB axes e key):=by
  unfold zHn hasB
  rw [zCY (zES axes e key) e.fKeys (fun k=>sameL axes k key) (.inr true) (.inl ())]
  · rw [zAA]
    cases e.fKeys.any fun k=>sameL axes k key <;> rfl
  · intro n hn
    have hm:=List.getElem_mem hn
    simp only [zES]
    rw [zAK hn,zAC,zAG hn,zAA,zLd axes _ key h (he.2 _ hm).2 hk2 (he.2 _ hm).1 hk,zAA,wrs (show n≤4*1073741824 by have:=he.1; omega)]
    cases sameL axes e.fKeys[n] key <;> rfl
  · simp only [zES]
    rw [zAI (Nat.le_refl _),zAB]
def replB (axes:List GAxis) (e old:GEntry):Bool:=bif axes.isEmpty then e.fVary==old.fVary&&e.fSnapshot==old.fSnapshot else e.fKeys.any fun k=>hasB axes old k
theorem zL5 (axes:List GAxis) (e old:GEntry) (h:smAx axes) (he:smKs e.fKeys) (ho:smKs old.fKeys) (hv:e.fVary.length≤1073741824) (hs:e.fSnapshot.length≤1073741824):zDQ axes e old=some (replB axes e old):=by
  unfold zDQ replB
  cases hx:axes with
  | nil =>
    rw [show ((([]:List GAxis).length:Int)==0)=true from rfl,zAC,zIC _ _ hv,zAA,show ([]:List GAxis).isEmpty=true from rfl,zAC]
    cases e.fVary==old.fVary with
    | true=>rw [zAC,zIC _ _ hs]; rfl
    | false=>rfl
  | cons a l =>
    rw [← hx]
    have e1:((axes.length:Int)==0)=false:=by rw [hx]; simp; omega
    have e2:axes.isEmpty=false:=by rw [hx]; rfl
    rw [e1,zAB,e2,zAB,zNt e.fKeys (fun x0=>zCG x0 axes old) (fun k=>hasB axes old k) (by have:=he.1; omega) fun k hm=>by
      unfold zCG
      rw [zOM axes old k h ho (he.2 k hm).1 (he.2 k hm).2]; rfl]
    rfl
theorem zQ0 (axes:List GAxis) (e old:GEntry) (h:smAx axes) (he:smKs e.fKeys) (ho:smKs old.fKeys) (hv:e.fVary.length≤1073741824) (hs:e.fSnapshot.length≤1073741824):zQR axes e old=some (replB axes e old):=by
  unfold zQR replB
  cases hx:axes with
  | nil =>
    rw [show ((([]:List GAxis).length:Int)==0)=true from rfl,zAC,zIf _ _ hv,zAA,show ([]:List GAxis).isEmpty=true from rfl,zAC]
    cases e.fVary==old.fVary with
    | true=>rw [zAC,zIf _ _ hs]; rfl
    | false=>rfl
  | cons a l =>
    rw [← hx]
    have e1:((axes.length:Int)==0)=false:=by rw [hx]; simp; omega
    have e2:axes.isEmpty=false:=by rw [hx]; rfl
    rw [e1,zAB,e2,zAB,zCY (zQI axes e old) e.fKeys (fun k=>hasB axes old k) (.inr true) (.inl ())]
    · rw [zAA]
      cases e.fKeys.any fun k=>hasB axes old k <;> rfl
    · intro n hn
      have hm:=List.getElem_mem hn
      simp only [zQI]
      rw [zAK hn,zAC,zAG hn,zAA,zPD axes old _ h ho (he.2 _ hm).1 (he.2 _ hm).2,zAA,wrs (show n≤4*1073741824 by have:=he.1; omega)]
      cases hasB axes old e.fKeys[n] <;> rfl
    · simp only [zQI]
      rw [zAI (Nat.le_refl _),zAB]
end Go.Eng.Pure
namespace Go.Eng.Pure
open Go Go.Eng
set_option linter.unusedVariables false
theorem zN6 (a b:List GAxis) (ha:a.length≤1073741824) (hs:∀ x ∈ a,x.fValues.length≤1073741824):zEO a b=some (decide (a=b)):=by
  unfold zEO zAY
  by_cases hl:a.length=b.length
  · have e:((a.length:Int) !=(b.length:Int))=false:=by simp [hl]
    rw [e,zAB,zIR a b _ hl]
    · by_cases h:a=b <;> simp [h]
    · intro n hn hb
      simp only [zAO,zDT]
      rw [zAK hn,zAC,zAG hn,zAA,zAG hb,zAA,wrs (show n≤4*1073741824 by omega)]
      have hd:(a[n]=b[n])↔(a[n].fName=b[n].fName∧a[n].fValues=b[n].fValues):=by
        constructor
        · intro h; rw [h]; exact ⟨rfl,rfl⟩
        · intro ⟨h1,h2⟩
          cases ha':a[n]; cases hb':b[n]
          rw [ha',hb'] at h1 h2
          simp at h1 h2
          rw [h1,h2]
      by_cases h1:a[n].fName=b[n].fName
      · rw [show (a[n].fName==b[n].fName)=true from by simp [h1],zAC,zIC _ _ (hs _ (List.getElem_mem hn)),zAA,zAA,zAA]
        by_cases h2:a[n].fValues=b[n].fValues
        · rw [if_pos (hd.2 ⟨h1,h2⟩)]; simp [h2]
        · rw [if_neg (fun h=>h2 (hd.1 h).2),show (a[n].fValues==b[n].fValues)=false from by simp [h2]]; rfl
      · rw [show (a[n].fName==b[n].fName)=false from by simp [h1],zAB,zAA,zAA,if_neg (fun h=>h1 (hd.1 h).1)]
        rfl
    · simp only [zAO]
      rw [zAI (Nat.le_refl _),zAB]
  · have e:((a.length:Int) !=(b.length:Int))=true:=by simp; omega
    have:a≠b:=fun h=>hl (by rw [h])
    rw [e,zAC]
    simp [this]
def limN (limit:Int):Nat:=(if limit<0 then 0 else limit).toNat
def putE (t:GTable) (e:GEntry) (axes:List GAxis):List GEntry:=(if t.fAxes=axes then t.fEntries.filter (fun x=>!replB axes e x) else [])++[e]
def putS (t:GTable) (e:GEntry) (axes:List GAxis) (limit:Int):GTable:=⟨axes,(putE t e axes).drop ((putE t e axes).length - limN limit)⟩
def smTb (t:GTable):Prop:=smAx t.fAxes∧(∀ a ∈ t.fAxes,a.fValues.length≤1000000)∧t.fEntries.length≤1000000∧∀ e ∈ t.fEntries,smEn e∧smKs e.fKeys
theorem zPF (t : GTable) (e : GEntry) (axes : List GAxis) (limit : Int) (ht : smTb t) (he : smEn e) (hk : smKs e.fKeys) (ha : smAx axes) (hav : ∀ a ∈ axes, a.fValues.length ≤ 1000000) (hlim : limit ≤ 9223372036854775807) :
    zFB t e axes limit=some (putS t e axes limit):=by
  obtain ⟨ht1,ht2,ht3,ht4⟩:=ht
  have hj : ∀ m : List GEntry, m.length ≤ 1000000 → (∀ x ∈ m, smKs x.fKeys) → ((zAQ m fun x0 => zFG x0 axes e).bind fun l60 =>
      (zD6 e).bind fun r69=>(xapp l60 ([r69]:List GEntry)).bind fun l87 =>
      (xsub l87 (if (wr ((l87.length:Int) - (if limit<0 then 0 else limit)))<0 then 0 else (wr ((l87.length:Int) - (if limit<0 then 0 else limit)))) l87.length).bind fun l96 =>
      some (⟨axes,l96⟩:GTable))=some ⟨axes,((m.filter fun x=>!replB axes e x)++[e]).drop (((m.filter fun x=>!replB axes e x)++[e]).length - limN limit)⟩:=by
    intro m hm hks
    rw [zPd m _ (fun x=>replB axes e x) (by omega) (fun x hx=>by
      unfold zFG
      rw [zL5 axes e x ha hk (hks x hx) (by have:=he.2.2.1; omega) (by have:=he.2.2.2.1; omega)]; rfl),zAA,zH2 e he,zAA]
    have hfl:=List.length_filter_le (fun x=>!replB axes e x) m
    rw [zAj (by omega) (zA5 _),zAA]
    generalize hM:(m.filter fun x=>!replB axes e x)++[e]=M
    have hMl:M.length≤1000001:=by rw [← hM,List.length_append,List.length_singleton]; omega
    have hw:(if (wr ((M.length:Int) - (if limit<0 then 0 else limit)))<0 then (0:Int) else (wr ((M.length:Int) - (if limit<0 then 0 else limit))))=((M.length - limN limit:Nat):Int):=by
      unfold limN
      by_cases h0:limit<0
      · rw [if_pos h0,wr_eq ⟨by omega,by omega⟩,if_neg (by omega)]; simp
      · rw [if_neg h0,wr_eq ⟨by omega,by omega⟩]
        split <;> omega
    rw [hw,zCl (by omega),zAA]
  unfold zFB putS putE
  rw [zJ8 t (by have:=ht1.1; omega) (fun a h=>by have:=ht2 a h; omega) (by omega) (fun x h=>(ht4 x h).1),zAA,zN6 _ _ (by have:=ht1.1; omega) (fun a h=>by have:=ht2 a h; omega),zAA]
  by_cases hx:t.fAxes=axes
  · rw [decide_eq_true hx,Bool.not_true,zAB,zAA,if_pos hx]
    simp only []
    rw [hx]
    exact hj t.fEntries ht3 fun x h=>(ht4 x h).2
  · rw [decide_eq_false hx,Bool.not_false,zAC,zId axes (by have:=ha.1; omega) (fun a h=>by have:=hav a h; omega),zAA,zAA,if_neg hx]
    simp only []
    exact hj [] (by simp) (by simp)
end Go.Eng.Pure
namespace Go.Eng.Pure
open Go Go.Eng
set_option linter.unusedVariables false
theorem zQw (t:GTable) (h1:t.fAxes.length≤1073741824) (h2:∀ a ∈ t.fAxes,a.fValues.length≤1073741824) (h3:t.fEntries.length≤1073741824) (h4:∀ e ∈ t.fEntries,smEn e):zQa t=some t:=by
  unfold zQa
  have k0:=zID (fun out n=>(n,out,([]:List GEntry))) (fun out=>(out,([]:List GEntry))) t.fAxes (zQW t) h1 ?_ ?_
  · rw [k0,zAA]
    simp only []
    have k1:=zID (fun out n=>(n,t.fAxes,out)) (fun out=>(t.fAxes,out)) t.fEntries (zQV t) h3 ?_ ?_
    · rw [k1,zAA]
    · intro n hn out ho
      simp only [zQV]
      rw [zAK hn,zAC,zAG hn,zAA,zQr _ (h4 _ (List.getElem_mem hn)),zAA,zAj (by omega) (zA5 _),zAA,wrs (by omega)]
    · intro out _
      simp only [zQV]
      rw [zAI (Nat.le_refl _),zAB]
  · intro n hn out ho
    simp only [zQW]
    have hv:=h2 _ (List.getElem_mem hn)
    rw [zAK hn,zAC,zAG hn,zAA,zAA,zAj (by simp) (by omega),zAA,zAj (by omega) (zA5 _),zAA,wrs (by omega)]
    rfl
  · intro out _
    simp only [zQW]
    rw [zAI (Nat.le_refl _),zAB]
theorem zQ7 (t : GTable) (e : GEntry) (axes : List GAxis) (ht3 : t.fEntries.length ≤ 1000000) (ht4 : ∀ x ∈ t.fEntries, smKs x.fKeys) (he : smEn e) (hk : smKs e.fKeys) (ha : smAx axes) :
    zAF (zQN t e axes) (0,axes,([]:List GEntry))=some (axes,t.fEntries.filter fun x=>!replB axes e x):=by
  have:=zBI (fun out n=>(n,axes,out)) t.fEntries (fun out x=>if (!replB axes e x) then out++[x] else out) (fun out=>(axes,out)) (zQN t e axes) (fun n out=>out.length≤n) [] (by simp) ?_ ?_
  · rw [this]
    congr 2
    have key:∀ (l acc:List GEntry),l.foldl (fun out x=>if (!replB axes e x) then out++[x] else out) acc=acc++l.filter fun x=>!replB axes e x:=by
      intro l
      induction l with
      | nil=>intro acc; simp
      | cons x l ih =>
        intro acc
        rw [List.foldl_cons,ih,List.filter_cons]
        cases replB axes e x <;> simp
    rw [key]; rfl
  · intro n hn out ho
    have hb:zQN t e axes ((n:Int),axes,out)=some (.inl (((n+1:Nat):Int),axes,if (!replB axes e t.fEntries[n]) then out++[t.fEntries[n]] else out)):=by
      simp only [zQN]
      rw [zAK hn,zAC,zAG hn,zAA,zQ0 axes e _ ha hk (ht4 _ (List.getElem_mem hn)) (by have:=he.2.2.1; omega) (by have:=he.2.2.2.1; omega),zAA,wrs (by omega)]
      cases replB axes e t.fEntries[n] with
      | true=>rfl
      | false =>
        rw [Bool.not_false,zAC,zAA,zAj (by omega) (zA5 _),zAA]; rfl
    refine ⟨hb,?_⟩
    split
    · rw [List.length_append,List.length_singleton]; omega
    · omega
  · intro out _
    simp only [zQN]
    rw [zAI (Nat.le_refl _),zAB]
theorem zQy (axes:List GAxis) (limit:Int):∀ (k:Nat) (M:List GEntry),M.length=k→zAF (zQK limit) (axes,M)=some (axes,M.drop (M.length - limN limit))
  | 0,M,hM=>by
    have:M=[]:=List.length_eq_zero_iff.1 hM
    subst this
    rw [zAE (r:=(axes,([]:List GEntry)))]
    · simp
    · simp only [zQK]
      rw [decide_eq_false (by split <;> simp <;> omega),zAB]
  | k+1,M,hM=>by
    have hlim:(limN limit:Int)=if limit<0 then 0 else limit:=by unfold limN; split <;> omega
    by_cases h:limN limit<M.length
    · have hb : zQK limit (axes, M) = some (.inl (axes, M.drop 1)) := by
        simp only [zQK]
        rw [← hlim,decide_eq_true (by omega),zAC,show (1:Int)=((1:Nat):Int) from rfl,zCl (by omega),zAA]
      rw [zAJ hb,zQy axes limit k (M.drop 1) (by rw [List.length_drop]; omega),List.drop_drop,List.length_drop]
      congr 3; omega
    · have hb : zQK limit (axes, M) = some (.inr (axes, M)) := by
        simp only [zQK]
        rw [← hlim,decide_eq_false (by omega),zAB]
      rw [zAE hb,show M.length - limN limit=0 by omega]; rfl
theorem zQ5 (t : GTable) (e : GEntry) (axes : List GAxis) (limit : Int) (ht : smTb t) (he : smEn e) (hk : smKs e.fKeys) (ha : smAx axes) (hav : ∀ a ∈ axes, a.fValues.length ≤ 1000000) :
    zQg t e axes limit=some (putS t e axes limit):=by
  obtain ⟨ht1,ht2,ht3,ht4⟩:=ht
  have hown:∀ m:List GEntry,m.length≤1000001→(∀ x ∈ m,smEn x)→zQa (⟨axes,m.drop (m.length - limN limit)⟩:GTable)=some ⟨axes,m.drop (m.length - limN limit)⟩:=by
    intro m hm hs
    refine zQw _ (by have:=ha.1; show axes.length≤_; omega) (fun a h=>by have:=hav a h; omega) ?_ (fun x hx=>hs x (List.mem_of_mem_drop hx))
    show (m.drop _).length≤_
    rw [List.length_drop]; omega
  unfold zQg putS putE
  rw [zQl _ _ (by have:=ht1.1; omega) (fun a h=>by have:=ht2 a h; omega),zAA]
  by_cases hx:t.fAxes=axes
  · have hfl:=List.length_filter_le (fun x=>!replB axes e x) t.fEntries
    rw [decide_eq_true hx,zAC,zQ7 t e axes ht3 (fun x h=>(ht4 x h).2) he hk ha,zAA,zAA,if_pos hx]
    simp only []
    rw [zAj (by omega) (zA5 _),zAA,zQy axes limit _ _ rfl,zAA]
    simp only []
    rw [hown _ (by rw [List.length_append,List.length_singleton]; omega) (fun x hm=>by
      rcases List.mem_append.1 hm with h | h
      · exact (ht4 x (List.mem_filter.1 h).1).1
      · rw [List.mem_singleton.1 h]; exact he),zAA]
  · rw [decide_eq_false hx,zAB,zAA,if_neg hx]
    simp only []
    rw [zAj (by simp) (zA5 _),zAA,zQy axes limit _ _ rfl,zAA]
    simp only []
    rw [hown _ (by simp) (fun x hm=>by
      rw [List.nil_append] at hm
      rw [List.mem_singleton.1 hm]; exact he),zAA]
end Go.Eng.Pure
namespace Go.Eng.Pure
open Go Go.Eng
set_option linter.unusedVariables false
def lastI {α:Type} (l:List α) (p:α→Bool):Nat→Int
  | 0=>-1
  | n+1=>if (l[n]?).any p then (n:Int) else lastI l p n
theorem zLs (l:List GEntry) (f:GEntry→Option Bool) (p:GEntry→Bool) (hl:l.length≤1073741824) (h:∀ x ∈ l,f x=some (p x)):zE6 l f=some (lastI l p l.length):=by
  have key:∀ n,n≤l.length→zAF (zCv l f) ((n:Int) - 1)=some (if lastI l p n=-1 then .inl () else .inr (lastI l p n)):=by
    intro n
    induction n with
    | zero =>
      intro _
      rw [zAE (r:=.inl ())]
      · rfl
      · simp only [zCv]; rfl
    | succ n ih =>
      intro hn
      have hlt:n<l.length:=by omega
      have e1:((n+1:Nat):Int) - 1=(n:Int):=by omega
      have hb:zCv l f (n:Int)=some (if p l[n] then .inr (.inr (n:Int)) else .inl ((n:Int) - 1)):=by
        simp only [zCv]
        rw [decide_eq_true (by omega),zAC,zAG hlt,zAA,h _ (List.getElem_mem hlt),zAA,wr_eq ⟨by omega,by omega⟩]
        cases p l[n] <;> rfl
      rw [e1]
      have hg:(l[n]?).any p=p l[n]:=by rw [List.getElem?_eq_getElem hlt]; rfl
      unfold lastI
      rw [hg]
      cases hp:p l[n] with
      | true =>
        rw [hp,if_pos rfl] at hb
        rw [zAE hb,if_pos rfl,if_neg (by omega)]
      | false =>
        rw [hp,if_neg (by simp)] at hb
        rw [zAJ hb,ih (by omega)]
        simp only [Bool.false_eq_true,if_false]
  unfold zE6
  rw [wr_eq ⟨by omega,by omega⟩,key l.length (Nat.le_refl _),zAA]
  by_cases hx:lastI l p l.length=-1
  · rw [if_pos hx]; simp only []; rw [hx]
  · rw [if_neg hx]
theorem zKu {α:Type} (l:List α) (p:α→Bool):∀ n,n≤l.length→decide (0≤lastI l p n)=(l.take n).any p
  | 0,_=>rfl
  | n+1,hn=>by
    have hlt:n<l.length:=by omega
    have hg:(l[n]?).any p=p l[n]:=by rw [List.getElem?_eq_getElem hlt]; rfl
    unfold lastI
    rw [hg,List.take_succ_eq_append_getElem hlt,List.any_append]
    cases hp:p l[n] with
    | true=>simp [hp]
    | false =>
      rw [if_neg (by simp),zKu l p n (by omega)]; simp [hp]
end Go.Eng.Pure
namespace Go.Eng.Pure
open Go Go.Eng
set_option linter.unusedVariables false
def asc:List Str→Bool
  | a :: b :: l=>Op.bytesLess a b&&asc (b :: l)
  | _=>true
theorem zOf (l : List Str) (body : Int → Option (Int ⊕ (Unit ⊕ Bool))) (hl : l.length ≤ 1073741824)
    (h:∀ n (h1:n+1<l.length),body ((n+1:Nat):Int)=some (if Op.bytesLess (l[n]'(by omega)) l[n+1] then .inl ((n+2:Nat):Int) else .inr (.inr false)))
    (h':∀ n,l.length≤n→body (n:Int)=some (.inr (.inl ()))):zAF body 1=some (if asc l then .inl () else .inr false):=by
  have key:∀ (k n:Nat),n+k=l.length→zAF body ((n+1:Nat):Int)=some (if asc (l.drop n) then .inl () else .inr false):=by
    intro k
    induction k with
    | zero =>
      intro n hn
      rw [zAE (h' (n+1) (by omega)),List.drop_of_length_le (by omega)]; rfl
    | succ k ih =>
      intro n hn
      by_cases h1:n+1<l.length
      · have hb:=h n h1
        rw [List.drop_eq_getElem_cons (show n<l.length by omega),List.drop_eq_getElem_cons h1,asc,← List.drop_eq_getElem_cons h1]
        cases hp:Op.bytesLess (l[n]'(by omega)) l[n+1] with
        | true =>
          rw [hp,if_pos rfl] at hb
          rw [zAJ hb,ih (n+1) (by omega),Bool.true_and]
        | false =>
          rw [hp,if_neg (by simp)] at hb
          rw [zAE hb]; rfl
      · rw [zAE (h' (n+1) (by omega))]
        have:l.drop n=[l[n]'(by omega)]:=by
          rw [List.drop_eq_getElem_cons (show n<l.length by omega),List.drop_of_length_le (by omega)]
        rw [this]; rfl
  have:=key l.length 0 (by omega)
  rw [List.drop_zero] at this
  exact this
def zKQ (e:GEntry):Bool:=e.fKeys.isEmpty&&e.fVary.length==e.fSnapshot.length&&asc e.fVary
theorem zMw (e:GEntry) (hv:e.fVary.length≤1073741824):zFZ e=some (zKQ e):=by
  unfold zFZ zKQ
  rw [zOf e.fVary (zCi e) hv]
  · cases hk:e.fKeys with
    | cons k l=>rw [show decide (0<(((k :: l).length:Nat):Int))=true from decide_eq_true (by simp),Bool.true_or,zAC]; rfl
    | nil =>
      rw [show decide (0<((([]:List (List Str)).length:Nat):Int))=false from rfl,Bool.false_or]
      by_cases h1:e.fVary.length=e.fSnapshot.length
      · rw [show ((e.fVary.length:Int) !=(e.fSnapshot.length:Int))=false from by simp [h1],zAB,zAA,show (e.fVary.length==e.fSnapshot.length)=true from by simp [h1]]
        cases asc e.fVary <;> rfl
      · rw [show ((e.fVary.length:Int) !=(e.fSnapshot.length:Int))=true from by simp; omega,zAC,show (e.fVary.length==e.fSnapshot.length)=false from by simp [h1]]; rfl
  · intro n h1
    simp only [zCi]
    rw [zAK h1,zAC,show ((n+1:Nat):Int) - 1=(n:Int) by omega,wr_eq ⟨by omega,by omega⟩,zAG (show n<e.fVary.length by omega),zAA,zAG h1,zAA,wrs (by omega)]
    cases Op.bytesLess (e.fVary[n]'(by omega)) e.fVary[n+1] <;> rfl
  · intro n hn
    simp only [zCi]
    rw [zAI hn,zAB]
end Go.Eng.Pure
