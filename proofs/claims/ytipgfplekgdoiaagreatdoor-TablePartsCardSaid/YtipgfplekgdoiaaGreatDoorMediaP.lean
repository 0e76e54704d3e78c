/- A part. -/
import Derived.Test.YtipgfplekgdoiaaGreatDoorEtagLaw
set_option linter.unusedVariables false
namespace Go.Eng
theorem zEO {α ρ : Type} (l : List α) (g : α → Nat) (G a : Nat) (fin : Int → ρ) (body : (Int × Int) → Option ((Int × Int) ⊕ ρ)) (hG : ∀ x ∈ l, g x ≤ G)
    (h:∀ k (hk:k<l.length) (n:Nat),n≤a+k*G→body ((n:Int),(k:Int))=some (.inl (((n+g l[k]:Nat):Int),((k+1:Nat):Int))))
    (h':∀ n:Int,body (n,(l.length:Int))=some (.inr (fin n))):zAG body ((a:Int),0)=some (fin ((a+(l.map g).sum:Nat):Int)):=by
  have hb:∀ k,k≤l.length→((l.take k).map g).sum≤k*G:=by
    intro k hk
    induction k with
    | zero=>simp
    | succ k ih =>
      rw [zAg (by omega),List.map_append,List.sum_append,Nat.succ_mul]
      have:=ih (by omega)
      have:=hG l[k] (List.getElem_mem (by omega))
      simp only [List.map_cons,List.map_nil,List.sum_cons,List.sum_nil]
      omega
  have:=zB2 (fun k=>(((a+((l.take k).map g).sum:Nat):Int),(k:Int))) l.length (fin ((a+(l.map g).sum:Nat):Int)) body ?_ ?_
  · simpa using this
  · intro k hk
    rw [h k hk _ (by have:=hb k (by omega); omega)]
    rw [zAg hk,List.map_append,List.sum_append]
    simp only [List.map_cons,List.map_nil,List.sum_cons,List.sum_nil,Nat.add_zero,Nat.add_assoc]
  · rw [h',List.take_length]
end Go.Eng
namespace Go.Eng.Pure
open Go Go.Eng
set_option linter.unusedVariables false
theorem wr4 {b:Nat} (h:4+b≤4*1073741824):wr (4+(b:Int))=((4+b:Nat):Int):=by rw [← wrn h]; congr 1
theorem wr100 {b:Nat} (h:100+b≤4*1073741824):wr (100+(b:Int))=((100+b:Nat):Int):=by rw [← wrn h]; congr 1
theorem wra {a b:Nat} (h:a+b≤4*1073741824):wr ((a:Int)+(b:Int))=((a+b:Nat):Int):=by rw [← wrn h]; congr 1
def lensS (l:List Str):Nat:=(l.map fun s=>4+s.length).sum
theorem zPK (l:List Str) (N B:Nat) (h1:l.length≤N) (h2:∀ s ∈ l,s.length≤B):lensS l≤N*(4+B):=by
  have:lensS l≤l.length*(4+B):=by
    clear h1
    induction l with
    | nil=>simp [lensS]
    | cons x l ih =>
      have h3:=ih (fun s hs=>h2 s (List.mem_cons_of_mem _ hs))
      have h4:=h2 x List.mem_cons_self
      unfold lensS at h3 ⊢
      simp only [List.map_cons,List.sum_cons,List.length_cons,Nat.succ_mul]
      omega
  exact Nat.le_trans this (Nat.mul_le_mul_right _ h1)
def smS (l:List Str):Prop:=l.length≤1000∧∀ s ∈ l,s.length≤1000
theorem zIB (l:List Str) (h:smS l):zCo l=some (lensS l:Int):=by
  unfold zCo lensS
  rw [show (0:Int)=((0:Nat):Int) from rfl,show (((0:Nat):Int),((0:Nat):Int))=(((0:Nat):Int),(0:Int)) from rfl,zEO l (fun s=>4+s.length) 1004 0 (fun n=>n) _ (fun s hs=>by have:=h.2 s hs; omega)]
  · simp
  · intro k hk n hn
    have h1:=h.1
    have h2:=h.2 l[k] (List.getElem_mem hk)
    have hn':n≤2000000:=by have:k*1004≤1000*1004:=Nat.mul_le_mul_right _ (by omega); omega
    simp only [zDI,zAJ hk,zAC,zAE hk,zAA]
    rw [wr4 (b:=l[k].length) (by omega),wra (a:=n) (b:=4+l[k].length) (by omega),wrs (n:=k) (by omega)]
  · intro n
    simp only [zDI,zAI (Nat.le_refl _),zAB]
def smE (e:GEntry):Prop:=(e.fKeys.length≤10∧∀ k ∈ e.fKeys,smS k)∧smS e.fVary∧smS e.fSnapshot∧smL e.fFields∧e.fReason.length≤100∧e.fBody.length≤2000
def fldsS (l:List GField):Nat:=(l.map fun f=>4+f.fName.length+f.fValue.length).sum
def keysS (l:List (List Str)):Nat:=(l.map lensS).sum
def sizeS (e:GEntry):Nat:=100+e.fReason.length+e.fBody.length+lensS e.fVary+lensS e.fSnapshot+fldsS e.fFields+keysS e.fKeys
theorem zF2 {l:List Str} (h:smS l):lensS l≤1004000:=zPK l 1000 1000 h.1 h.2
theorem zNE {l:List GField} (h:smL l):fldsS l≤70*604:=by
  have:fldsS l≤l.length*604:=by
    have h2:=h.2
    clear h
    induction l with
    | nil=>simp [fldsS]
    | cons x l ih =>
      have h3:=ih (fun s hs=>h2 s (List.mem_cons_of_mem _ hs))
      have h4:=h2 x List.mem_cons_self
      unfold fldsS at h3 ⊢
      simp only [List.map_cons,List.sum_cons,List.length_cons,Nat.succ_mul]
      omega
  exact Nat.le_trans this (Nat.mul_le_mul_right _ h.1)
theorem zNT {l:List (List Str)} (h1:l.length≤10) (h2:∀ k ∈ l,smS k):keysS l≤10*1004000:=by
  have:keysS l≤l.length*1004000:=by
    clear h1
    induction l with
    | nil=>simp [keysS]
    | cons x l ih =>
      have h3:=ih (fun s hs=>h2 s (List.mem_cons_of_mem _ hs))
      have h4:=zF2 (h2 x List.mem_cons_self)
      unfold keysS at h3 ⊢
      simp only [List.map_cons,List.sum_cons,List.length_cons,Nat.succ_mul]
      omega
  exact Nat.le_trans this (Nat.mul_le_mul_right _ h1)
theorem zO9 (e:GEntry) (h:smE e):zG3 e=some (sizeS e:Int):=by
  obtain ⟨⟨hk1,hk2⟩,hv,hs,hf,hr,hb⟩:=h
  unfold zG3 sizeS
  have b1:=zF2 hv; have b2:=zF2 hs; have b3:=zNE hf; have b4:=zNT hk1 hk2
  rw [zIB _ hv,zAA,zIB _ hs,zAA,
    wr100 (b:=e.fReason.length) (by omega),wra (a:=100+e.fReason.length) (b:=e.fBody.length) (by omega),wra (a:=100+e.fReason.length+e.fBody.length) (b:=lensS e.fVary) (by omega),
    wra (a:=100+e.fReason.length+e.fBody.length+lensS e.fVary) (b:=lensS e.fSnapshot) (by omega)]
  have ha:100+e.fReason.length+e.fBody.length+lensS e.fVary+lensS e.fSnapshot≤3000000:=by omega
  generalize 100+e.fReason.length+e.fBody.length+lensS e.fVary+lensS e.fSnapshot=a at *
  rw [zEO e.fFields (fun f=>4+f.fName.length+f.fValue.length) 604 a (fun n=>n) _ (fun f hm=>by have:=hf.2 f hm; omega)]
  · rw [zAA]
    show (zAG (zDZ e) (((a+fldsS e.fFields:Nat):Int),0)).bind _=_
    rw [zEO e.fKeys lensS 1004000 (a+fldsS e.fFields) (fun n=>n) _ (fun k hm=>zF2 (hk2 k hm))]
    · rfl
    · intro k hk n hn
      have h2:=zF2 (hk2 e.fKeys[k] (List.getElem_mem hk))
      have hn':n≤20000000:=by have:k*1004000≤10*1004000:=Nat.mul_le_mul_right _ (by omega); omega
      simp only [zDZ,zAJ hk,zAC,zAE hk,zAA,zIB _ (hk2 e.fKeys[k] (List.getElem_mem hk))]
      rw [wra (a:=n) (b:=lensS e.fKeys[k]) (by omega),wrs (n:=k) (by omega)]
    · intro n
      simp only [zDZ,zAI (Nat.le_refl _),zAB]
  · intro k hk n hn
    have h1:=hf.1
    have h2:=hf.2 e.fFields[k] (List.getElem_mem hk)
    have hn':n≤4000000:=by have:k*604≤70*604:=Nat.mul_le_mul_right _ (by omega); omega
    simp only [zEx,zAJ hk,zAC,zAE hk,zAA]
    rw [wr4 (b:=e.fFields[k].fName.length) (by omega),wra (a:=4+e.fFields[k].fName.length) (b:=e.fFields[k].fValue.length) (by omega),wra (a:=n) (b:=4+e.fFields[k].fName.length+e.fFields[k].fValue.length) (by omega),wrs (n:=k) (by omega)]
  · intro n
    simp only [zEx,zAI (Nat.le_refl _),zAB]
theorem zOR (e:GEntry) (h:smE e):zG2 e=some (sizeS e:Int):=by
  obtain ⟨⟨hk1,hk2⟩,hv,hs,hf,hr,hb⟩:=h
  unfold zG2 sizeS
  have b1:=zF2 hv; have b2:=zF2 hs; have b3:=zNE hf; have b4:=zNT hk1 hk2
  rw [wr100 (b:=e.fReason.length) (by omega),wra (a:=100+e.fReason.length) (b:=e.fBody.length) (by omega)]
  rw [zEO e.fFields (fun f=>4+f.fName.length+f.fValue.length) 604 (100+e.fReason.length+e.fBody.length) (fun n=>n) _ (fun f hm=>by have:=hf.2 f hm; omega)]
  rotate_left
  · intro k hk n hn
    have h1:=hf.1
    have h2:=hf.2 e.fFields[k] (List.getElem_mem hk)
    have hn':n≤4000000:=by have:k*604≤70*604:=Nat.mul_le_mul_right _ (by omega); omega
    simp only [zEu,zAJ hk,zAC,zAE hk,zAA]
    rw [wr4 (b:=e.fFields[k].fName.length) (by omega),wra (a:=4+e.fFields[k].fName.length) (b:=e.fFields[k].fValue.length) (by omega),wra (a:=n) (b:=4+e.fFields[k].fName.length+e.fFields[k].fValue.length) (by omega),wrs (n:=k) (by omega)]
  · intro n
    simp only [zEu,zAI (Nat.le_refl _),zAB]
  rw [zAA]
  show (zAG (zDh e) (((100+e.fReason.length+e.fBody.length+fldsS e.fFields:Nat):Int),0)).bind _=_
  rw [zEO e.fKeys lensS 1004000 (100+e.fReason.length+e.fBody.length+fldsS e.fFields) (fun n=>n) _ (fun k hm=>zF2 (hk2 k hm))]
  rotate_left
  · intro k hk n hn
    have hsm:=hk2 e.fKeys[k] (List.getElem_mem hk)
    have h2:=zF2 hsm
    have hn':n≤20000000:=by have:k*1004000≤10*1004000:=Nat.mul_le_mul_right _ (by omega); omega
    simp only [zDh,zAJ hk,zAC]
    rw [zEO e.fKeys[k] (fun s=>4+s.length) 1004 n (fun n=>n) _ (fun s hs=>by have:=hsm.2 s hs; omega)]
    · simp only [zAA]
      rw [wrs (n:=k) (by omega)]; rfl
    · intro j hj m hm
      have h3:=hsm.1
      have h4:=hsm.2 _ (List.getElem_mem hj)
      have hm':m≤30000000:=by have:j*1004≤1000*1004:=Nat.mul_le_mul_right _ (by omega); omega
      simp only [zEl,zAE hk,zAA,zAJ hj,zAC,zAE hj]
      rw [wr4 (b:=e.fKeys[k][j].length) (by omega),wra (a:=m) (b:=4+e.fKeys[k][j].length) (by omega),wrs (n:=j) (by omega)]
    · intro m
      simp only [zEl,zAE hk,zAA,zAI (Nat.le_refl _),zAB]
  · intro n
    simp only [zDh,zAI (Nat.le_refl _),zAB]
  rw [zAA]
  show (zAG (zDb e) (((100+e.fReason.length+e.fBody.length+fldsS e.fFields+keysS e.fKeys:Nat):Int),0)).bind _=_
  rw [zEO e.fVary (fun s=>4+s.length) 1004 (100+e.fReason.length+e.fBody.length+fldsS e.fFields+keysS e.fKeys) (fun n=>n) _ (fun s hs=>by have:=hv.2 s hs; omega)]
  rotate_left
  · intro j hj m hm
    have h3:=hv.1
    have h4:=hv.2 _ (List.getElem_mem hj)
    have hm':m≤30000000:=by have:j*1004≤1000*1004:=Nat.mul_le_mul_right _ (by omega); omega
    simp only [zDb,zAA,zAJ hj,zAC,zAE hj]
    rw [wr4 (b:=e.fVary[j].length) (by omega),wra (a:=m) (b:=4+e.fVary[j].length) (by omega),wrs (n:=j) (by omega)]
  · intro m
    simp only [zDb,zAI (Nat.le_refl _),zAB]
  rw [zAA]
  show (zAG (zDs e) (((100+e.fReason.length+e.fBody.length+fldsS e.fFields+keysS e.fKeys+lensS e.fVary:Nat):Int),0)).bind _=_
  rw [zEO e.fSnapshot (fun s=>4+s.length) 1004 (100+e.fReason.length+e.fBody.length+fldsS e.fFields+keysS e.fKeys+lensS e.fVary) (fun n=>n) _ (fun s hs'=>by have:=hs.2 s hs'; omega)]
  rotate_left
  · intro j hj m hm
    have h3:=hs.1
    have h4:=hs.2 _ (List.getElem_mem hj)
    have hm':m≤30000000:=by have:j*1004≤1000*1004:=Nat.mul_le_mul_right _ (by omega); omega
    simp only [zDs,zAA,zAJ hj,zAC,zAE hj]
    rw [wr4 (b:=e.fSnapshot[j].length) (by omega),wra (a:=m) (b:=4+e.fSnapshot[j].length) (by omega),wrs (n:=j) (by omega)]
  · intro m
    simp only [zDs,zAI (Nat.le_refl _),zAB]
  rw [zAA]
  show some (((100+e.fReason.length+e.fBody.length+fldsS e.fFields+keysS e.fKeys+lensS e.fVary+lensS e.fSnapshot:Nat):Int))=_
  congr 2
  omega
theorem fieldB (a b:GField):(!((a.fName==b.fName)&&((a.fValue==b.fValue)&&true)))=!decide (a=b):=by
  obtain ⟨n,v⟩:=a; obtain ⟨n',v'⟩:=b
  rw [Bool.and_true]
  congr 1
  rw [Bool.eq_iff_iff]
  simp
theorem zJN (a b:List GField) (ha:a.length≤1073741824):zDE a b=some (decide (a=b)):=by
  unfold zDE
  rw [neI]
  by_cases hl:a.length=b.length
  · have e:(a.length !=b.length)=false:=by simp [hl]
    rw [e,zAB,zD3 a b _ hl]
    · by_cases h:a=b <;> simp [h]
    · intro n hn hb
      simp only [zB6,zAJ hn,zAC,zAE hn,zAE hb,zAA,wrs (show n≤4*1073741824 by omega),fieldB]
      by_cases he:a[n]=b[n] <;> simp [he]
    · simp only [zB6,zAI (Nat.le_refl a.length),zAB]
  · have e:(a.length !=b.length)=true:=by simp [hl]
    rw [e,zAC,decide_eq_false (fun h=>hl (by rw [h]))]
theorem zKr (a b:List (List Str)) (ha:a.length≤1073741824) (hs:∀ k ∈ a,k.length≤1073741824):zEF a b=some (decide (a=b)):=by
  unfold zEF
  rw [neI]
  by_cases hl:a.length=b.length
  · have e:(a.length !=b.length)=false:=by simp [hl]
    rw [e,zAB,zD3 a b _ hl]
    · by_cases h:a=b <;> simp [h]
    · intro n hn hb
      simp only [zCq,zAJ hn,zAC,zAE hn,zAE hb,zAA,wrs (show n≤4*1073741824 by omega),zBa _ _ (hs _ (List.getElem_mem hn))]
      by_cases he:a[n]=b[n]
      · simp [he]
      · rw [show (a[n]==b[n])=false by simpa using he,if_neg he]; rfl
    · simp only [zCq,zAI (Nat.le_refl a.length),zAB]
  · have e:(a.length !=b.length)=true:=by simp [hl]
    rw [e,zAC,decide_eq_false (fun h=>hl (by rw [h]))]
def lnE (e:GEntry):Prop:=e.fKeys.length≤1073741824∧(∀ k ∈ e.fKeys,k.length≤1073741824)∧e.fVary.length≤1073741824∧e.fSnapshot.length≤1073741824∧e.fFields.length≤1073741824
theorem entB (a b:GEntry):decide (a=b)=((((((((decide (a.fKeys=b.fKeys))&&(a.fVary==b.fVary))&&(a.fSnapshot==b.fSnapshot))&&decide (a.fFields=b.fFields))&&(a.fReason==b.fReason))&&(a.fBody==b.fBody))&&(a.fRequested==b.fRequested))&&(a.fReceived==b.fReceived)):=by
  obtain ⟨a1,a2,a3,a4,a5,a6,a7,a8⟩:=a
  obtain ⟨b1,b2,b3,b4,b5,b6,b7,b8⟩:=b
  rw [Bool.eq_iff_iff]
  simp only [decide_eq_true_eq,Bool.and_eq_true,beq_iff_eq,GEntry.mk.injEq]
  constructor
  · rintro ⟨rfl,rfl,rfl,rfl,rfl,rfl,rfl,rfl⟩; simp
  · rintro ⟨⟨⟨⟨⟨⟨⟨rfl,rfl⟩,rfl⟩,rfl⟩,rfl⟩,rfl⟩,rfl⟩,rfl⟩; simp
theorem zNc (a b:GEntry) (h:lnE a):zGC a b=some (decide (a=b)):=by
  obtain ⟨h1,h2,h3,h4,h5⟩:=h
  unfold zGC
  rw [zKr _ _ h1 h2,zAA,zBa _ _ h3,zAA,zBa _ _ h4,zAA,zJN _ _ h5,zAA,entB]
  cases decide (a.fKeys=b.fKeys) <;> cases a.fVary==b.fVary <;> cases a.fSnapshot==b.fSnapshot <;> cases a.fReason==b.fReason <;> cases decide (a.fFields=b.fFields) <;> rfl
theorem zK7 (e:GEntry) (h:lnE e):zEK e=some e:=by
  obtain ⟨h1,h2,h3,h4,h5⟩:=h
  unfold zEK
  have:=zB2 (fun k=>((k:Int),e.fKeys.take k,e.fVary,e.fSnapshot,e.fReason,e.fFields,e.fBody,e.fRequested,e.fReceived)) e.fKeys.length (e.fKeys,e.fVary,e.fSnapshot,e.fReason,e.fFields,e.fBody,e.fRequested,e.fReceived) (zBy e) ?_ ?_
  · have e0:((0:Int),([]:List (List Str)),e.fVary,e.fSnapshot,e.fReason,e.fFields,e.fBody,e.fRequested,e.fReceived)=(((0:Nat):Int),e.fKeys.take 0,e.fVary,e.fSnapshot,e.fReason,e.fFields,e.fBody,e.fRequested,e.fReceived):=by simp
    rw [e0,this,zAA]
    simp only []
    rw [zAm (by simp) (by omega),zAA,zAm (by simp) (by omega),zAA,zAm (by simp) (by omega),zAA]
    rfl
  · intro k hk
    have h6:=h2 _ (List.getElem_mem hk)
    simp only [zBy,zAJ hk,zAC,zAE hk,zAA]
    rw [zAm (by simp) (by omega),zAA,List.nil_append,zAm (by rw [List.length_take]; omega) (zBW _),zAA,wrs (n:=k) (by omega),zAg hk]
  · simp only [zBy,zAI (Nat.le_refl _),zAB,List.take_length]
def badK (k:List Str):Bool:=!keepS k
def keepK (l:List (List Str)):Bool:=!((l.take 11).any badK)&&decide (l.length≤10)
theorem zKy (l:List (List Str)):zHZ l=some (keepK l):=by
  unfold zHZ keepK
  rw [zFt l 11 badK]
  · have e:decide ((l.length:Int)≤10)=decide (l.length≤10):=zHA l.length 10
    rw [e]
    cases (l.take 11).any badK <;> simp
  · intro n hn hm
    have e1:decide ((n:Int)<11)=true:=zAJ hm
    have e2:wr ((n:Int)+1)=(n:Int)+1:=by rw [wrs (n:=n) (by omega)]; omega
    simp only [zFN,zAJ hn,e1,Bool.and_self,zAC,zAE hn,zAA,e2,zDX]
    rw [show (!keepS l[n])=badK l[n] from rfl]
    cases badK l[n] <;> rfl
  · intro n hn
    have:(decide ((n:Int)<(l.length:Int))&&decide ((n:Int)<11))=false:=by
      rcases hn with h | h
      · rw [zAI h]; rfl
      · rw [show decide ((n:Int)<11)=false from zAI h]; simp
    simp only [zFN,this,zAB]
def keepE (e:GEntry):Bool:=((((keepK e.fKeys&&keepS e.fVary)&&keepS e.fSnapshot)&&decide (e.fReason.length≤100))&&decide (e.fBody.length≤2000))&&keepF e.fFields
theorem zJt (e:GEntry):zGs e=some (keepE e):=by
  unfold zGs keepE
  rw [zKy,zAA,zDX,zAA,zDX,zAA,zJH,zAA,show ((100:Int))=((100:Nat):Int) from rfl,show ((2000:Int))=((2000:Nat):Int) from rfl,zHA,zHA]
  cases keepK e.fKeys <;> cases keepS e.fVary <;> cases keepS e.fSnapshot <;> cases decide (e.fReason.length≤100) <;> cases decide (e.fBody.length≤2000) <;> rfl
theorem zKB {e:GEntry} (h:keepE e=true):smE e:=by
  simp only [keepE,keepK,Bool.and_eq_true,decide_eq_true_eq,Bool.not_eq_true',List.any_eq_false] at h
  obtain ⟨⟨⟨⟨⟨⟨k1,k2⟩,v⟩,s⟩,r⟩,b⟩,f⟩:=h
  have hS:∀ l,keepS l=true→smS l:=fun l hl=>by
    have:=zL0 hl
    exact ⟨by omega,fun x hx=>by have:=this.2 x hx; omega⟩
  refine ⟨⟨k2,fun k hk=>hS k ?_⟩,hS _ v,hS _ s,zLm f,r,b⟩
  have:=k1 k (by rw [List.take_of_length_le (by omega)]; exact hk)
  simpa [badK] using this
end Go.Eng.Pure
namespace Go.Eng.Pure
open Go Go.Eng
set_option linter.unusedVariables false
theorem ixB (c:UInt8) (b:Str):∀ a:Str,(∀ x ∈ a,x≠c)→Lib.indexByte (a++c :: b) c=(a.length:Int)
  | [],_=>by simp [Lib.indexByte]
  | x :: a,h=>by
    have h1:(x==c)=false:=by simpa using h x List.mem_cons_self
    have h2:=ixB c b a (fun y hy=>h y (List.mem_cons_of_mem _ hy))
    rw [List.cons_append,Lib.indexByte,h2,h1,List.length_cons]
    rw [show (((a.length:Int)==-1):Bool)=false by rw [beq_eq_false_iff_ne]; omega]
    simp
end Go.Eng.Pure
namespace Go.Eng.Pure
open Go Go.Eng
set_option linter.unusedVariables false
theorem WS_eq (s m:Str) (h1:s.length≤64*1073741824) (h2:m.length≤64*1073741824):zAN s m=some ((s.length:Int),(),m++s):=by
  unfold zAN zAw
  rw [zAA,zAm h2 h1,zAA]
end Go.Eng.Pure
namespace Go.Eng.Pure
open Go Go.Eng
set_option linter.unusedVariables false
def zAY (c:UInt8):Str→List Str
  | []=>[[]]
  | x :: s=>if x=c then [] :: zAY c s else match zAY c s with | y :: ys=>(x :: y) :: ys | []=>[[x]]
theorem zEP (c:UInt8):∀ s,zAY c s≠[]
  | []=>by simp [zAY]
  | x :: s=>by
    unfold zAY
    split
    · simp
    · split <;> simp
theorem zHR {c:UInt8}:∀ {s:Str},c ∉ s→zAY c s=[s]
  | [],_=>rfl
  | x :: s,h=>by
    have h1:¬ x=c:=fun e=>h (by rw [e]; exact List.mem_cons_self)
    have h2:c ∉ s:=fun e=>h (List.mem_cons_of_mem _ e)
    unfold zAY
    rw [if_neg h1,zHR h2]
theorem zID {c:UInt8} (b:Str):∀ {a:Str},c ∉ a→zAY c (a++c :: b)=a :: zAY c b
  | [],_=>by rw [List.nil_append,zAY,if_pos rfl]
  | x :: a,h=>by
    have h1:¬ x=c:=fun e=>h (by rw [e]; exact List.mem_cons_self)
    have h2:c ∉ a:=fun e=>h (List.mem_cons_of_mem _ e)
    rw [List.cons_append,zAY,if_neg h1,zID b h2]
theorem zIo {c:UInt8} {s:Str} (h:c ∈ s):∃ a b,s=a++c :: b∧c ∉ a:=by
  induction s with
  | nil=>cases h
  | cons x s ih =>
    by_cases hx:x=c
    · exact ⟨[],s,by rw [hx]; rfl,by simp⟩
    · have : c ∈ s := by
        rcases List.mem_cons.1 h with h | h
        · exact absurd h.symm hx
        · exact h
      obtain ⟨a,b,e,ha⟩:=ih this
      refine ⟨x :: a,b,by rw [e]; rfl,?_⟩
      intro hm
      rcases List.mem_cons.1 hm with hm | hm
      · exact hx hm.symm
      · exact ha hm
theorem zLV (c:UInt8):∀ a:Str,c ∉ a→Lib.indexByte a c=-1
  | [],_=>rfl
  | x :: a,h=>by
    have h1:(x==c)=false:=by
      rw [beq_eq_false_iff_ne]; exact fun e=>h (by rw [e]; exact List.mem_cons_self)
    have h2:=zLV c a (fun e=>h (List.mem_cons_of_mem _ e))
    rw [Lib.indexByte,h2,h1]; rfl
theorem zNI (s:Str) (c:UInt8):zDz s [c]=some (Lib.indexByte s c):=by
  unfold zDz zA8 zCp; rfl
theorem zFs (c:UInt8):∀ s:Str,(zAY c s).length=s.count c+1
  | []=>rfl
  | x :: s=>by
    have ih:=zFs c s
    unfold zAY
    by_cases hx:x=c
    · rw [if_pos hx,List.length_cons,ih,hx,List.count_cons_self]
    · rw [if_neg hx,List.count_cons_of_ne (by exact fun e=>hx e)]
      cases hs:zAY c s with
      | nil=>exact absurd hs (zEP c s)
      | cons y ys=>rw [hs] at ih; simpa using ih
theorem zLH (c : UInt8) (n : Int) (N : Nat) (s0 : Str) (hn : (wr ((if (wr ((s0.length : Int) + 1)) < n then (wr ((s0.length : Int) + 1)) else n) - 1)) = (N : Int)) (hN : N ≤ 1000000) :
    ∀ (j:Nat) (t:Str) (k:Nat) (m:List Str),t.count c=j→t.length≤1073741824→k+j=N→m.length=N+1 →
      zAG (zAv s0 [c] 0 n) (t,(k:Int),m)=some ((zAY c t).getLast (zEP c t),(N:Int),m.take k++(zAY c t).dropLast++m.drop N):=by
  intro j
  induction j with
  | zero =>
    intro t k m hc ht hk hm
    have hnm:c ∉ t:=fun h=>by have:=List.count_pos_iff.2 h; omega
    have hk':k=N:=by omega
    subst hk'
    have hb:zAv s0 [c] 0 n (t,(k:Int),m)=some (.inr (t,(k:Int),m)):=by
      unfold zAv
      simp only []
      rw [hn,zAI (Nat.le_refl _),zAB]
    rw [zAF hb]
    simp only [zHR hnm]
    simp
  | succ j ih =>
    intro t k m hc ht hk hm
    have hm0:c ∈ t:=List.count_pos_iff.1 (by omega)
    obtain ⟨a,b,e,ha⟩:=zIo hm0
    have hix:Lib.indexByte t c=(a.length:Int):=by rw [e]; exact ixB c b a (fun x hx e=>ha (e ▸ hx))
    have hlt:t.length=a.length+1+b.length:=by rw [e,List.length_append,List.length_cons]; omega
    have hcb:b.count c=j:=by
      rw [e,List.count_append,List.count_cons_self,List.count_eq_zero.2 ha] at hc; omega
    have hkm:k<m.length:=by omega
    have hput:xput m (k:Int) a=some (m.set k a):=by unfold xput; rw [if_pos ⟨by omega,by omega⟩,Int.toNat_natCast]
    have hsub:xsub t (((a.length+1:Nat):Int)) (t.length:Int)=some b:=by
      rw [zCf (by omega),e,List.drop_append]; simp
    have hto:xsub t 0 (a.length:Int)=some a:=by
      rw [zE8 (by omega),e,List.take_left']; rfl
    have hb:zAv s0 [c] 0 n (t,(k:Int),m)=some (.inl (b,((k+1:Nat):Int),m.set k a)):=by
      unfold zAv
      simp only []
      rw [hn,zAJ (show k<N by omega),zAC,zNI,zAA,hix,show decide ((a.length:Int)<0)=false from decide_eq_false (by omega),zAB,
        show wr ((a.length:Int)+0)=(a.length:Int) by rw [Int.add_zero,wrn (by omega)],hto,zAA,zAE hkm,zAA,hput,zAA,
        show ((([c]:Str).length:Nat):Int)=1 from rfl,wrs (by omega),hsub,zAA,wrs (by omega)]
    rw [zAL hb,ih b (k+1) (m.set k a) hcb (by omega) (by omega) (by rw [List.length_set,hm])]
    have hsp:zAY c t=a :: zAY c b:=by rw [e]; exact zID b ha
    have hl:(zAY c t).getLast (zEP c t)=(zAY c b).getLast (zEP c b):=by
      simp only [hsp,List.getLast_cons (zEP c b)]
    have hd:(zAY c t).dropLast=a :: (zAY c b).dropLast:=by
      rw [hsp,List.dropLast_cons_of_ne_nil (zEP c b)]
    rw [hl,hd]
    congr 3
    have e1:(m.set k a).take (k+1)=m.take k++[a]:=by
      rw [zAg (by rw [List.length_set]; exact hkm),List.take_set_of_le (Nat.le_refl k),List.getElem_set_self]
    have e2:(m.set k a).drop N=m.drop N:=List.drop_set_of_lt (by omega)
    rw [e1,e2,List.append_assoc,List.append_assoc,List.append_assoc]
    rfl
theorem zOJ {α:Type} (l:List α) (x y:α):(l++[x]).set l.length y=l++[y]:=by induction l <;> simp [*]
theorem zM4 (s:Str) (c:UInt8) (hs:s.length≤1000000):zEo s [c]=some (zAY c s):=by
  have hcl:s.count c≤s.length:=List.count_le_length
  have hcnt:zCm s [c]=some ((s.count c:Nat):Int):=by
    unfold zCm
    rw [show ((([c]:Str).length:Int)==0)=false from rfl,zAB,show ((([c]:Str).length:Int)==1)=true from rfl,zAC,show xnth [c] 0=some c from rfl,zAA]
  unfold zEo zEc
  rw [show ((-1:Int)==0)=false from rfl,zAB,show ((([c]:Str)==[]):Bool)=false from rfl,zAB,show decide ((-1:Int)<0)=true from rfl,zAC,hcnt,zAA,zAA,wrs (n:=s.count c) (by omega)]
  have hmin:(if wr ((s.length:Int)+1)<((s.count c+1:Nat):Int) then wr ((s.length:Int)+1) else ((s.count c+1:Nat):Int))=((s.count c+1:Nat):Int):=by
    rw [wrs (by omega),if_neg (by omega)]
  have hmk:xmake ((s.count c+1:Nat):Int) ([]:Str)=some (List.replicate (s.count c+1) []):=by
    unfold xmake; rw [if_pos ⟨by omega,by omega⟩,Int.toNat_natCast]
  rw [hmin,hmk,zAA]
  have hN:wr ((if wr ((s.length:Int)+1)<((s.count c+1:Nat):Int) then wr ((s.length:Int)+1) else ((s.count c+1:Nat):Int)) - 1)=((s.count c:Nat):Int):=by
    rw [hmin,show ((s.count c+1:Nat):Int) - 1=((s.count c:Nat):Int) by omega,wrn (by omega)]
  have hl:=zLH c _ _ s hN (by omega) _ s 0 (List.replicate (s.count c+1) []) rfl (by omega) (by omega) (by rw [List.length_replicate])
  rw [show ((0:Nat):Int)=0 from rfl] at hl
  rw [hl,zAA]
  simp only []
  have hlen:=zFs c s
  have hdl:(zAY c s).dropLast.length=s.count c:=by rw [List.length_dropLast,hlen]; omega
  have hm:((List.replicate (s.count c+1) ([]:Str)).take 0++(zAY c s).dropLast++(List.replicate (s.count c+1) []).drop (s.count c))=(zAY c s).dropLast++[[]]:=by
    rw [List.take_zero,List.nil_append,List.drop_replicate,show s.count c+1 - s.count c=1 by omega]; rfl
  rw [hm]
  have hx:xnth ((zAY c s).dropLast++[[]]) ((s.count c:Nat):Int)=some []:=by rw [← hdl]; exact zKW _ _
  have hp:xput ((zAY c s).dropLast++[[]]) ((s.count c:Nat):Int) ((zAY c s).getLast (zEP c s))=some (zAY c s):=by
    unfold xput
    rw [if_pos ⟨by omega,by rw [List.length_append,hdl,List.length_singleton]; omega⟩,Int.toNat_natCast,← hdl,zOJ,List.dropLast_concat_getLast]
  rw [hx,zAA,hp,zAA,wrs (n:=s.count c) (by omega),zE8 (by omega),zAA,zAA,List.take_of_length_le (by omega)]
theorem zIO:∀ (n:Nat) (s:Str) (out:List Str),s.length≤n→n≤1000000→out.length+n≤2000000→zAG zBG (s,out)=some (out++zAY 45 s)
  | n,s,out,h,hn,ho=>by
    have hix:=Etag.Index_eq s 45 (by omega) s.length 0 (by omega)
    rw [List.drop_zero,show ((0:Nat):Int)=0 from rfl] at hix
    by_cases hm:(45:UInt8) ∈ s
    · obtain ⟨a,b,e,ha⟩:=zIo hm
      have hidx:s.idxOf 45=a.length:=by rw [e,List.idxOf_append,if_neg ha]; simp
      rw [if_pos hm,hidx,Nat.zero_add] at hix
      have hl:s.length=a.length+1+b.length:=by rw [e,List.length_append,List.length_cons]; omega
      have hb:zBG (s,out)=some (.inl (b,out++[a])):=by
        unfold zBG
        simp only []
        rw [hix,zAA,show decide ((a.length:Int)<0)=false from decide_eq_false (by omega),zAB,zE8 (by omega),zAA,wrs (by omega),zCf (by omega),zAA,zAm (by omega) (zBW _),zAA]
        rw [e,List.take_left' rfl,List.drop_append]
        simp
      match n,h with
      | n+1,h =>
        rw [zAL hb,zIO n b (out++[a]) (by omega) (by omega) (by rw [List.length_append,List.length_singleton]; omega),e,zID b ha,List.append_assoc]
        rfl
      | 0,h=>omega
    · rw [if_neg hm] at hix
      have hb:zBG (s,out)=some (.inr (out++[s])):=by
        unfold zBG
        simp only []
        rw [hix,zAA,show decide ((-1:Int)<0)=true from rfl,zAC,zAm (by omega) (zBW _),zAA]
      rw [zAF hb,zHR hm]
theorem zMD (s:Str) (hs:s.length≤1000000):zEr s=some (zAY 45 s):=by
  unfold zEr
  rw [zIO s.length s [] (Nat.le_refl _) hs (by simp; omega),zAA,List.nil_append]
theorem zJB (c:UInt8):∀ (s:Str),∀ x ∈ zAY c s,x.length≤s.length
  | [],x,h=>by simp [zAY] at h; subst h; simp
  | y :: s,x,h=>by
    have ih:=zJB c s
    unfold zAY at h
    split at h
    · rcases List.mem_cons.1 h with rfl | h
      · simp
      · have:=ih x h; simp; omega
    · split at h
      · rename_i z zs hz
        rcases List.mem_cons.1 h with rfl | h
        · have:=ih z (by rw [hz]; exact List.mem_cons_self); simp; omega
        · have:=ih x (by rw [hz]; exact List.mem_cons_of_mem _ h); simp; omega
      · simp at h; subst h; simp
def alB (c:UInt8):Bool:=((decide (97≤c))&&(decide (c≤122)))||((decide (65≤c))&&(decide (c≤90)))
def subOK (s:Str) (d:Bool):Bool:=(s.all fun c=>alB c||(d&&isD c))&&((s !=[])&&decide (s.length≤8))
theorem zPX (c:UInt8) (d:Bool):(((decide (lowB c<97))||(decide (122<lowB c)))&&(((!d)||(decide (lowB c<48)))||(decide (57<lowB c))))=!(alB c||(d&&isD c)):=by
  have h1:=zKw (fun c=>(((decide (lowB c<97))||(decide (122<lowB c)))&&(((!true)||(decide (lowB c<48)))||(decide (57<lowB c))))==!(alB c||(true&&isD c))) (by decide +kernel) c
  have h2:=zKw (fun c=>(((decide (lowB c<97))||(decide (122<lowB c)))&&(((!false)||(decide (lowB c<48)))||(decide (57<lowB c))))==!(alB c||(false&&isD c))) (by decide +kernel) c
  cases d
  · exact beq_iff_eq.1 h2
  · exact beq_iff_eq.1 h1
theorem le8 (n:Nat):decide ((n:Int)≤8)=decide (n≤8):=zHA n 8
theorem zMk (s:Str) (d:Bool) (hs:s.length≤1000000):zDw s d=some (subOK s d):=by
  unfold zDw
  have hll:(lower s).length≤1000000:=by rw [zCb]; exact hs
  rw [zBf _ (by omega),zAA,zFk (lower s) (by omega) (fun c=>(((decide (c<97))||(decide (122<c)))&&(((!d)||(decide (c<48)))||(decide (57<c))))) (zBi d (lower s)) false,zAA]
  · have e : (lower s).any (fun c => (((decide (c < 97)) || (decide (122 < c))) && (((!d) || (decide (c < 48))) || (decide (57 < c))))) = !(s.all fun c => alB c || (d && isD c)) := by
      unfold lower
      rw [List.any_map,← zIE]
      congr 1; funext c
      exact zPX c d
    rw [e,le8]
    unfold subOK
    cases s.all fun c=>alB c||(d&&isD c) <;> rfl
  · intro n hn
    unfold zBi
    rw [zAJ hn,zAC,zAE hn,zAA,zAA]
    cases (((decide ((lower s)[n]<97))||(decide (122<(lower s)[n])))&&(((!d)||(decide ((lower s)[n]<48)))||(decide (57<(lower s)[n])))) <;> rfl
  · unfold zBi
    rw [zAI (Nat.le_refl _),zAB]
def zJd:Nat→List Str→Bool
  | _,[]=>true
  | n,x :: l=>subOK x (decide (0<n))&&zJd (n+1) l
def langS (s:Str):Bool:=zJd 0 (zAY 45 s)
theorem zIx (l : List Str) (hl : l.length ≤ 1000001) (body : Int → Option (Int ⊕ (Unit ⊕ Bool)))
    (h:∀ (n:Nat) (hn:n<l.length),body (n:Int)=some (if subOK l[n] (decide (0<n)) then .inl ((n+1:Nat):Int) else .inr (.inr false))) (h':body (l.length:Int)=some (.inr (.inl ()))) :
    ∀ (k n:Nat),n+k=l.length→zAG body (n:Int)=some (if zJd n (l.drop n) then .inl () else .inr false):=by
  intro k
  induction k with
  | zero =>
    intro n hn
    have:n=l.length:=by omega
    subst this
    rw [zAF h',List.drop_length]; rfl
  | succ k ih =>
    intro n hn
    have hlt:n<l.length:=by omega
    have hb:=h n hlt
    rw [List.drop_eq_getElem_cons hlt]
    unfold zJd
    cases hs:subOK l[n] (decide (0<n)) with
    | true=>rw [hs] at hb; rw [zAL hb,ih (n+1) (by omega),Bool.true_and]
    | false=>rw [hs] at hb; rw [zAF hb]; rfl
theorem pos0 (n:Nat):decide ((0:Int)<(n:Int))=decide (0<n):=zIs 0 n
theorem zNa (s:Str) (hs:s.length≤1000000):zDQ s=some (langS s):=by
  have hl:=zFs 45 s
  have hc:s.count 45≤s.length:=List.count_le_length
  unfold zDQ
  rw [zM4 s 45 hs,zAA]
  have:=zIx (zAY 45 s) (by omega) (zCe (zAY 45 s)) ?_ ?_ (zAY 45 s).length 0 (by omega)
  · rw [show ((0:Nat):Int)=0 from rfl,List.drop_zero] at this
    rw [this,zAA]
    unfold langS
    cases zJd 0 (zAY 45 s) <;> rfl
  · intro n hn
    have hsm:=zJB 45 s _ (List.getElem_mem hn)
    unfold zCe
    rw [zAJ hn,zAC,zAE hn,zAA,pos0,zMk _ _ (by omega),zAA,wrs (by omega)]
    cases subOK (zAY 45 s)[n] (decide (0<n)) <;> rfl
  · unfold zCe
    rw [zAI (Nat.le_refl _),zAB]
theorem zPC (s:Str) (hs:s.length≤1000000):zHk s=some (langS s):=by
  have hl:=zFs 45 s
  have hc:s.count 45≤s.length:=List.count_le_length
  unfold zHk
  rw [zMD s hs,zAA]
  have:=zIx (zAY 45 s) (by omega) (zET (zAY 45 s)) ?_ ?_ (zAY 45 s).length 0 (by omega)
  · rw [show ((0:Nat):Int)=0 from rfl,List.drop_zero] at this
    rw [this,zAA]
    unfold langS
    cases zJd 0 (zAY 45 s) <;> rfl
  · intro n hn
    have hsm:=zJB 45 s _ (List.getElem_mem hn)
    generalize hx:(zAY 45 s)[n]=x at *
    have hw:zAG (zEV (zAY 45 s) (n:Int)) 0=some (if x.any (fun c=>!(alB c||(decide (0<n)&&isD c))) then .inr (.inr (.inr false)) else .inl ()):=by
      have hx0:xnth (zAY 45 s) (n:Int)=some x:=by rw [zAE hn,hx]
      refine zBX (ρ:=Unit ⊕ (Int ⊕ (Unit ⊕ Bool))) _ x (fun c=>!(alB c||(decide (0<n)&&isD c))) (.inr (.inr (.inr false))) (.inl ()) ?_ ?_
      · intro i hi
        unfold zEV
        rw [hx0,zAA,zAJ hi,zAC,zAA,zAE hi,zAA,pos0,zNV,wrs (by omega)]
        show ((bif alB x[i] then some true else _).bind _)=_
        cases alB x[i] <;> cases decide (0<n) <;> cases isD x[i] <;> simp <;> omega
      · unfold zEV
        rw [hx0,zAA,zAI (Nat.le_refl _),zAB]
    unfold zET
    rw [zAJ hn,zAC,zAE hn,hx,zAA,hw,wrs (by omega)]
    have e8:decide ((8:Int)<(x.length:Int))=!decide (x.length≤8):=by
      rw [Bool.eq_iff_iff]; simp only [decide_eq_true_eq,Bool.not_eq_true',decide_eq_false_iff_not]; omega
    have e1:decide ((x.length:Int)<1)=(x==[]):=by
      cases x with
      | nil=>rfl
      | cons a b=>rw [decide_eq_false (by rw [List.length_cons]; omega)]; rfl
    rw [e1,zAA,e8]
    unfold subOK
    rw [zIE]
    have e3:(x !=[])=!(x==[]):=rfl
    rw [e3]
    cases x==[] <;> cases decide (x.length≤8) <;> cases (x.all fun c=>alB c||(decide (0<n)&&isD c)) <;> rfl
  · unfold zET
    rw [zAI (Nat.le_refl _),zAB]
end Go.Eng.Pure
namespace Go.Eng.Pure
open Go Go.Eng
set_option linter.unusedVariables false
theorem zMf {σ σ' ρ:Type} {body:σ→Option (σ ⊕ ρ)} {body':σ'→Option (σ' ⊕ ρ)} (φ:σ→σ') (h:∀ s,body' (φ s)=(body s).map (Sum.map φ id)) {s:σ} {r:ρ} (hw:zAG body s=some r):zAG body' (φ s)=some r:=by
  obtain ⟨n,hn⟩:=zGE hw
  refine zGb (n:=n) ?_
  clear hw
  induction n generalizing s with
  | zero=>simp [loopN] at hn
  | succ n ih =>
    unfold loopN at hn ⊢
    rw [h s]
    cases hb:body s with
    | none=>rw [hb] at hn; cases hn
    | some x =>
      cases x with
      | inl s'=>rw [hb] at hn; exact ih hn
      | inr r'=>rw [hb] at hn; exact hn
theorem zMh (s:Str) (x:List Str×Int×Bool×Int):zDN s (x.1,x.2.2.1,x.2.1,x.2.2.2)=(zAW s 59 x).map (Sum.map (fun x=>(x.1,x.2.2.1,x.2.1,x.2.2.2)) id):=by
  obtain ⟨o,f,q,i⟩:=x
  unfold zDN zAW
  simp only []
  cases decide (i<(s.length:Int)) with
  | false=>rfl
  | true =>
    simp only [zAC]
    cases hx:xnth s i with
    | none=>cases q <;> rfl
    | some c =>
      have key : ∀ b : Bool, (bif b then some (Sum.inl (o, q, f, wr (wr (i + 1) + 1))) else
          (some c).bind fun c32=>bif c32==34 then some (.inl (o,!q,f,wr (i+1))) else (some c).bind fun c34 =>
            bif c34==59&&!q then (xsub s f i).bind fun s38=>(xapp o [s38]).bind fun l44=>some (.inl (l44,q,wr (i+1),wr (i+1))) else some (.inl (o,q,f,wr (i+1)))) =
        (bif b then some (Sum.inl (o,f,q,wr (wr (i+1)+1))) else
          (some c).bind fun c33=>bif c33==34 then some (.inl (o,f,!q,wr (i+1))) else (some c).bind fun c35 =>
            bif c35==59&&!q then (xsub s f i).bind fun s39=>(xapp o [s39]).bind fun l45=>some (.inl (l45,wr (i+1),q,wr (i+1))) else some (.inl (o,f,q,wr (i+1))):Option ((List Str×Int×Bool×Int) ⊕ (List Str×Int))).map (Sum.map (fun x=>(x.1,x.2.2.1,x.2.1,x.2.2.2)) id):=by
        intro b
        cases b with
        | true=>rfl
        | false =>
          simp only [zAB,zAA]
          cases c==34 with
          | true=>rfl
          | false =>
            cases c==59 <;> cases q <;> simp only [zAB,zAC,Bool.not_true,Bool.not_false,Bool.and_true,Bool.and_false] <;> try rfl
            cases xsub s f i with
            | none=>rfl
            | some y =>
              simp only [zAA]
              cases xapp o [y] <;> rfl
      cases q
      · exact key false
      · exact key (c==92)
theorem zO2 (s:Str) (hs:s.length≤1073741824):zH1 s=some (cutS 59 s):=by
  have h:=zOf s 59 (by decide) hs
  obtain ⟨o,g,h1,h2,h3,h4⟩:=zLv s 59 (by decide) hs s.length 0 0 false [] (by omega) (by omega) (by omega) (by omega) (by simp)
  have h5:=zMf (body':=zDN s) _ (zMh s) h1
  have h5:zAG (zDN s) ([],false,0,0)=some (o,(g:Int)):=h5
  have h1:zAG (zAW s 59) ([],0,false,0)=some (o,(g:Int)):=h1
  unfold zGe at h
  rw [h1,zAA] at h
  unfold zH1
  rw [h5,zAA]
  exact h
theorem zPc (s:Str) (c:UInt8):Lib.indexByte s c=if c ∈ s then (s.idxOf c:Int) else -1:=by
  by_cases h:c ∈ s
  · obtain ⟨a,b,e,ha⟩:=zIo h
    rw [if_pos h,e,ixB c b a (fun x hx e=>ha (e ▸ hx)),List.idxOf_append,if_neg ha]; simp
  · rw [if_neg h,zLV c s h]
theorem zNP {s:Str} {c:UInt8} (h:c ∈ s):s.idxOf c<s.length:=List.idxOf_lt_length_of_mem h
theorem zLQ (s:Str) (c:UInt8) (hs:s.length≤1073741824):zFA s [c]=some (if c ∈ s then (s.take (s.idxOf c),s.drop (s.idxOf c+1),true) else (s,[],false)):=by
  unfold zFA zFE zA8 zCp
  simp only []
  rw [zPc,zAA]
  by_cases h:c ∈ s
  · have hl:=zNP h
    rw [if_pos h,if_pos h,show decide ((0:Int)≤(s.idxOf c:Int))=true from decide_eq_true (by omega),zAC,zE8 (by omega),zAA,
      show ((([c]:Str).length:Nat):Int)=1 from rfl,wrs (by omega),zCf (by omega),zAA,zAA]
  · rw [if_neg h,if_neg h]; rfl
def oneS (m:Str):Str×Str×Bool :=
  if 61 ∈ m∧tok (m.take (m.idxOf 61))=true then
    (if tok (m.drop (m.idxOf 61+1)) then (lower (m.take (m.idxOf 61)),m.drop (m.idxOf 61+1),true)
     else (lower (m.take (m.idxOf 61)),(unq (m.drop (m.idxOf 61+1))).1,(unq (m.drop (m.idxOf 61+1))).2))
  else ([],[],false)
theorem zPd (m:Str) (hm:m.length≤1073741824):zH2 m=some (oneS m):=by
  unfold zH2 oneS
  rw [zLQ m 61 hm,zAA]
  by_cases h:(61:UInt8) ∈ m
  · have h1:(m.take (m.idxOf 61)).length≤1073741824:=by rw [List.length_take]; omega
    have h2:(m.drop (m.idxOf 61+1)).length≤1073741824:=by rw [List.length_drop]; omega
    rw [if_pos h]
    simp only [Bool.not_true,zAB]
    rw [zDH _ h1,zAA,zAA]
    cases ht:tok (m.take (m.idxOf 61)) with
    | false=>rw [if_neg (by simp)]; rfl
    | true =>
      rw [if_pos ⟨h,rfl⟩,Bool.not_true,zAB,zDH _ h2,zAA]
      cases hv:tok (m.drop (m.idxOf 61+1)) with
      | true =>
        rw [Bool.not_true,zAB,zAA]
        simp only []
        rw [zBf _ h1,zAA]; rfl
      | false =>
        rw [Bool.not_false,zAC,zMX _ h2,zAA,zAA]
        simp only []
        rw [zBf _ h1,zAA]; rfl
  · rw [if_neg h,if_neg (fun h2=>h h2.1)]
    rfl
def parL:List Str→List GParam→Option (List GParam)
  | [],acc=>some acc
  | m :: l,acc=>if trim m=[] then parL l acc else if (oneS (trim m)).2.2 then parL l (acc++[⟨(oneS (trim m)).1,(oneS (trim m)).2.1⟩]) else none
def parC (x:Str) (l:List Str):Str×List GParam×Bool :=
  if trim x=[] then ([],[],false) else match parL l [] with | some ps=>(trim x,ps,true) | none=>([],[],false)
def parS (s:Str):Str×List GParam×Bool :=
  match cutS 59 s with
  | []=>([],[],false)
  | x :: l=>parC x l
def parF (acc:List GParam) (m:Str):List GParam ⊕ (List GParam ⊕ (Str×List GParam×Bool)) :=
  if trim m=[] then .inl acc else if (oneS (trim m)).2.2 then .inl (acc++[⟨(oneS (trim m)).1,(oneS (trim m)).2.1⟩]) else .inr (.inr ([],[],false))
theorem zJx:∀ (l:List Str) (acc:List GParam),run parF .inl l acc=match parL l acc with | some ps=>.inl ps | none=>.inr ([],[],false)
  | [],acc=>rfl
  | m :: l,acc=>by
    unfold run parF parL
    by_cases h:trim m=[]
    · rw [if_pos h,if_pos h]; exact zJx l acc
    · rw [if_neg h,if_neg h]
      cases h2:(oneS (trim m)).2.2 with
      | true=>rw [if_pos rfl,if_pos rfl]; exact zJx l _
      | false=>rw [if_neg (by decide),if_neg (by decide)]
theorem zMv (a:UInt8) (s:Str):cutS a s≠[]:=by
  have:∀ (s:Str) st cur,segs a st cur s≠[]:=by
    intro s
    induction s with
    | nil=>intro st cur; simp [segs]
    | cons c r ih => intro st cur; unfold segs; split; · simp
                     · exact ih _ _
  exact this s 0 []
theorem zKq (s:Str) (hs:s.length≤1000000):zE5 s=some (parS s):=by
  obtain ⟨c1,c2⟩:=zIz 59 s
  unfold zE5 parS
  rw [zO2 s (by omega),zAA]
  cases hc:cutS 59 s with
  | nil=>exact absurd hc (zMv 59 s)
  | cons x l =>
    rw [hc] at c1 c2
    have hx:=c1 x List.mem_cons_self
    have hl:l.length≤1000000:=by rw [List.length_cons] at c2; omega
    show _=some (parC x l)
    rw [zCG,zAA,zJD _ (by omega),zAA]
    unfold parC
    by_cases ht:trim x=[]
    · rw [ht,if_pos rfl]; rfl
    · rw [show (trim x==[])=false by simpa using ht,zAB,if_neg ht]
      have hsub:xsub (x :: l) 1 ((x :: l).length:Int)=some l:=by
        have:=zCf (l:=x :: l) (i:=1) (by simp)
        simpa using this
      rw [hsub,zAA]
      have:=zG5 (fun (acc:List GParam) i=>(acc,i)) l parF .inl (zDA l) (fun n acc=>acc.length≤n) [] (Nat.le_refl 0) ?_ ?_
      · rw [this,zAA,zJx]
        cases parL l [] <;> rfl
      · intro n hn acc hI
        have hm:=c1 l[n] (List.mem_cons_of_mem _ (List.getElem_mem hn))
        have htl:=zHf l[n]
        refine ⟨?_,?_⟩
        · unfold zDA parF
          simp only []
          rw [zAJ hn,zAC,zAE hn,zAA,zJD _ (by omega),zAA]
          by_cases h1:trim l[n]=[]
          · rw [h1,if_pos rfl,wrs (by omega)]; rfl
          · rw [show (trim l[n]==[])=false by simpa using h1,zAB,if_neg h1,zPd _ (by omega),zAA]
            cases h2:(oneS (trim l[n])).2.2 with
            | true =>
              rw [Bool.not_true,zAB,if_pos rfl,zAm (by omega) (zBW _),zAA,wrs (by omega)]
            | false=>rw [Bool.not_false,zAC,if_neg (by decide)]
        · intro st' h
          unfold parF at h
          split at h
          · injection h with h; subst h; omega
          · split at h
            · injection h with h; subst h; rw [List.length_append,List.length_singleton]; omega
            · cases h
      · intro acc hI
        unfold zDA
        simp only []
        rw [zAI (Nat.le_refl _),zAB]
theorem zKN (s:Str) (c:UInt8) (hs:s.length≤1073741824):zDM s c 0=some (if c ∈ s then (s.idxOf c:Int) else -1):=by
  have:=Etag.Index_eq s c hs s.length 0 (by omega)
  rw [List.drop_zero,show ((0:Nat):Int)=0 from rfl] at this
  rw [this]; simp
theorem zL6 (s:Str) (hs:s.length≤1000000):zCv s=some (parS s):=by
  obtain ⟨c1,c2⟩:=zIz 59 s
  unfold zCv parS
  rw [zOf s 59 (by decide) (by omega),zAA]
  cases hc:cutS 59 s with
  | nil=>exact absurd hc (zMv 59 s)
  | cons x l =>
    rw [hc] at c1 c2
    have hx:=c1 x List.mem_cons_self
    have hl:(x :: l).length≤1000001:=by omega
    show _=some (parC x l)
    rw [zCG,zAA,zJq _ (by omega),zAA]
    unfold parC
    by_cases ht:trim x=[]
    · rw [ht,if_pos rfl]; rfl
    · rw [show (trim x==[])=false by simpa using ht,zAB,if_neg ht]
      have:=zKF (fun (acc:List GParam) i=>(acc,i)) (x :: l) parF .inl (zBK (x :: l)) (fun n acc=>acc.length≤n) ?_ ?_ l.length 1 [] (by simp; omega) (by simp)
      · have e:(([]:List GParam),((1:Nat):Int))=(([]:List GParam),(1:Int)):=rfl
        rw [e,show (x :: l).drop 1=l from rfl] at this
        rw [this,zAA,zJx]
        cases parL l [] <;> rfl
      · intro n hn acc hI
        have hm:=c1 (x :: l)[n] (List.getElem_mem hn)
        have htl:=zHf (x :: l)[n]
        have hx1:=zAE hn
        generalize (x :: l)[n]=m at *
        refine ⟨?_,?_⟩
        · unfold zBK parF
          simp only []
          rw [zAJ hn,zAC,hx1,zAA,zJq _ (by omega),zAA]
          by_cases h1:trim m=[]
          · rw [h1,if_pos rfl,wrs (by omega)]; rfl
          · rw [show (trim m==[])=false by simpa using h1,zAB,if_neg h1]
            generalize trim m=t at *
            have ht1:(t.take (t.idxOf 61)).length≤1073741824:=by rw [List.length_take]; omega
            have ht2:(t.drop (t.idxOf 61+1)).length≤1073741824:=by rw [List.length_drop]; omega
            rw [zKN _ _ (by omega),zAA]
            by_cases h61:(61:UInt8) ∈ t
            · have hlt:=zNP h61
              rw [if_pos h61,show decide ((t.idxOf 61:Int)<0)=false from decide_eq_false (by omega),zAB,zE8 (by omega),zAA,zFG _ ht1,zAA,zAA]
              cases htk:tok (t.take (t.idxOf 61)) with
              | false =>
                have ho:oneS t=([],[],false):=by unfold oneS; rw [if_neg (by simp [htk])]
                rw [ho]; rfl
              | true =>
                rw [Bool.not_true,zAB,wrs (by omega),zCf (by omega),zAA,zFG _ ht2,zAA]
                cases hv:tok (t.drop (t.idxOf 61+1)) with
                | true =>
                  have ho:oneS t=(lower (t.take (t.idxOf 61)),t.drop (t.idxOf 61+1),true):=by unfold oneS; rw [if_pos ⟨h61,htk⟩,if_pos hv]
                  rw [ho,Bool.not_true,zAB,zAA]
                  simp only []
                  rw [zAA,zEQ _ ht1,zAA,zAm (by omega) (zBW _),zAA,wrs (by omega)]
                  rfl
                | false =>
                  have ho:oneS t=(lower (t.take (t.idxOf 61)),(unq (t.drop (t.idxOf 61+1))).1,(unq (t.drop (t.idxOf 61+1))).2):=by unfold oneS; rw [if_pos ⟨h61,htk⟩,if_neg (by simp [hv])]
                  rw [ho,Bool.not_false,zAC,zLC _ ht2,zAA]
                  cases hu:(unq (t.drop (t.idxOf 61+1))).2 with
                  | false=>rfl
                  | true =>
                    rw [Bool.not_true,zAB,zAA]
                    simp only []
                    rw [zAA,zEQ _ ht1,zAA,zAm (by omega) (zBW _),zAA,wrs (by omega)]
                    rfl
            · have ho:oneS t=([],[],false):=by unfold oneS; rw [if_neg (fun h=>h61 h.1)]
              rw [if_neg h61,ho]; rfl
        · intro st' h
          unfold parF at h
          split at h
          · injection h with h; subst h; omega
          · split at h
            · injection h with h; subst h; rw [List.length_append,List.length_singleton]; omega
            · cases h
      · intro acc hI
        unfold zBK
        simp only []
        rw [zAI (Nat.le_refl _),zAB]
end Go.Eng.Pure
