/- A part. -/
import Derived.Test.YtipgfplekgdoiaaGreatDoorEng10
import Derived.Test.YtipgfplekgdoiaaGreatDoorPure4
set_option linter.unusedVariables false
namespace Go.Eng
open Go
theorem zGz {α:Type} (l:List α) (n:Nat):xnth l (n:Int)=l[n]?:=by
  unfold xnth; rw [if_pos (by omega)]; rfl
theorem zCG {α:Type} (a:α) (l:List α):xnth (a :: l) 0=some a:=rfl
theorem zKW {α:Type} (l:List α) (a:α):xnth (l++[a]) (l.length:Int)=some a:=by
  rw [zGz]; simp
theorem zIt {α:Type} {l:List α} {i j:Int} (h:0≤i∧i≤j∧j≤l.length):xsub l i j=some ((l.take j.toNat).drop i.toNat):=by
  unfold xsub; rw [if_pos h]
theorem zGr {α:Type} {l:List α} {i j:Nat} (h:i≤j∧j≤l.length):xsub l (i:Int) (j:Int)=some ((l.take j).drop i):=by
  rw [zIt ⟨by omega,by omega,by omega⟩]; rfl
theorem zNU {α:Type} {l k:List α} (h:l.length+k.length≤big):xapp l k=some (l++k):=by
  unfold xapp; rw [if_pos h]
theorem zNM {a b:Str} (h:a.length+b.length≤2*big):xcat a b=some (a++b):=by
  unfold xcat; rw [if_pos (by simp only [big] at h; omega)]
theorem zE7 {n:Int} (h0:-1000000000000000000≤n) (h:n≤1000000000000000000):wr n=n:=wr_eq ⟨by omega,by omega⟩
theorem zAC {α:Type} (x y:α):(bif true then x else y)=x:=rfl
theorem zAB {α:Type} (x y:α):(bif false then x else y)=y:=rfl
theorem zAA {α β:Type} (a:α) (f:α→Option β):(some a).bind f=f a:=rfl
theorem zBX {α ρ : Type} (body : Int → Option (Int ⊕ ρ)) (l : List α) (bad : α → Bool) (stop done : ρ)
    (h:∀ (n:Nat) (hn:n<l.length),body (n:Int)=some (if bad l[n]=true then .inr stop else .inl ((n:Int)+1)))
    (h':body (l.length:Int)=some (.inr done)):zAG body 0=some (if l.any bad then stop else done):=by
  have key:∀ (k n:Nat),n+k=l.length→zAG body (n:Int)=some (if (l.drop n).any bad then stop else done):=by
    intro k
    induction k with
    | zero =>
      intro n hn
      have:n=l.length:=by omega
      subst this
      rw [zAF h']
      simp
    | succ k ih =>
      intro n hn
      have hlt:n<l.length:=by omega
      have hb:=h n hlt
      rw [List.drop_eq_getElem_cons hlt,List.any_cons]
      by_cases hbad:bad l[n]=true
      · rw [if_pos hbad] at hb
        rw [zAF hb,hbad]; simp
      · rw [if_neg hbad] at hb
        rw [zAL hb]
        have e:((n:Int)+1)=((n+1:Nat):Int):=by omega
        rw [e,ih (n+1) (by omega)]
        simp [hbad]
  simpa using key l.length 0 (by omega)
def rtrim (p:UInt8→Bool) (s:Str):Str:=(s.reverse.dropWhile p).reverse
def ltrim (p:UInt8→Bool) (s:Str):Str:=s.dropWhile p
theorem zMN (p:UInt8→Bool) (s:Str) (c:UInt8):rtrim p (s++[c])=if p c then rtrim p s else s++[c]:=by
  unfold rtrim
  rw [List.reverse_append]
  simp only [List.reverse_cons,List.reverse_nil,List.nil_append,List.singleton_append,List.dropWhile_cons]
  cases p c <;> simp
theorem zMn (p:UInt8→Bool) (s:Str):(rtrim p s).length≤s.length:=by
  unfold rtrim
  have:=(List.dropWhile_sublist p (l:=s.reverse)).length_le
  simpa using this
theorem zK1 (p:UInt8→Bool) (s:Str):(ltrim p s).length≤s.length:=(List.dropWhile_sublist p).length_le
theorem zI0 (body : Str → Option (Str ⊕ Str)) (p : UInt8 → Bool) (B : Nat) (h1 : ∀ (s : Str) (c : UInt8), s.length + 1 ≤ B → body (s ++ [c]) = some (if p c then .inl s else .inr (s ++ [c]))) (h0 : body [] = some (.inr [])) :
    ∀ (n:Nat) (s:Str),s.length=n→s.length≤B→zAG body s=some (rtrim p s):=by
  intro n
  induction n with
  | zero =>
    intro s hs _
    obtain rfl:=List.eq_nil_of_length_eq_zero hs
    rw [zAF h0]; rfl
  | succ n ih =>
    intro s hs hB
    rcases List.eq_nil_or_concat s with rfl | ⟨t,c,rfl⟩
    · cases hs
    · rw [List.concat_eq_append] at hs hB ⊢
      simp only [List.length_append,List.length_cons,List.length_nil] at hs hB
      have hb:=h1 t c (by omega)
      rw [zMN]
      cases hp:p c with
      | true=>rw [hp] at hb; rw [zAL (by simpa using hb),ih t (by omega) (by omega)]; simp
      | false=>rw [hp] at hb; rw [zAF (by simpa using hb)]; simp
theorem zI3 (body : Str → Option (Str ⊕ Str)) (p : UInt8 → Bool) (h1 : ∀ (s : Str) (c : UInt8), body (c :: s) = some (if p c then .inl s else .inr (c :: s))) (h0 : body [] = some (.inr [])) :
    ∀ (s:Str),zAG body s=some (ltrim p s):=by
  intro s
  induction s with
  | nil=>rw [zAF h0]; rfl
  | cons c s ih =>
    have hb:=h1 s c
    unfold ltrim
    rw [List.dropWhile_cons]
    cases hp:p c with
    | true=>rw [hp] at hb; rw [zAL (by simpa using hb),ih]; rfl
    | false=>rw [hp] at hb; rw [zAF (by simpa using hb)]; rfl
theorem zJX (s:Str) (c:UInt8):xnth (s++[c]) (((s++[c]).length:Int) - 1)=some c:=by
  have e:(((s++[c]).length:Int) - 1)=(s.length:Int):=by simp
  rw [e,zKW]
theorem zJY (s:Str) (c:UInt8):xsub (s++[c]) 0 (((s++[c]).length:Int) - 1)=some s:=by
  have e:(((s++[c]).length:Int) - 1)=(s.length:Int):=by simp
  rw [e,zIt ⟨by omega,by omega,by simp; omega⟩]
  simp
theorem zM0 {α:Type} (s:List α) (h:s.length≤4*big):wr ((s.length:Int) - 1)=(s.length:Int) - 1:=zE7 (by omega) (by simp only [big] at h; omega)
end Go.Eng
namespace Go.Eng
open Go
def run {α σ ρ:Type} (f:σ→α→σ ⊕ ρ) (fin:σ→ρ):List α→σ→ρ
  | [],st=>fin st
  | x :: l,st=>match f st x with | .inl st'=>run f fin l st' | .inr r=>r
theorem zKF {S α σ ρ : Type} (mk : σ → Int → S) (l : List α) (f : σ → α → σ ⊕ ρ) (fin : σ → ρ) (body : S → Option (S ⊕ ρ)) (I : Nat → σ → Prop)
    (h:∀ (n:Nat) (hn:n<l.length) st,I n st→body (mk st (n:Int))=some (match f st l[n] with | .inl st'=>.inl (mk st' ((n+1:Nat):Int)) | .inr r=>.inr r)∧∀ st',f st l[n]=.inl st'→I (n+1) st')
    (h':∀ st,I l.length st→body (mk st (l.length:Int))=some (.inr (fin st))) :
    ∀ (k n:Nat) (st:σ),n+k=l.length→I n st→zAG body (mk st (n:Int))=some (run f fin (l.drop n) st):=by
  intro k
  induction k with
  | zero =>
    intro n st hn hI
    have:n=l.length:=by omega
    subst this
    rw [zAF (h' st hI)]
    simp [run]
  | succ k ih =>
    intro n st hn hI
    have hlt:n<l.length:=by omega
    obtain ⟨hb,hs⟩:=h n hlt st hI
    rw [List.drop_eq_getElem_cons hlt]
    unfold run
    cases hf:f st l[n] with
    | inl st'=>rw [hf] at hb; rw [zAL hb,ih (n+1) st' (by omega) (hs st' hf)]
    | inr r=>rw [hf] at hb; rw [zAF hb]
theorem zG5 {S α σ ρ : Type} (mk : σ → Int → S) (l : List α) (f : σ → α → σ ⊕ ρ) (fin : σ → ρ) (body : S → Option (S ⊕ ρ)) (I : Nat → σ → Prop) (st : σ) (hI : I 0 st)
    (h:∀ (n:Nat) (hn:n<l.length) st,I n st→body (mk st (n:Int))=some (match f st l[n] with | .inl st'=>.inl (mk st' ((n+1:Nat):Int)) | .inr r=>.inr r)∧∀ st',f st l[n]=.inl st'→I (n+1) st')
    (h':∀ st,I l.length st→body (mk st (l.length:Int))=some (.inr (fin st))) :
    zAG body (mk st 0)=some (run f fin l st):=by
  have:=zKF mk l f fin body I h h' l.length 0 st (by omega) hI
  simpa using this
theorem zDT {S α σ ρ : Type} (mk : σ → Int → S) (l : List α) (f : σ → α → σ) (fin : σ → ρ) (body : S → Option (S ⊕ ρ)) (I : Nat → σ → Prop) (st : σ) (hI : I 0 st)
    (h:∀ (n:Nat) (hn:n<l.length) st,I n st→body (mk st (n:Int))=some (.inl (mk (f st l[n]) ((n+1:Nat):Int)))∧I (n+1) (f st l[n]))
    (h':∀ st,I l.length st→body (mk st (l.length:Int))=some (.inr (fin st))) :
    zAG body (mk st 0)=some (fin (l.foldl f st)):=by
  have e:∀ (l:List α) st,run (fun s x=>.inl (f s x)) fin l st=fin (l.foldl f st):=by
    intro l
    induction l with
    | nil=>intro st; rfl
    | cons x l ih=>intro st; exact ih _
  rw [← e]
  exact zG5 mk l (fun s x=>.inl (f s x)) fin body I st hI (fun n hn st hI=>⟨(h n hn st hI).1,fun st' hs=>by cases hs; exact (h n hn st hI).2⟩) h'
theorem zIq {α β:Type} (g:α→Option β) (l:List α) (acc:List β):l.foldl (fun a x=>match g x with | some y=>a++[y] | none=>a) acc=acc++l.filterMap g:=by
  induction l generalizing acc with
  | nil=>simp
  | cons x l ih =>
    rw [List.foldl_cons,ih,List.filterMap_cons]
    cases g x <;> simp
theorem zJ9 {α β:Type} (g:α→List β) (l:List α) (acc:List β):l.foldl (fun a x=>a++g x) acc=acc++l.flatMap g:=by
  induction l generalizing acc with
  | nil=>simp
  | cons x l ih=>rw [List.foldl_cons,ih,List.flatMap_cons]; simp
theorem zIs (n m:Nat):decide ((n:Int)<(m:Int))=decide (n<m):=by
  by_cases h:n<m
  · rw [decide_eq_true h,decide_eq_true (by omega)]
  · rw [decide_eq_false h,decide_eq_false (by omega)]
theorem zHA (n m:Nat):decide ((n:Int)≤(m:Int))=decide (n≤m):=by
  by_cases h:n≤m
  · rw [decide_eq_true h,decide_eq_true (by omega)]
  · rw [decide_eq_false h,decide_eq_false (by omega)]
theorem zAJ {n m:Nat} (h:n<m):decide ((n:Int)<(m:Int))=true:=decide_eq_true (by omega)
theorem zAI {n m:Nat} (h:m≤n):decide ((n:Int)<(m:Int))=false:=decide_eq_false (by omega)
theorem zLM {n m:Nat} (h:n≤m):decide ((n:Int)≤(m:Int))=true:=decide_eq_true (by omega)
theorem zNn {n m:Nat} (h:m<n):decide ((n:Int)≤(m:Int))=false:=decide_eq_false (by omega)
theorem zAE {α:Type} {l:List α} {n:Nat} (h:n<l.length):xnth l (n:Int)=some l[n]:=by rw [zGz,List.getElem?_eq_getElem h]
theorem zOu {n:Nat} (h:n≤4*big):wr ((n:Int)+1)=((n+1:Nat):Int):=by
  rw [zE7 (by omega) (by simp only [big] at h; omega)]; omega
theorem zNy {n:Nat} (h:n≤4*big):wr (n:Int)=(n:Int):=zE7 (by omega) (by simp only [big] at h; omega)
theorem zCf {α:Type} {l:List α} {i:Nat} (h:i≤l.length):xsub l (i:Int) (l.length:Int)=some (l.drop i):=by
  rw [zGr ⟨h,Nat.le_refl _⟩,List.take_length]
theorem zE8 {α:Type} {l:List α} {j:Nat} (h:j≤l.length):xsub l 0 (j:Int)=some (l.take j):=by
  have:=zGr (l:=l) (i:=0) (j:=j) ⟨by omega,h⟩
  simpa using this
end Go.Eng
namespace Go.Eng
open Go
theorem zB2 {S ρ:Type} (st:Nat→S) (N:Nat) (r:ρ) (body:S→Option (S ⊕ ρ)) (h:∀ n,n<N→body (st n)=some (.inl (st (n+1)))) (h':body (st N)=some (.inr r)):zAG body (st 0)=some r:=by
  have key:∀ k n,n+k=N→zAG body (st n)=some r:=by
    intro k
    induction k with
    | zero => intro n hn; obtain rfl : n = N := by omega
              exact zAF h'
    | succ k ih=>intro n hn; rw [zAL (h n (by omega)),ih (n+1) (by omega)]
  exact key N 0 (by omega)
theorem wrs {n:Nat} (h:n≤4*1073741824):wr ((n:Int)+1)=((n+1:Nat):Int):=zOu (by simp only [big] at *; omega)
theorem wrn {n:Nat} (h:n≤4*1073741824):wr (n:Int)=(n:Int):=zNy (by simp only [big] at *; omega)
theorem zAm {α:Type} {l k:List α} (h:l.length≤64*1073741824) (h':k.length≤64*1073741824):xapp l k=some (l++k):=zNU (by simp only [big] at *; omega)
theorem zHV {a b:Str} (h:a.length≤64*1073741824) (h':b.length≤64*1073741824):xcat a b=some (a++b):=zNM (by simp only [big] at *; omega)
theorem zAg {α:Type} {l:List α} {n:Nat} (h:n<l.length):l.take (n+1)=l.take n++[l[n]]:=by
  rw [List.take_succ_eq_append_getElem h]
theorem eqI (a b:Nat):(((a:Int)==(b:Int)):Bool)=(a==b):=by
  rw [Bool.eq_iff_iff]; simp only [beq_iff_eq]; omega
theorem neI (a b:Nat):(((a:Int) !=(b:Int)):Bool)=(a !=b):=by
  rw [Bool.eq_iff_iff]; simp only [bne_iff_ne,ne_eq]; omega
theorem zBW {α:Type} (x:α):[x].length≤64*1073741824:=by simp only [List.length_cons,List.length_nil]; omega
end Go.Eng
namespace Go.Eng.Pure
open Go Go.Eng
def lowB (c:UInt8):UInt8:=if decide (65≤c)&&decide (c≤90) then c+32 else c
def lower (s:Str):Str:=s.map lowB
theorem zCb (s:Str):(lower s).length=s.length:=by simp [lower]
theorem add97 (c:UInt8):(c+97) - 65=c+32:=by
  have:(97:UInt8)=32+65:=rfl
  rw [this,← UInt8.add_assoc,UInt8.add_sub_cancel]
theorem zNY (s:Str) (n:Nat) (h:n<s.length):xnth ((s.take n).map lowB++s.drop n) (n:Int)=some s[n]:=by
  rw [zGz,List.getElem?_append_right (by simp; omega)]
  simp [Nat.min_eq_left (Nat.le_of_lt h)]
theorem zMx (s:Str) (n:Nat) (h:n<s.length) (c:UInt8):((s.take n).map lowB++s.drop n).set n c=(s.take n).map lowB++c :: s.drop (n+1):=by
  have e:((s.take n).map lowB).length=n:=by rw [List.length_map,List.length_take]; omega
  rw [List.set_append_right _ _ (by omega),List.drop_eq_getElem_cons h,e,Nat.sub_self,List.set_cons_zero]
theorem zIj (s:Str) (n:Nat) (h:n<s.length):(s.take n).map lowB++lowB s[n] :: s.drop (n+1)=(s.take (n+1)).map lowB++s.drop (n+1):=by
  rw [zAg h,List.map_append,List.append_assoc]; rfl
theorem zBf (s:Str) (hs:s.length≤1073741824):zAp s=some (lower s):=by
  have:=zB2 (fun n=>((n:Int),(s.take n).map lowB++s.drop n)) s.length (lower s) (zC0 s) ?_ ?_
  · unfold zAp
    have e:((0:Int),s)=(((0:Nat):Int),(s.take 0).map lowB++s.drop 0):=by simp
    rw [e,this]; rfl
  · intro n hn
    simp only [zC0,zAJ hn,zAC,zNY s n hn,zAA,wrs (show n≤4*1073741824 by omega),add97,Int.toNat_natCast]
    cases hc:(decide (65≤s[n])&&decide (s[n]≤90)) with
    | true =>
      rw [zAC,zMx s n hn,← zIj s n hn]
      simp [lowB,hc]
    | false =>
      rw [zAB,← zIj s n hn]
      simp [lowB,hc]
  · simp only [zC0,zAI (Nat.le_refl s.length),zAB,List.take_length,List.drop_length,List.append_nil]
    rfl
theorem zEQ (s:Str) (hs:s.length≤1073741824):zBR s=some (lower s):=by
  have:=zB2 (fun n=>((n:Int),(s.take n).map lowB++s.drop n)) s.length (lower s) (zC2 s) ?_ ?_
  · unfold zBR
    have e:((0:Int),s)=(((0:Nat):Int),(s.take 0).map lowB++s.drop 0):=by simp
    rw [e,this]; rfl
  · intro n hn
    simp only [zC2,zAJ hn,zAC,zNY s n hn,zAA,wrs (show n≤4*1073741824 by omega),Int.toNat_natCast]
    have e:(bif decide (65≤s[n]) then some (decide (s[n]≤90)) else some false)=some (decide (65≤s[n])&&decide (s[n]≤90)):=by cases decide (65≤s[n]) <;> rfl
    rw [e,zAA]
    cases hc:(decide (65≤s[n])&&decide (s[n]≤90)) with
    | true =>
      rw [zAC,zMx s n hn,← zIj s n hn]
      simp [lowB,hc]
    | false =>
      rw [zAB,← zIj s n hn]
      simp [lowB,hc]
  · simp only [zC2,zAI (Nat.le_refl s.length),zAB,List.take_length,List.drop_length,List.append_nil]
    rfl
def fold (a b:Str):Bool:=a.length==b.length&&lower a==lower b
theorem zGx (a b:Str) (ha:a.length≤1073741824) (hb:b.length≤1073741824):zDS a b=some (fold a b):=by
  simp only [zDS,zEQ a ha,zEQ b hb,zAA,eqI,fold]
  cases a.length==b.length <;> rfl
def smF (f:GField):Prop:=f.fName.length≤1073741824∧f.fValue.length≤1073741824
def getF (l:List GField) (name:Str):List Str:=(l.filter fun f=>fold f.fName name).map (·.fValue)
theorem zLe (name:Str) (hn:name.length≤1073741824) (f:GField) (hf:smF f):zCl f (lower name)=some (fold f.fName name):=by
  simp only [zCl,zBf _ hf.1,zAA,eqI,zCb,fold]
  cases f.fName.length==name.length <;> rfl
theorem zKn (l:List GField) (keep:GField→Option Bool) (p:GField→Bool) (hl:l.length≤1073741824) (h:∀ f ∈ l,keep f=some (p f)):zCD l keep=some (l.filter p):=by
  have:=zB2 (fun n=>((l.take n).filter p,(n:Int))) l.length (l.filter p) (zBS l keep) ?_ ?_
  · unfold zCD
    have e:(([]:List GField),(0:Int))=((l.take 0).filter p,((0:Nat):Int)):=by simp
    rw [e,this]; rfl
  · intro n hn
    have hln:((l.take n).filter p).length≤n:=Nat.le_trans (List.length_filter_le _ _) (by simp; omega)
    simp only [zBS,zAJ hn,zAC,zAE hn,zAA,h _ (List.getElem_mem hn),wrs (show n≤4*1073741824 by omega),zAg hn,List.filter_append]
    rw [zAm (by omega) (zBW _)]
    cases hp:p l[n] <;> simp [hp]
  · simp only [zBS,zAI (Nat.le_refl l.length),zAB,List.take_length]
theorem zOd (l:List GField) (name:Str) (hl:l.length≤1073741824) (hf:∀ f ∈ l,smF f) (hn:name.length≤1073741824):zDv l name=some (getF l name):=by
  unfold zDv zCd
  rw [zBf _ hn]
  simp only [zAA]
  rw [zKn l _ (fun f=>fold f.fName name) hl (fun f h=>zLe name hn f (hf f h))]
  simp only [zAA]
  have hk:(l.filter fun f=>fold f.fName name).length≤1073741824:=Nat.le_trans (List.length_filter_le _ _) hl
  generalize hg:(l.filter fun f=>fold f.fName name)=k at hk ⊢
  have:=zB2 (fun n=>((k.take n).map (·.fValue),(n:Int))) k.length (k.map (·.fValue)) (zCH k) ?_ ?_
  · have e:(([]:List Str),(0:Int))=((k.take 0).map (·.fValue),((0:Nat):Int)):=by simp
    rw [e,this]
    simp [getF,hg]
  · intro n hn
    simp only [zCH,zAJ hn,zAC,zAE hn,zAA,wrs (show n≤4*1073741824 by omega),zAg hn,List.map_append]
    rw [zAm (by simp; omega) (zBW _)]
    rfl
  · simp only [zCH,zAI (Nat.le_refl k.length),zAB,List.take_length]
theorem zLn (l:List GField) (name:Str):(getF l name).length≤l.length:=by simp only [getF,List.length_map]; exact List.length_filter_le _ _
theorem zKC (l:List GField) (name:Str) (B:Nat) (hf:∀ f ∈ l,f.fValue.length≤B):∀ v ∈ getF l name,v.length≤B:=by
  intro v hv
  simp only [getF,List.mem_map,List.mem_filter] at hv
  obtain ⟨f,⟨hm,_⟩,rfl⟩:=hv
  exact hf f hm
end Go.Eng.Pure
namespace Go.Eng.Pure
open Go Go.Eng
set_option linter.unusedVariables false
def bl (c:UInt8):Bool:=c==32||c==9
def trim (s:Str):Str:=ltrim bl (rtrim bl s)
theorem zGJ (p:UInt8→Bool) (l:List UInt8):l.dropWhile p=[]↔∀ x ∈ l,p x=true:=by
  induction l with
  | nil=>simp
  | cons a l ih =>
    rw [List.dropWhile_cons]
    cases ha:p a <;> simp [ha,ih]
theorem zLj (s:Str) (c:UInt8):decide (0<(((s++[c]).length:Nat):Int))=true:=decide_eq_true (by rw [List.length_append,List.length_singleton]; omega)
theorem zLk (s:Str) (c:UInt8):decide (0<(((c :: s).length:Nat):Int))=true:=decide_eq_true (by rw [List.length_cons]; omega)
theorem zLi (s:Str) (c:UInt8):(s++[c]).length=s.length+1:=by rw [List.length_append,List.length_singleton]
theorem zLb (c:UInt8):zF6 c=some (bl c):=rfl
theorem zKs (p:UInt8→Bool) (s:Str) (h:s.all p=true):rtrim p s=[]:=by
  unfold rtrim
  rw [(zGJ p _).2 fun x hx=>List.all_eq_true.1 h x (List.mem_reverse.1 hx)]
  rfl
theorem zHl (p:UInt8→Bool) (c:UInt8) (s:Str) (h:s.all p=false):rtrim p (c :: s)=c :: rtrim p s:=by
  unfold rtrim
  rw [List.reverse_cons,List.dropWhile_append]
  have:(s.reverse.dropWhile p).isEmpty=false:=by
    rw [Bool.eq_false_iff]
    intro h2
    rw [List.isEmpty_iff,zGJ] at h2
    rw [Bool.eq_false_iff] at h
    exact h (List.all_eq_true.2 fun x hx=>h2 x (List.mem_reverse.2 hx))
  rw [this]; simp
theorem zMg (p:UInt8→Bool) (s:Str):rtrim p (ltrim p s)=ltrim p (rtrim p s):=by
  induction s with
  | nil=>rfl
  | cons c s ih =>
    by_cases hs:s.all p=true
    · by_cases hc:p c=true
      · have h1:rtrim p (c :: s)=[]:=zKs p _ (by rw [List.all_cons,hc,hs]; rfl)
        rw [h1]
        have h2:ltrim p (c :: s)=ltrim p s:=by unfold ltrim; rw [List.dropWhile_cons,if_pos hc]
        rw [h2,ih,zKs p s hs]
      · have h2:ltrim p (c :: s)=c :: s:=by unfold ltrim; rw [List.dropWhile_cons,if_neg hc]
        have h3:rtrim p (c :: s)=[c]:=by
          unfold rtrim
          rw [List.reverse_cons,List.dropWhile_append]
          have:s.reverse.dropWhile p=[]:=(zGJ p _).2 fun x hx=>List.all_eq_true.1 hs x (List.mem_reverse.1 hx)
          rw [this]
          simp [hc]
        rw [h2,h3]
        unfold ltrim; rw [List.dropWhile_cons,if_neg hc]
    · have hs':s.all p=false:=by simpa using hs
      rw [zHl p c s hs']
      by_cases hc:p c=true
      · have h2:ltrim p (c :: s)=ltrim p s:=by unfold ltrim; rw [List.dropWhile_cons,if_pos hc]
        have h4:ltrim p (c :: rtrim p s)=ltrim p (rtrim p s):=by unfold ltrim; rw [List.dropWhile_cons,if_pos hc]
        rw [h2,h4,ih]
      · have h2:ltrim p (c :: s)=c :: s:=by unfold ltrim; rw [List.dropWhile_cons,if_neg hc]
        have h4:ltrim p (c :: rtrim p s)=c :: rtrim p s:=by unfold ltrim; rw [List.dropWhile_cons,if_neg hc]
        rw [h2,h4,zHl p c s hs']
theorem zHf (s:Str):(trim s).length≤s.length:=Nat.le_trans (zK1 _ _) (zMn _ _)
theorem zOo (c:UInt8):([32,9]:Str).contains c=bl c:=by
  simp only [List.contains_cons,List.contains_nil,Bool.or_false,bl]
theorem zK8 (s:Str) (hs:s.length≤1073741824):zBY s [32,9]=some (rtrim bl s):=by
  unfold zBY
  rw [zI0 (zBA [32,9]) bl 1073741824 ?_ rfl _ s rfl hs]
  · rfl
  · intro s c hl
    have h0:=zLj s c
    simp only [zBA,h0,zAC,zM0 (s++[c]) (by rw [zLi]; simp only [big]; omega),zJX,zAA,zAd,zOo,zJY]
    cases bl c <;> rfl
theorem zK9 (s:Str):zBc s [32,9]=some (ltrim bl s):=by
  unfold zBc
  rw [zI3 (zBF [32,9]) bl ?_ rfl s]
  · rfl
  · intro s c
    have h0:=zLk s c
    have h1:xsub (c :: s) 1 ((c :: s).length:Nat)=some s:=by
      have:=zCf (l:=c :: s) (i:=1) (by simp)
      simpa using this
    simp only [zBF,h0,zAC,zCG,zAA,zAd,zOo,h1]
    cases bl c <;> rfl
theorem zJD (s:Str) (hs:s.length≤1073741824):zD5 s=some (trim s):=by
  unfold zD5 zGl
  have e1:(([32,9]:Str)==[])=false:=rfl
  have e2:(((([32,9]:Str).length:Nat):Int)==1)=false:=rfl
  have e3:strings_makeASCIISet [32,9]=some ():=rfl
  rw [e1,Bool.or_false]
  cases hn:(s==[]) with
  | true => obtain rfl : s = [] := by simpa using hn
            rfl
  | false =>
    simp only [zAB,e2,zAA,e3,zK8 s hs]
    rw [zK9]; rfl
theorem zJq (s:Str) (hs:s.length≤1073741824):zE1 s=some (trim s):=by
  unfold zE1
  rw [zI3 zEn bl ?_ rfl s]
  · rw [zAA,zI0 zEv bl 1073741824 ?_ rfl _ (ltrim bl s) rfl (Nat.le_trans (zK1 _ _) hs)]
    · rw [zAA,zMg]; rfl
    · intro s c hl
      have h0:=zLj s c
      simp only [zEv,h0,zAC,zM0 (s++[c]) (by rw [zLi]; simp only [big]; omega),zJX,zAA,zLb,zJY]
      cases bl c <;> rfl
  · intro s c
    have h0:=zLk s c
    have h1:xsub (c :: s) 1 ((c :: s).length:Nat)=some s:=by
      have:=zCf (l:=c :: s) (i:=1) (by simp)
      simpa using this
    simp only [zEn,h0,zAC,zCG,zAA,zLb,h1]
    cases bl c <;> rfl
def step (st:Nat) (c:UInt8):Nat:=if st=2 then 1 else if st=1∧c=92 then 2 else if c=34 then 1 - st else st
def segs (a:UInt8):Nat→Str→Str→List Str
  | _,cur,[]=>[cur]
  | st,cur,c :: r=>if st=0∧c=a then cur :: segs a 0 [] r else segs a (step st c) (cur++[c]) r
def cutS (a:UInt8) (s:Str):List Str:=segs a 0 [] s
def mem64 (l:List Str):List Str:=((l.map trim).filter fun x=>x !=[]).take 64
def split (s:Str):List Str:=mem64 (cutS 44 s)
theorem zO5 {st:Nat} {c:UInt8} (h:st≤2):step st c≤2:=by unfold step; split; omega; split; omega; split <;> omega
theorem zKS (st:Nat) (c:UInt8) (h:st≤2):zHz (st:Int) c=some (step st c:Int):=by
  unfold zHz step
  match st,h with
  | 0,_ =>
    cases hc:(c==34) with
    | true => obtain rfl : c = 34 := by simpa using hc
              rfl
    | false => have : c ≠ 34 := by simpa using hc
               simp [this]
  | 1,_ =>
    cases hb:(c==92) with
    | true => obtain rfl : c = 92 := by simpa using hb
              rfl
    | false =>
      have hb':c≠92:=by simpa using hb
      cases hc:(c==34) with
      | true => obtain rfl : c = 34 := by simpa using hc
                rfl
      | false => have : c ≠ 34 := by simpa using hc
                 simp [this,hb']
  | 2,_=>rfl
def addM (out:List Str) (l:List Str):List Str:=(out++(l.map trim).filter fun x=>x !=[]).take 64
theorem zKx {out:List Str} (h:64≤out.length) (l:List Str):addM out l=out.take 64:=by
  unfold addM; rw [List.take_append_of_le_length h]
theorem zKh (out:List Str) (x:Str) (l:List Str):addM out (x :: l)=addM (if trim x !=[] then out++[trim x] else out) l:=by
  unfold addM
  rw [List.map_cons,List.filter_cons]
  cases trim x !=[] <;> simp
theorem zLY {out:List Str} (h:out.length<64) (x:Str):(if x !=[] then out++[x] else out).length≤64:=by
  split
  · rw [List.length_append,List.length_singleton]; omega
  · omega
theorem zFd (s:Str) (f i:Nat) (hf:f≤i) (hi:i<s.length):(s.take i).drop f++[s[i]]=(s.take (i+1)).drop f:=by
  rw [zAg hi,List.drop_append_of_le_length (by simp; omega)]
theorem zME (s : Str) (hs : s.length ≤ 1073741824) : ∀ (k i f st : Nat) (out : List Str), i + k = s.length → f ≤ i → st ≤ 2 → out.length ≤ 64 →
    zAG (zAq s) (out,(st:Int),(f:Int),(i:Int))=some (addM out (segs 44 st ((s.take i).drop f) (s.drop i))):=by
  intro k
  induction k with
  | zero =>
    intro i f st out hk hf hst ho
    obtain rfl:i=s.length:=by omega
    by_cases hfull:out.length<64
    · have e0:decide ((out.length:Int)<64)=true:=by simp; omega
      have e2:wr (((s.length:Nat):Int)+1)=((s.length+1:Nat):Int):=wrs (by omega)
      have hend:∀ (o:List Str) (st f:Int),zAG (zAq s) (o,st,f,((s.length+1:Nat):Int))=some o:=by
        intro o st f
        refine zAF ?_
        simp only [zAq,zNn (Nat.lt_succ_self s.length),Bool.false_and,zAB]
      have hsub:xsub s (f:Int) (s.length:Int)=some (s.drop f):=zCf hf
      have hb:zAq s (out,(st:Int),(f:Int),(s.length:Int))=some (.inl (if trim (s.drop f) !=[] then out++[trim (s.drop f)] else out,(st:Int),((s.length+1:Nat):Int),((s.length+1:Nat):Int))):=by
        simp only [zAq,zLM (Nat.le_refl s.length),e0,Bool.and_self,zAC,zAI (Nat.le_refl s.length),zAB,zAA,hsub,zJD (s.drop f) (by simp; omega),e2]
        rw [zAm (by omega) (zBW _)]
        cases trim (s.drop f) !=[] <;> rfl
      rw [zAL hb,hend]
      simp only [List.drop_length,segs,List.take_length,zKh]
      unfold addM
      have hl:(if trim (s.drop f) !=[] then out++[trim (s.drop f)] else out).length≤64:=zLY (by omega) _
      rw [List.map_nil,List.filter_nil,List.append_nil,List.take_of_length_le hl]
    · have e0:decide ((out.length:Int)<64)=false:=by simp; omega
      rw [zAF (r:=out)]
      · rw [zKx (by omega),List.take_of_length_le ho]
      · simp only [zAq,e0,Bool.and_false,zAB]
  | succ k ih =>
    intro i f st out hk hf hst ho
    have hi:i<s.length:=by omega
    by_cases hfull:out.length<64
    · have e0:decide ((out.length:Int)<64)=true:=by simp; omega
      have e2:wr ((i:Int)+1)=((i+1:Nat):Int):=wrs (by omega)
      rw [List.drop_eq_getElem_cons hi]
      have hcond:((bif (st:Int) !=0 then some true else some (s[i] !=44)).bind fun b33=>some b33)=some (!(decide (st=0∧s[i]=44))):=by
        match st with
        | 0=>by_cases hc:s[i]=44 <;> simp [hc]
        | n+1 =>
          have:(((n+1:Nat):Int) !=0)=true:=by simp; omega
          rw [this]; simp
      by_cases hc:st=0∧s[i]=44
      · have hsub:xsub s (f:Int) (i:Int)=some ((s.take i).drop f):=zGr ⟨hf,by omega⟩
        have hb:zAq s (out,(st:Int),(f:Int),(i:Int))=some (.inl (if trim ((s.take i).drop f) !=[] then out++[trim ((s.take i).drop f)] else out,(st:Int),((i+1:Nat):Int),((i+1:Nat):Int))):=by
          simp only [zAq,zLM (Nat.le_of_lt hi),e0,Bool.and_self,zAC,zAJ hi,zAE hi,zAA]
          rw [hcond]
          simp only [hc,and_self,decide_true,Bool.not_true,zAA,zAB,hsub,zJD ((s.take i).drop f) (by simp; omega),e2]
          rw [zAm (by omega) (zBW _)]
          cases trim ((s.take i).drop f) !=[] <;> rfl
        rw [zAL hb,ih (i+1) (i+1) st _ (by omega) (Nat.le_refl _) hst (zLY (by omega) _)]
        have hd:(s.take (i+1)).drop (i+1)=[]:=List.drop_eq_nil_of_le (by simp; omega)
        rw [hd]
        unfold segs
        rw [if_pos hc,zKh,hc.1]
        cases hdr:s.drop (i+1) with
        | nil=>rfl
        | cons a l=>rw [segs]
      · have hb : zAq s (out, (st : Int), (f : Int), (i : Int)) = some (.inl (out, ((step st s[i] : Nat) : Int), (f : Int), ((i + 1 : Nat) : Int))) := by
          simp only [zAq,zLM (Nat.le_of_lt hi),e0,Bool.and_self,zAC,zAJ hi,zAE hi,zAA]
          rw [hcond]
          simp only [hc,decide_false,Bool.not_false,zAA,zAC,zKS st _ hst,e2]
        rw [zAL hb,ih (i+1) f _ out (by omega) (by omega) (zO5 hst) ho]
        rw [segs,if_neg hc,zFd s f i hf hi]
    · have e0:decide ((out.length:Int)<64)=false:=by simp; omega
      rw [zAF (r:=out)]
      · rw [zKx (by omega),List.take_of_length_le ho]
      · simp only [zAq,e0,Bool.and_false,zAB]
theorem zN9 (s:Str) (hs:s.length≤1073741824):zGt s=some (split s):=by
  unfold zGt
  have:=zME s hs s.length 0 0 0 [] (by omega) (Nat.le_refl _) (by omega) (by simp)
  simp only [Int.natCast_zero,List.take_zero,List.drop_zero,List.drop_nil] at this
  have e:zAG (zAq s) ([],0,0,0)=some (addM [] (segs 44 0 [] s)):=this
  rw [e]; rfl
theorem zIg (a:UInt8) (s:Str) (i f st:Nat) (h:s.length≤i):segs a st ((s.take i).drop f) (s.drop i)=[s.drop f]:=by
  rw [List.drop_eq_nil_of_le h,List.take_of_length_le h,segs]
theorem zLv (s : Str) (a : UInt8) (ha : a ≠ 34) (hs : s.length ≤ 1073741824) : ∀ (k i f : Nat) (q : Bool) (out : List Str), s.length ≤ i + k → i ≤ s.length + 1 → f ≤ i → f ≤ s.length → out.length ≤ f →
    ∃ (o:List Str) (g:Nat),zAG (zAW s a) (out,(f:Int),q,(i:Int))=some (o,(g:Int))∧g≤s.length∧o.length≤g∧o++[s.drop g]=out++segs a (if q then 1 else 0) ((s.take i).drop f) (s.drop i):=by
  intro k
  induction k with
  | zero =>
    intro i f q out hk hi hf hfs ho
    refine ⟨out,f,zAF ?_,hfs,ho,?_⟩
    · simp only [zAW,zAI (show s.length≤i by omega),zAB]
    · rw [zIg a s i f _ (by omega)]
  | succ k ih =>
    intro i f q out hk hi hf hfs ho
    by_cases hlt:i<s.length
    · have e2:wr ((i:Int)+1)=((i+1:Nat):Int):=wrs (by omega)
      have e3:wr (((i+1:Nat):Int)+1)=((i+1+1:Nat):Int):=wrs (by omega)
      rw [List.drop_eq_getElem_cons hlt]
      generalize hc:s[i]=c
      have e1:xnth s (i:Int)=some c:=by rw [zAE hlt,hc]
      have esn:(s.take i).drop f++[c]=(s.take (i+1)).drop f:=by rw [← hc]; exact zFd s f i hf hlt
      cases q with
      | true =>
        by_cases h92:c=92
        · subst h92
          have hb:zAW s a (out,(f:Int),true,(i:Int))=some (.inl (out,(f:Int),true,((i+1+1:Nat):Int))):=by
            simp only [zAW,zAJ hlt,zAC,e1,zAA,e2,e3]; rfl
          obtain ⟨o,g,h1,h2,h3,h4⟩:=ih (i+1+1) f true out (by omega) (by omega) (by omega) hfs ho
          refine ⟨o,g,by rw [zAL hb]; exact h1,h2,h3,?_⟩
          rw [h4]
          congr 1
          have hseg:∀ r,segs a 1 ((s.take i).drop f) (92 :: r)=segs a 2 ((s.take (i+1)).drop f) r:=by
            intro r
            rw [segs,if_neg (by simp),esn]; rfl
          rw [if_pos rfl,hseg]
          by_cases hlt2:i+1<s.length
          · rw [List.drop_eq_getElem_cons hlt2,segs,if_neg (by simp),zFd s f (i+1) (by omega) hlt2]; rfl
          · rw [zIg a s (i+1) f 2 (by omega),zIg a s (i+1+1) f 1 (by omega)]
        · have h92':(c==92)=false:=by simpa using h92
          by_cases h34:c=34
          · subst h34
            have hb:zAW s a (out,(f:Int),true,(i:Int))=some (.inl (out,(f:Int),false,((i+1:Nat):Int))):=by
              simp only [zAW,zAJ hlt,zAC,e1,zAA,e2]; rfl
            obtain ⟨o,g,h1,h2,h3,h4⟩:=ih (i+1) f false out (by omega) (by omega) (by omega) hfs ho
            refine ⟨o,g,by rw [zAL hb]; exact h1,h2,h3,?_⟩
            rw [h4,if_pos rfl,segs,if_neg (by simp),esn]; rfl
          · have h34':(c==34)=false:=by simpa using h34
            have hb:zAW s a (out,(f:Int),true,(i:Int))=some (.inl (out,(f:Int),true,((i+1:Nat):Int))):=by
              simp only [zAW,zAJ hlt,zAC,e1,zAA,e2,h92',zAB,h34',Bool.not_true,Bool.and_false]
            obtain ⟨o,g,h1,h2,h3,h4⟩:=ih (i+1) f true out (by omega) (by omega) (by omega) hfs ho
            refine ⟨o,g,by rw [zAL hb]; exact h1,h2,h3,?_⟩
            have hst:step 1 c=1:=by unfold step; rw [if_neg (by decide),if_neg (by simp [h92]),if_neg h34]
            rw [h4,if_pos rfl,segs,if_neg (by simp),esn,hst]
      | false =>
        by_cases h34:c=34
        · subst h34
          have hb:zAW s a (out,(f:Int),false,(i:Int))=some (.inl (out,(f:Int),true,((i+1:Nat):Int))):=by
            simp only [zAW,zAJ hlt,zAC,zAB,e1,zAA,e2]; rfl
          obtain ⟨o,g,h1,h2,h3,h4⟩:=ih (i+1) f true out (by omega) (by omega) (by omega) hfs ho
          refine ⟨o,g,by rw [zAL hb]; exact h1,h2,h3,?_⟩
          rw [h4,if_pos rfl,if_neg (by simp),segs,if_neg (by simp [Ne.symm ha]),esn]; rfl
        · have h34':(c==34)=false:=by simpa using h34
          by_cases hca:c=a
          · subst hca
            have hsub:xsub s (f:Int) (i:Int)=some ((s.take i).drop f):=zGr ⟨hf,by omega⟩
            have hb:zAW s c (out,(f:Int),false,(i:Int))=some (.inl (out++[(s.take i).drop f],((i+1:Nat):Int),false,((i+1:Nat):Int))):=by
              simp only [zAW,zAJ hlt,zAC,zAB,e1,zAA,e2,h34',hsub]
              rw [zAm (by omega) (zBW _)]
              simp
            obtain ⟨o,g,h1,h2,h3,h4⟩:=ih (i+1) (i+1) false (out++[(s.take i).drop f]) (by omega) (by omega) (by omega) (by omega) (by rw [List.length_append,List.length_singleton]; omega)
            refine ⟨o,g,by rw [zAL hb]; exact h1,h2,h3,?_⟩
            have hd:(s.take (i+1)).drop (i+1)=[]:=List.drop_eq_nil_of_le (by simp; omega)
            rw [h4,if_neg (by simp),segs,if_pos ⟨rfl,rfl⟩,hd]
            simp
          · have hca':(c==a)=false:=by simpa using hca
            have hb:zAW s a (out,(f:Int),false,(i:Int))=some (.inl (out,(f:Int),false,((i+1:Nat):Int))):=by
              simp only [zAW,zAJ hlt,zAC,zAB,e1,zAA,e2,h34',hca',Bool.false_and]
            obtain ⟨o,g,h1,h2,h3,h4⟩:=ih (i+1) f false out (by omega) (by omega) (by omega) hfs ho
            refine ⟨o,g,by rw [zAL hb]; exact h1,h2,h3,?_⟩
            have hst:step 0 c=0:=by unfold step; rw [if_neg (by decide),if_neg (by simp),if_neg h34]
            rw [h4,if_neg (by simp),segs,if_neg (by simp [hca]),esn,hst]
    · refine ⟨out,f,zAF ?_,hfs,ho,?_⟩
      · simp only [zAW,zAI (show s.length≤i by omega),zAB]
      · rw [zIg a s i f _ (by omega)]
theorem zOf (s:Str) (a:UInt8) (ha:a≠34) (hs:s.length≤1073741824):zGe s a=some (cutS a s):=by
  obtain ⟨o,g,h1,h2,h3,h4⟩:=zLv s a ha hs s.length 0 0 false [] (by omega) (by omega) (by omega) (by omega) (by simp)
  have h1:zAG (zAW s a) ([],0,false,0)=some (o,(g:Int)):=h1
  unfold zGe
  rw [h1]
  simp only [zAA]
  rw [zCf h2,zAA,zAm (by omega) (zBW _),zAA,h4]
  simp [cutS]
theorem zK4 (a:UInt8) (B:Nat):∀ (s:Str) (st:Nat) (cur:Str),cur.length+s.length≤B→(∀ x ∈ segs a st cur s,x.length≤B)∧(segs a st cur s).length≤s.length+1
  | [],st,cur,h=>by simp only [segs,List.mem_singleton,forall_eq,List.length_singleton]; simp at h; omega
  | c :: r,st,cur,h=>by
    have h':cur.length+(r.length+1)≤B:=h
    unfold segs
    split
    · have ih:=zK4 a B r 0 [] (by simp; omega)
      refine ⟨fun x hx=>?_,by simp; exact ih.2⟩
      rcases List.mem_cons.1 hx with rfl | hx
      · omega
      · exact ih.1 x hx
    · have ih:=zK4 a B r (step st c) (cur++[c]) (by rw [List.length_append,List.length_singleton]; omega)
      exact ⟨ih.1,by simp; omega⟩
theorem zIz (a:UInt8) (s:Str):(∀ x ∈ cutS a s,x.length≤s.length)∧(cutS a s).length≤s.length+1:=by
  have:=zK4 a s.length s 0 [] (by simp)
  exact this
theorem zKG (s:Str):(split s).length≤64:=by
  unfold split mem64; rw [List.length_take]; omega
theorem zLl (s:Str):∀ x ∈ split s,x.length≤s.length:=by
  intro x hx
  have h1:=List.mem_of_mem_take hx
  rw [List.mem_filter,List.mem_map] at h1
  obtain ⟨⟨y,hy,rfl⟩,_⟩:=h1
  exact Nat.le_trans (zHf y) ((zIz 44 s).1 y hy)
def allM (l:List GField) (name:Str):List Str:=((getF l name).flatMap split).take 64
theorem zNx (v:List Str):(v.flatMap split).length≤64*v.length:=by
  induction v with
  | nil=>simp
  | cons x v ih=>rw [List.flatMap_cons,List.length_append,List.length_cons]; have:=zKG x; omega
theorem zM7 (v:List Str) (n:Nat) (h:n<v.length):(v.take (n+1)).flatMap split=(v.take n).flatMap split++split v[n]:=by
  rw [zAg h,List.flatMap_append]; simp
theorem zMo (l:List GField) (name:Str) (hl:l.length≤1073741824) (hf:∀ f ∈ l,smF f) (hn:name.length≤1073741824):zF1 l name=some (allM l name):=by
  unfold zF1
  rw [zOd l name hl hf hn,zAA]
  have hv:=zLn l name
  have hs:=zKC l name 1073741824 (fun f h=>(hf f h).2)
  unfold allM
  generalize getF l name=v at hv hs ⊢
  have:=zB2 (fun n=>((v.take n).flatMap split,(n:Int))) v.length (v.flatMap split) (zFH v) ?_ ?_
  · have e:(([]:List Str),(0:Int))=((v.take 0).flatMap split,((0:Nat):Int)):=by simp
    rw [e,this,zAA]
    have e2:(if 64<(((v.flatMap split).length:Nat):Int) then (64:Int) else (((v.flatMap split).length:Nat):Int))=((min 64 (v.flatMap split).length:Nat):Int):=by
      split <;> omega
    rw [e2,zE8 (by omega),zAA]
    congr 1
    by_cases h:64≤(v.flatMap split).length
    · rw [Nat.min_eq_left h]
    · rw [Nat.min_eq_right (by omega),List.take_length,List.take_of_length_le (by omega)]
  · intro n hn
    have hq:=zNx (v.take n)
    have ht:(v.take n).length≤n:=by simp; omega
    have hsp:=zKG v[n]
    simp only [zFH,zAJ hn,zAC,zAE hn,zAA,zN9 _ (hs _ (List.getElem_mem hn)),wrs (show n≤4*1073741824 by omega)]
    rw [zAm (by omega) (by omega),zM7 v n hn]; rfl
  · simp only [zFH,zAI (Nat.le_refl v.length),zAB,List.take_length]
end Go.Eng.Pure
