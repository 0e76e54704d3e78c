/- A part. -/
import Derived.Test.YtffangblkofjdaaGreatDoorVr15
import Derived.Test.YtffangblkofjdaaGreatDoorEng10
import Derived.Test.YtffangblkofjdaaGreatDoorPure5
set_option linter.unusedVariables false
namespace Go.VI
open Go Go.Eng
structure GK (P:Program) (U:UV) where
  l:List (GE U)
  ok:GamOk P (gal l)
section
variable {U:UV} {P:Program}
def gk0:GK P U:=⟨[],anil⟩
noncomputable def gkF {F:FE U} (h:F.ok P) (K:GK P U):GK P U:=⟨⟨F.id,F.spec⟩ :: K.l,fcons h K.ok⟩
def gkS {id:FuncId} {S:Spec U} (h:SpecOk P id S) (K:GK P U):GK P U:=⟨⟨id,S⟩ :: K.l,acons (F:=⟨id,S⟩) h K.ok⟩
def zSJ (S:Spec U):Spec U:={ S with loud:=true }
theorem zOk {g:FuncId} {S:Spec U} (h:SpecOk P g S):SpecOk P g (zSJ S):=⟨h.sound,h.quiet⟩
noncomputable def gkI {fn:Func} (id:FuncId) (n:Nat) (hf:P.funcs[id]?=some fn) (K:GK P U) (PL:PLs:=[]) (hc:chk fn 0=true:=by kernel_rfl) (hpl:PlOk PL (fn.body.getD .skip)=true:=by first | exact zBO _ | kernel_rfl):GK P U:=gkS (zOk (wI id K.ok (.all n) hf PL hc hpl).ok) K
end
end Go.VI
namespace Go.Eng
open Go
theorem zGb {α:Type} (l:List α) (n:Nat):xnth l (n:Int)=l[n]?:=by
  unfold xnth; rw [if_pos (by omega)]; rfl
theorem zDL {α:Type} (a:α) (l:List α):xnth (a :: l) 0=some a:=rfl
theorem zLu {α:Type} (l:List α) (a:α):xnth (l++[a]) (l.length:Int)=some a:=by
  rw [zGb]; simp
theorem zI2 {α:Type} {l:List α} {i j:Int} (h:0≤i∧i≤j∧j≤l.length):xsub l i j=some ((l.take j.toNat).drop i.toNat):=by
  unfold xsub; rw [if_pos h]
theorem zGY {α:Type} {l:List α} {i j:Nat} (h:i≤j∧j≤l.length):xsub l (i:Int) (j:Int)=some ((l.take j).drop i):=by
  rw [zI2 ⟨by omega,by omega,by omega⟩]; rfl
theorem zO5 {α:Type} {l k:List α} (h:l.length+k.length≤big):xapp l k=some (l++k):=by
  unfold xapp; rw [if_pos h]
theorem zOf {a b:Str} (h:a.length+b.length≤2*big):xcat a b=some (a++b):=by
  unfold xcat; rw [if_pos (by simp only [big] at h; omega)]
theorem zEk {n:Int} (h0:-1000000000000000000≤n) (h:n≤1000000000000000000):wr n=n:=wr_eq ⟨by omega,by omega⟩
theorem zAC {α:Type} (x y:α):(bif true then x else y)=x:=rfl
theorem zAB {α:Type} (x y:α):(bif false then x else y)=y:=rfl
theorem zAA {α β:Type} (a:α) (f:α→Option β):(some a).bind f=f a:=rfl
theorem zF7 {α ρ : Type} (body : Int → Option (Int ⊕ ρ)) (l : List α) (bad : α → Bool) (stop done : ρ)
    (h:∀ (n:Nat) (hn:n<l.length),body (n:Int)=some (if bad l[n]=true then .inr stop else .inl ((n:Int)+1)))
    (h':body (l.length:Int)=some (.inr done)):zAE body 0=some (if l.any bad then stop else done):=by
  have key:∀ (k n:Nat),n+k=l.length→zAE body (n:Int)=some (if (l.drop n).any bad then stop else done):=by
    intro k
    induction k with
    | zero =>
      intro n hn
      have:n=l.length:=by omega
      subst this
      rw [zAG h']
      simp
    | succ k ih =>
      intro n hn
      have hlt:n<l.length:=by omega
      have hb:=h n hlt
      rw [List.drop_eq_getElem_cons hlt,List.any_cons]
      by_cases hbad:bad l[n]=true
      · rw [if_pos hbad] at hb
        rw [zAG hb,hbad]; simp
      · rw [if_neg hbad] at hb
        rw [zAI hb]
        have e:((n:Int)+1)=((n+1:Nat):Int):=by omega
        rw [e,ih (n+1) (by omega)]
        simp [hbad]
  simpa using key l.length 0 (by omega)
def rtrim (p:UInt8→Bool) (s:Str):Str:=(s.reverse.dropWhile p).reverse
def ltrim (p:UInt8→Bool) (s:Str):Str:=s.dropWhile p
theorem zOP (p:UInt8→Bool) (s:Str) (c:UInt8):rtrim p (s++[c])=if p c then rtrim p s else s++[c]:=by
  unfold rtrim
  rw [List.reverse_append]
  simp only [List.reverse_cons,List.reverse_nil,List.nil_append,List.singleton_append,List.dropWhile_cons]
  cases p c <;> simp
theorem zPC (p:UInt8→Bool) (s:Str):(rtrim p s).length≤s.length:=by
  unfold rtrim
  have:=(List.dropWhile_sublist p (l:=s.reverse)).length_le
  simpa using this
theorem zQA (p:UInt8→Bool) (s:Str):(ltrim p s).length≤s.length:=(List.dropWhile_sublist p).length_le
theorem zME (body : Str → Option (Str ⊕ Str)) (p : UInt8 → Bool) (B : Nat) (h1 : ∀ (s : Str) (c : UInt8), s.length + 1 ≤ B → body (s ++ [c]) = some (if p c then .inl s else .inr (s ++ [c]))) (h0 : body [] = some (.inr [])) :
    ∀ (n:Nat) (s:Str),s.length=n→s.length≤B→zAE body s=some (rtrim p s):=by
  intro n
  induction n with
  | zero =>
    intro s hs _
    obtain rfl:=List.eq_nil_of_length_eq_zero hs
    rw [zAG h0]; rfl
  | succ n ih =>
    intro s hs hB
    rcases List.eq_nil_or_concat s with rfl | ⟨t,c,rfl⟩
    · cases hs
    · rw [List.concat_eq_append] at hs hB ⊢
      simp only [List.length_append,List.length_cons,List.length_nil] at hs hB
      have hb:=h1 t c (by omega)
      rw [zOP]
      cases hp:p c with
      | true=>rw [hp] at hb; rw [zAI (by simpa using hb),ih t (by omega) (by omega)]; simp
      | false=>rw [hp] at hb; rw [zAG (by simpa using hb)]; simp
theorem zMU (body : Str → Option (Str ⊕ Str)) (p : UInt8 → Bool) (h1 : ∀ (s : Str) (c : UInt8), body (c :: s) = some (if p c then .inl s else .inr (c :: s))) (h0 : body [] = some (.inr [])) :
    ∀ (s:Str),zAE body s=some (ltrim p s):=by
  intro s
  induction s with
  | nil=>rw [zAG h0]; rfl
  | cons c s ih =>
    have hb:=h1 s c
    unfold ltrim
    rw [List.dropWhile_cons]
    cases hp:p c with
    | true=>rw [hp] at hb; rw [zAI (by simpa using hb),ih]; rfl
    | false=>rw [hp] at hb; rw [zAG (by simpa using hb)]; rfl
theorem zNx (s:Str) (c:UInt8):xnth (s++[c]) (((s++[c]).length:Int) - 1)=some c:=by
  have e:(((s++[c]).length:Int) - 1)=(s.length:Int):=by simp
  rw [e,zLu]
theorem zOO (s:Str) (c:UInt8):xsub (s++[c]) 0 (((s++[c]).length:Int) - 1)=some s:=by
  have e:(((s++[c]).length:Int) - 1)=(s.length:Int):=by simp
  rw [e,zI2 ⟨by omega,by omega,by simp; omega⟩]
  simp
theorem zR3 {α:Type} (s:List α) (h:s.length≤4*big):wr ((s.length:Int) - 1)=(s.length:Int) - 1:=zEk (by omega) (by simp only [big] at h; omega)
end Go.Eng
namespace Go.Eng
open Go
def run {α σ ρ:Type} (f:σ→α→σ ⊕ ρ) (fin:σ→ρ):List α→σ→ρ
  | [],st=>fin st
  | x :: l,st=>match f st x with | .inl st'=>run f fin l st' | .inr r=>r
theorem zO7 {S α σ ρ : Type} (mk : σ → Int → S) (l : List α) (f : σ → α → σ ⊕ ρ) (fin : σ → ρ) (body : S → Option (S ⊕ ρ)) (I : Nat → σ → Prop)
    (h:∀ (n:Nat) (hn:n<l.length) st,I n st→body (mk st (n:Int))=some (match f st l[n] with | .inl st'=>.inl (mk st' ((n+1:Nat):Int)) | .inr r=>.inr r)∧∀ st',f st l[n]=.inl st'→I (n+1) st')
    (h':∀ st,I l.length st→body (mk st (l.length:Int))=some (.inr (fin st))) :
    ∀ (k n:Nat) (st:σ),n+k=l.length→I n st→zAE body (mk st (n:Int))=some (run f fin (l.drop n) st):=by
  intro k
  induction k with
  | zero =>
    intro n st hn hI
    have:n=l.length:=by omega
    subst this
    rw [zAG (h' st hI)]
    simp [run]
  | succ k ih =>
    intro n st hn hI
    have hlt:n<l.length:=by omega
    obtain ⟨hb,hs⟩:=h n hlt st hI
    rw [List.drop_eq_getElem_cons hlt]
    unfold run
    cases hf:f st l[n] with
    | inl st'=>rw [hf] at hb; rw [zAI hb,ih (n+1) st' (by omega) (hs st' hf)]
    | inr r=>rw [hf] at hb; rw [zAG hb]
theorem zGa {S α σ ρ : Type} (mk : σ → Int → S) (l : List α) (f : σ → α → σ ⊕ ρ) (fin : σ → ρ) (body : S → Option (S ⊕ ρ)) (I : Nat → σ → Prop) (st : σ) (hI : I 0 st)
    (h:∀ (n:Nat) (hn:n<l.length) st,I n st→body (mk st (n:Int))=some (match f st l[n] with | .inl st'=>.inl (mk st' ((n+1:Nat):Int)) | .inr r=>.inr r)∧∀ st',f st l[n]=.inl st'→I (n+1) st')
    (h':∀ st,I l.length st→body (mk st (l.length:Int))=some (.inr (fin st))) :
    zAE body (mk st 0)=some (run f fin l st):=by
  have:=zO7 mk l f fin body I h h' l.length 0 st (by omega) hI
  simpa using this
theorem zEE {S α σ ρ : Type} (mk : σ → Int → S) (l : List α) (f : σ → α → σ) (fin : σ → ρ) (body : S → Option (S ⊕ ρ)) (I : Nat → σ → Prop) (st : σ) (hI : I 0 st)
    (h:∀ (n:Nat) (hn:n<l.length) st,I n st→body (mk st (n:Int))=some (.inl (mk (f st l[n]) ((n+1:Nat):Int)))∧I (n+1) (f st l[n]))
    (h':∀ st,I l.length st→body (mk st (l.length:Int))=some (.inr (fin st))) :
    zAE body (mk st 0)=some (fin (l.foldl f st)):=by
  have e:∀ (l:List α) st,run (fun s x=>.inl (f s x)) fin l st=fin (l.foldl f st):=by
    intro l
    induction l with
    | nil=>intro st; rfl
    | cons x l ih=>intro st; exact ih _
  rw [← e]
  exact zGa mk l (fun s x=>.inl (f s x)) fin body I st hI (fun n hn st hI=>⟨(h n hn st hI).1,fun st' hs=>by cases hs; exact (h n hn st hI).2⟩) h'
theorem zIw {α β:Type} (g:α→Option β) (l:List α) (acc:List β):l.foldl (fun a x=>match g x with | some y=>a++[y] | none=>a) acc=acc++l.filterMap g:=by
  induction l generalizing acc with
  | nil=>simp
  | cons x l ih =>
    rw [List.foldl_cons,ih,List.filterMap_cons]
    cases g x <;> simp
theorem zKk {α β:Type} (g:α→List β) (l:List α) (acc:List β):l.foldl (fun a x=>a++g x) acc=acc++l.flatMap g:=by
  induction l generalizing acc with
  | nil=>simp
  | cons x l ih=>rw [List.foldl_cons,ih,List.flatMap_cons]; simp
theorem zJj (n m:Nat):decide ((n:Int)<(m:Int))=decide (n<m):=by
  by_cases h:n<m
  · rw [decide_eq_true h,decide_eq_true (by omega)]
  · rw [decide_eq_false h,decide_eq_false (by omega)]
theorem zGs (n m:Nat):decide ((n:Int)≤(m:Int))=decide (n≤m):=by
  by_cases h:n≤m
  · rw [decide_eq_true h,decide_eq_true (by omega)]
  · rw [decide_eq_false h,decide_eq_false (by omega)]
theorem zAN {n m:Nat} (h:n<m):decide ((n:Int)<(m:Int))=true:=decide_eq_true (by omega)
theorem zAM {n m:Nat} (h:m≤n):decide ((n:Int)<(m:Int))=false:=decide_eq_false (by omega)
theorem zMH {n m:Nat} (h:n≤m):decide ((n:Int)≤(m:Int))=true:=decide_eq_true (by omega)
theorem zQQ {n m:Nat} (h:m<n):decide ((n:Int)≤(m:Int))=false:=decide_eq_false (by omega)
theorem zAK {α:Type} {l:List α} {n:Nat} (h:n<l.length):xnth l (n:Int)=some l[n]:=by rw [zGb,List.getElem?_eq_getElem h]
theorem zRz {n:Nat} (h:n≤4*big):wr ((n:Int)+1)=((n+1:Nat):Int):=by
  rw [zEk (by omega) (by simp only [big] at h; omega)]; omega
theorem zQX {n:Nat} (h:n≤4*big):wr (n:Int)=(n:Int):=zEk (by omega) (by simp only [big] at h; omega)
theorem zE2 {α:Type} {l:List α} {i:Nat} (h:i≤l.length):xsub l (i:Int) (l.length:Int)=some (l.drop i):=by
  rw [zGY ⟨h,Nat.le_refl _⟩,List.take_length]
theorem zG7 {α:Type} {l:List α} {j:Nat} (h:j≤l.length):xsub l 0 (j:Int)=some (l.take j):=by
  have:=zGY (l:=l) (i:=0) (j:=j) ⟨by omega,h⟩
  simpa using this
end Go.Eng
namespace Go.Eng
open Go
theorem zDc {S ρ:Type} (st:Nat→S) (N:Nat) (r:ρ) (body:S→Option (S ⊕ ρ)) (h:∀ n,n<N→body (st n)=some (.inl (st (n+1)))) (h':body (st N)=some (.inr r)):zAE body (st 0)=some r:=by
  have key:∀ k n,n+k=N→zAE body (st n)=some r:=by
    intro k
    induction k with
    | zero => intro n hn; obtain rfl : n = N := by omega
              exact zAG h'
    | succ k ih=>intro n hn; rw [zAI (h n (by omega)),ih (n+1) (by omega)]
  exact key N 0 (by omega)
theorem wrs {n:Nat} (h:n≤4*1073741824):wr ((n:Int)+1)=((n+1:Nat):Int):=zRz (by simp only [big] at *; omega)
theorem wrn {n:Nat} (h:n≤4*1073741824):wr (n:Int)=(n:Int):=zQX (by simp only [big] at *; omega)
theorem zBh {α:Type} {l k:List α} (h:l.length≤64*1073741824) (h':k.length≤64*1073741824):xapp l k=some (l++k):=zO5 (by simp only [big] at *; omega)
theorem zEU {a b:Str} (h:a.length≤64*1073741824) (h':b.length≤64*1073741824):xcat a b=some (a++b):=zOf (by simp only [big] at *; omega)
theorem zAl {α:Type} {l:List α} {n:Nat} (h:n<l.length):l.take (n+1)=l.take n++[l[n]]:=by
  rw [List.take_succ_eq_append_getElem h]
theorem eqI (a b:Nat):(((a:Int)==(b:Int)):Bool)=(a==b):=by
  rw [Bool.eq_iff_iff]; simp only [beq_iff_eq]; omega
theorem neI (a b:Nat):(((a:Int) !=(b:Int)):Bool)=(a !=b):=by
  rw [Bool.eq_iff_iff]; simp only [bne_iff_ne,ne_eq]; omega
theorem zCY {α:Type} (x:α):[x].length≤64*1073741824:=by simp only [List.length_cons,List.length_nil]; omega
end Go.Eng
namespace Go.Eng.Pure
open Go Go.Eng
def lowB (c:UInt8):UInt8:=if decide (65≤c)&&decide (c≤90) then c+32 else c
def lower (s:Str):Str:=s.map lowB
theorem zDI (s:Str):(lower s).length=s.length:=by simp [lower]
theorem add97 (c:UInt8):(c+97) - 65=c+32:=by
  have:(97:UInt8)=32+65:=rfl
  rw [this,← UInt8.add_assoc,UInt8.add_sub_cancel]
theorem zSF (s:Str) (n:Nat) (h:n<s.length):xnth ((s.take n).map lowB++s.drop n) (n:Int)=some s[n]:=by
  rw [zGb,List.getElem?_append_right (by simp; omega)]
  simp [Nat.min_eq_left (Nat.le_of_lt h)]
theorem zRj (s:Str) (n:Nat) (h:n<s.length) (c:UInt8):((s.take n).map lowB++s.drop n).set n c=(s.take n).map lowB++c :: s.drop (n+1):=by
  have e:((s.take n).map lowB).length=n:=by rw [List.length_map,List.length_take]; omega
  rw [List.set_append_right _ _ (by omega),List.drop_eq_getElem_cons h,e,Nat.sub_self,List.set_cons_zero]
theorem zNP (s:Str) (n:Nat) (h:n<s.length):(s.take n).map lowB++lowB s[n] :: s.drop (n+1)=(s.take (n+1)).map lowB++s.drop (n+1):=by
  rw [zAl h,List.map_append,List.append_assoc]; rfl
theorem zBZ (s:Str) (hs:s.length≤1073741824):zAQ s=some (lower s):=by
  have:=zDc (fun n=>((n:Int),(s.take n).map lowB++s.drop n)) s.length (lower s) (zCf s) ?_ ?_
  · unfold zAQ
    have e:((0:Int),s)=(((0:Nat):Int),(s.take 0).map lowB++s.drop 0):=by simp
    rw [e,this]; rfl
  · intro n hn
    simp only [zCf,zAN hn,zAC,zSF s n hn,zAA,wrs (show n≤4*1073741824 by omega),add97,Int.toNat_natCast]
    cases hc:(decide (65≤s[n])&&decide (s[n]≤90)) with
    | true =>
      rw [zAC,zRj s n hn,← zNP s n hn]
      simp [lowB,hc]
    | false =>
      rw [zAB,← zNP s n hn]
      simp [lowB,hc]
  · simp only [zCf,zAM (Nat.le_refl s.length),zAB,List.take_length,List.drop_length,List.append_nil]
    rfl
def fold (a b:Str):Bool:=a.length==b.length&&lower a==lower b
def smF (f:GField):Prop:=f.fName.length≤1073741824∧f.fValue.length≤1073741824
def getF (l:List GField) (name:Str):List Str:=(l.filter fun f=>fold f.fName name).map (·.fValue)
theorem zNb (name:Str) (hn:name.length≤1073741824) (f:GField) (hf:smF f):zCR f (lower name)=some (fold f.fName name):=by
  simp only [zCR,zBZ _ hf.1,zAA,eqI,zDI,fold]
  cases f.fName.length==name.length <;> rfl
theorem zL6 (l:List GField) (keep:GField→Option Bool) (p:GField→Bool) (hl:l.length≤1073741824) (h:∀ f ∈ l,keep f=some (p f)):zBU l keep=some (l.filter p):=by
  have:=zDc (fun n=>((l.take n).filter p,(n:Int))) l.length (l.filter p) (zBN l keep) ?_ ?_
  · unfold zBU
    have e:(([]:List GField),(0:Int))=((l.take 0).filter p,((0:Nat):Int)):=by simp
    rw [e,this]; rfl
  · intro n hn
    have hln:((l.take n).filter p).length≤n:=Nat.le_trans (List.length_filter_le _ _) (by simp; omega)
    simp only [zBN,zAN hn,zAC,zAK hn,zAA,h _ (List.getElem_mem hn),wrs (show n≤4*1073741824 by omega),zAl hn,List.filter_append]
    rw [zBh (by omega) (zCY _)]
    cases hp:p l[n] <;> simp [hp]
  · simp only [zBN,zAM (Nat.le_refl l.length),zAB,List.take_length]
theorem zRN (l:List GField) (name:Str) (hl:l.length≤1073741824) (hf:∀ f ∈ l,smF f) (hn:name.length≤1073741824):zBx l name=some (getF l name):=by
  unfold zBx zBp
  rw [zBZ _ hn]
  simp only [zAA]
  rw [zL6 l _ (fun f=>fold f.fName name) hl (fun f h=>zNb name hn f (hf f h))]
  simp only [zAA]
  have hk:(l.filter fun f=>fold f.fName name).length≤1073741824:=Nat.le_trans (List.length_filter_le _ _) hl
  generalize hg:(l.filter fun f=>fold f.fName name)=k at hk ⊢
  have:=zDc (fun n=>((k.take n).map (·.fValue),(n:Int))) k.length (k.map (·.fValue)) (zB0 k) ?_ ?_
  · have e:(([]:List Str),(0:Int))=((k.take 0).map (·.fValue),((0:Nat):Int)):=by simp
    rw [e,this]
    simp [getF,hg]
  · intro n hn
    simp only [zB0,zAN hn,zAC,zAK hn,zAA,wrs (show n≤4*1073741824 by omega),zAl hn,List.map_append]
    rw [zBh (by simp; omega) (zCY _)]
    rfl
  · simp only [zB0,zAM (Nat.le_refl k.length),zAB,List.take_length]
theorem zNd (l:List GField) (name:Str):(getF l name).length≤l.length:=by simp only [getF,List.length_map]; exact List.length_filter_le _ _
theorem zKy (l:List GField) (name:Str) (B:Nat) (hf:∀ f ∈ l,f.fValue.length≤B):∀ v ∈ getF l name,v.length≤B:=by
  intro v hv
  simp only [getF,List.mem_map,List.mem_filter] at hv
  obtain ⟨f,⟨hm,_⟩,rfl⟩:=hv
  exact hf f hm
end Go.Eng.Pure
namespace Go.Eng.Pure
open Go Go.Eng
set_option linter.unusedVariables false
def bl (c:UInt8):Bool:=c==32||c==9
def trim (s:Str):Str:=ltrim bl (rtrim bl s)
theorem zQT (s:Str) (c:UInt8):decide (0<(((s++[c]).length:Nat):Int))=true:=decide_eq_true (by rw [List.length_append,List.length_singleton]; omega)
theorem zQj (s:Str) (c:UInt8):decide (0<(((c :: s).length:Nat):Int))=true:=decide_eq_true (by rw [List.length_cons]; omega)
theorem zQ6 (s:Str) (c:UInt8):(s++[c]).length=s.length+1:=by rw [List.length_append,List.length_singleton]
theorem zIk (s:Str):(trim s).length≤s.length:=Nat.le_trans (zQA _ _) (zPC _ _)
theorem zRM (c:UInt8):([32,9]:Str).contains c=bl c:=by
  simp only [List.contains_cons,List.contains_nil,Bool.or_false,bl]
theorem zMt (s:Str) (hs:s.length≤1073741824):zBQ s [32,9]=some (rtrim bl s):=by
  unfold zBQ
  rw [zME (zA4 [32,9]) bl 1073741824 ?_ rfl _ s rfl hs]
  · rfl
  · intro s c hl
    have h0:=zQT s c
    simp only [zA4,h0,zAC,zR3 (s++[c]) (by rw [zQ6]; simp only [big]; omega),zNx,zAA,zAX,zRM,zOO]
    cases bl c <;> rfl
theorem zMD (s:Str):zA8 s [32,9]=some (ltrim bl s):=by
  unfold zA8
  rw [zMU (zBA [32,9]) bl ?_ rfl s]
  · rfl
  · intro s c
    have h0:=zQj s c
    have h1:xsub (c :: s) 1 ((c :: s).length:Nat)=some s:=by
      have:=zE2 (l:=c :: s) (i:=1) (by simp)
      simpa using this
    simp only [zBA,h0,zAC,zDL,zAA,zAX,zRM,h1]
    cases bl c <;> rfl
theorem zJc (s:Str) (hs:s.length≤1073741824):zB6 s=some (trim s):=by
  unfold zB6 zEo
  have e1:(([32,9]:Str)==[])=false:=rfl
  have e2:(((([32,9]:Str).length:Nat):Int)==1)=false:=rfl
  have e3:strings_makeASCIISet [32,9]=some ():=rfl
  rw [e1,Bool.or_false]
  cases hn:(s==[]) with
  | true => obtain rfl : s = [] := by simpa using hn
            rfl
  | false =>
    simp only [zAB,e2,zAA,e3,zMt s hs]
    rw [zMD]; rfl
def step (st:Nat) (c:UInt8):Nat:=if st=2 then 1 else if st=1∧c=92 then 2 else if c=34 then 1 - st else st
def segs (a:UInt8):Nat→Str→Str→List Str
  | _,cur,[]=>[cur]
  | st,cur,c :: r=>if st=0∧c=a then cur :: segs a 0 [] r else segs a (step st c) (cur++[c]) r
def cutS (a:UInt8) (s:Str):List Str:=segs a 0 [] s
def mem64 (l:List Str):List Str:=((l.map trim).filter fun x=>x !=[]).take 64
def split (s:Str):List Str:=mem64 (cutS 44 s)
theorem zR7 {st:Nat} {c:UInt8} (h:st≤2):step st c≤2:=by unfold step; split; omega; split; omega; split <;> omega
theorem zK7 (st:Nat) (c:UInt8) (h:st≤2):zHW (st:Int) c=some (step st c:Int):=by
  unfold zHW step
  match st,h with
  | 0,_ =>
    cases hc:(c==34) with
    | true => obtain rfl : c = 34 := by simpa using hc
              rfl
    | false => have : c ≠ 34 := by simpa using hc
               simp [this]
  | 1,_ =>
    cases hb:(c==92) with
    | true => obtain rfl : c = 92 := by simpa using hb
              rfl
    | false =>
      have hb':c≠92:=by simpa using hb
      cases hc:(c==34) with
      | true => obtain rfl : c = 34 := by simpa using hc
                rfl
      | false => have : c ≠ 34 := by simpa using hc
                 simp [this,hb']
  | 2,_=>rfl
def addM (out:List Str) (l:List Str):List Str:=(out++(l.map trim).filter fun x=>x !=[]).take 64
theorem zLo {out:List Str} (h:64≤out.length) (l:List Str):addM out l=out.take 64:=by
  unfold addM; rw [List.take_append_of_le_length h]
theorem zLh (out:List Str) (x:Str) (l:List Str):addM out (x :: l)=addM (if trim x !=[] then out++[trim x] else out) l:=by
  unfold addM
  rw [List.map_cons,List.filter_cons]
  cases trim x !=[] <;> simp
theorem zNh {out:List Str} (h:out.length<64) (x:Str):(if x !=[] then out++[x] else out).length≤64:=by
  split
  · rw [List.length_append,List.length_singleton]; omega
  · omega
theorem zEx (s:Str) (f i:Nat) (hf:f≤i) (hi:i<s.length):(s.take i).drop f++[s[i]]=(s.take (i+1)).drop f:=by
  rw [zAl hi,List.drop_append_of_le_length (by simp; omega)]
theorem zNy (s : Str) (hs : s.length ≤ 1073741824) : ∀ (k i f st : Nat) (out : List Str), i + k = s.length → f ≤ i → st ≤ 2 → out.length ≤ 64 →
    zAE (zAk s) (out,(st:Int),(f:Int),(i:Int))=some (addM out (segs 44 st ((s.take i).drop f) (s.drop i))):=by
  intro k
  induction k with
  | zero =>
    intro i f st out hk hf hst ho
    obtain rfl:i=s.length:=by omega
    by_cases hfull:out.length<64
    · have e0:decide ((out.length:Int)<64)=true:=by simp; omega
      have e2:wr (((s.length:Nat):Int)+1)=((s.length+1:Nat):Int):=wrs (by omega)
      have hend:∀ (o:List Str) (st f:Int),zAE (zAk s) (o,st,f,((s.length+1:Nat):Int))=some o:=by
        intro o st f
        refine zAG ?_
        simp only [zAk,zQQ (Nat.lt_succ_self s.length),Bool.false_and,zAB]
      have hsub:xsub s (f:Int) (s.length:Int)=some (s.drop f):=zE2 hf
      have hb:zAk s (out,(st:Int),(f:Int),(s.length:Int))=some (.inl (if trim (s.drop f) !=[] then out++[trim (s.drop f)] else out,(st:Int),((s.length+1:Nat):Int),((s.length+1:Nat):Int))):=by
        simp only [zAk,zMH (Nat.le_refl s.length),e0,Bool.and_self,zAC,zAM (Nat.le_refl s.length),zAB,zAA,hsub,zJc (s.drop f) (by simp; omega),e2]
        rw [zBh (by omega) (zCY _)]
        cases trim (s.drop f) !=[] <;> rfl
      rw [zAI hb,hend]
      simp only [List.drop_length,segs,List.take_length,zLh]
      unfold addM
      have hl:(if trim (s.drop f) !=[] then out++[trim (s.drop f)] else out).length≤64:=zNh (by omega) _
      rw [List.map_nil,List.filter_nil,List.append_nil,List.take_of_length_le hl]
    · have e0:decide ((out.length:Int)<64)=false:=by simp; omega
      rw [zAG (r:=out)]
      · rw [zLo (by omega),List.take_of_length_le ho]
      · simp only [zAk,e0,Bool.and_false,zAB]
  | succ k ih =>
    intro i f st out hk hf hst ho
    have hi:i<s.length:=by omega
    by_cases hfull:out.length<64
    · have e0:decide ((out.length:Int)<64)=true:=by simp; omega
      have e2:wr ((i:Int)+1)=((i+1:Nat):Int):=wrs (by omega)
      rw [List.drop_eq_getElem_cons hi]
      have hcond:((bif (st:Int) !=0 then some true else some (s[i] !=44)).bind fun b33=>some b33)=some (!(decide (st=0∧s[i]=44))):=by
        match st with
        | 0=>by_cases hc:s[i]=44 <;> simp [hc]
        | n+1 =>
          have:(((n+1:Nat):Int) !=0)=true:=by simp; omega
          rw [this]; simp
      by_cases hc:st=0∧s[i]=44
      · have hsub:xsub s (f:Int) (i:Int)=some ((s.take i).drop f):=zGY ⟨hf,by omega⟩
        have hb:zAk s (out,(st:Int),(f:Int),(i:Int))=some (.inl (if trim ((s.take i).drop f) !=[] then out++[trim ((s.take i).drop f)] else out,(st:Int),((i+1:Nat):Int),((i+1:Nat):Int))):=by
          simp only [zAk,zMH (Nat.le_of_lt hi),e0,Bool.and_self,zAC,zAN hi,zAK hi,zAA]
          rw [hcond]
          simp only [hc,and_self,decide_true,Bool.not_true,zAA,zAB,hsub,zJc ((s.take i).drop f) (by simp; omega),e2]
          rw [zBh (by omega) (zCY _)]
          cases trim ((s.take i).drop f) !=[] <;> rfl
        rw [zAI hb,ih (i+1) (i+1) st _ (by omega) (Nat.le_refl _) hst (zNh (by omega) _)]
        have hd:(s.take (i+1)).drop (i+1)=[]:=List.drop_eq_nil_of_le (by simp; omega)
        rw [hd]
        unfold segs
        rw [if_pos hc,zLh,hc.1]
        cases hdr:s.drop (i+1) with
        | nil=>rfl
        | cons a l=>rw [segs]
      · have hb : zAk s (out, (st : Int), (f : Int), (i : Int)) = some (.inl (out, ((step st s[i] : Nat) : Int), (f : Int), ((i + 1 : Nat) : Int))) := by
          simp only [zAk,zMH (Nat.le_of_lt hi),e0,Bool.and_self,zAC,zAN hi,zAK hi,zAA]
          rw [hcond]
          simp only [hc,decide_false,Bool.not_false,zAA,zAC,zK7 st _ hst,e2]
        rw [zAI hb,ih (i+1) f _ out (by omega) (by omega) (zR7 hst) ho]
        rw [segs,if_neg hc,zEx s f i hf hi]
    · have e0:decide ((out.length:Int)<64)=false:=by simp; omega
      rw [zAG (r:=out)]
      · rw [zLo (by omega),List.take_of_length_le ho]
      · simp only [zAk,e0,Bool.and_false,zAB]
theorem zQS (s:Str) (hs:s.length≤1073741824):zGX s=some (split s):=by
  unfold zGX
  have:=zNy s hs s.length 0 0 0 [] (by omega) (Nat.le_refl _) (by omega) (by simp)
  simp only [Int.natCast_zero,List.take_zero,List.drop_zero,List.drop_nil] at this
  have e:zAE (zAk s) ([],0,0,0)=some (addM [] (segs 44 0 [] s)):=this
  rw [e]; rfl
theorem zIh (a:UInt8) (s:Str) (i f st:Nat) (h:s.length≤i):segs a st ((s.take i).drop f) (s.drop i)=[s.drop f]:=by
  rw [List.drop_eq_nil_of_le h,List.take_of_length_le h,segs]
theorem zNA (s : Str) (a : UInt8) (ha : a ≠ 34) (hs : s.length ≤ 1073741824) : ∀ (k i f : Nat) (q : Bool) (out : List Str), s.length ≤ i + k → i ≤ s.length + 1 → f ≤ i → f ≤ s.length → out.length ≤ f →
    ∃ (o:List Str) (g:Nat),zAE (zAU s a) (out,(f:Int),q,(i:Int))=some (o,(g:Int))∧g≤s.length∧o.length≤g∧o++[s.drop g]=out++segs a (if q then 1 else 0) ((s.take i).drop f) (s.drop i):=by
  intro k
  induction k with
  | zero =>
    intro i f q out hk hi hf hfs ho
    refine ⟨out,f,zAG ?_,hfs,ho,?_⟩
    · simp only [zAU,zAM (show s.length≤i by omega),zAB]
    · rw [zIh a s i f _ (by omega)]
  | succ k ih =>
    intro i f q out hk hi hf hfs ho
    by_cases hlt:i<s.length
    · have e2:wr ((i:Int)+1)=((i+1:Nat):Int):=wrs (by omega)
      have e3:wr (((i+1:Nat):Int)+1)=((i+1+1:Nat):Int):=wrs (by omega)
      rw [List.drop_eq_getElem_cons hlt]
      generalize hc:s[i]=c
      have e1:xnth s (i:Int)=some c:=by rw [zAK hlt,hc]
      have esn:(s.take i).drop f++[c]=(s.take (i+1)).drop f:=by rw [← hc]; exact zEx s f i hf hlt
      cases q with
      | true =>
        by_cases h92:c=92
        · subst h92
          have hb:zAU s a (out,(f:Int),true,(i:Int))=some (.inl (out,(f:Int),true,((i+1+1:Nat):Int))):=by
            simp only [zAU,zAN hlt,zAC,e1,zAA,e2,e3]; rfl
          obtain ⟨o,g,h1,h2,h3,h4⟩:=ih (i+1+1) f true out (by omega) (by omega) (by omega) hfs ho
          refine ⟨o,g,by rw [zAI hb]; exact h1,h2,h3,?_⟩
          rw [h4]
          congr 1
          have hseg:∀ r,segs a 1 ((s.take i).drop f) (92 :: r)=segs a 2 ((s.take (i+1)).drop f) r:=by
            intro r
            rw [segs,if_neg (by simp),esn]; rfl
          rw [if_pos rfl,hseg]
          by_cases hlt2:i+1<s.length
          · rw [List.drop_eq_getElem_cons hlt2,segs,if_neg (by simp),zEx s f (i+1) (by omega) hlt2]; rfl
          · rw [zIh a s (i+1) f 2 (by omega),zIh a s (i+1+1) f 1 (by omega)]
        · have h92':(c==92)=false:=by simpa using h92
          by_cases h34:c=34
          · subst h34
            have hb:zAU s a (out,(f:Int),true,(i:Int))=some (.inl (out,(f:Int),false,((i+1:Nat):Int))):=by
              simp only [zAU,zAN hlt,zAC,e1,zAA,e2]; rfl
            obtain ⟨o,g,h1,h2,h3,h4⟩:=ih (i+1) f false out (by omega) (by omega) (by omega) hfs ho
            refine ⟨o,g,by rw [zAI hb]; exact h1,h2,h3,?_⟩
            rw [h4,if_pos rfl,segs,if_neg (by simp),esn]; rfl
          · have h34':(c==34)=false:=by simpa using h34
            have hb:zAU s a (out,(f:Int),true,(i:Int))=some (.inl (out,(f:Int),true,((i+1:Nat):Int))):=by
              simp only [zAU,zAN hlt,zAC,e1,zAA,e2,h92',zAB,h34',Bool.not_true,Bool.and_false]
            obtain ⟨o,g,h1,h2,h3,h4⟩:=ih (i+1) f true out (by omega) (by omega) (by omega) hfs ho
            refine ⟨o,g,by rw [zAI hb]; exact h1,h2,h3,?_⟩
            have hst:step 1 c=1:=by unfold step; rw [if_neg (by decide),if_neg (by simp [h92]),if_neg h34]
            rw [h4,if_pos rfl,segs,if_neg (by simp),esn,hst]
      | false =>
        by_cases h34:c=34
        · subst h34
          have hb:zAU s a (out,(f:Int),false,(i:Int))=some (.inl (out,(f:Int),true,((i+1:Nat):Int))):=by
            simp only [zAU,zAN hlt,zAC,zAB,e1,zAA,e2]; rfl
          obtain ⟨o,g,h1,h2,h3,h4⟩:=ih (i+1) f true out (by omega) (by omega) (by omega) hfs ho
          refine ⟨o,g,by rw [zAI hb]; exact h1,h2,h3,?_⟩
          rw [h4,if_pos rfl,if_neg (by simp),segs,if_neg (by simp [Ne.symm ha]),esn]; rfl
        · have h34':(c==34)=false:=by simpa using h34
          by_cases hca:c=a
          · subst hca
            have hsub:xsub s (f:Int) (i:Int)=some ((s.take i).drop f):=zGY ⟨hf,by omega⟩
            have hb:zAU s c (out,(f:Int),false,(i:Int))=some (.inl (out++[(s.take i).drop f],((i+1:Nat):Int),false,((i+1:Nat):Int))):=by
              simp only [zAU,zAN hlt,zAC,zAB,e1,zAA,e2,h34',hsub]
              rw [zBh (by omega) (zCY _)]
              simp
            obtain ⟨o,g,h1,h2,h3,h4⟩:=ih (i+1) (i+1) false (out++[(s.take i).drop f]) (by omega) (by omega) (by omega) (by omega) (by rw [List.length_append,List.length_singleton]; omega)
            refine ⟨o,g,by rw [zAI hb]; exact h1,h2,h3,?_⟩
            have hd:(s.take (i+1)).drop (i+1)=[]:=List.drop_eq_nil_of_le (by simp; omega)
            rw [h4,if_neg (by simp),segs,if_pos ⟨rfl,rfl⟩,hd]
            simp
          · have hca':(c==a)=false:=by simpa using hca
            have hb:zAU s a (out,(f:Int),false,(i:Int))=some (.inl (out,(f:Int),false,((i+1:Nat):Int))):=by
              simp only [zAU,zAN hlt,zAC,zAB,e1,zAA,e2,h34',hca',Bool.false_and]
            obtain ⟨o,g,h1,h2,h3,h4⟩:=ih (i+1) f false out (by omega) (by omega) (by omega) hfs ho
            refine ⟨o,g,by rw [zAI hb]; exact h1,h2,h3,?_⟩
            have hst:step 0 c=0:=by unfold step; rw [if_neg (by decide),if_neg (by simp),if_neg h34]
            rw [h4,if_neg (by simp),segs,if_neg (by simp [hca]),esn,hst]
    · refine ⟨out,f,zAG ?_,hfs,ho,?_⟩
      · simp only [zAU,zAM (show s.length≤i by omega),zAB]
      · rw [zIh a s i f _ (by omega)]
theorem zSM (s:Str) (a:UInt8) (ha:a≠34) (hs:s.length≤1073741824):zJB s a=some (cutS a s):=by
  obtain ⟨o,g,h1,h2,h3,h4⟩:=zNA s a ha hs s.length 0 0 false [] (by omega) (by omega) (by omega) (by omega) (by simp)
  have h1:zAE (zAU s a) ([],0,false,0)=some (o,(g:Int)):=h1
  unfold zJB
  rw [h1]
  simp only [zAA]
  rw [zE2 h2,zAA,zBh (by omega) (zCY _),zAA,h4]
  simp [cutS]
theorem zMZ (a:UInt8) (B:Nat):∀ (s:Str) (st:Nat) (cur:Str),cur.length+s.length≤B→(∀ x ∈ segs a st cur s,x.length≤B)∧(segs a st cur s).length≤s.length+1
  | [],st,cur,h=>by simp only [segs,List.mem_singleton,forall_eq,List.length_singleton]; simp at h; omega
  | c :: r,st,cur,h=>by
    have h':cur.length+(r.length+1)≤B:=h
    unfold segs
    split
    · have ih:=zMZ a B r 0 [] (by simp; omega)
      refine ⟨fun x hx=>?_,by simp; exact ih.2⟩
      rcases List.mem_cons.1 hx with rfl | hx
      · omega
      · exact ih.1 x hx
    · have ih:=zMZ a B r (step st c) (cur++[c]) (by rw [List.length_append,List.length_singleton]; omega)
      exact ⟨ih.1,by simp; omega⟩
theorem zKb (a:UInt8) (s:Str):(∀ x ∈ cutS a s,x.length≤s.length)∧(cutS a s).length≤s.length+1:=by
  have:=zMZ a s.length s 0 [] (by simp)
  exact this
theorem zLx (s:Str):(split s).length≤64:=by
  unfold split mem64; rw [List.length_take]; omega
theorem zNk (s:Str):∀ x ∈ split s,x.length≤s.length:=by
  intro x hx
  have h1:=List.mem_of_mem_take hx
  rw [List.mem_filter,List.mem_map] at h1
  obtain ⟨⟨y,hy,rfl⟩,_⟩:=h1
  exact Nat.le_trans (zIk y) ((zKb 44 s).1 y hy)
def allM (l:List GField) (name:Str):List Str:=((getF l name).flatMap split).take 64
theorem zQ5 (v:List Str):(v.flatMap split).length≤64*v.length:=by
  induction v with
  | nil=>simp
  | cons x v ih=>rw [List.flatMap_cons,List.length_append,List.length_cons]; have:=zLx x; omega
theorem zO9 (v:List Str) (n:Nat) (h:n<v.length):(v.take (n+1)).flatMap split=(v.take n).flatMap split++split v[n]:=by
  rw [zAl h,List.flatMap_append]; simp
theorem zP7 (l:List GField) (name:Str) (hl:l.length≤1073741824) (hf:∀ f ∈ l,smF f) (hn:name.length≤1073741824):zB8 l name=some (allM l name):=by
  unfold zB8
  rw [zRN l name hl hf hn,zAA]
  have hv:=zNd l name
  have hs:=zKy l name 1073741824 (fun f h=>(hf f h).2)
  unfold allM
  generalize getF l name=v at hv hs ⊢
  have:=zDc (fun n=>((v.take n).flatMap split,(n:Int))) v.length (v.flatMap split) (zFY v) ?_ ?_
  · have e:(([]:List Str),(0:Int))=((v.take 0).flatMap split,((0:Nat):Int)):=by simp
    rw [e,this,zAA]
    have e2:(if 64<(((v.flatMap split).length:Nat):Int) then (64:Int) else (((v.flatMap split).length:Nat):Int))=((min 64 (v.flatMap split).length:Nat):Int):=by
      split <;> omega
    rw [e2,zG7 (by omega),zAA]
    congr 1
    by_cases h:64≤(v.flatMap split).length
    · rw [Nat.min_eq_left h]
    · rw [Nat.min_eq_right (by omega),List.take_length,List.take_of_length_le (by omega)]
  · intro n hn
    have hq:=zQ5 (v.take n)
    have ht:(v.take n).length≤n:=by simp; omega
    have hsp:=zLx v[n]
    simp only [zFY,zAN hn,zAC,zAK hn,zAA,zQS _ (hs _ (List.getElem_mem hn)),wrs (show n≤4*1073741824 by omega)]
    rw [zBh (by omega) (by omega),zO9 v n hn]; rfl
  · simp only [zFY,zAM (Nat.le_refl v.length),zAB,List.take_length]
end Go.Eng.Pure
namespace Go.Eng.Pure
open Go Go.Eng
set_option linter.unusedVariables false
theorem zLF (p:UInt8→Bool) (h:(List.range 256).all (fun n=>p (UInt8.ofNat n))=true) (c:UInt8):p c=true:=by
  have h1:=List.all_eq_true.1 h c.toNat (List.mem_range.2 c.toNat_lt)
  rwa [UInt8.ofNat_toNat] at h1
def signs:Str:=[33,35,36,37,38,39,42,43,45,46,94,95,96,124,126]
def tokB (c:UInt8):Bool:=(((decide (97≤c))&&(decide (c≤122)))||((decide (65≤c))&&(decide (c≤90))))||((decide (48≤c))&&(decide (c≤57)))||signs.contains c
def tok (s:Str):Bool:=s.all tokB&&s !=[]
def txtB (c:UInt8):Bool:=((c==9)||((decide (32≤c))&&(decide (c≤126))))||(decide (128≤c))
def txt (s:Str):Bool:=s.all txtB
theorem zRR (c:UInt8):zGe c=some (tokB c):=by
  have:=zLF (fun c=>decide (zGe c=some (tokB c))) (by decide +kernel) c
  simpa using this
theorem zHu (l : Str) (hl : l.length ≤ 1073741824) (bad : UInt8 → Bool) (body : Int → Option (Int ⊕ (Unit ⊕ Bool))) (r : Bool)
    (h:∀ (n:Nat) (hn:n<l.length),body (n:Int)=some (if bad l[n]=true then .inr (.inr r) else .inl (wr ((n:Int)+1)))) (h':body (l.length:Int)=some (.inr (.inl ()))) :
    zAE body 0=some (if l.any bad then .inr r else .inl ()):=by
  refine zF7 body l bad (.inr r) (.inl ()) (fun n hn=>?_) h'
  have e2:wr ((n:Int)+1)=(n:Int)+1:=by rw [wrs (by omega)]; omega
  rw [h n hn,e2]
theorem zMQ (l:Str) (p:UInt8→Bool):l.any (fun c=>!p c)=!l.all p:=by
  induction l with
  | nil=>rfl
  | cons a l ih=>rw [List.any_cons,List.all_cons,ih,Bool.not_and]
theorem zCh (s:Str) (hs:s.length≤1073741824):zAW s=some (tok s):=by
  unfold zAW tok
  rw [zHu s hs (fun c=>!tokB c) (zDd s) false]
  · rw [zMQ]; cases s.all tokB <;> rfl
  · intro n hn
    simp only [zDd,zAN hn,zAC,zAK hn,zAA,zRR]
    cases tokB s[n] <;> rfl
  · simp only [zDd,zAM (Nat.le_refl s.length),zAB]
theorem zRU (c:UInt8):((bif decide (c<32) then some (c !=9) else some false).bind fun b17=>(bif b17 then some true else some (c==127)))=some (!txtB c):=by
  have:=zLF (fun c=>decide (((bif decide (c<32) then some (c !=9) else some false).bind fun b17=>(bif b17 then some true else some (c==127)))=some (!txtB c))) (by decide +kernel) c
  simpa using this
theorem zPI (s:Str) (hs:s.length≤1073741824):zCS s=some (txt s):=by
  unfold zCS txt
  rw [zHu s hs (fun c=>!txtB c) (zD9 s) false]
  · rw [zMQ]; cases s.all txtB <;> rfl
  · intro n hn
    have e:=zRU s[n]
    have e':((bif decide (s[n]<32) then some (s[n] !=9) else some false).bind fun b17=>(bif b17 then some true else some (s[n]==127)).bind fun b21=>(bif b21 then some (.inr (.inr false)) else some (.inl (wr ((n:Int)+1))):Option (Int ⊕ (Unit ⊕ Bool))))=(some (!txtB s[n])).bind fun b21=>(bif b21 then some (.inr (.inr false)) else some (.inl (wr ((n:Int)+1)))):=by
      rw [← e,Option.bind_assoc]
    simp only [zD9,zAN hn,zAC,zAK hn,zAA]
    rw [e',zAA]
    cases txtB s[n] <;> rfl
  · simp only [zD9,zAM (Nat.le_refl s.length),zAB]
def isD (c:UInt8):Bool:=(decide (48≤c))&&(decide (c≤57))
def cap (n:Int):Int:=if 2147483647<n then 2147483647 else n
def unqL:Str→Str→Option Str
  | [],acc=>some acc
  | c :: r,acc=>if c=34 then none else if c=92 then (match r with | []=>none | d :: r'=>unqL r' (acc++[d])) else unqL r (acc++[c])
def unqIn (s:Str):Str×Bool:=if txt s then (match unqL s [] with | some x=>(x,true) | none=>([],false)) else ([],false)
def unq (s:Str):Str×Bool :=
  match s with
  | a :: r=>if a=34∧r≠[]∧r.getLast?=some 34 then unqIn r.dropLast else ([],false)
  | []=>([],false)
def unqO:Option Str→(List UInt8) ⊕ (Str×Bool) | some x=>.inl x | none=>.inr ([],false)
theorem zQG (s:Str) (hs:s.length≤1073741824):∀ (k i:Nat) (out:Str),s.length≤i+k→i≤s.length→out.length≤i→zAE (zAe s) (out,(i:Int))=some (unqO (unqL (s.drop i) out)):=by
  intro k
  induction k with
  | zero =>
    intro i out hk hi ho
    obtain rfl:i=s.length:=by omega
    rw [List.drop_length]
    refine zAG ?_
    simp only [zAe,zAM (Nat.le_refl s.length),zAB]; rfl
  | succ k ih =>
    intro i out hk hi ho
    by_cases hlt:i<s.length
    · have e2:wr ((i:Int)+1)=((i+1:Nat):Int):=wrs (by omega)
      rw [List.drop_eq_getElem_cons hlt]
      have ex:=zAK hlt
      generalize s[i]=c at ex
      unfold unqL
      by_cases h34:c=34
      · subst h34
        rw [if_pos rfl]
        refine zAG ?_
        simp only [zAe,zAN hlt,zAC,ex,zAA]; rfl
      · have h34':(c==34)=false:=by simpa using h34
        rw [if_neg h34]
        by_cases h92:c=92
        · subst h92
          rw [if_pos rfl]
          by_cases hl2:i+1<s.length
          · rw [List.drop_eq_getElem_cons hl2]
            have e3:(((i+1:Nat):Int)==(s.length:Int))=false:=by rw [eqI]; simp; omega
            have e4:wr (((i+1:Nat):Int)+1)=((i+1+1:Nat):Int):=wrs (by omega)
            have hb:zAe s (out,(i:Int))=some (.inl (out++[s[i+1]],((i+1+1:Nat):Int))):=by
              simp only [zAe,zAN hlt,zAC,ex,zAA,h34',zAB,beq_self_eq_true,e2,e3,zAK hl2]
              rw [zBh (by omega) (zCY _),zAA,e4]
            rw [zAI hb,ih (i+1+1) _ (by omega) (by omega) (by rw [List.length_append,List.length_singleton]; omega)]
          · have e3:(((i+1:Nat):Int)==(s.length:Int))=true:=by rw [eqI]; simp; omega
            rw [List.drop_eq_nil_of_le (by omega)]
            refine zAG ?_
            simp only [zAe,zAN hlt,zAC,ex,zAA,h34',zAB,beq_self_eq_true,e2,e3]; rfl
        · have h92':(c==92)=false:=by simpa using h92
          rw [if_neg h92]
          have hb:zAe s (out,(i:Int))=some (.inl (out++[c],((i+1:Nat):Int))):=by
            simp only [zAe,zAN hlt,zAC,ex,zAA,h34',zAB,h92',e2]
            rw [zBh (by omega) (zCY _),zAA]
          rw [zAI hb,ih (i+1) _ (by omega) (by omega) (by rw [List.length_append,List.length_singleton]; omega)]
    · obtain rfl:i=s.length:=by omega
      rw [List.drop_length]
      refine zAG ?_
      simp only [zAe,zAM (Nat.le_refl s.length),zAB]; rfl
theorem zIX (s:Str):(s.length<2∧unq s=([],false))∨∃ a m z,s=a :: (m++[z])∧unq s=if a=34∧z=34 then unqIn m else ([],false):=by
  match s with
  | []=>exact .inl ⟨by simp,rfl⟩
  | [a]=>exact .inl ⟨by simp,by simp [unq]⟩
  | a :: b :: r =>
    obtain ⟨m,z,hm⟩:∃ m z,b :: r=m++[z]:=⟨(b :: r).dropLast,(b :: r).getLast (by simp),(List.dropLast_concat_getLast (by simp)).symm⟩
    rw [hm]
    exact .inr ⟨a,m,z,rfl,by simp [unq]⟩
theorem zK6 (a z : UInt8) (m : Str) (h : (a :: (m ++ [z])).length ≤ 1073741824) :
    decide ((((a :: (m++[z])).length:Nat):Int)<2)=false∧wr ((((a :: (m++[z])).length:Nat):Int) - 1)=((m.length+1:Nat):Int)∧xnth (a :: (m++[z])) ((m.length+1:Nat):Int)=some z∧xsub (a :: (m++[z])) 1 ((m.length+1:Nat):Int)=some m:=by
  have hlen:(a :: (m++[z])).length=m.length+2:=by simp
  rw [hlen] at h
  refine ⟨?_,?_,?_,?_⟩
  · rw [hlen]
    exact decide_eq_false (by omega)
  · rw [hlen,zEk (by omega) (by omega)]; omega
  · rw [zGb]; simp
  · have:=zGY (l:=a :: (m++[z])) (i:=1) (j:=m.length+1) ⟨by omega,by simp⟩
    have e:xsub (a :: (m++[z])) 1 ((m.length+1:Nat):Int)=_:=this
    rw [e]; simp
theorem zOV (s:Str) (hs:s.length≤1073741824):zBu s=some (unq s):=by
  rcases zIX s with ⟨h,hu⟩ | ⟨a,m,z,rfl,hu⟩
  · have e:decide ((s.length:Int)<2)=true:=zAN h
    rw [hu]; simp only [zBu,e,zAC,zAA]
  · obtain ⟨e1,e2,e3,e4⟩:=zK6 a z m hs
    have hm:m.length≤1073741824:=by simp at hs; omega
    rw [hu]
    simp only [zBu,e1,e2,e3,e4,zAB,zDL,zAA,zPI m hm]
    by_cases ha:a=34
    · by_cases hz:z=34
      · subst ha; subst hz
        have hl:=zQG m hm m.length 0 [] (by omega) (by omega) (by simp)
        have hl:zAE (zAe m) ([],0)=_:=hl
        rw [hl]
        simp only [bne_self_eq_false,zAB,zAA,and_self,if_true,List.drop_zero]
        unfold unqIn
        cases txt m
        · rfl
        · cases unqL m [] <;> rfl
      · have hz':(z !=34)=true:=by simpa using hz
        simp [ha,hz,hz']
    · have ha':(a !=34)=true:=by simpa using ha
      simp [ha,ha']
theorem zH8 (a b:Str) (ha:a.length≤1073741824) (hb:b.length≤1073741824):zA0 a b=some (fold a b):=by
  simp only [zA0,zBZ a ha,zBZ b hb,zAA,eqI,fold]
  cases a.length==b.length <;> rfl
end Go.Eng.Pure
namespace Go.Eng
open Go
theorem zOD {α : Type} [DecidableEq α] (a b : List α) (body : Int → Option (Int ⊕ (Unit ⊕ Bool))) (hlen : a.length = b.length)
    (h:∀ (n:Nat) (hn:n<a.length) (hb:n<b.length),body (n:Int)=some (if a[n]=b[n] then .inl ((n+1:Nat):Int) else .inr (.inr false))) (h':body (a.length:Int)=some (.inr (.inl ()))) :
    zAE body 0=some (if a=b then .inl () else .inr false):=by
  have key:∀ (k n:Nat),n+k=a.length→zAE body (n:Int)=some (if a.drop n=b.drop n then .inl () else .inr false):=by
    intro k
    induction k with
    | zero =>
      intro n hn
      obtain rfl:n=a.length:=by omega
      rw [zAG h',List.drop_length,if_pos]
      rw [hlen,List.drop_length]
    | succ k ih =>
      intro n hn
      have hlt:n<a.length:=by omega
      have hlb:n<b.length:=by omega
      have hb:=h n hlt hlb
      rw [List.drop_eq_getElem_cons hlt,List.drop_eq_getElem_cons hlb]
      by_cases he:a[n]=b[n]
      · rw [if_pos he] at hb
        have hi:(a[n] :: a.drop (n+1)=b[n] :: b.drop (n+1))↔(a.drop (n+1)=b.drop (n+1)):=by
          rw [he]; exact ⟨fun h=>(List.cons.inj h).2,fun h=>by rw [h]⟩
        rw [zAI hb,ih (n+1) (by omega)]
        simp only [hi]
      · rw [if_neg he] at hb
        rw [zAG hb,if_neg]
        intro hc
        exact he (List.cons.inj hc).1
  have:=key a.length 0 (by omega)
  simpa using this
end Go.Eng
namespace Go.Eng.Pure
open Go Go.Eng
set_option linter.unusedVariables false
theorem zE0 {α : Type} (l : List α) (m : Nat) (bad : α → Bool) (body : Int → Option (Int ⊕ (Unit ⊕ Bool)))
    (h:∀ (n:Nat) (hn:n<l.length),n<m→body (n:Int)=some (if bad l[n]=true then .inr (.inr false) else .inl ((n:Int)+1)))
    (h':∀ n:Nat,(l.length≤n∨m≤n)→body (n:Int)=some (.inr (.inl ()))) :
    zAE body 0=some (if (l.take m).any bad then .inr false else .inl ()):=by
  refine zF7 body (l.take m) bad (.inr false) (.inl ()) (fun n hn=>?_) ?_
  · have h1:n<l.length:=by rw [List.length_take] at hn; omega
    have h2:n<m:=by rw [List.length_take] at hn; omega
    rw [h n h1 h2,List.getElem_take]
  · exact h' _ (by rw [List.length_take]; omega)
def badF (n:Nat) (f:GField):Bool:=decide (n<f.fName.length)||decide (n<f.fValue.length)
def keepF (l:List GField):Bool:=!((l.take 71).any (badF 300))&&decide (l.length≤70)
theorem zEs (l:List GField):zDY l=some (keepF l):=by
  unfold zDY keepF
  rw [zE0 l 71 (badF 300)]
  · have e:decide ((l.length:Int)≤70)=decide (l.length≤70):=zGs l.length 70
    rw [e]
    cases (l.take 71).any (badF 300) <;> simp
  · intro n hn hm
    have e1:decide ((n:Int)<71)=true:=zAN hm
    have e2:wr ((n:Int)+1)=(n:Int)+1:=by rw [wrs (by omega)]; omega
    simp only [zEt,zAN hn,e1,Bool.and_self,zAC,zAK hn,zAA,e2]
    have e3:decide (300<((l[n].fName.length:Nat):Int))=decide (300<l[n].fName.length):=zJj 300 _
    have e4:decide (300<((l[n].fValue.length:Nat):Int))=decide (300<l[n].fValue.length):=zJj 300 _
    rw [e3,e4]
    unfold badF
    cases decide (300<l[n].fName.length) <;> cases decide (300<l[n].fValue.length) <;> rfl
  · intro n hn
    have:(decide ((n:Int)<(l.length:Int))&&decide ((n:Int)<71))=false:=by
      rcases hn with hn | hn
      · rw [zAM hn]; rfl
      · rw [show decide ((n:Int)<71)=false from zAM hn,Bool.and_false]
    simp only [zEt,this,zAB]
theorem zKc {l:List GField} (h:keepF l=true):l.length≤70∧∀ f ∈ l,f.fName.length≤300∧f.fValue.length≤300:=by
  unfold keepF at h
  simp only [Bool.and_eq_true,Bool.not_eq_true',decide_eq_true_eq] at h
  refine ⟨h.2,fun f hf=>?_⟩
  rw [List.take_of_length_le (by omega)] at h
  have:=List.any_eq_false.1 h.1 f hf
  simp only [badF,Bool.or_eq_true,decide_eq_true_eq] at this
  omega
def keepS (l:List Str):Bool:=!((l.take 21).any fun s=>decide (100<s.length))&&decide (l.length≤20)
theorem zDH (l:List Str):zCM l=some (keepS l):=by
  unfold zCM keepS
  rw [zE0 l 21 (fun s=>decide (100<s.length))]
  · have e:decide ((l.length:Int)≤20)=decide (l.length≤20):=zGs l.length 20
    rw [e]
    cases (l.take 21).any (fun s=>decide (100<s.length)) <;> simp
  · intro n hn hm
    have e1:decide ((n:Int)<21)=true:=zAN hm
    have e2:wr ((n:Int)+1)=(n:Int)+1:=by rw [wrs (by omega)]; omega
    simp only [zES,zAN hn,e1,Bool.and_self,zAC,zAK hn,zAA,e2]
    have e3:decide (100<((l[n].length:Nat):Int))=decide (100<l[n].length):=zJj 100 _
    rw [e3]
    cases decide (100<l[n].length) <;> rfl
  · intro n hn
    have:(decide ((n:Int)<(l.length:Int))&&decide ((n:Int)<21))=false:=by
      rcases hn with hn | hn
      · rw [zAM hn]; rfl
      · rw [show decide ((n:Int)<21)=false from zAM hn,Bool.and_false]
    simp only [zES,this,zAB]
theorem zNL {l:List Str} (h:keepS l=true):l.length≤20∧∀ s ∈ l,s.length≤100:=by
  unfold keepS at h
  simp only [Bool.and_eq_true,Bool.not_eq_true',decide_eq_true_eq] at h
  refine ⟨h.2,fun f hf=>?_⟩
  rw [List.take_of_length_le (by omega)] at h
  have:=List.any_eq_false.1 h.1 f hf
  simp only [decide_eq_true_eq] at this
  omega
end Go.Eng.Pure
namespace Go.Eng.Pure
open Go Go.Eng
set_option linter.unusedVariables false
def hasF (l:List GField) (name:Str):Bool:=decide (0<(getF l name).length)
theorem zRI (l:List GField) (name:Str) (hl:l.length≤1073741824) (hf:∀ f ∈ l,smF f) (hn:name.length≤1073741824):zA5 l name=some (hasF l name):=by
  unfold zA5 zBp
  rw [zBZ _ hn]
  simp only [zAA]
  rw [zL6 l _ (fun f=>fold f.fName name) hl (fun f h=>zNb name hn f (hf f h)),zAA]
  unfold hasF getF
  rw [List.length_map]
  exact congrArg some (zJj 0 _)
theorem zKu (l:List GField) (name:Str):(allM l name).length≤64:=by
  unfold allM; rw [List.length_take]; omega
theorem zKa (l:List GField) (name:Str) (B:Nat) (hf:∀ f ∈ l,f.fValue.length≤B):∀ x ∈ allM l name,x.length≤B:=by
  intro x hx
  have h1:=List.mem_of_mem_take hx
  rw [List.mem_flatMap] at h1
  obtain ⟨v,hv,hx⟩:=h1
  exact Nat.le_trans (zNk v x hx) (zKy l name B hf v hv)
def hd (m:Str):Str:=m.takeWhile tokB
def tl (m:Str):Str:=m.dropWhile tokB
theorem zQE:∀ (n:Nat) (s acc x:Str),s.length≤n→unqL s acc=some x→x.length≤acc.length+s.length:=by
  intro n
  induction n with
  | zero =>
    intro s acc x h hx
    obtain rfl:=List.eq_nil_of_length_eq_zero (Nat.le_zero.1 h)
    cases hx; simp
  | succ n ih =>
    intro s acc x h hx
    match s with
    | []=>cases hx; simp
    | c :: r =>
      unfold unqL at hx
      split at hx
      · cases hx
      · split at hx
        · match r with
          | []=>cases hx
          | d :: r' =>
            have:=ih r' (acc++[d]) x (by simp at h; omega) hx
            rw [List.length_append,List.length_singleton] at this
            simp only [List.length_cons]; omega
        · have:=ih r (acc++[c]) x (by simp at h; omega) hx
          rw [List.length_append,List.length_singleton] at this
          simp only [List.length_cons]; omega
theorem zSG (s:Str):(unq s).1.length≤s.length:=by
  rcases zIX s with ⟨h,hu⟩ | ⟨a,m,z,rfl,hu⟩
  · rw [hu]; exact Nat.zero_le _
  · rw [hu]
    split
    · unfold unqIn
      split
      · cases hx:unqL m [] with
        | none=>exact Nat.zero_le _
        | some x =>
          have:=zQE m.length m [] x (Nat.le_refl _) hx
          simp at this ⊢; omega
      · exact Nat.zero_le _
    · exact Nat.zero_le _
theorem zL9 {β:Type} (m:List (Str×β)) (k k':Str) (v:β):(mset m k v).lookup k'=if k'==k then some v else m.lookup k':=by
  induction m with
  | nil =>
    simp only [mset,List.lookup]
    cases k'==k <;> rfl
  | cons p r ih =>
    unfold mset
    by_cases h:k=p.1
    · subst h
      rw [beq_self_eq_true,if_pos rfl]
      simp only [List.lookup]
      cases k'==p.1 <;> rfl
    · have h':(k==p.1)=false:=by simpa using h
      rw [h',if_neg (by decide)]
      simp only [List.lookup]
      cases hk:k'==p.1 with
      | true =>
        have e:k'=p.1:=by simpa using hk
        have:(k'==k)=false:=by rw [e]; simp [Ne.symm h]
        rw [this]; rfl
      | false=>exact ih
end Go.Eng.Pure
