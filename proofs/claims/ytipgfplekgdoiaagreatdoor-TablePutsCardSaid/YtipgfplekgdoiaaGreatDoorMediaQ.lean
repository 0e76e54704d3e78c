/- A part of the proof of laws of the seat. -/
import Derived.Test.YtipgfplekgdoiaaGreatDoorKeepP
import Derived.Sort.Walk0
import Derived.Lib.ItoaNum
set_option linter.unusedVariables false
namespace Go.Eng.Pure
open Go Go.Eng
set_option linter.unusedVariables false
def hasF (l:List GField) (name:Str):Bool:=decide (0<(getF l name).length)
theorem zPH (l:List GField) (name:Str) (hl:l.length≤1073741824) (hf:∀ f ∈ l,smF f) (hn:name.length≤1073741824):zDl l name=some (hasF l name):=by
  unfold zDl zCb
  rw [zBt _ hn]
  simp only [zAA]
  rw [zLK l _ (fun f=>fold f.fName name) hl (fun f h=>zMZ name hn f (hf f h)),zAA]
  unfold hasF getF
  rw [List.length_map]
  exact congrArg some (zHs 0 _)
theorem zIw (l:List GField) (name:Str):(allM l name).length≤64:=by
  unfold allM; rw [List.length_take]; omega
theorem zJc (l:List GField) (name:Str) (B:Nat) (hf:∀ f ∈ l,f.fValue.length≤B):∀ x ∈ allM l name,x.length≤B:=by
  intro x hx
  have h1:=List.mem_of_mem_take hx
  rw [List.mem_flatMap] at h1
  obtain ⟨v,hv,hx⟩:=h1
  exact Nat.le_trans (zME v x hx) (zJJ l name B hf v hv)
def hd (m:Str):Str:=m.takeWhile tokB
def tl (m:Str):Str:=m.dropWhile tokB
theorem zOY:∀ (n:Nat) (s acc x:Str),s.length≤n→unqL s acc=some x→x.length≤acc.length+s.length:=by
  intro n
  induction n with
  | zero =>
    intro s acc x h hx
    obtain rfl:=List.eq_nil_of_length_eq_zero (Nat.le_zero.1 h)
    cases hx; simp
  | succ n ih =>
    intro s acc x h hx
    match s with
    | []=>cases hx; simp
    | c :: r =>
      unfold unqL at hx
      split at hx
      · cases hx
      · split at hx
        · match r with
          | []=>cases hx
          | d :: r' =>
            have:=ih r' (acc++[d]) x (by simp at h; omega) hx
            rw [List.length_append,List.length_singleton] at this
            simp only [List.length_cons]; omega
        · have:=ih r (acc++[c]) x (by simp at h; omega) hx
          rw [List.length_append,List.length_singleton] at this
          simp only [List.length_cons]; omega
theorem zPZ (s:Str):(unq s).1.length≤s.length:=by
  rcases zGz s with ⟨h,hu⟩ | ⟨a,m,z,rfl,hu⟩
  · rw [hu]; exact Nat.zero_le _
  · rw [hu]
    split
    · unfold unqIn
      split
      · cases hx:unqL m [] with
        | none=>exact Nat.zero_le _
        | some x =>
          have:=zOY m.length m [] x (Nat.le_refl _) hx
          simp at this ⊢; omega
      · exact Nat.zero_le _
    · exact Nat.zero_le _
theorem zLy {β:Type} (m:List (Str×β)) (k k':Str) (v:β):(mset m k v).lookup k'=if k'==k then some v else m.lookup k':=by
  induction m with
  | nil =>
    simp only [mset,List.lookup]
    cases k'==k <;> rfl
  | cons p r ih =>
    unfold mset
    by_cases h:k=p.1
    · subst h
      rw [beq_self_eq_true,if_pos rfl]
      simp only [List.lookup]
      cases k'==p.1 <;> rfl
    · have h':(k==p.1)=false:=by simpa using h
      rw [h',if_neg (by decide)]
      simp only [List.lookup]
      cases hk:k'==p.1 with
      | true =>
        have e:k'=p.1:=by simpa using hk
        have:(k'==k)=false:=by rw [e]; simp [Ne.symm h]
        rw [this]; rfl
      | false=>exact ih
end Go.Eng.Pure
namespace Go.Eng.Pure
open Go Go.Eng
set_option linter.unusedVariables false
def join (l:List Str):Str:=Lib.join l [44,32]
theorem zF1 (x:Str) (r:List Str):join (x :: r)=x++(r.map ([44,32]++·)).flatten:=Lib.join_cons x r [44,32]
theorem zMW (l:List Str) (B:Nat) (h:∀ s ∈ l,s.length≤B):(join l).length≤(B+2)*l.length:=by
  have:∀ r:List Str,(∀ s ∈ r,s.length≤B)→((r.map ([44,32]++·)).flatten).length≤(B+2)*r.length:=by
    intro r
    induction r with
    | nil=>intro _; simp
    | cons y r ih =>
      intro hr
      have h1:=ih fun s hs=>hr s (List.mem_cons_of_mem _ hs)
      have h2:=hr y List.mem_cons_self
      rw [List.map_cons,List.flatten_cons,List.length_append,List.length_cons,Nat.mul_succ]
      have:(([44,32]:Str)++y).length=y.length+2:=by simp
      omega
  cases l with
  | nil=>simp [join,Lib.join_nil]
  | cons x r =>
    have h1:=this r fun s hs=>h s (List.mem_cons_of_mem _ hs)
    have h2:=h x List.mem_cons_self
    rw [zF1,List.length_append,List.length_cons,Nat.mul_succ]
    omega
theorem zOC (l:List Str) (h1:l.length≤1073741824) (h2:(join l).length≤1073741824):zFy l=some (join l):=by
  unfold zFy strings_Join jo
  rw [if_pos ⟨by show (join l).length≤big; simp only [big]; omega,by simp only [big]; omega⟩]; rfl
end Go.Eng.Pure
namespace Go.Eng.Pure
open Go Go.Eng
set_option linter.unusedVariables false
theorem zO6 (l:List Str) (h1:l.length≤1073741824) (h2:(join l).length≤1073741824):strings_Join l [44,32]=some (join l):=by
  unfold strings_Join jo
  rw [if_pos ⟨by show (join l).length≤big; simp only [big]; omega,by simp only [big]; omega⟩]; rfl
def kindF (n:Str):Int :=
  if fold n [65,99,99,101,112,116] then 1 else if fold n [65,99,99,101,112,116,45,76,97,110,103,117,97,103,101] then 2
  else if fold n [65,99,99,101,112,116,45,67,104,97,114,115,101,116] then 3 else if fold n [65,99,99,101,112,116,45,69,110,99,111,100,105,110,103] then 4 else 0
theorem zLj (n:Str) (hn:n.length≤1073741824):zEA n=some (kindF n):=by
  unfold zEA kindF
  simp only [show zBM 1=some [65,99,99,101,112,116] from rfl,show zBM 2=some [65,99,99,101,112,116,45,76,97,110,103,117,97,103,101] from rfl,
    show zBM 3=some [65,99,99,101,112,116,45,67,104,97,114,115,101,116] from rfl,show zBM 4=some [65,99,99,101,112,116,45,69,110,99,111,100,105,110,103] from rfl,zAA]
  rw [zIK _ _ hn (by decide),zIK _ _ hn (by decide),zIK _ _ hn (by decide),zIK _ _ hn (by decide)]
  simp only [zAA]
  generalize fold n [65,99,99,101,112,116]=a
  generalize fold n [65,99,99,101,112,116,45,76,97,110,103,117,97,103,101]=b
  generalize fold n [65,99,99,101,112,116,45,67,104,97,114,115,101,116]=c
  generalize fold n [65,99,99,101,112,116,45,69,110,99,111,100,105,110,103]=d
  cases a <;> cases b <;> cases c <;> cases d <;> rfl
theorem zIt (n:Str) (hn:n.length≤1073741824):zD5 n=some (kindF n):=by
  unfold zD5 kindF
  simp only [show zBW 1=some [65,99,99,101,112,116] from rfl,show zBW 2=some [65,99,99,101,112,116,45,76,97,110,103,117,97,103,101] from rfl,
    show zBW 3=some [65,99,99,101,112,116,45,67,104,97,114,115,101,116] from rfl,show zBW 4=some [65,99,99,101,112,116,45,69,110,99,111,100,105,110,103] from rfl,zAA]
  rw [zEN _ _ hn (by decide),zEN _ _ hn (by decide),zEN _ _ hn (by decide),zEN _ _ hn (by decide)]
  simp only [zAA]
  generalize fold n [65,99,99,101,112,116]=a
  generalize fold n [65,99,99,101,112,116,45,76,97,110,103,117,97,103,101]=b
  generalize fold n [65,99,99,101,112,116,45,67,104,97,114,115,101,116]=c
  generalize fold n [65,99,99,101,112,116,45,69,110,99,111,100,105,110,103]=d
  cases a <;> cases b <;> cases c <;> cases d <;> rfl
def varyV (l:List GField) (n:Str):Str :=
  if (getF l n).length=0 then [] else if (kindF n !=0)&&decide ((allM l n).length<64) then 61 :: lower (join (allM l n)) else 61 :: join (getF l n)
def smL (l:List GField):Prop:=l.length≤70∧∀ f ∈ l,f.fName.length≤300∧f.fValue.length≤300
theorem smL_F {l:List GField} (h:smL l):l.length≤1073741824∧∀ f ∈ l,smF f:=⟨by have:=h.1; omega,fun f hf=>by have:=h.2 f hf; exact ⟨by omega,by omega⟩⟩
theorem zMT {l:List GField} (h:smL l) (n:Str):(getF l n).length≤70∧(join (getF l n)).length≤30000:=by
  have h1:=zKA l n
  have h2:=zMW (getF l n) 300 (zJJ l n 300 fun f hf=>(h.2 f hf).2)
  have h3:=h.1
  exact ⟨by omega,by omega⟩
theorem zIs {l:List GField} (h:smL l) (n:Str):(allM l n).length≤64∧(join (allM l n)).length≤30000:=by
  have h1:=zIw l n
  have h2:=zMW (allM l n) 300 (zJc l n 300 fun f hf=>(h.2 f hf).2)
  exact ⟨h1,by omega⟩
theorem eq61 {s:Str} (h:s.length≤30000):xcat [61] s=some (61 :: s):=by
  rw [zC9 (zA5 _) (by omega)]; rfl
theorem zOi (n:Str) (l:List GField) (hl:smL l) (hn:n.length≤1073741824):zG5 n l=some (varyV l n):=by
  obtain ⟨h1,h2⟩:=smL_F hl
  obtain ⟨g1,g2⟩:=zMT hl n
  obtain ⟨a1,a2⟩:=zIs hl n
  unfold zG5 varyV
  rw [zPH l n h1 h2 hn,zNk l n h1 h2 hn,zLj n hn,zPL l n h1 h2 hn]
  simp only [zAA]
  rw [zOC _ (by omega) (by omega),zO6 _ (by omega) (by omega)]
  simp only [zAA]
  rw [zBt _ (by omega)]
  simp only [zAA]
  rw [eq61 g2,eq61 (by rw [zCM]; exact a2)]
  simp only [zAA]
  rw [show decide (((allM l n).length:Int)<64)=decide ((allM l n).length<64) from zHs _ 64]
  unfold hasF
  by_cases hz:(getF l n).length=0
  · rw [if_pos hz,decide_eq_false (by omega)]; rfl
  · rw [if_neg hz,decide_eq_true (by omega)]
    cases (kindF n !=0)&&decide ((allM l n).length<64) <;> rfl
def snapF (l:List GField) (ns:List Str):List Str:=ns.map (varyV l)
theorem zLh (ns:List Str) (l:List GField) (hl:smL l) (hs:ns.length≤1000) (hn:∀ n ∈ ns,n.length≤1073741824):zEy ns l=some (snapF l ns):=by
  have:=zBc (fun n=>((ns.take n).map (varyV l),(n:Int))) ns.length (ns.map (varyV l)) (zCL ns l) ?_ ?_
  · unfold zEy
    have e:(([]:List Str),(0:Int))=((ns.take 0).map (varyV l),((0:Nat):Int)):=by simp
    rw [e,this]; rfl
  · intro n hn'
    simp only [zCL,zAK hn',zAC,zAG hn',zAA,zOi _ l hl (hn _ (List.getElem_mem hn')),wrs (show n≤4*1073741824 by omega)]
    rw [zAj (by simp; omega) (zA5 _),zAg hn',List.map_append]
    rfl
  · simp only [zCL,zAI (Nat.le_refl ns.length),zAB,List.take_length]
theorem zIC (a b:List Str) (ha:a.length≤1073741824):zAa a b=some (a==b):=by
  unfold zAa
  rw [neI]
  by_cases hl:a.length=b.length
  · have e:(a.length !=b.length)=false:=by simp [hl]
    rw [e,zAB,zIR a b (zAo a b) hl]
    · by_cases h:a=b
      · simp [h]
      · simp [h]
    · intro n hn hb
      simp only [zAo,zAK hn,zAC,zAG hn,zAG hb,zAA,wrs (show n≤4*1073741824 by omega)]
      by_cases he:a[n]=b[n]
      · have:(a[n] !=b[n])=false:=by simp [he]
        rw [this,if_pos he]; rfl
      · have:(a[n] !=b[n])=true:=by simp [he]
        rw [this,if_neg he]; rfl
    · simp only [zAo,zAI (Nat.le_refl a.length),zAB]
  · have e:(a.length !=b.length)=true:=by simp [hl]
    have e2:(a==b)=false:=by
      rw [Bool.eq_false_iff]; intro h; exact hl (by rw [eq_of_beq h])
    rw [e,e2]; rfl
theorem zIv (l:List GField) (ns:List Str):(snapF l ns).length=ns.length:=by simp [snapF]
theorem zO2 (ns s:List Str) (l:List GField) (hl:smL l) (hs:ns.length≤1000) (hn:∀ n ∈ ns,n.length≤1073741824):zHD ns s l=some (snapF l ns==s):=by
  unfold zHD
  rw [zLh ns l hl hs hn,eqI]
  simp only [zAA]
  rw [zIC _ _ (by rw [zIv]; omega)]
  simp only [zAA]
  by_cases h:ns.length=s.length
  · rw [beq_iff_eq.2 h]; rfl
  · rw [beq_eq_false_iff_ne.2 h]
    have:(snapF l ns==s)=false:=by
      rw [Bool.eq_false_iff]; intro hc; have:=eq_of_beq hc; rw [← this,zIv] at h; exact h rfl
    rw [this]; rfl
def zQG (l:List GField) (n:Str):List GField:=l.filter fun f=>!fold f.fName n
end Go.Eng.Pure
namespace Go.Eng.Pure
open Go Go.Eng
set_option linter.unusedVariables false
def fin (a:UInt8):Nat→Str→Str→List Str×Nat×Str
  | st,cur,[]=>([],st,cur)
  | st,cur,c :: r=>if st=0∧c=a then (cur :: (fin a 0 [] r).1,(fin a 0 [] r).2) else fin a (step st c) (cur++[c]) r
end Go.Eng.Pure
namespace Go.Eng.Pure
open Go Go.Eng
set_option linter.unusedVariables false
section
set_option linter.unusedSectionVars false
variable (s:Str) (hs:s.all isD=true) (hne:s≠[])
include hs hne
end
def quote (s:Str):Str:=34 :: (s.flatMap (fun c=>if c=34∨c=92 then [92,c] else [c])++[34])
theorem zNb (t:Str):(t.flatMap (fun c=>if c=34∨c=92 then [92,c] else [c])).length≤2*t.length:=by
  induction t with
  | nil=>exact Nat.le_refl _
  | cons c t ih =>
    have e:(if c=34∨c=92 then [92,c] else [c]).length≤2:=by split <;> simp
    rw [List.flatMap_cons,List.length_append,List.length_cons]
    omega
theorem zMf (s:Str) (hs:s.length≤1073741824):zE7 s=some (quote s):=by
  have hfl:=zNb
  have:=zBc (fun n=>(34 :: (s.take n).flatMap (fun c=>if c=34∨c=92 then [92,c] else [c]),(n:Int))) s.length (34 :: s.flatMap (fun c=>if c=34∨c=92 then [92,c] else [c])) (zDA s) ?_ ?_
  · unfold zE7 quote
    have e:(([34]:Str),(0:Int))=(34 :: (s.take 0).flatMap (fun c=>if c=34∨c=92 then [92,c] else [c]),((0:Nat):Int)):=by simp
    have hl:=hfl s
    rw [e,this,zAA,zAj (by simp only [List.length_cons]; omega) (zA5 _)]; rfl
  · intro n hn
    have hl:=hfl (s.take n)
    have ht:(s.take n).length≤n:=by rw [List.length_take]; omega
    have hcond:(bif s[n]==34 then some true else some (s[n]==92))=some (decide (s[n]=34∨s[n]=92)):=by
      by_cases h1:s[n]=34
      · simp [h1]
      · have h1':(s[n]==34)=false:=by simpa using h1
        by_cases h2:s[n]=92
        · simp [h2]
        · simp [h1,h2,h1']
    simp only [zDA,zAK hn,zAC,zAG hn,zAA]
    rw [hcond,zAA,zAg hn,List.flatMap_append,wrs (by omega)]
    by_cases hc:s[n]=34∨s[n]=92
    · rw [decide_eq_true hc,zAC,zAj (by simp only [List.length_cons]; omega) (zA5 _),zAA,zAA,zAj (by simp only [List.length_cons,List.length_append,List.length_nil]; omega) (zA5 _),zAA]
      simp [hc]
    · rw [decide_eq_false hc,zAB,zAA,zAj (by simp only [List.length_cons]; omega) (zA5 _),zAA]
      simp [hc]
  · simp only [zDA,zAI (Nat.le_refl s.length),zAB,List.take_length]
theorem zKy (s:Str):(quote s).length≤2*s.length+2:=by
  unfold quote
  rw [List.length_cons,List.length_append,List.length_singleton]
  have:=zNb s
  omega
end Go.Eng.Pure
namespace Go.Eng.Pure
open Go Go.Eng
set_option linter.unusedVariables false
def shape (s:Str):Bool:=s.length==29&&((s.take 5).drop 3==[44,32]&&(s.getD 7 0==32&&(s.getD 11 0==32&&(s.getD 16 0==32&&(s.getD 19 0==58&&(s.getD 22 0==58&&s.drop 25==[32,71,77,84]))))))
end Go.Eng.Pure
namespace Go.Eng.Pure.Etag
open Go Go.Eng Go.Eng.Pure
def zQF (c:UInt8):Bool:=(decide (c<33)||c==34)||c==127
def tagOK (s:Str):Bool:=!s.any zQF
def inner (t:Str):Option Str :=
  match t with
  | a :: r=>if a=34∧r≠[]∧r.getLast?=some 34∧tagOK r.dropLast then some r.dropLast else none
  | []=>none
def tagOf (weak:Bool) (t:Str):GETag×Bool:=match inner t with | some x=>(⟨weak,x⟩,true) | none=>(⟨false,[]⟩,false)
def pre:Str:=[87,47]
def zHz (s:Str):GETag×Bool:=if pre.isPrefixOf s then tagOf true (s.drop 2) else tagOf false s
theorem zJW (p s:Str):p.isPrefixOf s=(decide (p.length≤s.length)&&s.take p.length==p):=by
  induction p generalizing s with
  | nil=>simp
  | cons a p ih =>
    cases s with
    | nil=>simp
    | cons b s =>
      simp only [List.isPrefixOf,List.length_cons,List.take_succ_cons,Nat.add_le_add_iff_right]
      rw [ih]
      by_cases h:a=b
      · subst h; simp
      · have e1:(a==b)=false:=by simpa using h
        have e2:(b==a)=false:=by simpa using fun e=>h e.symm
        simp [e1,e2]
theorem HasPrefix_eq (s p:Str):zBj s p=some (p.isPrefixOf s):=by
  unfold zBj
  rw [zJW]
  by_cases h:p.length≤s.length
  · have h1:decide ((p.length:Int)≤(s.length:Int))=true:=by simpa using h
    rw [h1,zAC]
    have:=zG2 (l:=s) (i:=0) (j:=p.length) ⟨by omega,h⟩
    rw [show ((0:Nat):Int)=0 from rfl] at this
    rw [this]
    simp [h]
  · have h1:decide ((p.length:Int)≤(s.length:Int))=false:=by simpa using h
    rw [h1,zAB]
    simp [h]
end Go.Eng.Pure.Etag
namespace Go.Eng.Pure.Etag
open Go Go.Eng Go.Eng.Pure
set_option linter.unusedVariables false
def zLx (out:List GETag) (m:Str):List GETag ⊕ (List GETag ⊕ (List GETag×Bool×Bool)):=if (zHz m).2 then .inl (out++[(zHz m).1]) else .inr (.inr ([],false,false))
def zQB (l:List Str):List GETag ⊕ (List GETag×Bool×Bool):=run zLx .inl l []
theorem zJS (m : List Str) (hm : m.length ≤ 64) (hs : ∀ x ∈ m, x.length ≤ 1073741824) (parse : Str → Option (GETag × Bool)) (hp : ∀ x : Str, x.length ≤ 1073741824 → parse x = some (zHz x)) (body : (List GETag × Int) → Option ((List GETag × Int) ⊕ (List GETag ⊕ (List GETag × Bool × Bool))))
    (hb:∀ o i,body (o,i)=(bif decide (i<(m.length:Int)) then (xnth m i).bind fun x=>(parse x).bind fun r=>(bif !r.2 then some (.inr (.inr (([]:List GETag),false,false))) else (xapp o ([r.1]:List GETag)).bind fun l=>some (.inl (l,wr (i+1)))) else some (.inr (.inl o)))) :
    zAF body ([],0)=some (zQB m):=by
  refine zG9 (fun (o:List GETag) (i:Int)=>(o,i)) m zLx .inl body (fun n o=>o.length≤n) [] (Nat.le_refl _) (fun n hn o ho=>?_) (fun o _=>?_)
  · have h1:=hs _ (List.getElem_mem hn)
    rw [hb,zAK hn,zAC,zAG hn,zAA,hp _ h1,zAA,zAj (by omega) (zA5 _),zAA,wrs (by omega)]
    unfold zLx
    cases hpp:(zHz m[n]).2 with
    | true=>exact ⟨rfl,fun st' h=>by simp at h; subst h; rw [List.length_append,List.length_singleton]; omega⟩
    | false=>exact ⟨rfl,fun st' h=>by simp at h⟩
  · rw [hb,zAI (Nat.le_refl m.length),zAB]
theorem zJc (l:List GField) (name:Str) (hf:∀ f ∈ l,smF f):∀ x ∈ allM l name,x.length≤1073741824:=by
  intro x hx
  have h1:=List.mem_of_mem_take hx
  rw [List.mem_flatMap] at h1
  obtain ⟨v,hv,hx⟩:=h1
  exact Nat.le_trans (zME v x hx) (zJJ l name 1073741824 (fun f h=>(hf f h).2) v hv)
end Go.Eng.Pure.Etag
namespace Go.Eng.Pure
end Go.Eng.Pure
namespace Go.Eng
end Go.Eng
namespace Go.Eng.Pure
open Go Go.Eng
set_option linter.unusedVariables false
def smS (l:List Str):Prop:=l.length≤1000∧∀ s ∈ l,s.length≤1000
def smE (e:GEntry):Prop:=(e.fKeys.length≤10∧∀ k ∈ e.fKeys,smS k)∧smS e.fVary∧smS e.fSnapshot∧smL e.fFields∧e.fReason.length≤100∧e.fBody.length≤2000
theorem fieldB (a b:GField):(!((a.fName==b.fName)&&((a.fValue==b.fValue)&&true)))=!decide (a=b):=by
  obtain ⟨n,v⟩:=a; obtain ⟨n',v'⟩:=b
  rw [Bool.and_true]
  congr 1
  rw [Bool.eq_iff_iff]
  simp
theorem zQm (a b:List GField) (ha:a.length≤1073741824):zQP a b=some (decide (a=b)):=by
  unfold zQP
  rw [neI]
  by_cases hl:a.length=b.length
  · have e:(a.length !=b.length)=false:=by simp [hl]
    rw [e,zAB,zIR a b _ hl]
    · by_cases h:a=b <;> simp [h]
    · intro n hn hb
      simp only [zQM,zAK hn,zAC,zAG hn,zAG hb,zAA,wrs (show n≤4*1073741824 by omega),fieldB]
      by_cases he:a[n]=b[n] <;> simp [he]
    · simp only [zQM,zAI (Nat.le_refl a.length),zAB]
  · have e:(a.length !=b.length)=true:=by simp [hl]
    rw [e,zAC,decide_eq_false (fun h=>hl (by rw [h]))]
theorem zQq (a b:List (List Str)) (ha:a.length≤1073741824) (hs:∀ k ∈ a,k.length≤1073741824):zQU a b=some (decide (a=b)):=by
  unfold zQU
  rw [neI]
  by_cases hl:a.length=b.length
  · have e:(a.length !=b.length)=false:=by simp [hl]
    rw [e,zAB,zIR a b _ hl]
    · by_cases h:a=b <;> simp [h]
    · intro n hn hb
      simp only [zQO,zAK hn,zAC,zAG hn,zAG hb,zAA,wrs (show n≤4*1073741824 by omega),zIf _ _ (hs _ (List.getElem_mem hn))]
      by_cases he:a[n]=b[n]
      · simp [he]
      · rw [show (a[n]==b[n])=false by simpa using he,if_neg he]; rfl
    · simp only [zQO,zAI (Nat.le_refl a.length),zAB]
  · have e:(a.length !=b.length)=true:=by simp [hl]
    rw [e,zAC,decide_eq_false (fun h=>hl (by rw [h]))]
def lnE (e:GEntry):Prop:=e.fKeys.length≤1073741824∧(∀ k ∈ e.fKeys,k.length≤1073741824)∧e.fVary.length≤1073741824∧e.fSnapshot.length≤1073741824∧e.fFields.length≤1073741824
theorem entB (a b:GEntry):decide (a=b)=((((((((decide (a.fKeys=b.fKeys))&&(a.fVary==b.fVary))&&(a.fSnapshot==b.fSnapshot))&&decide (a.fFields=b.fFields))&&(a.fReason==b.fReason))&&(a.fBody==b.fBody))&&(a.fRequested==b.fRequested))&&(a.fReceived==b.fReceived)):=by
  obtain ⟨a1,a2,a3,a4,a5,a6,a7,a8⟩:=a
  obtain ⟨b1,b2,b3,b4,b5,b6,b7,b8⟩:=b
  rw [Bool.eq_iff_iff]
  simp only [decide_eq_true_eq,Bool.and_eq_true,beq_iff_eq,GEntry.mk.injEq]
  constructor
  · rintro ⟨rfl,rfl,rfl,rfl,rfl,rfl,rfl,rfl⟩; simp
  · rintro ⟨⟨⟨⟨⟨⟨⟨rfl,rfl⟩,rfl⟩,rfl⟩,rfl⟩,rfl⟩,rfl⟩,rfl⟩; simp
theorem zQv (a b:GEntry) (h:lnE a):zQb a b=some (decide (a=b)):=by
  obtain ⟨h1,h2,h3,h4,h5⟩:=h
  unfold zQb
  rw [zQq _ _ h1 h2,zAA,zIf _ _ h3,zAA,zIf _ _ h4,zAA,zQm _ _ h5,zAA,entB]
  cases decide (a.fKeys=b.fKeys) <;> cases a.fVary==b.fVary <;> cases a.fSnapshot==b.fSnapshot <;> cases a.fReason==b.fReason <;> cases decide (a.fFields=b.fFields) <;> rfl
theorem zQr (e:GEntry) (h:lnE e):zQT e=some e:=by
  obtain ⟨h1,h2,h3,h4,h5⟩:=h
  unfold zQT
  have:=zBc (fun k=>((k:Int),e.fKeys.take k,e.fVary,e.fSnapshot,e.fReason,e.fFields,e.fBody,e.fRequested,e.fReceived)) e.fKeys.length (e.fKeys,e.fVary,e.fSnapshot,e.fReason,e.fFields,e.fBody,e.fRequested,e.fReceived) (zQH e) ?_ ?_
  · have e0:((0:Int),([]:List (List Str)),e.fVary,e.fSnapshot,e.fReason,e.fFields,e.fBody,e.fRequested,e.fReceived)=(((0:Nat):Int),e.fKeys.take 0,e.fVary,e.fSnapshot,e.fReason,e.fFields,e.fBody,e.fRequested,e.fReceived):=by simp
    rw [e0,this,zAA]
    simp only []
    rw [zAj (by simp) (by omega),zAA,zAj (by simp) (by omega),zAA,zAj (by simp) (by omega),zAA]
    rfl
  · intro k hk
    have h6:=h2 _ (List.getElem_mem hk)
    simp only [zQH,zAK hk,zAC,zAG hk,zAA]
    rw [zAj (by simp) (by omega),zAA,List.nil_append,zAj (by rw [List.length_take]; omega) (zA5 _),zAA,wrs (n:=k) (by omega),zAg hk]
  · simp only [zQH,zAI (Nat.le_refl _),zAB,List.take_length]
def badK (k:List Str):Bool:=!keepS k
def keepK (l:List (List Str)):Bool:=!((l.take 11).any badK)&&decide (l.length≤10)
theorem zLL (l:List (List Str)):zHv l=some (keepK l):=by
  unfold zHv keepK
  rw [zFx l 11 badK]
  · have e:decide ((l.length:Int)≤10)=decide (l.length≤10):=zHL l.length 10
    rw [e]
    cases (l.take 11).any badK <;> simp
  · intro n hn hm
    have e1:decide ((n:Int)<11)=true:=zAK hm
    have e2:wr ((n:Int)+1)=(n:Int)+1:=by rw [wrs (n:=n) (by omega)]; omega
    simp only [zFY,zAK hn,e1,Bool.and_self,zAC,zAG hn,zAA,e2,zDy]
    rw [show (!keepS l[n])=badK l[n] from rfl]
    cases badK l[n] <;> rfl
  · intro n hn
    have:(decide ((n:Int)<(l.length:Int))&&decide ((n:Int)<11))=false:=by
      rcases hn with h | h
      · rw [zAI h]; rfl
      · rw [show decide ((n:Int)<11)=false from zAI h]; simp
    simp only [zFY,this,zAB]
def keepE (e:GEntry):Bool:=((((keepK e.fKeys&&keepS e.fVary)&&keepS e.fSnapshot)&&decide (e.fReason.length≤100))&&decide (e.fBody.length≤2000))&&keepF e.fFields
theorem zKf (e:GEntry):zHC e=some (keepE e):=by
  unfold zHC keepE
  rw [zLL,zAA,zDy,zAA,zDy,zAA,zHR,zAA,show ((100:Int))=((100:Nat):Int) from rfl,show ((2000:Int))=((2000:Nat):Int) from rfl,zHL,zHL]
  cases keepK e.fKeys <;> cases keepS e.fVary <;> cases keepS e.fSnapshot <;> cases decide (e.fReason.length≤100) <;> cases decide (e.fBody.length≤2000) <;> rfl
theorem zKL {e:GEntry} (h:keepE e=true):smE e:=by
  simp only [keepE,keepK,Bool.and_eq_true,decide_eq_true_eq,Bool.not_eq_true',List.any_eq_false] at h
  obtain ⟨⟨⟨⟨⟨⟨k1,k2⟩,v⟩,s⟩,r⟩,b⟩,f⟩:=h
  have hS:∀ l,keepS l=true→smS l:=fun l hl=>by
    have:=zMU hl
    exact ⟨by omega,fun x hx=>by have:=this.2 x hx; omega⟩
  refine ⟨⟨k2,fun k hk=>hS k ?_⟩,hS _ v,hS _ s,zKN f,r,b⟩
  have:=k1 k (by rw [List.take_of_length_le (by omega)]; exact hk)
  simpa [badK] using this
end Go.Eng.Pure
namespace Go.Eng.Pure
open Go Go.Eng
set_option linter.unusedVariables false
theorem ixB (c:UInt8) (b:Str):∀ a:Str,(∀ x ∈ a,x≠c)→Lib.indexByte (a++c :: b) c=(a.length:Int)
  | [],_=>by simp [Lib.indexByte]
  | x :: a,h=>by
    have h1:(x==c)=false:=by simpa using h x List.mem_cons_self
    have h2:=ixB c b a (fun y hy=>h y (List.mem_cons_of_mem _ hy))
    rw [List.cons_append,Lib.indexByte,h2,h1,List.length_cons]
    rw [show (((a.length:Int)==-1):Bool)=false by rw [beq_eq_false_iff_ne]; omega]
    simp
end Go.Eng.Pure
namespace Go.Eng.Pure
open Go Go.Eng
set_option linter.unusedVariables false
theorem WS_eq (s m:Str) (h1:s.length≤64*1073741824) (h2:m.length≤64*1073741824):zAN s m=some ((s.length:Int),(),m++s):=by
  unfold zAN zAt
  rw [zAA,zAj h2 h1,zAA]
end Go.Eng.Pure
namespace Go.Eng.Pure
open Go Go.Eng
set_option linter.unusedVariables false
def zAT (c:UInt8):Str→List Str
  | []=>[[]]
  | x :: s=>if x=c then [] :: zAT c s else match zAT c s with | y :: ys=>(x :: y) :: ys | []=>[[x]]
theorem zEV (c:UInt8):∀ s,zAT c s≠[]
  | []=>by simp [zAT]
  | x :: s=>by
    unfold zAT
    split
    · simp
    · split <;> simp
theorem zHZ {c:UInt8}:∀ {s:Str},c ∉ s→zAT c s=[s]
  | [],_=>rfl
  | x :: s,h=>by
    have h1:¬ x=c:=fun e=>h (by rw [e]; exact List.mem_cons_self)
    have h2:c ∉ s:=fun e=>h (List.mem_cons_of_mem _ e)
    unfold zAT
    rw [if_neg h1,zHZ h2]
theorem zIP {c:UInt8} (b:Str):∀ {a:Str},c ∉ a→zAT c (a++c :: b)=a :: zAT c b
  | [],_=>by rw [List.nil_append,zAT,if_pos rfl]
  | x :: a,h=>by
    have h1:¬ x=c:=fun e=>h (by rw [e]; exact List.mem_cons_self)
    have h2:c ∉ a:=fun e=>h (List.mem_cons_of_mem _ e)
    rw [List.cons_append,zAT,if_neg h1,zIP b h2]
theorem zJU {c:UInt8} {s:Str} (h:c ∈ s):∃ a b,s=a++c :: b∧c ∉ a:=by
  induction s with
  | nil=>cases h
  | cons x s ih =>
    by_cases hx:x=c
    · exact ⟨[],s,by rw [hx]; rfl,by simp⟩
    · have : c ∈ s := by
        rcases List.mem_cons.1 h with h | h
        · exact absurd h.symm hx
        · exact h
      obtain ⟨a,b,e,ha⟩:=ih this
      refine ⟨x :: a,b,by rw [e]; rfl,?_⟩
      intro hm
      rcases List.mem_cons.1 hm with hm | hm
      · exact hx hm.symm
      · exact ha hm
theorem zMb (c:UInt8):∀ a:Str,c ∉ a→Lib.indexByte a c=-1
  | [],_=>rfl
  | x :: a,h=>by
    have h1:(x==c)=false:=by
      rw [beq_eq_false_iff_ne]; exact fun e=>h (by rw [e]; exact List.mem_cons_self)
    have h2:=zMb c a (fun e=>h (List.mem_cons_of_mem _ e))
    rw [Lib.indexByte,h2,h1]; rfl
theorem zOQ (s:Str) (c:UInt8):zDj s [c]=some (Lib.indexByte s c):=by
  unfold zDj zA9 zCq; rfl
theorem zE5 (c:UInt8):∀ s:Str,(zAT c s).length=s.count c+1
  | []=>rfl
  | x :: s=>by
    have ih:=zE5 c s
    unfold zAT
    by_cases hx:x=c
    · rw [if_pos hx,List.length_cons,ih,hx,List.count_cons_self]
    · rw [if_neg hx,List.count_cons_of_ne (by exact fun e=>hx e)]
      cases hs:zAT c s with
      | nil=>exact absurd hs (zEV c s)
      | cons y ys=>rw [hs] at ih; simpa using ih
theorem zLY (c : UInt8) (n : Int) (N : Nat) (s0 : Str) (hn : (wr ((if (wr ((s0.length : Int) + 1)) < n then (wr ((s0.length : Int) + 1)) else n) - 1)) = (N : Int)) (hN : N ≤ 1000000) :
    ∀ (j:Nat) (t:Str) (k:Nat) (m:List Str),t.count c=j→t.length≤1073741824→k+j=N→m.length=N+1 →
      zAF (zAs s0 [c] 0 n) (t,(k:Int),m)=some ((zAT c t).getLast (zEV c t),(N:Int),m.take k++(zAT c t).dropLast++m.drop N):=by
  intro j
  induction j with
  | zero =>
    intro t k m hc ht hk hm
    have hnm:c ∉ t:=fun h=>by have:=List.count_pos_iff.2 h; omega
    have hk':k=N:=by omega
    subst hk'
    have hb:zAs s0 [c] 0 n (t,(k:Int),m)=some (.inr (t,(k:Int),m)):=by
      unfold zAs
      simp only []
      rw [hn,zAI (Nat.le_refl _),zAB]
    rw [zAE hb]
    simp only [zHZ hnm]
    simp
  | succ j ih =>
    intro t k m hc ht hk hm
    have hm0:c ∈ t:=List.count_pos_iff.1 (by omega)
    obtain ⟨a,b,e,ha⟩:=zJU hm0
    have hix:Lib.indexByte t c=(a.length:Int):=by rw [e]; exact ixB c b a (fun x hx e=>ha (e ▸ hx))
    have hlt:t.length=a.length+1+b.length:=by rw [e,List.length_append,List.length_cons]; omega
    have hcb:b.count c=j:=by
      rw [e,List.count_append,List.count_cons_self,List.count_eq_zero.2 ha] at hc; omega
    have hkm:k<m.length:=by omega
    have hput:xput m (k:Int) a=some (m.set k a):=by unfold xput; rw [if_pos ⟨by omega,by omega⟩,Int.toNat_natCast]
    have hsub:xsub t (((a.length+1:Nat):Int)) (t.length:Int)=some b:=by
      rw [zCl (by omega),e,List.drop_append]; simp
    have hto:xsub t 0 (a.length:Int)=some a:=by
      rw [zD8 (by omega),e,List.take_left']; rfl
    have hb:zAs s0 [c] 0 n (t,(k:Int),m)=some (.inl (b,((k+1:Nat):Int),m.set k a)):=by
      unfold zAs
      simp only []
      rw [hn,zAK (show k<N by omega),zAC,zOQ,zAA,hix,show decide ((a.length:Int)<0)=false from decide_eq_false (by omega),zAB,
        show wr ((a.length:Int)+0)=(a.length:Int) by rw [Int.add_zero,wrn (by omega)],hto,zAA,zAG hkm,zAA,hput,zAA,
        show ((([c]:Str).length:Nat):Int)=1 from rfl,wrs (by omega),hsub,zAA,wrs (by omega)]
    rw [zAJ hb,ih b (k+1) (m.set k a) hcb (by omega) (by omega) (by rw [List.length_set,hm])]
    have hsp:zAT c t=a :: zAT c b:=by rw [e]; exact zIP b ha
    have hl:(zAT c t).getLast (zEV c t)=(zAT c b).getLast (zEV c b):=by
      simp only [hsp,List.getLast_cons (zEV c b)]
    have hd:(zAT c t).dropLast=a :: (zAT c b).dropLast:=by
      rw [hsp,List.dropLast_cons_of_ne_nil (zEV c b)]
    rw [hl,hd]
    congr 3
    have e1:(m.set k a).take (k+1)=m.take k++[a]:=by
      rw [zAg (by rw [List.length_set]; exact hkm),List.take_set_of_le (Nat.le_refl k),List.getElem_set_self]
    have e2:(m.set k a).drop N=m.drop N:=List.drop_set_of_lt (by omega)
    rw [e1,e2,List.append_assoc,List.append_assoc,List.append_assoc]
    rfl
theorem zOq {α:Type} (l:List α) (x y:α):(l++[x]).set l.length y=l++[y]:=by induction l <;> simp [*]
theorem zN8 (s:Str) (c:UInt8) (hs:s.length≤1000000):zE1 s [c]=some (zAT c s):=by
  have hcl:s.count c≤s.length:=List.count_le_length
  have hcnt:zCr s [c]=some ((s.count c:Nat):Int):=by
    unfold zCr
    rw [show ((([c]:Str).length:Int)==0)=false from rfl,zAB,show ((([c]:Str).length:Int)==1)=true from rfl,zAC,show xnth [c] 0=some c from rfl,zAA]
  unfold zE1 zEb
  rw [show ((-1:Int)==0)=false from rfl,zAB,show ((([c]:Str)==[]):Bool)=false from rfl,zAB,show decide ((-1:Int)<0)=true from rfl,zAC,hcnt,zAA,zAA,wrs (n:=s.count c) (by omega)]
  have hmin:(if wr ((s.length:Int)+1)<((s.count c+1:Nat):Int) then wr ((s.length:Int)+1) else ((s.count c+1:Nat):Int))=((s.count c+1:Nat):Int):=by
    rw [wrs (by omega),if_neg (by omega)]
  have hmk:xmake ((s.count c+1:Nat):Int) ([]:Str)=some (List.replicate (s.count c+1) []):=by
    unfold xmake; rw [if_pos ⟨by omega,by omega⟩,Int.toNat_natCast]
  rw [hmin,hmk,zAA]
  have hN:wr ((if wr ((s.length:Int)+1)<((s.count c+1:Nat):Int) then wr ((s.length:Int)+1) else ((s.count c+1:Nat):Int)) - 1)=((s.count c:Nat):Int):=by
    rw [hmin,show ((s.count c+1:Nat):Int) - 1=((s.count c:Nat):Int) by omega,wrn (by omega)]
  have hl:=zLY c _ _ s hN (by omega) _ s 0 (List.replicate (s.count c+1) []) rfl (by omega) (by omega) (by rw [List.length_replicate])
  rw [show ((0:Nat):Int)=0 from rfl] at hl
  rw [hl,zAA]
  simp only []
  have hlen:=zE5 c s
  have hdl:(zAT c s).dropLast.length=s.count c:=by rw [List.length_dropLast,hlen]; omega
  have hm:((List.replicate (s.count c+1) ([]:Str)).take 0++(zAT c s).dropLast++(List.replicate (s.count c+1) []).drop (s.count c))=(zAT c s).dropLast++[[]]:=by
    rw [List.take_zero,List.nil_append,List.drop_replicate,show s.count c+1 - s.count c=1 by omega]; rfl
  rw [hm]
  have hx:xnth ((zAT c s).dropLast++[[]]) ((s.count c:Nat):Int)=some []:=by rw [← hdl]; exact zLI _ _
  have hp:xput ((zAT c s).dropLast++[[]]) ((s.count c:Nat):Int) ((zAT c s).getLast (zEV c s))=some (zAT c s):=by
    unfold xput
    rw [if_pos ⟨by omega,by rw [List.length_append,hdl,List.length_singleton]; omega⟩,Int.toNat_natCast,← hdl,zOq,List.dropLast_concat_getLast]
  rw [hx,zAA,hp,zAA,wrs (n:=s.count c) (by omega),zD8 (by omega),zAA,zAA,List.take_of_length_le (by omega)]
theorem zGs (c:UInt8):∀ (s:Str),∀ x ∈ zAT c s,x.length≤s.length
  | [],x,h=>by simp [zAT] at h; subst h; simp
  | y :: s,x,h=>by
    have ih:=zGs c s
    unfold zAT at h
    split at h
    · rcases List.mem_cons.1 h with rfl | h
      · simp
      · have:=ih x h; simp; omega
    · split at h
      · rename_i z zs hz
        rcases List.mem_cons.1 h with rfl | h
        · have:=ih z (by rw [hz]; exact List.mem_cons_self); simp; omega
        · have:=ih x (by rw [hz]; exact List.mem_cons_of_mem _ h); simp; omega
      · simp at h; subst h; simp
def alB (c:UInt8):Bool:=((decide (97≤c))&&(decide (c≤122)))||((decide (65≤c))&&(decide (c≤90)))
def subOK (s:Str) (d:Bool):Bool:=(s.all fun c=>alB c||(d&&isD c))&&((s !=[])&&decide (s.length≤8))
theorem zP4 (c:UInt8) (d:Bool):(((decide (lowB c<97))||(decide (122<lowB c)))&&(((!d)||(decide (lowB c<48)))||(decide (57<lowB c))))=!(alB c||(d&&isD c)):=by
  have h1:=zLP (fun c=>(((decide (lowB c<97))||(decide (122<lowB c)))&&(((!true)||(decide (lowB c<48)))||(decide (57<lowB c))))==!(alB c||(true&&isD c))) (by decide +kernel) c
  have h2:=zLP (fun c=>(((decide (lowB c<97))||(decide (122<lowB c)))&&(((!false)||(decide (lowB c<48)))||(decide (57<lowB c))))==!(alB c||(false&&isD c))) (by decide +kernel) c
  cases d
  · exact beq_iff_eq.1 h2
  · exact beq_iff_eq.1 h1
theorem le8 (n:Nat):decide ((n:Int)≤8)=decide (n≤8):=zHL n 8
theorem zNp (s:Str) (d:Bool) (hs:s.length≤1000000):zDn s d=some (subOK s d):=by
  unfold zDn
  have hll:(lower s).length≤1000000:=by rw [zCM]; exact hs
  rw [zBt _ (by omega),zAA,zF3 (lower s) (by omega) (fun c=>(((decide (c<97))||(decide (122<c)))&&(((!d)||(decide (c<48)))||(decide (57<c))))) (zBo d (lower s)) false,zAA]
  · have e : (lower s).any (fun c => (((decide (c < 97)) || (decide (122 < c))) && (((!d) || (decide (c < 48))) || (decide (57 < c))))) = !(s.all fun c => alB c || (d && isD c)) := by
      unfold lower
      rw [List.any_map,← zIE]
      congr 1; funext c
      exact zP4 c d
    rw [e,le8]
    unfold subOK
    cases s.all fun c=>alB c||(d&&isD c) <;> rfl
  · intro n hn
    unfold zBo
    rw [zAK hn,zAC,zAG hn,zAA,zAA]
    cases (((decide ((lower s)[n]<97))||(decide (122<(lower s)[n])))&&(((!d)||(decide ((lower s)[n]<48)))||(decide (57<(lower s)[n])))) <;> rfl
  · unfold zBo
    rw [zAI (Nat.le_refl _),zAB]
def zJx:Nat→List Str→Bool
  | _,[]=>true
  | n,x :: l=>subOK x (decide (0<n))&&zJx (n+1) l
def langS (s:Str):Bool:=zJx 0 (zAT 45 s)
theorem zJS (l : List Str) (hl : l.length ≤ 1000001) (body : Int → Option (Int ⊕ (Unit ⊕ Bool)))
    (h:∀ (n:Nat) (hn:n<l.length),body (n:Int)=some (if subOK l[n] (decide (0<n)) then .inl ((n+1:Nat):Int) else .inr (.inr false))) (h':body (l.length:Int)=some (.inr (.inl ()))) :
    ∀ (k n:Nat),n+k=l.length→zAF body (n:Int)=some (if zJx n (l.drop n) then .inl () else .inr false):=by
  intro k
  induction k with
  | zero =>
    intro n hn
    have:n=l.length:=by omega
    subst this
    rw [zAE h',List.drop_length]; rfl
  | succ k ih =>
    intro n hn
    have hlt:n<l.length:=by omega
    have hb:=h n hlt
    rw [List.drop_eq_getElem_cons hlt]
    unfold zJx
    cases hs:subOK l[n] (decide (0<n)) with
    | true=>rw [hs] at hb; rw [zAJ hb,ih (n+1) (by omega),Bool.true_and]
    | false=>rw [hs] at hb; rw [zAE hb]; rfl
theorem pos0 (n:Nat):decide ((0:Int)<(n:Int))=decide (0<n):=zHs 0 n
theorem zNv (s:Str) (hs:s.length≤1000000):zDd s=some (langS s):=by
  have hl:=zE5 45 s
  have hc:s.count 45≤s.length:=List.count_le_length
  unfold zDd
  rw [zN8 s 45 hs,zAA]
  have:=zJS (zAT 45 s) (by omega) (zCo (zAT 45 s)) ?_ ?_ (zAT 45 s).length 0 (by omega)
  · rw [show ((0:Nat):Int)=0 from rfl,List.drop_zero] at this
    rw [this,zAA]
    unfold langS
    cases zJx 0 (zAT 45 s) <;> rfl
  · intro n hn
    have hsm:=zGs 45 s _ (List.getElem_mem hn)
    unfold zCo
    rw [zAK hn,zAC,zAG hn,zAA,pos0,zNp _ _ (by omega),zAA,wrs (by omega)]
    cases subOK (zAT 45 s)[n] (decide (0<n)) <;> rfl
  · unfold zCo
    rw [zAI (Nat.le_refl _),zAB]
end Go.Eng.Pure
namespace Go.Eng.Pure
open Go Go.Eng
set_option linter.unusedVariables false
theorem zOD {σ σ' ρ:Type} {body:σ→Option (σ ⊕ ρ)} {body':σ'→Option (σ' ⊕ ρ)} (φ:σ→σ') (h:∀ s,body' (φ s)=(body s).map (Sum.map φ id)) {s:σ} {r:ρ} (hw:zAF body s=some r):zAF body' (φ s)=some r:=by
  obtain ⟨n,hn⟩:=zF9 hw
  refine zGu (n:=n) ?_
  clear hw
  induction n generalizing s with
  | zero=>simp [loopN] at hn
  | succ n ih =>
    unfold loopN at hn ⊢
    rw [h s]
    cases hb:body s with
    | none=>rw [hb] at hn; cases hn
    | some x =>
      cases x with
      | inl s'=>rw [hb] at hn; exact ih hn
      | inr r'=>rw [hb] at hn; exact hn
theorem zNM (s:Str) (x:List Str×Int×Bool×Int):zDg s (x.1,x.2.2.1,x.2.1,x.2.2.2)=(zAW s 59 x).map (Sum.map (fun x=>(x.1,x.2.2.1,x.2.1,x.2.2.2)) id):=by
  obtain ⟨o,f,q,i⟩:=x
  unfold zDg zAW
  simp only []
  cases decide (i<(s.length:Int)) with
  | false=>rfl
  | true =>
    simp only [zAC]
    cases hx:xnth s i with
    | none=>cases q <;> rfl
    | some c =>
      have key : ∀ b : Bool, (bif b then some (Sum.inl (o, q, f, wr (wr (i + 1) + 1))) else
          (some c).bind fun c32=>bif c32==34 then some (.inl (o,!q,f,wr (i+1))) else (some c).bind fun c34 =>
            bif c34==59&&!q then (xsub s f i).bind fun s38=>(xapp o [s38]).bind fun l44=>some (.inl (l44,q,wr (i+1),wr (i+1))) else some (.inl (o,q,f,wr (i+1)))) =
        (bif b then some (Sum.inl (o,f,q,wr (wr (i+1)+1))) else
          (some c).bind fun c33=>bif c33==34 then some (.inl (o,f,!q,wr (i+1))) else (some c).bind fun c35 =>
            bif c35==59&&!q then (xsub s f i).bind fun s39=>(xapp o [s39]).bind fun l45=>some (.inl (l45,wr (i+1),q,wr (i+1))) else some (.inl (o,f,q,wr (i+1))):Option ((List Str×Int×Bool×Int) ⊕ (List Str×Int))).map (Sum.map (fun x=>(x.1,x.2.2.1,x.2.1,x.2.2.2)) id):=by
        intro b
        cases b with
        | true=>rfl
        | false =>
          simp only [zAB,zAA]
          cases c==34 with
          | true=>rfl
          | false =>
            cases c==59 <;> cases q <;> simp only [zAB,zAC,Bool.not_true,Bool.not_false,Bool.and_true,Bool.and_false] <;> try rfl
            cases xsub s f i with
            | none=>rfl
            | some y =>
              simp only [zAA]
              cases xapp o [y] <;> rfl
      cases q
      · exact key false
      · exact key (c==92)
theorem zPw (s:Str) (hs:s.length≤1073741824):zH6 s=some (cutS 59 s):=by
  have h:=zNr s 59 (by decide) hs
  obtain ⟨o,g,h1,h2,h3,h4⟩:=zMP s 59 (by decide) hs s.length 0 0 false [] (by omega) (by omega) (by omega) (by omega) (by simp)
  have h5:=zOD (body':=zDg s) _ (zNM s) h1
  have h5:zAF (zDg s) ([],false,0,0)=some (o,(g:Int)):=h5
  have h1:zAF (zAW s 59) ([],0,false,0)=some (o,(g:Int)):=h1
  unfold zFr at h
  rw [h1,zAA] at h
  unfold zH6
  rw [h5,zAA]
  exact h
theorem zQA (s:Str) (c:UInt8):Lib.indexByte s c=if c ∈ s then (s.idxOf c:Int) else -1:=by
  by_cases h:c ∈ s
  · obtain ⟨a,b,e,ha⟩:=zJU h
    rw [if_pos h,e,ixB c b a (fun x hx e=>ha (e ▸ hx)),List.idxOf_append,if_neg ha]; simp
  · rw [if_neg h,zMb c s h]
theorem zN1 {s:Str} {c:UInt8} (h:c ∈ s):s.idxOf c<s.length:=List.idxOf_lt_length_of_mem h
theorem zMQ (s:Str) (c:UInt8) (hs:s.length≤1073741824):zFI s [c]=some (if c ∈ s then (s.take (s.idxOf c),s.drop (s.idxOf c+1),true) else (s,[],false)):=by
  unfold zFI zFF zA9 zCq
  simp only []
  rw [zQA,zAA]
  by_cases h:c ∈ s
  · have hl:=zN1 h
    rw [if_pos h,if_pos h,show decide ((0:Int)≤(s.idxOf c:Int))=true from decide_eq_true (by omega),zAC,zD8 (by omega),zAA,
      show ((([c]:Str).length:Nat):Int)=1 from rfl,wrs (by omega),zCl (by omega),zAA,zAA]
  · rw [if_neg h,if_neg h]; rfl
def oneS (m:Str):Str×Str×Bool :=
  if 61 ∈ m∧tok (m.take (m.idxOf 61))=true then
    (if tok (m.drop (m.idxOf 61+1)) then (lower (m.take (m.idxOf 61)),m.drop (m.idxOf 61+1),true)
     else (lower (m.take (m.idxOf 61)),(unq (m.drop (m.idxOf 61+1))).1,(unq (m.drop (m.idxOf 61+1))).2))
  else ([],[],false)
theorem zP1 (m:Str) (hm:m.length≤1073741824):zHp m=some (oneS m):=by
  unfold zHp oneS
  rw [zMQ m 61 hm,zAA]
  by_cases h:(61:UInt8) ∈ m
  · have h1:(m.take (m.idxOf 61)).length≤1073741824:=by rw [List.length_take]; omega
    have h2:(m.drop (m.idxOf 61+1)).length≤1073741824:=by rw [List.length_drop]; omega
    rw [if_pos h]
    simp only [Bool.not_true,zAB]
    rw [zDS _ h1,zAA,zAA]
    cases ht:tok (m.take (m.idxOf 61)) with
    | false=>rw [if_neg (by simp)]; rfl
    | true =>
      rw [if_pos ⟨h,rfl⟩,Bool.not_true,zAB,zDS _ h2,zAA]
      cases hv:tok (m.drop (m.idxOf 61+1)) with
      | true =>
        rw [Bool.not_true,zAB,zAA]
        simp only []
        rw [zBt _ h1,zAA]; rfl
      | false =>
        rw [Bool.not_false,zAC,zMn _ h2,zAA,zAA]
        simp only []
        rw [zBt _ h1,zAA]; rfl
  · rw [if_neg h,if_neg (fun h2=>h h2.1)]
    rfl
def parL:List Str→List GParam→Option (List GParam)
  | [],acc=>some acc
  | m :: l,acc=>if trim m=[] then parL l acc else if (oneS (trim m)).2.2 then parL l (acc++[⟨(oneS (trim m)).1,(oneS (trim m)).2.1⟩]) else none
def parC (x:Str) (l:List Str):Str×List GParam×Bool :=
  if trim x=[] then ([],[],false) else match parL l [] with | some ps=>(trim x,ps,true) | none=>([],[],false)
def parS (s:Str):Str×List GParam×Bool :=
  match cutS 59 s with
  | []=>([],[],false)
  | x :: l=>parC x l
def parF (acc:List GParam) (m:Str):List GParam ⊕ (List GParam ⊕ (Str×List GParam×Bool)) :=
  if trim m=[] then .inl acc else if (oneS (trim m)).2.2 then .inl (acc++[⟨(oneS (trim m)).1,(oneS (trim m)).2.1⟩]) else .inr (.inr ([],[],false))
theorem zJ9:∀ (l:List Str) (acc:List GParam),run parF .inl l acc=match parL l acc with | some ps=>.inl ps | none=>.inr ([],[],false)
  | [],acc=>rfl
  | m :: l,acc=>by
    unfold run parF parL
    by_cases h:trim m=[]
    · rw [if_pos h,if_pos h]; exact zJ9 l acc
    · rw [if_neg h,if_neg h]
      cases h2:(oneS (trim m)).2.2 with
      | true=>rw [if_pos rfl,if_pos rfl]; exact zJ9 l _
      | false=>rw [if_neg (by decide),if_neg (by decide)]
theorem zNd (a:UInt8) (s:Str):cutS a s≠[]:=by
  have:∀ (s:Str) st cur,segs a st cur s≠[]:=by
    intro s
    induction s with
    | nil=>intro st cur; simp [segs]
    | cons c r ih => intro st cur; unfold segs; split; · simp
                     · exact ih _ _
  exact this s 0 []
theorem zKg (s:Str) (hs:s.length≤1000000):zFL s=some (parS s):=by
  obtain ⟨c1,c2⟩:=zIT 59 s
  unfold zFL parS
  rw [zPw s (by omega),zAA]
  cases hc:cutS 59 s with
  | nil=>exact absurd hc (zNd 59 s)
  | cons x l =>
    rw [hc] at c1 c2
    have hx:=c1 x List.mem_cons_self
    have hl:l.length≤1000000:=by rw [List.length_cons] at c2; omega
    show _=some (parC x l)
    rw [zBZ,zAA,zJK _ (by omega),zAA]
    unfold parC
    by_cases ht:trim x=[]
    · rw [ht,if_pos rfl]; rfl
    · rw [show (trim x==[])=false by simpa using ht,zAB,if_neg ht]
      have hsub:xsub (x :: l) 1 ((x :: l).length:Int)=some l:=by
        have:=zCl (l:=x :: l) (i:=1) (by simp)
        simpa using this
      rw [hsub,zAA]
      have:=zG9 (fun (acc:List GParam) i=>(acc,i)) l parF .inl (zDN l) (fun n acc=>acc.length≤n) [] (Nat.le_refl 0) ?_ ?_
      · rw [this,zAA,zJ9]
        cases parL l [] <;> rfl
      · intro n hn acc hI
        have hm:=c1 l[n] (List.mem_cons_of_mem _ (List.getElem_mem hn))
        have htl:=zHm l[n]
        refine ⟨?_,?_⟩
        · unfold zDN parF
          simp only []
          rw [zAK hn,zAC,zAG hn,zAA,zJK _ (by omega),zAA]
          by_cases h1:trim l[n]=[]
          · rw [h1,if_pos rfl,wrs (by omega)]; rfl
          · rw [show (trim l[n]==[])=false by simpa using h1,zAB,if_neg h1,zP1 _ (by omega),zAA]
            cases h2:(oneS (trim l[n])).2.2 with
            | true =>
              rw [Bool.not_true,zAB,if_pos rfl,zAj (by omega) (zA5 _),zAA,wrs (by omega)]
            | false=>rw [Bool.not_false,zAC,if_neg (by decide)]
        · intro st' h
          unfold parF at h
          split at h
          · injection h with h; subst h; omega
          · split at h
            · injection h with h; subst h; rw [List.length_append,List.length_singleton]; omega
            · cases h
      · intro acc hI
        unfold zDN
        simp only []
        rw [zAI (Nat.le_refl _),zAB]
end Go.Eng.Pure
namespace Go.Eng.Pure
open Go Go.Eng
set_option linter.unusedVariables false
theorem zG6 (s:Str):(parS s).1.length≤s.length∧(parS s).2.1.length≤s.length+1:=by
  obtain ⟨c1,c2⟩:=zIT 59 s
  have hp:∀ (l:List Str) (acc ps:List GParam),parL l acc=some ps→ps.length≤acc.length+l.length:=by
    intro l
    induction l with
    | nil=>intro acc ps h; unfold parL at h; injection h with h; subst h; simp
    | cons m l ih =>
      intro acc ps h
      unfold parL at h
      split at h
      · have:=ih _ _ h; simp; omega
      · split at h
        · have:=ih _ _ h; simp at this ⊢; omega
        · cases h
  unfold parS
  cases hc:cutS 59 s with
  | nil=>simp
  | cons x l =>
    rw [hc] at c1 c2
    have hx:=c1 x List.mem_cons_self
    have ht:=zHm x
    show (parC x l).1.length≤_∧(parC x l).2.1.length≤_
    unfold parC
    split
    · simp
    · split
      · rename_i ps h
        have:=hp l [] ps h
        simp at this c2 ⊢
        omega
      · simp
def noT:GMediaType:=⟨[],[],[]⟩
def zBy (s:Str):GMediaType×Bool :=
  if (parS s).2.2 = true ∧ (47 : UInt8) ∈ (parS s).1 ∧ tok ((parS s).1.take ((parS s).1.idxOf 47)) = true ∧ tok ((parS s).1.drop ((parS s).1.idxOf 47 + 1)) = true ∧
      ¬ ((parS s).1.take ((parS s).1.idxOf 47)=[42]∧(parS s).1.drop ((parS s).1.idxOf 47+1)≠[42]) then
    (⟨lower ((parS s).1.take ((parS s).1.idxOf 47)),lower ((parS s).1.drop ((parS s).1.idxOf 47+1)),(parS s).2.1⟩,true)
  else (noT,false)
theorem zI8 (s:Str) (hs:s.length≤1000000):zA3 s=some (zBy s):=by
  obtain ⟨l1,_⟩:=zG6 s
  unfold zA3 zBy
  rw [zKg s hs,zAA]
  generalize parS s=q at *
  obtain ⟨m,ps,ok⟩:=q
  simp only [] at l1 ⊢
  cases ok with
  | false=>rw [if_neg (by simp)]; rfl
  | true =>
    rw [Bool.not_true,zAB,zMQ m 47 (by omega),zAA]
    by_cases h:(47:UInt8) ∈ m
    · have h1:(m.take (m.idxOf 47)).length≤1073741824:=by rw [List.length_take]; omega
      have h2:(m.drop (m.idxOf 47+1)).length≤1073741824:=by rw [List.length_drop]; omega
      rw [if_pos h]
      simp only []
      generalize m.take (m.idxOf 47)=a at *
      generalize m.drop (m.idxOf 47+1)=b at *
      rw [zDS a h1,zAA,zDS b h2]
      cases ta:tok a with
      | false=>rw [if_neg (by simp)]; rfl
      | true =>
        cases tb:tok b with
        | false=>rw [if_neg (by simp)]; rfl
        | true =>
          rw [Bool.not_true,zAB,zAA,zAA,Bool.not_true,Bool.false_or]
          by_cases hab:a=[42]∧b≠[42]
          · rw [show ((a==[42])&&(b !=[42]))=true by rw [hab.1]; simpa using hab.2,zAC,if_neg (fun hh=>hh.2.2.2.2 hab)]; rfl
          · rw [show ((a == [42]) && (b != [42])) = false by
              rw [Bool.eq_false_iff]; intro hh; rw [Bool.and_eq_true,beq_iff_eq,bne_iff_ne] at hh; exact hab hh,zAB,zBt _ h1,zAA,zBt _ h2,zAA,if_pos (show _ from ⟨by trivial,h,by trivial,by trivial,hab⟩)]
    · rw [if_neg h,if_neg (fun hh=>h hh.2.1)]
      simp only []
      rw [zDS m (by omega),zAA]
      have:zA1 []=some false:=by rw [zDS _ (by decide)]; rfl
      rw [this]
      cases tok m <;> rfl
def typeS (s:Str):GMediaType×Bool:=if ((!(zBy s).2||(zBy s).1.fType==[42])||(zBy s).1.fSub==[42])=true then (noT,false) else ((zBy s).1,true)
theorem zMS (s:Str) (hs:s.length≤1000000):zCa s=some (typeS s):=by
  unfold zCa typeS
  rw [zI8 s hs,zAA]
  cases ((!(zBy s).2||(zBy s).1.fType==[42])||(zBy s).1.fSub==[42]) <;> rfl
theorem zLG (s:Str):(typeS s).1.fParams.length≤s.length+1:=by
  have h:=(zG6 s).2
  unfold typeS
  split
  · simp [noT]
  · unfold zBy
    split
    · exact h
    · simp [noT]
def canS (k:Int) (s:Str):Str :=
  if k=4∧lower s=[120,45,103,122,105,112] then [103,122,105,112] else if k=4∧lower s=[120,45,99,111,109,112,114,101,115,115] then [99,111,109,112,114,101,115,115] else lower s
theorem zKz (k:Int) (s:Str) (hs:s.length≤1073741824):zA4 k s=some (canS k s):=by
  unfold zA4 canS
  rw [zBt _ hs,zAA]
  by_cases hk:k=4
  · subst hk
    rw [show ((4:Int) !=4)=false from rfl,zAB]
    generalize lower s=l
    by_cases h1:l=[103,122,105,112]
    · subst h1; rfl
    by_cases h2:l=[120,45,103,122,105,112]
    · subst h2; rfl
    by_cases h3:l=[99,111,109,112,114,101,115,115]
    · subst h3; rfl
    by_cases h4:l=[120,45,99,111,109,112,114,101,115,115]
    · subst h4; rfl
    have e1:(l==[103,122,105,112])=false:=by simpa using h1
    have e2:(l==[120,45,103,122,105,112])=false:=by simpa using h2
    have e3:(l==[99,111,109,112,114,101,115,115])=false:=by simpa using h3
    have e4:(l==[120,45,99,111,109,112,114,101,115,115])=false:=by simpa using h4
    rw [e1,e2,e3,e4,if_neg (fun h=>h2 h.2),if_neg (fun h=>h4 h.2)]
    rfl
  · rw [show (k !=4)=true by simpa using hk,zAC,if_neg (fun h=>hk h.1),if_neg (fun h=>hk h.1)]
theorem zGg (k:Int) (s:Str) (hs:s.length≤1073741824):zAx k s=some (canS k s):=by
  unfold zAx canS
  rw [zDz _ hs,zAA]
  by_cases h1:k=4∧lower s=[120,45,103,122,105,112]
  · rw [if_pos h1,h1.1,h1.2]; rfl
  · rw [if_neg h1, show ((k == 4) && (lower s == [120, 45, 103, 122, 105, 112])) = false by
      rw [Bool.eq_false_iff]; intro h; rw [Bool.and_eq_true,beq_iff_eq,beq_iff_eq] at h; exact h1 h,zAB]
    by_cases h2:k=4∧lower s=[120,45,99,111,109,112,114,101,115,115]
    · rw [if_pos h2,h2.1,h2.2]; rfl
    · rw [if_neg h2, show ((k == 4) && (lower s == [120, 45, 99, 111, 109, 112, 114, 101, 115, 115])) = false by
        rw [Bool.eq_false_iff]; intro h; rw [Bool.and_eq_true,beq_iff_eq,beq_iff_eq] at h; exact h2 h,zAB]
end Go.Eng.Pure
