/- A part. -/
import Derived.Test.YtffangblkofjdaaGreatDoorCacheP
import Derived.Sort.Walk0
import Derived.Lib.ItoaNum
set_option linter.unusedVariables false
namespace Go.Eng.Pure
open Go Go.Eng
set_option linter.unusedVariables false
def join (l:List Str):Str:=Lib.join l [44,32]
theorem zOE (x:Str) (r:List Str):join (x :: r)=x++(r.map ([44,32]++·)).flatten:=Lib.join_cons x r [44,32]
theorem zNe (l:List Str) (B:Nat) (h:∀ s ∈ l,s.length≤B):(join l).length≤(B+2)*l.length:=by
  have:∀ r:List Str,(∀ s ∈ r,s.length≤B)→((r.map ([44,32]++·)).flatten).length≤(B+2)*r.length:=by
    intro r
    induction r with
    | nil=>intro _; simp
    | cons y r ih =>
      intro hr
      have h1:=ih fun s hs=>hr s (List.mem_cons_of_mem _ hs)
      have h2:=hr y List.mem_cons_self
      rw [List.map_cons,List.flatten_cons,List.length_append,List.length_cons,Nat.mul_succ]
      have:(([44,32]:Str)++y).length=y.length+2:=by simp
      omega
  cases l with
  | nil=>simp [join,Lib.join_nil]
  | cons x r =>
    have h1:=this r fun s hs=>h s (List.mem_cons_of_mem _ hs)
    have h2:=h x List.mem_cons_self
    rw [zOE,List.length_append,List.length_cons,Nat.mul_succ]
    omega
theorem zO8 (l:List Str) (h1:l.length≤1073741824) (h2:(join l).length≤1073741824):zE5 l=some (join l):=by
  unfold zE5 strings_Join jo
  rw [if_pos ⟨by show (join l).length≤big; simp only [big]; omega,by simp only [big]; omega⟩]; rfl
end Go.Eng.Pure
namespace Go.Eng.Pure
open Go Go.Eng
set_option linter.unusedVariables false
theorem zQy (l:List Str) (h1:l.length≤1073741824) (h2:(join l).length≤1073741824):strings_Join l [44,32]=some (join l):=by
  unfold strings_Join jo
  rw [if_pos ⟨by show (join l).length≤big; simp only [big]; omega,by simp only [big]; omega⟩]; rfl
def kindF (n:Str):Int :=
  if fold n [65,99,99,101,112,116] then 1 else if fold n [65,99,99,101,112,116,45,76,97,110,103,117,97,103,101] then 2
  else if fold n [65,99,99,101,112,116,45,67,104,97,114,115,101,116] then 3 else if fold n [65,99,99,101,112,116,45,69,110,99,111,100,105,110,103] then 4 else 0
theorem zMm (n:Str) (hn:n.length≤1073741824):zCn n=some (kindF n):=by
  unfold zCn kindF
  simp only [show zBC 1=some [65,99,99,101,112,116] from rfl,show zBC 2=some [65,99,99,101,112,116,45,76,97,110,103,117,97,103,101] from rfl,
    show zBC 3=some [65,99,99,101,112,116,45,67,104,97,114,115,101,116] from rfl,show zBC 4=some [65,99,99,101,112,116,45,69,110,99,111,100,105,110,103] from rfl,zAA]
  rw [zH8 _ _ hn (by decide),zH8 _ _ hn (by decide),zH8 _ _ hn (by decide),zH8 _ _ hn (by decide)]
  simp only [zAA]
  generalize fold n [65,99,99,101,112,116]=a
  generalize fold n [65,99,99,101,112,116,45,76,97,110,103,117,97,103,101]=b
  generalize fold n [65,99,99,101,112,116,45,67,104,97,114,115,101,116]=c
  generalize fold n [65,99,99,101,112,116,45,69,110,99,111,100,105,110,103]=d
  cases a <;> cases b <;> cases c <;> cases d <;> rfl
def varyV (l:List GField) (n:Str):Str :=
  if (getF l n).length=0 then [] else if (kindF n !=0)&&decide ((allM l n).length<64) then 61 :: lower (join (allM l n)) else 61 :: join (getF l n)
def smL (l:List GField):Prop:=l.length≤70∧∀ f ∈ l,f.fName.length≤300∧f.fValue.length≤300
theorem smL_F {l:List GField} (h:smL l):l.length≤1073741824∧∀ f ∈ l,smF f:=⟨by have:=h.1; omega,fun f hf=>by have:=h.2 f hf; exact ⟨by omega,by omega⟩⟩
theorem zQ1 {l:List GField} (h:smL l) (n:Str):(getF l n).length≤70∧(join (getF l n)).length≤30000:=by
  have h1:=zNd l n
  have h2:=zNe (getF l n) 300 (zKy l n 300 fun f hf=>(h.2 f hf).2)
  have h3:=h.1
  exact ⟨by omega,by omega⟩
theorem zND {l:List GField} (h:smL l) (n:Str):(allM l n).length≤64∧(join (allM l n)).length≤30000:=by
  have h1:=zKu l n
  have h2:=zNe (allM l n) 300 (zKa l n 300 fun f hf=>(h.2 f hf).2)
  exact ⟨h1,by omega⟩
theorem eq61 {s:Str} (h:s.length≤30000):xcat [61] s=some (61 :: s):=by
  rw [zEU (zCY _) (by omega)]; rfl
theorem zQ3 (n:Str) (l:List GField) (hl:smL l) (hn:n.length≤1073741824):zGU n l=some (varyV l n):=by
  obtain ⟨h1,h2⟩:=smL_F hl
  obtain ⟨g1,g2⟩:=zQ1 hl n
  obtain ⟨a1,a2⟩:=zND hl n
  unfold zGU varyV
  rw [zRI l n h1 h2 hn,zP7 l n h1 h2 hn,zMm n hn,zRN l n h1 h2 hn]
  simp only [zAA]
  rw [zO8 _ (by omega) (by omega),zQy _ (by omega) (by omega)]
  simp only [zAA]
  rw [zBZ _ (by omega)]
  simp only [zAA]
  rw [eq61 g2,eq61 (by rw [zDI]; exact a2)]
  simp only [zAA]
  rw [show decide (((allM l n).length:Int)<64)=decide ((allM l n).length<64) from zJj _ 64]
  unfold hasF
  by_cases hz:(getF l n).length=0
  · rw [if_pos hz,decide_eq_false (by omega)]; rfl
  · rw [if_neg hz,decide_eq_true (by omega)]
    cases (kindF n !=0)&&decide ((allM l n).length<64) <;> rfl
def snapF (l:List GField) (ns:List Str):List Str:=ns.map (varyV l)
theorem zMM (ns:List Str) (l:List GField) (hl:smL l) (hs:ns.length≤1000) (hn:∀ n ∈ ns,n.length≤1073741824):zEB ns l=some (snapF l ns):=by
  have:=zDc (fun n=>((ns.take n).map (varyV l),(n:Int))) ns.length (ns.map (varyV l)) (zCj ns l) ?_ ?_
  · unfold zEB
    have e:(([]:List Str),(0:Int))=((ns.take 0).map (varyV l),((0:Nat):Int)):=by simp
    rw [e,this]; rfl
  · intro n hn'
    simp only [zCj,zAN hn',zAC,zAK hn',zAA,zQ3 _ l hl (hn _ (List.getElem_mem hn')),wrs (show n≤4*1073741824 by omega)]
    rw [zBh (by simp; omega) (zCY _),zAl hn',List.map_append]
    rfl
  · simp only [zCj,zAM (Nat.le_refl ns.length),zAB,List.take_length]
theorem zOx (a b:List Str) (ha:a.length≤1073741824):zAn a b=some (a==b):=by
  unfold zAn
  rw [neI]
  by_cases hl:a.length=b.length
  · have e:(a.length !=b.length)=false:=by simp [hl]
    rw [e,zAB,zOD a b (zAp a b) hl]
    · by_cases h:a=b
      · simp [h]
      · simp [h]
    · intro n hn hb
      simp only [zAp,zAN hn,zAC,zAK hn,zAK hb,zAA,wrs (show n≤4*1073741824 by omega)]
      by_cases he:a[n]=b[n]
      · have:(a[n] !=b[n])=false:=by simp [he]
        rw [this,if_pos he]; rfl
      · have:(a[n] !=b[n])=true:=by simp [he]
        rw [this,if_neg he]; rfl
    · simp only [zAp,zAM (Nat.le_refl a.length),zAB]
  · have e:(a.length !=b.length)=true:=by simp [hl]
    have e2:(a==b)=false:=by
      rw [Bool.eq_false_iff]; intro h; exact hl (by rw [eq_of_beq h])
    rw [e,e2]; rfl
theorem zNl (l:List GField) (ns:List Str):(snapF l ns).length=ns.length:=by simp [snapF]
theorem zRA (ns s:List Str) (l:List GField) (hl:smL l) (hs:ns.length≤1000) (hn:∀ n ∈ ns,n.length≤1073741824):zFC ns s l=some (snapF l ns==s):=by
  unfold zFC
  rw [zMM ns l hl hs hn,eqI]
  simp only [zAA]
  rw [zOx _ _ (by rw [zNl]; omega)]
  simp only [zAA]
  by_cases h:ns.length=s.length
  · rw [beq_iff_eq.2 h]; rfl
  · rw [beq_eq_false_iff_ne.2 h]
    have:(snapF l ns==s)=false:=by
      rw [Bool.eq_false_iff]; intro hc; have:=eq_of_beq hc; rw [← this,zNl] at h; exact h rfl
    rw [this]; rfl
def zSk (l:List GField) (n:Str):List GField:=l.filter fun f=>!fold f.fName n
end Go.Eng.Pure
namespace Go.Eng.Pure
open Go Go.Eng
set_option linter.unusedVariables false
def cnt (x:Str):List Str→Nat
  | []=>0
  | y :: r=>if y<x then cnt x r+1 else 0
end Go.Eng.Pure
namespace Go.Eng.Pure
open Go Go.Eng
set_option linter.unusedVariables false
def fin (a:UInt8):Nat→Str→Str→List Str×Nat×Str
  | st,cur,[]=>([],st,cur)
  | st,cur,c :: r=>if st=0∧c=a then (cur :: (fin a 0 [] r).1,(fin a 0 [] r).2) else fin a (step st c) (cur++[c]) r
end Go.Eng.Pure
namespace Go.Eng.Pure
open Go Go.Eng
set_option linter.unusedVariables false
section
set_option linter.unusedSectionVars false
variable (s:Str) (hs:s.all isD=true) (hne:s≠[])
include hs hne
end
def quote (s:Str):Str:=34 :: (s.flatMap (fun c=>if c=34∨c=92 then [92,c] else [c])++[34])
theorem zOs (t:Str):(t.flatMap (fun c=>if c=34∨c=92 then [92,c] else [c])).length≤2*t.length:=by
  induction t with
  | nil=>exact Nat.le_refl _
  | cons c t ih =>
    have e:(if c=34∨c=92 then [92,c] else [c]).length≤2:=by split <;> simp
    rw [List.flatMap_cons,List.length_append,List.length_cons]
    omega
theorem zQ4 (s:Str) (hs:s.length≤1073741824):zJZ s=some (quote s):=by
  have hfl:=zOs
  have:=zDc (fun n=>(34 :: (s.take n).flatMap (fun c=>if c=34∨c=92 then [92,c] else [c]),(n:Int))) s.length (34 :: s.flatMap (fun c=>if c=34∨c=92 then [92,c] else [c])) (zDk s) ?_ ?_
  · unfold zJZ quote
    have e:(([34]:Str),(0:Int))=(34 :: (s.take 0).flatMap (fun c=>if c=34∨c=92 then [92,c] else [c]),((0:Nat):Int)):=by simp
    have hl:=hfl s
    rw [e,this,zAA,zBh (by simp only [List.length_cons]; omega) (zCY _)]; rfl
  · intro n hn
    have hl:=hfl (s.take n)
    have ht:(s.take n).length≤n:=by rw [List.length_take]; omega
    have hcond:(bif s[n]==34 then some true else some (s[n]==92))=some (decide (s[n]=34∨s[n]=92)):=by
      by_cases h1:s[n]=34
      · simp [h1]
      · have h1':(s[n]==34)=false:=by simpa using h1
        by_cases h2:s[n]=92
        · simp [h2]
        · simp [h1,h2,h1']
    simp only [zDk,zAN hn,zAC,zAK hn,zAA]
    rw [hcond,zAA,zAl hn,List.flatMap_append,wrs (by omega)]
    by_cases hc:s[n]=34∨s[n]=92
    · rw [decide_eq_true hc,zAC,zBh (by simp only [List.length_cons]; omega) (zCY _),zAA,zAA,zBh (by simp only [List.length_cons,List.length_append,List.length_nil]; omega) (zCY _),zAA]
      simp [hc]
    · rw [decide_eq_false hc,zAB,zAA,zBh (by simp only [List.length_cons]; omega) (zCY _),zAA]
      simp [hc]
  · simp only [zDk,zAM (Nat.le_refl s.length),zAB,List.take_length]
theorem zLA (s:Str):(quote s).length≤2*s.length+2:=by
  unfold quote
  rw [List.length_cons,List.length_append,List.length_singleton]
  have:=zOs s
  omega
end Go.Eng.Pure
namespace Go.Eng.Pure
open Go Go.Eng
set_option linter.unusedVariables false
def lp (y:Nat):Bool:=y % 4==0&&(y % 100 !=0||y % 400==0)
def shape (s:Str):Bool:=s.length==29&&((s.take 5).drop 3==[44,32]&&(s.getD 7 0==32&&(s.getD 11 0==32&&(s.getD 16 0==32&&(s.getD 19 0==58&&(s.getD 22 0==58&&s.drop 25==[32,71,77,84]))))))
end Go.Eng.Pure
namespace Go.Eng.Pure.Etag
open Go Go.Eng Go.Eng.Pure
def zSW (c:UInt8):Bool:=(decide (c<33)||c==34)||c==127
def tagOK (s:Str):Bool:=!s.any zSW
def inner (t:Str):Option Str :=
  match t with
  | a :: r=>if a=34∧r≠[]∧r.getLast?=some 34∧tagOK r.dropLast then some r.dropLast else none
  | []=>none
def tagOf (weak:Bool) (t:Str):GETag×Bool:=match inner t with | some x=>(⟨weak,x⟩,true) | none=>(⟨false,[]⟩,false)
def pre:Str:=[87,47]
def zHv (s:Str):GETag×Bool:=if pre.isPrefixOf s then tagOf true (s.drop 2) else tagOf false s
theorem zJd (p s:Str):p.isPrefixOf s=(decide (p.length≤s.length)&&s.take p.length==p):=by
  induction p generalizing s with
  | nil=>simp
  | cons a p ih =>
    cases s with
    | nil=>simp
    | cons b s =>
      simp only [List.isPrefixOf,List.length_cons,List.take_succ_cons,Nat.add_le_add_iff_right]
      rw [ih]
      by_cases h:a=b
      · subst h; simp
      · have e1:(a==b)=false:=by simpa using h
        have e2:(b==a)=false:=by simpa using fun e=>h e.symm
        simp [e1,e2]
theorem HasPrefix_eq (s p:Str):zA9 s p=some (p.isPrefixOf s):=by
  unfold zA9
  rw [zJd]
  by_cases h:p.length≤s.length
  · have h1:decide ((p.length:Int)≤(s.length:Int))=true:=by simpa using h
    rw [h1,zAC]
    have:=zGY (l:=s) (i:=0) (j:=p.length) ⟨by omega,h⟩
    rw [show ((0:Nat):Int)=0 from rfl] at this
    rw [this]
    simp [h]
  · have h1:decide ((p.length:Int)≤(s.length:Int))=false:=by simpa using h
    rw [h1,zAB]
    simp [h]
end Go.Eng.Pure.Etag
namespace Go.Eng.Pure.Etag
open Go Go.Eng Go.Eng.Pure
set_option linter.unusedVariables false
def zMc (out:List GETag) (m:Str):List GETag ⊕ (List GETag ⊕ (List GETag×Bool×Bool)):=if (zHv m).2 then .inl (out++[(zHv m).1]) else .inr (.inr ([],false,false))
def zSP (l:List Str):List GETag ⊕ (List GETag×Bool×Bool):=run zMc .inl l []
theorem zLH (m : List Str) (hm : m.length ≤ 64) (hs : ∀ x ∈ m, x.length ≤ 1073741824) (parse : Str → Option (GETag × Bool)) (hp : ∀ x : Str, x.length ≤ 1073741824 → parse x = some (zHv x)) (body : (List GETag × Int) → Option ((List GETag × Int) ⊕ (List GETag ⊕ (List GETag × Bool × Bool))))
    (hb:∀ o i,body (o,i)=(bif decide (i<(m.length:Int)) then (xnth m i).bind fun x=>(parse x).bind fun r=>(bif !r.2 then some (.inr (.inr (([]:List GETag),false,false))) else (xapp o ([r.1]:List GETag)).bind fun l=>some (.inl (l,wr (i+1)))) else some (.inr (.inl o)))) :
    zAE body ([],0)=some (zSP m):=by
  refine zGa (fun (o:List GETag) (i:Int)=>(o,i)) m zMc .inl body (fun n o=>o.length≤n) [] (Nat.le_refl _) (fun n hn o ho=>?_) (fun o _=>?_)
  · have h1:=hs _ (List.getElem_mem hn)
    rw [hb,zAN hn,zAC,zAK hn,zAA,hp _ h1,zAA,zBh (by omega) (zCY _),zAA,wrs (by omega)]
    unfold zMc
    cases hpp:(zHv m[n]).2 with
    | true=>exact ⟨rfl,fun st' h=>by simp at h; subst h; rw [List.length_append,List.length_singleton]; omega⟩
    | false=>exact ⟨rfl,fun st' h=>by simp at h⟩
  · rw [hb,zAM (Nat.le_refl m.length),zAB]
theorem zKa (l:List GField) (name:Str) (hf:∀ f ∈ l,smF f):∀ x ∈ allM l name,x.length≤1073741824:=by
  intro x hx
  have h1:=List.mem_of_mem_take hx
  rw [List.mem_flatMap] at h1
  obtain ⟨v,hv,hx⟩:=h1
  exact Nat.le_trans (zNk v x hx) (zKy l name 1073741824 (fun f h=>(hf f h).2) v hv)
end Go.Eng.Pure.Etag
namespace Go.Eng.Pure
end Go.Eng.Pure
namespace Go.Eng
end Go.Eng
namespace Go.Eng.Pure
open Go Go.Eng
set_option linter.unusedVariables false
def smS (l:List Str):Prop:=l.length≤1000∧∀ s ∈ l,s.length≤1000
def smE (e:GEntry):Prop:=(e.fKeys.length≤10∧∀ k ∈ e.fKeys,smS k)∧smS e.fVary∧smS e.fSnapshot∧smL e.fFields∧e.fReason.length≤100∧e.fBody.length≤2000
theorem fieldB (a b:GField):(!((a.fName==b.fName)&&((a.fValue==b.fValue)&&true)))=!decide (a=b):=by
  obtain ⟨n,v⟩:=a; obtain ⟨n',v'⟩:=b
  rw [Bool.and_true]
  congr 1
  rw [Bool.eq_iff_iff]
  simp
def badK (k:List Str):Bool:=!keepS k
def keepK (l:List (List Str)):Bool:=!((l.take 11).any badK)&&decide (l.length≤10)
theorem zL3 (l:List (List Str)):zHj l=some (keepK l):=by
  unfold zHj keepK
  rw [zE0 l 11 badK]
  · have e:decide ((l.length:Int)≤10)=decide (l.length≤10):=zGs l.length 10
    rw [e]
    cases (l.take 11).any badK <;> simp
  · intro n hn hm
    have e1:decide ((n:Int)<11)=true:=zAN hm
    have e2:wr ((n:Int)+1)=(n:Int)+1:=by rw [wrs (n:=n) (by omega)]; omega
    simp only [zF0,zAN hn,e1,Bool.and_self,zAC,zAK hn,zAA,e2,zDH]
    rw [show (!keepS l[n])=badK l[n] from rfl]
    cases badK l[n] <;> rfl
  · intro n hn
    have:(decide ((n:Int)<(l.length:Int))&&decide ((n:Int)<11))=false:=by
      rcases hn with h | h
      · rw [zAM h]; rfl
      · rw [show decide ((n:Int)<11)=false from zAM h]; simp
    simp only [zF0,this,zAB]
def keepE (e:GEntry):Bool:=((((keepK e.fKeys&&keepS e.fVary)&&keepS e.fSnapshot)&&decide (e.fReason.length≤100))&&decide (e.fBody.length≤2000))&&keepF e.fFields
theorem zKS (e:GEntry):zGR e=some (keepE e):=by
  unfold zGR keepE
  rw [zL3,zAA,zDH,zAA,zDH,zAA,zEs,zAA,show ((100:Int))=((100:Nat):Int) from rfl,show ((2000:Int))=((2000:Nat):Int) from rfl,zGs,zGs]
  cases keepK e.fKeys <;> cases keepS e.fVary <;> cases keepS e.fSnapshot <;> cases decide (e.fReason.length≤100) <;> cases decide (e.fBody.length≤2000) <;> rfl
theorem zQg {e:GEntry} (h:keepE e=true):smE e:=by
  simp only [keepE,keepK,Bool.and_eq_true,decide_eq_true_eq,Bool.not_eq_true',List.any_eq_false] at h
  obtain ⟨⟨⟨⟨⟨⟨k1,k2⟩,v⟩,s⟩,r⟩,b⟩,f⟩:=h
  have hS:∀ l,keepS l=true→smS l:=fun l hl=>by
    have:=zNL hl
    exact ⟨by omega,fun x hx=>by have:=this.2 x hx; omega⟩
  refine ⟨⟨k2,fun k hk=>hS k ?_⟩,hS _ v,hS _ s,zKc f,r,b⟩
  have:=k1 k (by rw [List.take_of_length_le (by omega)]; exact hk)
  simpa [badK] using this
end Go.Eng.Pure
namespace Go.Eng.Pure
open Go Go.Eng
set_option linter.unusedVariables false
theorem ixB (c:UInt8) (b:Str):∀ a:Str,(∀ x ∈ a,x≠c)→Lib.indexByte (a++c :: b) c=(a.length:Int)
  | [],_=>by simp [Lib.indexByte]
  | x :: a,h=>by
    have h1:(x==c)=false:=by simpa using h x List.mem_cons_self
    have h2:=ixB c b a (fun y hy=>h y (List.mem_cons_of_mem _ hy))
    rw [List.cons_append,Lib.indexByte,h2,h1,List.length_cons]
    rw [show (((a.length:Int)==-1):Bool)=false by rw [beq_eq_false_iff_ne]; omega]
    simp
end Go.Eng.Pure
namespace Go.Eng.Pure
open Go Go.Eng
set_option linter.unusedVariables false
theorem WS_eq (s m:Str) (h1:s.length≤64*1073741824) (h2:m.length≤64*1073741824):zAD s m=some ((s.length:Int),(),m++s):=by
  unfold zAD zAu
  rw [zAA,zBh h2 h1,zAA]
end Go.Eng.Pure
namespace Go.Eng.Pure
open Go Go.Eng
set_option linter.unusedVariables false
def zAZ (c:UInt8):Str→List Str
  | []=>[[]]
  | x :: s=>if x=c then [] :: zAZ c s else match zAZ c s with | y :: ys=>(x :: y) :: ys | []=>[[x]]
theorem zDn (c:UInt8):∀ s,zAZ c s≠[]
  | []=>by simp [zAZ]
  | x :: s=>by
    unfold zAZ
    split
    · simp
    · split <;> simp
theorem zJe {c:UInt8}:∀ {s:Str},c ∉ s→zAZ c s=[s]
  | [],_=>rfl
  | x :: s,h=>by
    have h1:¬ x=c:=fun e=>h (by rw [e]; exact List.mem_cons_self)
    have h2:c ∉ s:=fun e=>h (List.mem_cons_of_mem _ e)
    unfold zAZ
    rw [if_neg h1,zJe h2]
theorem zKO {c:UInt8} (b:Str):∀ {a:Str},c ∉ a→zAZ c (a++c :: b)=a :: zAZ c b
  | [],_=>by rw [List.nil_append,zAZ,if_pos rfl]
  | x :: a,h=>by
    have h1:¬ x=c:=fun e=>h (by rw [e]; exact List.mem_cons_self)
    have h2:c ∉ a:=fun e=>h (List.mem_cons_of_mem _ e)
    rw [List.cons_append,zAZ,if_neg h1,zKO b h2]
theorem zLz {c:UInt8} {s:Str} (h:c ∈ s):∃ a b,s=a++c :: b∧c ∉ a:=by
  induction s with
  | nil=>cases h
  | cons x s ih =>
    by_cases hx:x=c
    · exact ⟨[],s,by rw [hx]; rfl,by simp⟩
    · have : c ∈ s := by
        rcases List.mem_cons.1 h with h | h
        · exact absurd h.symm hx
        · exact h
      obtain ⟨a,b,e,ha⟩:=ih this
      refine ⟨x :: a,b,by rw [e]; rfl,?_⟩
      intro hm
      rcases List.mem_cons.1 hm with hm | hm
      · exact hx hm.symm
      · exact ha hm
theorem zNQ (c:UInt8):∀ a:Str,c ∉ a→Lib.indexByte a c=-1
  | [],_=>rfl
  | x :: a,h=>by
    have h1:(x==c)=false:=by
      rw [beq_eq_false_iff_ne]; exact fun e=>h (by rw [e]; exact List.mem_cons_self)
    have h2:=zNQ c a (fun e=>h (List.mem_cons_of_mem _ e))
    rw [Lib.indexByte,h2,h1]; rfl
theorem zPY (s:Str) (c:UInt8):zCN s [c]=some (Lib.indexByte s c):=by
  unfold zCN zAt strings_IndexByte; rfl
theorem zGT (c:UInt8):∀ s:Str,(zAZ c s).length=s.count c+1
  | []=>rfl
  | x :: s=>by
    have ih:=zGT c s
    unfold zAZ
    by_cases hx:x=c
    · rw [if_pos hx,List.length_cons,ih,hx,List.count_cons_self]
    · rw [if_neg hx,List.count_cons_of_ne (by exact fun e=>hx e)]
      cases hs:zAZ c s with
      | nil=>exact absurd hs (zDn c s)
      | cons y ys=>rw [hs] at ih; simpa using ih
theorem zMs (c : UInt8) (n : Int) (N : Nat) (s0 : Str) (hn : (wr ((if (wr ((s0.length : Int) + 1)) < n then (wr ((s0.length : Int) + 1)) else n) - 1)) = (N : Int)) (hN : N ≤ 1000000) :
    ∀ (j:Nat) (t:Str) (k:Nat) (m:List Str),t.count c=j→t.length≤1073741824→k+j=N→m.length=N+1 →
      zAE (zAs s0 [c] 0 n) (t,(k:Int),m)=some ((zAZ c t).getLast (zDn c t),(N:Int),m.take k++(zAZ c t).dropLast++m.drop N):=by
  intro j
  induction j with
  | zero =>
    intro t k m hc ht hk hm
    have hnm:c ∉ t:=fun h=>by have:=List.count_pos_iff.2 h; omega
    have hk':k=N:=by omega
    subst hk'
    have hb:zAs s0 [c] 0 n (t,(k:Int),m)=some (.inr (t,(k:Int),m)):=by
      unfold zAs
      simp only []
      rw [hn,zAM (Nat.le_refl _),zAB]
    rw [zAG hb]
    simp only [zJe hnm]
    simp
  | succ j ih =>
    intro t k m hc ht hk hm
    have hm0:c ∈ t:=List.count_pos_iff.1 (by omega)
    obtain ⟨a,b,e,ha⟩:=zLz hm0
    have hix:Lib.indexByte t c=(a.length:Int):=by rw [e]; exact ixB c b a (fun x hx e=>ha (e ▸ hx))
    have hlt:t.length=a.length+1+b.length:=by rw [e,List.length_append,List.length_cons]; omega
    have hcb:b.count c=j:=by
      rw [e,List.count_append,List.count_cons_self,List.count_eq_zero.2 ha] at hc; omega
    have hkm:k<m.length:=by omega
    have hput:xput m (k:Int) a=some (m.set k a):=by unfold xput; rw [if_pos ⟨by omega,by omega⟩,Int.toNat_natCast]
    have hsub:xsub t (((a.length+1:Nat):Int)) (t.length:Int)=some b:=by
      rw [zE2 (by omega),e,List.drop_append]; simp
    have hto:xsub t 0 (a.length:Int)=some a:=by
      rw [zG7 (by omega),e,List.take_left']; rfl
    have hb:zAs s0 [c] 0 n (t,(k:Int),m)=some (.inl (b,((k+1:Nat):Int),m.set k a)):=by
      unfold zAs
      simp only []
      rw [hn,zAN (show k<N by omega),zAC,zPY,zAA,hix,show decide ((a.length:Int)<0)=false from decide_eq_false (by omega),zAB,
        show wr ((a.length:Int)+0)=(a.length:Int) by rw [Int.add_zero,wrn (by omega)],hto,zAA,zAK hkm,zAA,hput,zAA,
        show ((([c]:Str).length:Nat):Int)=1 from rfl,wrs (by omega),hsub,zAA,wrs (by omega)]
    rw [zAI hb,ih b (k+1) (m.set k a) hcb (by omega) (by omega) (by rw [List.length_set,hm])]
    have hsp:zAZ c t=a :: zAZ c b:=by rw [e]; exact zKO b ha
    have hl:(zAZ c t).getLast (zDn c t)=(zAZ c b).getLast (zDn c b):=by
      simp only [hsp,List.getLast_cons (zDn c b)]
    have hd:(zAZ c t).dropLast=a :: (zAZ c b).dropLast:=by
      rw [hsp,List.dropLast_cons_of_ne_nil (zDn c b)]
    rw [hl,hd]
    congr 3
    have e1:(m.set k a).take (k+1)=m.take k++[a]:=by
      rw [zAl (by rw [List.length_set]; exact hkm),List.take_set_of_le (Nat.le_refl k),List.getElem_set_self]
    have e2:(m.set k a).drop N=m.drop N:=List.drop_set_of_lt (by omega)
    rw [e1,e2,List.append_assoc,List.append_assoc,List.append_assoc]
    rfl
theorem zQM {α:Type} (l:List α) (x y:α):(l++[x]).set l.length y=l++[y]:=by induction l <;> simp [*]
theorem zPD (s:Str) (c:UInt8) (hs:s.length≤1000000):zED s [c]=some (zAZ c s):=by
  have hcl:s.count c≤s.length:=List.count_le_length
  have hcnt:zBw s [c]=some ((s.count c:Nat):Int):=by
    unfold zBw
    rw [show ((([c]:Str).length:Int)==0)=false from rfl,zAB,show ((([c]:Str).length:Int)==1)=true from rfl,zAC,show xnth [c] 0=some c from rfl,zAA]
  unfold zED zCk
  rw [show ((-1:Int)==0)=false from rfl,zAB,show ((([c]:Str)==[]):Bool)=false from rfl,zAB,show decide ((-1:Int)<0)=true from rfl,zAC,hcnt,zAA,zAA,wrs (n:=s.count c) (by omega)]
  have hmin:(if wr ((s.length:Int)+1)<((s.count c+1:Nat):Int) then wr ((s.length:Int)+1) else ((s.count c+1:Nat):Int))=((s.count c+1:Nat):Int):=by
    rw [wrs (by omega),if_neg (by omega)]
  have hmk:xmake ((s.count c+1:Nat):Int) ([]:Str)=some (List.replicate (s.count c+1) []):=by
    unfold xmake; rw [if_pos ⟨by omega,by omega⟩,Int.toNat_natCast]
  rw [hmin,hmk,zAA]
  have hN:wr ((if wr ((s.length:Int)+1)<((s.count c+1:Nat):Int) then wr ((s.length:Int)+1) else ((s.count c+1:Nat):Int)) - 1)=((s.count c:Nat):Int):=by
    rw [hmin,show ((s.count c+1:Nat):Int) - 1=((s.count c:Nat):Int) by omega,wrn (by omega)]
  have hl:=zMs c _ _ s hN (by omega) _ s 0 (List.replicate (s.count c+1) []) rfl (by omega) (by omega) (by rw [List.length_replicate])
  rw [show ((0:Nat):Int)=0 from rfl] at hl
  rw [hl,zAA]
  simp only []
  have hlen:=zGT c s
  have hdl:(zAZ c s).dropLast.length=s.count c:=by rw [List.length_dropLast,hlen]; omega
  have hm:((List.replicate (s.count c+1) ([]:Str)).take 0++(zAZ c s).dropLast++(List.replicate (s.count c+1) []).drop (s.count c))=(zAZ c s).dropLast++[[]]:=by
    rw [List.take_zero,List.nil_append,List.drop_replicate,show s.count c+1 - s.count c=1 by omega]; rfl
  rw [hm]
  have hx:xnth ((zAZ c s).dropLast++[[]]) ((s.count c:Nat):Int)=some []:=by rw [← hdl]; exact zLu _ _
  have hp:xput ((zAZ c s).dropLast++[[]]) ((s.count c:Nat):Int) ((zAZ c s).getLast (zDn c s))=some (zAZ c s):=by
    unfold xput
    rw [if_pos ⟨by omega,by rw [List.length_append,hdl,List.length_singleton]; omega⟩,Int.toNat_natCast,← hdl,zQM,List.dropLast_concat_getLast]
  rw [hx,zAA,hp,zAA,wrs (n:=s.count c) (by omega),zG7 (by omega),zAA,zAA,List.take_of_length_le (by omega)]
theorem zLv (c:UInt8):∀ (s:Str),∀ x ∈ zAZ c s,x.length≤s.length
  | [],x,h=>by simp [zAZ] at h; subst h; simp
  | y :: s,x,h=>by
    have ih:=zLv c s
    unfold zAZ at h
    split at h
    · rcases List.mem_cons.1 h with rfl | h
      · simp
      · have:=ih x h; simp; omega
    · split at h
      · rename_i z zs hz
        rcases List.mem_cons.1 h with rfl | h
        · have:=ih z (by rw [hz]; exact List.mem_cons_self); simp; omega
        · have:=ih x (by rw [hz]; exact List.mem_cons_of_mem _ h); simp; omega
      · simp at h; subst h; simp
def alB (c:UInt8):Bool:=((decide (97≤c))&&(decide (c≤122)))||((decide (65≤c))&&(decide (c≤90)))
def subOK (s:Str) (d:Bool):Bool:=(s.all fun c=>alB c||(d&&isD c))&&((s !=[])&&decide (s.length≤8))
theorem zSj (c:UInt8) (d:Bool):(((decide (lowB c<97))||(decide (122<lowB c)))&&(((!d)||(decide (lowB c<48)))||(decide (57<lowB c))))=!(alB c||(d&&isD c)):=by
  have h1:=zLF (fun c=>(((decide (lowB c<97))||(decide (122<lowB c)))&&(((!true)||(decide (lowB c<48)))||(decide (57<lowB c))))==!(alB c||(true&&isD c))) (by decide +kernel) c
  have h2:=zLF (fun c=>(((decide (lowB c<97))||(decide (122<lowB c)))&&(((!false)||(decide (lowB c<48)))||(decide (57<lowB c))))==!(alB c||(false&&isD c))) (by decide +kernel) c
  cases d
  · exact beq_iff_eq.1 h2
  · exact beq_iff_eq.1 h1
theorem le8 (n:Nat):decide ((n:Int)≤8)=decide (n≤8):=zGs n 8
theorem zPH (s:Str) (d:Bool) (hs:s.length≤1000000):zCD s d=some (subOK s d):=by
  unfold zCD
  have hll:(lower s).length≤1000000:=by rw [zDI]; exact hs
  rw [zBZ _ (by omega),zAA,zHu (lower s) (by omega) (fun c=>(((decide (c<97))||(decide (122<c)))&&(((!d)||(decide (c<48)))||(decide (57<c))))) (zBd d (lower s)) false,zAA]
  · have e : (lower s).any (fun c => (((decide (c < 97)) || (decide (122 < c))) && (((!d) || (decide (c < 48))) || (decide (57 < c))))) = !(s.all fun c => alB c || (d && isD c)) := by
      unfold lower
      rw [List.any_map,← zMQ]
      congr 1; funext c
      exact zSj c d
    rw [e,le8]
    unfold subOK
    cases s.all fun c=>alB c||(d&&isD c) <;> rfl
  · intro n hn
    unfold zBd
    rw [zAN hn,zAC,zAK hn,zAA,zAA]
    cases (((decide ((lower s)[n]<97))||(decide (122<(lower s)[n])))&&(((!d)||(decide ((lower s)[n]<48)))||(decide (57<(lower s)[n])))) <;> rfl
  · unfold zBd
    rw [zAM (Nat.le_refl _),zAB]
def zLX:Nat→List Str→Bool
  | _,[]=>true
  | n,x :: l=>subOK x (decide (0<n))&&zLX (n+1) l
def langS (s:Str):Bool:=zLX 0 (zAZ 45 s)
theorem zLH (l : List Str) (hl : l.length ≤ 1000001) (body : Int → Option (Int ⊕ (Unit ⊕ Bool)))
    (h:∀ (n:Nat) (hn:n<l.length),body (n:Int)=some (if subOK l[n] (decide (0<n)) then .inl ((n+1:Nat):Int) else .inr (.inr false))) (h':body (l.length:Int)=some (.inr (.inl ()))) :
    ∀ (k n:Nat),n+k=l.length→zAE body (n:Int)=some (if zLX n (l.drop n) then .inl () else .inr false):=by
  intro k
  induction k with
  | zero =>
    intro n hn
    have:n=l.length:=by omega
    subst this
    rw [zAG h',List.drop_length]; rfl
  | succ k ih =>
    intro n hn
    have hlt:n<l.length:=by omega
    have hb:=h n hlt
    rw [List.drop_eq_getElem_cons hlt]
    unfold zLX
    cases hs:subOK l[n] (decide (0<n)) with
    | true=>rw [hs] at hb; rw [zAI hb,ih (n+1) (by omega),Bool.true_and]
    | false=>rw [hs] at hb; rw [zAG hb]; rfl
theorem pos0 (n:Nat):decide ((0:Int)<(n:Int))=decide (0<n):=zJj 0 n
theorem zO0 (s:Str) (hs:s.length≤1000000):zCH s=some (langS s):=by
  have hl:=zGT 45 s
  have hc:s.count 45≤s.length:=List.count_le_length
  unfold zCH
  rw [zPD s 45 hs,zAA]
  have:=zLH (zAZ 45 s) (by omega) (zC1 (zAZ 45 s)) ?_ ?_ (zAZ 45 s).length 0 (by omega)
  · rw [show ((0:Nat):Int)=0 from rfl,List.drop_zero] at this
    rw [this,zAA]
    unfold langS
    cases zLX 0 (zAZ 45 s) <;> rfl
  · intro n hn
    have hsm:=zLv 45 s _ (List.getElem_mem hn)
    unfold zC1
    rw [zAN hn,zAC,zAK hn,zAA,pos0,zPH _ _ (by omega),zAA,wrs (by omega)]
    cases subOK (zAZ 45 s)[n] (decide (0<n)) <;> rfl
  · unfold zC1
    rw [zAM (Nat.le_refl _),zAB]
end Go.Eng.Pure
namespace Go.Eng.Pure
open Go Go.Eng
set_option linter.unusedVariables false
theorem zPZ {σ σ' ρ:Type} {body:σ→Option (σ ⊕ ρ)} {body':σ'→Option (σ' ⊕ ρ)} (φ:σ→σ') (h:∀ s,body' (φ s)=(body s).map (Sum.map φ id)) {s:σ} {r:ρ} (hw:zAE body s=some r):zAE body' (φ s)=some r:=by
  obtain ⟨n,hn⟩:=zFg hw
  refine zGC (n:=n) ?_
  clear hw
  induction n generalizing s with
  | zero=>simp [loopN] at hn
  | succ n ih =>
    unfold loopN at hn ⊢
    rw [h s]
    cases hb:body s with
    | none=>rw [hb] at hn; cases hn
    | some x =>
      cases x with
      | inl s'=>rw [hb] at hn; exact ih hn
      | inr r'=>rw [hb] at hn; exact hn
theorem zPW (s:Str) (x:List Str×Int×Bool×Int):zDs s (x.1,x.2.2.1,x.2.1,x.2.2.2)=(zAU s 59 x).map (Sum.map (fun x=>(x.1,x.2.2.1,x.2.1,x.2.2.2)) id):=by
  obtain ⟨o,f,q,i⟩:=x
  unfold zDs zAU
  simp only []
  cases decide (i<(s.length:Int)) with
  | false=>rfl
  | true =>
    simp only [zAC]
    cases hx:xnth s i with
    | none=>cases q <;> rfl
    | some c =>
      have key : ∀ b : Bool, (bif b then some (Sum.inl (o, q, f, wr (wr (i + 1) + 1))) else
          (some c).bind fun c32=>bif c32==34 then some (.inl (o,!q,f,wr (i+1))) else (some c).bind fun c34 =>
            bif c34==59&&!q then (xsub s f i).bind fun s38=>(xapp o [s38]).bind fun l44=>some (.inl (l44,q,wr (i+1),wr (i+1))) else some (.inl (o,q,f,wr (i+1)))) =
        (bif b then some (Sum.inl (o,f,q,wr (wr (i+1)+1))) else
          (some c).bind fun c33=>bif c33==34 then some (.inl (o,f,!q,wr (i+1))) else (some c).bind fun c35 =>
            bif c35==59&&!q then (xsub s f i).bind fun s39=>(xapp o [s39]).bind fun l45=>some (.inl (l45,wr (i+1),q,wr (i+1))) else some (.inl (o,f,q,wr (i+1))):Option ((List Str×Int×Bool×Int) ⊕ (List Str×Int))).map (Sum.map (fun x=>(x.1,x.2.2.1,x.2.1,x.2.2.2)) id):=by
        intro b
        cases b with
        | true=>rfl
        | false =>
          simp only [zAB,zAA]
          cases c==34 with
          | true=>rfl
          | false =>
            cases c==59 <;> cases q <;> simp only [zAB,zAC,Bool.not_true,Bool.not_false,Bool.and_true,Bool.and_false] <;> try rfl
            cases xsub s f i with
            | none=>rfl
            | some y =>
              simp only [zAA]
              cases xapp o [y] <;> rfl
      cases q
      · exact key false
      · exact key (c==92)
theorem zRu (s:Str) (hs:s.length≤1073741824):zHl s=some (cutS 59 s):=by
  have h:=zSM s 59 (by decide) hs
  obtain ⟨o,g,h1,h2,h3,h4⟩:=zNA s 59 (by decide) hs s.length 0 0 false [] (by omega) (by omega) (by omega) (by omega) (by simp)
  have h5:=zPZ (body':=zDs s) _ (zPW s) h1
  have h5:zAE (zDs s) ([],false,0,0)=some (o,(g:Int)):=h5
  have h1:zAE (zAU s 59) ([],0,false,0)=some (o,(g:Int)):=h1
  unfold zJB at h
  rw [h1,zAA] at h
  unfold zHl
  rw [h5,zAA]
  exact h
theorem zSi (s:Str) (c:UInt8):Lib.indexByte s c=if c ∈ s then (s.idxOf c:Int) else -1:=by
  by_cases h:c ∈ s
  · obtain ⟨a,b,e,ha⟩:=zLz h
    rw [if_pos h,e,ixB c b a (fun x hx e=>ha (e ▸ hx)),List.idxOf_append,if_neg ha]; simp
  · rw [if_neg h,zNQ c s h]
theorem zSS {s:Str} {c:UInt8} (h:c ∈ s):s.idxOf c<s.length:=List.idxOf_lt_length_of_mem h
theorem zNs (s:Str) (c:UInt8) (hs:s.length≤1073741824):zBM s [c]=some (if c ∈ s then (s.take (s.idxOf c),s.drop (s.idxOf c+1),true) else (s,[],false)):=by
  unfold zBM zEO zAt strings_IndexByte
  simp only []
  rw [zSi,zAA]
  by_cases h:c ∈ s
  · have hl:=zSS h
    rw [if_pos h,if_pos h,show decide ((0:Int)≤(s.idxOf c:Int))=true from decide_eq_true (by omega),zAC,zG7 (by omega),zAA,
      show ((([c]:Str).length:Nat):Int)=1 from rfl,wrs (by omega),zE2 (by omega),zAA,zAA]
  · rw [if_neg h,if_neg h]; rfl
def oneS (m:Str):Str×Str×Bool :=
  if 61 ∈ m∧tok (m.take (m.idxOf 61))=true then
    (if tok (m.drop (m.idxOf 61+1)) then (lower (m.take (m.idxOf 61)),m.drop (m.idxOf 61+1),true)
     else (lower (m.take (m.idxOf 61)),(unq (m.drop (m.idxOf 61+1))).1,(unq (m.drop (m.idxOf 61+1))).2))
  else ([],[],false)
theorem zSg (m:Str) (hm:m.length≤1073741824):zHb m=some (oneS m):=by
  unfold zHb oneS
  rw [zNs m 61 hm,zAA]
  by_cases h:(61:UInt8) ∈ m
  · have h1:(m.take (m.idxOf 61)).length≤1073741824:=by rw [List.length_take]; omega
    have h2:(m.drop (m.idxOf 61+1)).length≤1073741824:=by rw [List.length_drop]; omega
    rw [if_pos h]
    simp only [Bool.not_true,zAB]
    rw [zCh _ h1,zAA,zAA]
    cases ht:tok (m.take (m.idxOf 61)) with
    | false=>rw [if_neg (by simp)]; rfl
    | true =>
      rw [if_pos ⟨h,rfl⟩,Bool.not_true,zAB,zCh _ h2,zAA]
      cases hv:tok (m.drop (m.idxOf 61+1)) with
      | true =>
        rw [Bool.not_true,zAB,zAA]
        simp only []
        rw [zBZ _ h1,zAA]; rfl
      | false =>
        rw [Bool.not_false,zAC,zOV _ h2,zAA,zAA]
        simp only []
        rw [zBZ _ h1,zAA]; rfl
  · rw [if_neg h,if_neg (fun h2=>h h2.1)]
    rfl
def parL:List Str→List GParam→Option (List GParam)
  | [],acc=>some acc
  | m :: l,acc=>if trim m=[] then parL l acc else if (oneS (trim m)).2.2 then parL l (acc++[⟨(oneS (trim m)).1,(oneS (trim m)).2.1⟩]) else none
def parC (x:Str) (l:List Str):Str×List GParam×Bool :=
  if trim x=[] then ([],[],false) else match parL l [] with | some ps=>(trim x,ps,true) | none=>([],[],false)
def parS (s:Str):Str×List GParam×Bool :=
  match cutS 59 s with
  | []=>([],[],false)
  | x :: l=>parC x l
def parF (acc:List GParam) (m:Str):List GParam ⊕ (List GParam ⊕ (Str×List GParam×Bool)) :=
  if trim m=[] then .inl acc else if (oneS (trim m)).2.2 then .inl (acc++[⟨(oneS (trim m)).1,(oneS (trim m)).2.1⟩]) else .inr (.inr ([],[],false))
theorem zMi:∀ (l:List Str) (acc:List GParam),run parF .inl l acc=match parL l acc with | some ps=>.inl ps | none=>.inr ([],[],false)
  | [],acc=>rfl
  | m :: l,acc=>by
    unfold run parF parL
    by_cases h:trim m=[]
    · rw [if_pos h,if_pos h]; exact zMi l acc
    · rw [if_neg h,if_neg h]
      cases h2:(oneS (trim m)).2.2 with
      | true=>rw [if_pos rfl,if_pos rfl]; exact zMi l _
      | false=>rw [if_neg (by decide),if_neg (by decide)]
theorem zRn (a:UInt8) (s:Str):cutS a s≠[]:=by
  have:∀ (s:Str) st cur,segs a st cur s≠[]:=by
    intro s
    induction s with
    | nil=>intro st cur; simp [segs]
    | cons c r ih => intro st cur; unfold segs; split; · simp
                     · exact ih _ _
  exact this s 0 []
theorem zK9 (s:Str) (hs:s.length≤1000000):zEJ s=some (parS s):=by
  obtain ⟨c1,c2⟩:=zKb 59 s
  unfold zEJ parS
  rw [zRu s (by omega),zAA]
  cases hc:cutS 59 s with
  | nil=>exact absurd hc (zRn 59 s)
  | cons x l =>
    rw [hc] at c1 c2
    have hx:=c1 x List.mem_cons_self
    have hl:l.length≤1000000:=by rw [List.length_cons] at c2; omega
    show _=some (parC x l)
    rw [zDL,zAA,zJc _ (by omega),zAA]
    unfold parC
    by_cases ht:trim x=[]
    · rw [ht,if_pos rfl]; rfl
    · rw [show (trim x==[])=false by simpa using ht,zAB,if_neg ht]
      have hsub:xsub (x :: l) 1 ((x :: l).length:Int)=some l:=by
        have:=zE2 (l:=x :: l) (i:=1) (by simp)
        simpa using this
      rw [hsub,zAA]
      have:=zGa (fun (acc:List GParam) i=>(acc,i)) l parF .inl (zDi l) (fun n acc=>acc.length≤n) [] (Nat.le_refl 0) ?_ ?_
      · rw [this,zAA,zMi]
        cases parL l [] <;> rfl
      · intro n hn acc hI
        have hm:=c1 l[n] (List.mem_cons_of_mem _ (List.getElem_mem hn))
        have htl:=zIk l[n]
        refine ⟨?_,?_⟩
        · unfold zDi parF
          simp only []
          rw [zAN hn,zAC,zAK hn,zAA,zJc _ (by omega),zAA]
          by_cases h1:trim l[n]=[]
          · rw [h1,if_pos rfl,wrs (by omega)]; rfl
          · rw [show (trim l[n]==[])=false by simpa using h1,zAB,if_neg h1,zSg _ (by omega),zAA]
            cases h2:(oneS (trim l[n])).2.2 with
            | true =>
              rw [Bool.not_true,zAB,if_pos rfl,zBh (by omega) (zCY _),zAA,wrs (by omega)]
            | false=>rw [Bool.not_false,zAC,if_neg (by decide)]
        · intro st' h
          unfold parF at h
          split at h
          · injection h with h; subst h; omega
          · split at h
            · injection h with h; subst h; rw [List.length_append,List.length_singleton]; omega
            · cases h
      · intro acc hI
        unfold zDi
        simp only []
        rw [zAM (Nat.le_refl _),zAB]
end Go.Eng.Pure
namespace Go.Eng.Pure
open Go Go.Eng
set_option linter.unusedVariables false
theorem zHp (s:Str):(parS s).1.length≤s.length∧(parS s).2.1.length≤s.length+1:=by
  obtain ⟨c1,c2⟩:=zKb 59 s
  have hp:∀ (l:List Str) (acc ps:List GParam),parL l acc=some ps→ps.length≤acc.length+l.length:=by
    intro l
    induction l with
    | nil=>intro acc ps h; unfold parL at h; injection h with h; subst h; simp
    | cons m l ih =>
      intro acc ps h
      unfold parL at h
      split at h
      · have:=ih _ _ h; simp; omega
      · split at h
        · have:=ih _ _ h; simp at this ⊢; omega
        · cases h
  unfold parS
  cases hc:cutS 59 s with
  | nil=>simp
  | cons x l =>
    rw [hc] at c1 c2
    have hx:=c1 x List.mem_cons_self
    have ht:=zIk x
    show (parC x l).1.length≤_∧(parC x l).2.1.length≤_
    unfold parC
    split
    · simp
    · split
      · rename_i ps h
        have:=hp l [] ps h
        simp at this c2 ⊢
        omega
      · simp
def noT:GMediaType:=⟨[],[],[]⟩
def zCZ (s:Str):GMediaType×Bool :=
  if (parS s).2.2 = true ∧ (47 : UInt8) ∈ (parS s).1 ∧ tok ((parS s).1.take ((parS s).1.idxOf 47)) = true ∧ tok ((parS s).1.drop ((parS s).1.idxOf 47 + 1)) = true ∧
      ¬ ((parS s).1.take ((parS s).1.idxOf 47)=[42]∧(parS s).1.drop ((parS s).1.idxOf 47+1)≠[42]) then
    (⟨lower ((parS s).1.take ((parS s).1.idxOf 47)),lower ((parS s).1.drop ((parS s).1.idxOf 47+1)),(parS s).2.1⟩,true)
  else (noT,false)
theorem zJS (s:Str) (hs:s.length≤1000000):zAo s=some (zCZ s):=by
  obtain ⟨l1,_⟩:=zHp s
  unfold zAo zCZ
  rw [zK9 s hs,zAA]
  generalize parS s=q at *
  obtain ⟨m,ps,ok⟩:=q
  simp only [] at l1 ⊢
  cases ok with
  | false=>rw [if_neg (by simp)]; rfl
  | true =>
    rw [Bool.not_true,zAB,zNs m 47 (by omega),zAA]
    by_cases h:(47:UInt8) ∈ m
    · have h1:(m.take (m.idxOf 47)).length≤1073741824:=by rw [List.length_take]; omega
      have h2:(m.drop (m.idxOf 47+1)).length≤1073741824:=by rw [List.length_drop]; omega
      rw [if_pos h]
      simp only []
      generalize m.take (m.idxOf 47)=a at *
      generalize m.drop (m.idxOf 47+1)=b at *
      rw [zCh a h1,zAA,zCh b h2]
      cases ta:tok a with
      | false=>rw [if_neg (by simp)]; rfl
      | true =>
        cases tb:tok b with
        | false=>rw [if_neg (by simp)]; rfl
        | true =>
          rw [Bool.not_true,zAB,zAA,zAA,Bool.not_true,Bool.false_or]
          by_cases hab:a=[42]∧b≠[42]
          · rw [show ((a==[42])&&(b !=[42]))=true by rw [hab.1]; simpa using hab.2,zAC,if_neg (fun hh=>hh.2.2.2.2 hab)]; rfl
          · rw [show ((a == [42]) && (b != [42])) = false by
              rw [Bool.eq_false_iff]; intro hh; rw [Bool.and_eq_true,beq_iff_eq,bne_iff_ne] at hh; exact hab hh,zAB,zBZ _ h1,zAA,zBZ _ h2,zAA,if_pos (show _ from ⟨by trivial,h,by trivial,by trivial,hab⟩)]
    · rw [if_neg h,if_neg (fun hh=>h hh.2.1)]
      simp only []
      rw [zCh m (by omega),zAA]
      have:zAW []=some false:=by rw [zCh _ (by decide)]; rfl
      rw [this]
      cases tok m <;> rfl
def typeS (s:Str):GMediaType×Bool:=if ((!(zCZ s).2||(zCZ s).1.fType==[42])||(zCZ s).1.fSub==[42])=true then (noT,false) else ((zCZ s).1,true)
theorem zNK (s:Str) (hs:s.length≤1000000):zBm s=some (typeS s):=by
  unfold zBm typeS
  rw [zJS s hs,zAA]
  cases ((!(zCZ s).2||(zCZ s).1.fType==[42])||(zCZ s).1.fSub==[42]) <;> rfl
theorem zPQ (s:Str):(typeS s).1.fParams.length≤s.length+1:=by
  have h:=(zHp s).2
  unfold typeS
  split
  · simp [noT]
  · unfold zCZ
    split
    · exact h
    · simp [noT]
def canS (k:Int) (s:Str):Str :=
  if k=4∧lower s=[120,45,103,122,105,112] then [103,122,105,112] else if k=4∧lower s=[120,45,99,111,109,112,114,101,115,115] then [99,111,109,112,114,101,115,115] else lower s
theorem zLN (k:Int) (s:Str) (hs:s.length≤1073741824):zAq k s=some (canS k s):=by
  unfold zAq canS
  rw [zBZ _ hs,zAA]
  by_cases hk:k=4
  · subst hk
    rw [show ((4:Int) !=4)=false from rfl,zAB]
    generalize lower s=l
    by_cases h1:l=[103,122,105,112]
    · subst h1; rfl
    by_cases h2:l=[120,45,103,122,105,112]
    · subst h2; rfl
    by_cases h3:l=[99,111,109,112,114,101,115,115]
    · subst h3; rfl
    by_cases h4:l=[120,45,99,111,109,112,114,101,115,115]
    · subst h4; rfl
    have e1:(l==[103,122,105,112])=false:=by simpa using h1
    have e2:(l==[120,45,103,122,105,112])=false:=by simpa using h2
    have e3:(l==[99,111,109,112,114,101,115,115])=false:=by simpa using h3
    have e4:(l==[120,45,99,111,109,112,114,101,115,115])=false:=by simpa using h4
    rw [e1,e2,e3,e4,if_neg (fun h=>h2 h.2),if_neg (fun h=>h4 h.2)]
    rfl
  · rw [show (k !=4)=true by simpa using hk,zAC,if_neg (fun h=>hk h.1),if_neg (fun h=>hk h.1)]
end Go.Eng.Pure
namespace Go.Eng.Pure
open Go Go.Eng
set_option linter.unusedVariables false
def sameN (p x:GParam):Bool:=x.fName==p.fName
def zLW:List GParam→List GParam→Bool
  | _,[]=>true
  | prev,p :: l=>(p.fName !=[113]&&!(prev.any (sameN p)))&&zLW (prev++[p]) l
theorem zL4 (ms:List GParam) (f:GParam→Option Bool) (p:GParam→Bool) (hl:ms.length≤1073741824) (h:∀ m ∈ ms,f m=some (p m)):zAR ms f=some (ms.any p):=by
  have key:∀ (k n:Nat),n+k=ms.length→∃ r,zAE (zAF ms f) (n:Int)=some r∧(match r with | .inr i=>decide (0≤i) | .inl _=>false)=(ms.drop n).any p:=by
    intro k
    induction k with
    | zero =>
      intro n hn
      obtain rfl:n=ms.length:=by omega
      refine ⟨.inl (),zAG ?_,by simp⟩
      simp only [zAF,zAM (Nat.le_refl ms.length),zAB]
    | succ k ih =>
      intro n hn
      have hlt:n<ms.length:=by omega
      have hb:zAF ms f (n:Int)=some (if p ms[n] then .inr (.inr (n:Int)) else .inl ((n+1:Nat):Int)):=by
        simp only [zAF,zAN hlt,zAC,zAK hlt,zAA,h _ (List.getElem_mem hlt),wrs (show n≤4*1073741824 by omega)]
        cases p ms[n] <;> rfl
      rw [List.drop_eq_getElem_cons hlt,List.any_cons]
      cases hp:p ms[n] with
      | true =>
        rw [hp,if_pos rfl] at hb
        exact ⟨_,zAG hb,by show decide ((0:Int)≤(n:Int))=_; rw [decide_eq_true (by omega)]; rfl⟩
      | false =>
        rw [hp,if_neg (by decide)] at hb
        obtain ⟨r,h1,h2⟩:=ih (n+1) (by omega)
        exact ⟨r,by rw [zAI hb,h1],by rw [h2]; rfl⟩
  obtain ⟨r,h1,h2⟩:=key ms.length 0 (by omega)
  have h1:zAE (zAF ms f) 0=some r:=h1
  unfold zAR zAP
  rw [h1,zAA]
  rw [List.drop_zero] at h2
  rw [← h2]
  cases r <;> rfl
theorem zOt (l : List GParam) (hl : l.length ≤ 1000001) (body : (Bool × Int) → Option ((Bool × Int) ⊕ Bool))
    (h:∀ (n:Nat) (hn:n<l.length) (b:Bool),body (b,(n:Int))=some (.inl (b&&(l[n].fName !=[113]&&!((l.take n).any (sameN l[n]))),((n+1:Nat):Int)))) (h':∀ b,body (b,(l.length:Int))=some (.inr b)) :
    ∀ (k n:Nat) (b:Bool),n+k=l.length→zAE body (b,(n:Int))=some (b&&zLW (l.take n) (l.drop n)):=by
  intro k
  induction k with
  | zero =>
    intro n b hn
    have:n=l.length:=by omega
    subst this
    rw [zAG (h' b),List.drop_length]; unfold zLW; rw [Bool.and_true]
  | succ k ih =>
    intro n b hn
    have hlt:n<l.length:=by omega
    rw [zAI (h n hlt b),ih (n+1) _ (by omega)]
    conv=>rhs; rw [List.drop_eq_getElem_cons hlt]
    conv=>rhs; unfold zLW
    rw [zAl hlt,Bool.and_assoc]
def zO6 (s:Str):Bool:=(typeS s).2&&zLW [] (typeS s).1.fParams
theorem zQx (s:Str) (hs:s.length≤1000000):zBt () s=some (lower s,zO6 s):=by
  have hl:=zPQ s
  unfold zBt zO6
  rw [zNK s hs,zAA]
  have:=zOt (typeS s).1.fParams (by omega) (zAx (typeS s)) ?_ ?_ (typeS s).1.fParams.length 0 (typeS s).2 (by omega)
  · rw [show ((0:Nat):Int)=0 from rfl,List.take_zero,List.drop_zero] at this
    rw [this,zAA,zBZ _ (by omega),zAA]
  · intro n hn b
    unfold zAx
    simp only []
    rw [zAN hn,zAC,zAK hn,zAA,wrs (by omega)]
    generalize hp:(typeS s).1.fParams[n]=p
    have hc:zAR ((typeS s).1.fParams.take n) (fun x0=>zBb x0 p)=some (((typeS s).1.fParams.take n).any (sameN p)) :=
      zL4 _ _ _ (by rw [List.length_take]; omega) (fun m _=>rfl)
    cases hb:b&&(p.fName !=[113]) with
    | true =>
      rw [zAC,zG7 (by omega),zAA,hc,zAA,zAA]
      rw [Bool.and_eq_true] at hb
      rw [hb.1,hb.2,Bool.true_and,Bool.true_and]
    | false =>
      rw [zAB,zAA]
      have:(b&&(p.fName !=[113]&&!(((typeS s).1.fParams.take n).any (sameN p))))=false:=by rw [← Bool.and_assoc,hb]; rfl
      rw [this]
  · intro b
    unfold zAx
    simp only []
    rw [zAM (Nat.le_refl _),zAB]
def txtOK (s:Str):Bool:=((decide (1≤s.length)&&decide (s.length≤100))&&txt s)&&(trim s==s)
def domF (n:Str):Gvariants_domain:=if kindF n=1 then .media else if kindF n=2 then .tags else if kindF n=3∨kindF n=4 then .words (kindF n) else .texts
def formD:Gvariants_domain→Str→Str×Bool
  | .media,s=>(lower s,zO6 s)
  | .tags,s=>(lower s,langS s)
  | .words k,s=>(canS k s,tok s&&s !=[42])
  | .texts,s=>(s,txtOK s)
theorem zNa (n:Str) (hn:n.length≤1073741824):zBk n=some (domF n):=by
  unfold zBk domF
  rw [zMm n hn,zAA]
  generalize kindF n=k
  by_cases h1:k=1
  · subst h1; rfl
  by_cases h2:k=2
  · subst h2; rfl
  by_cases h3:k=3
  · subst h3; rfl
  by_cases h4:k=4
  · subst h4; rfl
  rw [show (k==1)=false by simpa using h1,show (k==2)=false by simpa using h2,show (k==3)=false by simpa using h3,show (k==4)=false by simpa using h4,if_neg h1,if_neg h2,if_neg (by omega)]
  rfl
theorem le1 (n:Nat):decide ((1:Int)≤(n:Int))=decide (1≤n):=zGs 1 n
theorem le100 (n:Nat):decide ((n:Int)≤100)=decide (n≤100):=zGs n 100
theorem zMV (d:Gvariants_domain) (s:Str) (hs:s.length≤1000000):zBF d s=some (formD d s):=by
  cases d with
  | media=>exact zQx s hs
  | tags =>
    show zB7 () s=some (lower s,langS s)
    unfold zB7
    rw [zBZ _ (by omega),zAA,zO0 s hs,zAA]
  | words k =>
    show zBL k s=some (canS k s,tok s&&s !=[42])
    unfold zBL
    rw [zLN _ _ (by omega),zAA,zCh _ (by omega),zAA]
  | texts =>
    show zBz () s=some (s,txtOK s)
    unfold zBz txtOK
    rw [le1,le100,zPI _ (by omega),zJc _ (by omega)]
    cases decide (1≤s.length) <;> cases decide (s.length≤100) <;> cases txt s <;> rfl
theorem zQ0 (n a b:Str) (hn:n.length≤1073741824) (ha:a.length≤1000000) (hb:b.length≤1000000):zDE n a b=some ((formD (domF n) a).1==(formD (domF n) b).1):=by
  unfold zDE
  rw [zNa n hn,zAA,zMV _ a ha,zAA,zMV _ b hb,zAA]
end Go.Eng.Pure
namespace Go.Eng.Pure
open Go Go.Eng
set_option linter.unusedVariables false
def chk {α:Type} (ok:List α→α→Bool):List α→List α→Bool
  | _,[]=>true
  | prev,x :: l=>ok prev x&&chk ok (prev++[x]) l
theorem zQm {α : Type} (l : List α) (ok : List α → α → Bool) (body : Int → Option (Int ⊕ (Unit ⊕ Bool)))
    (h:∀ (n:Nat) (hn:n<l.length),body (n:Int)=some (if ok (l.take n) l[n] then .inl ((n+1:Nat):Int) else .inr (.inr false))) (h':body (l.length:Int)=some (.inr (.inl ()))) :
    zAE body 0=some (if chk ok [] l then .inl () else .inr false):=by
  have key:∀ (k n:Nat),n+k=l.length→zAE body (n:Int)=some (if chk ok (l.take n) (l.drop n) then .inl () else .inr false):=by
    intro k
    induction k with
    | zero =>
      intro n hn
      have:n=l.length:=by omega
      subst this
      rw [zAG h',List.drop_length]; rfl
    | succ k ih =>
      intro n hn
      have hlt:n<l.length:=by omega
      have hb:=h n hlt
      conv=>rhs; rw [List.drop_eq_getElem_cons hlt]
      unfold chk
      cases hs:ok (l.take n) l[n] with
      | true=>rw [hs] at hb; rw [zAI hb,ih (n+1) (by omega),Bool.true_and,zAl hlt]
      | false=>rw [hs] at hb; rw [zAG hb]; rfl
  have:=key l.length 0 (by omega)
  rw [show ((0:Nat):Int)=0 from rfl,List.take_zero,List.drop_zero] at this
  exact this
end Go.Eng.Pure
