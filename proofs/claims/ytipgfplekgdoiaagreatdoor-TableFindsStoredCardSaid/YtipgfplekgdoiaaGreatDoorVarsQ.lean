/- A part. -/
import Derived.Test.YtipgfplekgdoiaaGreatDoorStorP
set_option linter.unusedVariables false
namespace Go.Eng
end Go.Eng
namespace Go.Eng.Pure
open Go Go.Eng
set_option linter.unusedVariables false
def smS (l:List Str):Prop:=l.length≤1000∧∀ s ∈ l,s.length≤1000
def smE (e:GEntry):Prop:=(e.fKeys.length≤10∧∀ k ∈ e.fKeys,smS k)∧smS e.fVary∧smS e.fSnapshot∧smL e.fFields∧e.fReason.length≤100∧e.fBody.length≤2000
theorem fieldB (a b:GField):(!((a.fName==b.fName)&&((a.fValue==b.fValue)&&true)))=!decide (a=b):=by
  obtain ⟨n,v⟩:=a; obtain ⟨n',v'⟩:=b
  rw [Bool.and_true]
  congr 1
  rw [Bool.eq_iff_iff]
  simp
def lnE (e:GEntry):Prop:=e.fKeys.length≤1073741824∧(∀ k ∈ e.fKeys,k.length≤1073741824)∧e.fVary.length≤1073741824∧e.fSnapshot.length≤1073741824∧e.fFields.length≤1073741824
def badK (k:List Str):Bool:=!keepS k
def keepK (l:List (List Str)):Bool:=!((l.take 11).any badK)&&decide (l.length≤10)
theorem zL3 (l:List (List Str)):zIs l=some (keepK l):=by
  unfold zIs keepK
  rw [zGZ l 11 badK]
  · have e:decide ((l.length:Int)≤10)=decide (l.length≤10):=zFB l.length 10
    rw [e]
    cases (l.take 11).any badK <;> simp
  · intro n hn hm
    have e1:decide ((n:Int)<11)=true:=zAK hm
    have e2:wr ((n:Int)+1)=(n:Int)+1:=by rw [wrs (n:=n) (by omega)]; omega
    simp only [zFv,zAK hn,e1,Bool.and_self,zAC,zAG hn,zAA,e2,zEN]
    rw [show (!keepS l[n])=badK l[n] from rfl]
    cases badK l[n] <;> rfl
  · intro n hn
    have:(decide ((n:Int)<(l.length:Int))&&decide ((n:Int)<11))=false:=by
      rcases hn with h | h
      · rw [zAH h]; rfl
      · rw [show decide ((n:Int)<11)=false from zAH h]; simp
    simp only [zFv,this,zAB]
def keepE (e:GEntry):Bool:=((((keepK e.fKeys&&keepS e.fVary)&&keepS e.fSnapshot)&&decide (e.fReason.length≤100))&&decide (e.fBody.length≤2000))&&keepF e.fFields
theorem zLc (e:GEntry):zHr e=some (keepE e):=by
  unfold zHr keepE
  rw [zL3,zAA,zEN,zAA,zEN,zAA,zGD,zAA,show ((100:Int))=((100:Nat):Int) from rfl,show ((2000:Int))=((2000:Nat):Int) from rfl,zFB,zFB]
  cases keepK e.fKeys <;> cases keepS e.fVary <;> cases keepS e.fSnapshot <;> cases decide (e.fReason.length≤100) <;> cases decide (e.fBody.length≤2000) <;> rfl
theorem zLV {e:GEntry} (h:keepE e=true):smE e:=by
  simp only [keepE,keepK,Bool.and_eq_true,decide_eq_true_eq,Bool.not_eq_true',List.any_eq_false] at h
  obtain ⟨⟨⟨⟨⟨⟨k1,k2⟩,v⟩,s⟩,r⟩,b⟩,f⟩:=h
  have hS:∀ l,keepS l=true→smS l:=fun l hl=>by
    have:=zNu hl
    exact ⟨by omega,fun x hx=>by have:=this.2 x hx; omega⟩
  refine ⟨⟨k2,fun k hk=>hS k ?_⟩,hS _ v,hS _ s,zLJ f,r,b⟩
  have:=k1 k (by rw [List.take_of_length_le (by omega)]; exact hk)
  simpa [badK] using this
end Go.Eng.Pure
namespace Go.Eng.Pure
open Go Go.Eng
set_option linter.unusedVariables false
theorem ixB (c:UInt8) (b:Str):∀ a:Str,(∀ x ∈ a,x≠c)→Lib.indexByte (a++c :: b) c=(a.length:Int)
  | [],_=>by simp [Lib.indexByte]
  | x :: a,h=>by
    have h1:(x==c)=false:=by simpa using h x List.mem_cons_self
    have h2:=ixB c b a (fun y hy=>h y (List.mem_cons_of_mem _ hy))
    rw [List.cons_append,Lib.indexByte,h2,h1,List.length_cons]
    rw [show (((a.length:Int)==-1):Bool)=false by rw [beq_eq_false_iff_ne]; omega]
    simp
end Go.Eng.Pure
namespace Go.Eng.Pure
open Go Go.Eng
set_option linter.unusedVariables false
theorem WS_eq (s m:Str) (h1:s.length≤64*1073741824) (h2:m.length≤64*1073741824):zAN s m=some ((s.length:Int),(),m++s):=by
  unfold zAN zA3
  rw [zAA,zAc h2 h1,zAA]
end Go.Eng.Pure
namespace Go.Eng.Pure
open Go Go.Eng
set_option linter.unusedVariables false
def zAU (c:UInt8):Str→List Str
  | []=>[[]]
  | x :: s=>if x=c then [] :: zAU c s else match zAU c s with | y :: ys=>(x :: y) :: ys | []=>[[x]]
theorem zEt (c:UInt8):∀ s,zAU c s≠[]
  | []=>by simp [zAU]
  | x :: s=>by
    unfold zAU
    split
    · simp
    · split <;> simp
theorem zIA {c:UInt8}:∀ {s:Str},c ∉ s→zAU c s=[s]
  | [],_=>rfl
  | x :: s,h=>by
    have h1:¬ x=c:=fun e=>h (by rw [e]; exact List.mem_cons_self)
    have h2:c ∉ s:=fun e=>h (List.mem_cons_of_mem _ e)
    unfold zAU
    rw [if_neg h1,zIA h2]
theorem zI3 {c:UInt8} (b:Str):∀ {a:Str},c ∉ a→zAU c (a++c :: b)=a :: zAU c b
  | [],_=>by rw [List.nil_append,zAU,if_pos rfl]
  | x :: a,h=>by
    have h1:¬ x=c:=fun e=>h (by rw [e]; exact List.mem_cons_self)
    have h2:c ∉ a:=fun e=>h (List.mem_cons_of_mem _ e)
    rw [List.cons_append,zAU,if_neg h1,zI3 b h2]
theorem zKM {c:UInt8} {s:Str} (h:c ∈ s):∃ a b,s=a++c :: b∧c ∉ a:=by
  induction s with
  | nil=>cases h
  | cons x s ih =>
    by_cases hx:x=c
    · exact ⟨[],s,by rw [hx]; rfl,by simp⟩
    · have : c ∈ s := by
        rcases List.mem_cons.1 h with h | h
        · exact absurd h.symm hx
        · exact h
      obtain ⟨a,b,e,ha⟩:=ih this
      refine ⟨x :: a,b,by rw [e]; rfl,?_⟩
      intro hm
      rcases List.mem_cons.1 hm with hm | hm
      · exact hx hm.symm
      · exact ha hm
theorem zNv (c:UInt8):∀ a:Str,c ∉ a→Lib.indexByte a c=-1
  | [],_=>rfl
  | x :: a,h=>by
    have h1:(x==c)=false:=by
      rw [beq_eq_false_iff_ne]; exact fun e=>h (by rw [e]; exact List.mem_cons_self)
    have h2:=zNv c a (fun e=>h (List.mem_cons_of_mem _ e))
    rw [Lib.indexByte,h2,h1]; rfl
theorem zPG (s:Str) (c:UInt8):zEO s [c]=some (Lib.indexByte s c):=by
  unfold zEO zBH strings_IndexByte; rfl
theorem zFS (c:UInt8):∀ s:Str,(zAU c s).length=s.count c+1
  | []=>rfl
  | x :: s=>by
    have ih:=zFS c s
    unfold zAU
    by_cases hx:x=c
    · rw [if_pos hx,List.length_cons,ih,hx,List.count_cons_self]
    · rw [if_neg hx,List.count_cons_of_ne (by exact fun e=>hx e)]
      cases hs:zAU c s with
      | nil=>exact absurd hs (zEt c s)
      | cons y ys=>rw [hs] at ih; simpa using ih
theorem zMu (c : UInt8) (n : Int) (N : Nat) (s0 : Str) (hn : (wr ((if (wr ((s0.length : Int) + 1)) < n then (wr ((s0.length : Int) + 1)) else n) - 1)) = (N : Int)) (hN : N ≤ 1000000) :
    ∀ (j:Nat) (t:Str) (k:Nat) (m:List Str),t.count c=j→t.length≤1073741824→k+j=N→m.length=N+1 →
      zAF (zA2 s0 [c] 0 n) (t,(k:Int),m)=some ((zAU c t).getLast (zEt c t),(N:Int),m.take k++(zAU c t).dropLast++m.drop N):=by
  intro j
  induction j with
  | zero =>
    intro t k m hc ht hk hm
    have hnm:c ∉ t:=fun h=>by have:=List.count_pos_iff.2 h; omega
    have hk':k=N:=by omega
    subst hk'
    have hb:zA2 s0 [c] 0 n (t,(k:Int),m)=some (.inr (t,(k:Int),m)):=by
      unfold zA2
      simp only []
      rw [hn,zAH (Nat.le_refl _),zAB]
    rw [zAE hb]
    simp only [zIA hnm]
    simp
  | succ j ih =>
    intro t k m hc ht hk hm
    have hm0:c ∈ t:=List.count_pos_iff.1 (by omega)
    obtain ⟨a,b,e,ha⟩:=zKM hm0
    have hix:Lib.indexByte t c=(a.length:Int):=by rw [e]; exact ixB c b a (fun x hx e=>ha (e ▸ hx))
    have hlt:t.length=a.length+1+b.length:=by rw [e,List.length_append,List.length_cons]; omega
    have hcb:b.count c=j:=by
      rw [e,List.count_append,List.count_cons_self,List.count_eq_zero.2 ha] at hc; omega
    have hkm:k<m.length:=by omega
    have hput:xput m (k:Int) a=some (m.set k a):=by unfold xput; rw [if_pos ⟨by omega,by omega⟩,Int.toNat_natCast]
    have hsub:xsub t (((a.length+1:Nat):Int)) (t.length:Int)=some b:=by
      rw [zBz (by omega),e,List.drop_append]; simp
    have hto:xsub t 0 (a.length:Int)=some a:=by
      rw [zD9 (by omega),e,List.take_left']; rfl
    have hb:zA2 s0 [c] 0 n (t,(k:Int),m)=some (.inl (b,((k+1:Nat):Int),m.set k a)):=by
      unfold zA2
      simp only []
      rw [hn,zAK (show k<N by omega),zAC,zPG,zAA,hix,show decide ((a.length:Int)<0)=false from decide_eq_false (by omega),zAB,
        show wr ((a.length:Int)+0)=(a.length:Int) by rw [Int.add_zero,wrn (by omega)],hto,zAA,zAG hkm,zAA,hput,zAA,
        show ((([c]:Str).length:Nat):Int)=1 from rfl,wrs (by omega),hsub,zAA,wrs (by omega)]
    rw [zAI hb,ih b (k+1) (m.set k a) hcb (by omega) (by omega) (by rw [List.length_set,hm])]
    have hsp:zAU c t=a :: zAU c b:=by rw [e]; exact zI3 b ha
    have hl:(zAU c t).getLast (zEt c t)=(zAU c b).getLast (zEt c b):=by
      simp only [hsp,List.getLast_cons (zEt c b)]
    have hd:(zAU c t).dropLast=a :: (zAU c b).dropLast:=by
      rw [hsp,List.dropLast_cons_of_ne_nil (zEt c b)]
    rw [hl,hd]
    congr 3
    have e1:(m.set k a).take (k+1)=m.take k++[a]:=by
      rw [zAl (by rw [List.length_set]; exact hkm),List.take_set_of_le (Nat.le_refl k),List.getElem_set_self]
    have e2:(m.set k a).drop N=m.drop N:=List.drop_set_of_lt (by omega)
    rw [e1,e2,List.append_assoc,List.append_assoc,List.append_assoc]
    rfl
theorem zQR {α:Type} (l:List α) (x y:α):(l++[x]).set l.length y=l++[y]:=by induction l <;> simp [*]
theorem zPm (s:Str) (c:UInt8) (hs:s.length≤1000000):zFK s [c]=some (zAU c s):=by
  have hcl:s.count c≤s.length:=List.count_le_length
  have hcnt:zDK s [c]=some ((s.count c:Nat):Int):=by
    unfold zDK
    rw [show ((([c]:Str).length:Int)==0)=false from rfl,zAB,show ((([c]:Str).length:Int)==1)=true from rfl,zAC,show xnth [c] 0=some c from rfl,zAA]
  unfold zFK zE8
  rw [show ((-1:Int)==0)=false from rfl,zAB,show ((([c]:Str)==[]):Bool)=false from rfl,zAB,show decide ((-1:Int)<0)=true from rfl,zAC,hcnt,zAA,zAA,wrs (n:=s.count c) (by omega)]
  have hmin:(if wr ((s.length:Int)+1)<((s.count c+1:Nat):Int) then wr ((s.length:Int)+1) else ((s.count c+1:Nat):Int))=((s.count c+1:Nat):Int):=by
    rw [wrs (by omega),if_neg (by omega)]
  have hmk:xmake ((s.count c+1:Nat):Int) ([]:Str)=some (List.replicate (s.count c+1) []):=by
    unfold xmake; rw [if_pos ⟨by omega,by omega⟩,Int.toNat_natCast]
  rw [hmin,hmk,zAA]
  have hN:wr ((if wr ((s.length:Int)+1)<((s.count c+1:Nat):Int) then wr ((s.length:Int)+1) else ((s.count c+1:Nat):Int)) - 1)=((s.count c:Nat):Int):=by
    rw [hmin,show ((s.count c+1:Nat):Int) - 1=((s.count c:Nat):Int) by omega,wrn (by omega)]
  have hl:=zMu c _ _ s hN (by omega) _ s 0 (List.replicate (s.count c+1) []) rfl (by omega) (by omega) (by rw [List.length_replicate])
  rw [show ((0:Nat):Int)=0 from rfl] at hl
  rw [hl,zAA]
  simp only []
  have hlen:=zFS c s
  have hdl:(zAU c s).dropLast.length=s.count c:=by rw [List.length_dropLast,hlen]; omega
  have hm:((List.replicate (s.count c+1) ([]:Str)).take 0++(zAU c s).dropLast++(List.replicate (s.count c+1) []).drop (s.count c))=(zAU c s).dropLast++[[]]:=by
    rw [List.take_zero,List.nil_append,List.drop_replicate,show s.count c+1 - s.count c=1 by omega]; rfl
  rw [hm]
  have hx:xnth ((zAU c s).dropLast++[[]]) ((s.count c:Nat):Int)=some []:=by rw [← hdl]; exact zMB _ _
  have hp:xput ((zAU c s).dropLast++[[]]) ((s.count c:Nat):Int) ((zAU c s).getLast (zEt c s))=some (zAU c s):=by
    unfold xput
    rw [if_pos ⟨by omega,by rw [List.length_append,hdl,List.length_singleton]; omega⟩,Int.toNat_natCast,← hdl,zQR,List.dropLast_concat_getLast]
  rw [hx,zAA,hp,zAA,wrs (n:=s.count c) (by omega),zD9 (by omega),zAA,zAA,List.take_of_length_le (by omega)]
theorem zJP:∀ (n:Nat) (s:Str) (out:List Str),s.length≤n→n≤1000000→out.length+n≤2000000→zAF zBT (s,out)=some (out++zAU 45 s)
  | n,s,out,h,hn,ho=>by
    have hix:=Etag.Index_eq s 45 (by omega) s.length 0 (by omega)
    rw [List.drop_zero,show ((0:Nat):Int)=0 from rfl] at hix
    by_cases hm:(45:UInt8) ∈ s
    · obtain ⟨a,b,e,ha⟩:=zKM hm
      have hidx:s.idxOf 45=a.length:=by rw [e,List.idxOf_append,if_neg ha]; simp
      rw [if_pos hm,hidx,Nat.zero_add] at hix
      have hl:s.length=a.length+1+b.length:=by rw [e,List.length_append,List.length_cons]; omega
      have hb:zBT (s,out)=some (.inl (b,out++[a])):=by
        unfold zBT
        simp only []
        rw [hix,zAA,show decide ((a.length:Int)<0)=false from decide_eq_false (by omega),zAB,zD9 (by omega),zAA,wrs (by omega),zBz (by omega),zAA,zAc (by omega) (zA1 _),zAA]
        rw [e,List.take_left' rfl,List.drop_append]
        simp
      match n,h with
      | n+1,h =>
        rw [zAI hb,zJP n b (out++[a]) (by omega) (by omega) (by rw [List.length_append,List.length_singleton]; omega),e,zI3 b ha,List.append_assoc]
        rfl
      | 0,h=>omega
    · rw [if_neg hm] at hix
      have hb:zBT (s,out)=some (.inr (out++[s])):=by
        unfold zBT
        simp only []
        rw [hix,zAA,show decide ((-1:Int)<0)=true from rfl,zAC,zAc (by omega) (zA1 _),zAA]
      rw [zAE hb,zIA hm]
theorem zIx (s:Str) (hs:s.length≤1000000):zDN s=some (zAU 45 s):=by
  unfold zDN
  rw [zJP s.length s [] (Nat.le_refl _) hs (by simp; omega),zAA,List.nil_append]
theorem zHR (c:UInt8):∀ (s:Str),∀ x ∈ zAU c s,x.length≤s.length
  | [],x,h=>by simp [zAU] at h; subst h; simp
  | y :: s,x,h=>by
    have ih:=zHR c s
    unfold zAU at h
    split at h
    · rcases List.mem_cons.1 h with rfl | h
      · simp
      · have:=ih x h; simp; omega
    · split at h
      · rename_i z zs hz
        rcases List.mem_cons.1 h with rfl | h
        · have:=ih z (by rw [hz]; exact List.mem_cons_self); simp; omega
        · have:=ih x (by rw [hz]; exact List.mem_cons_of_mem _ h); simp; omega
      · simp at h; subst h; simp
def alB (c:UInt8):Bool:=((decide (97≤c))&&(decide (c≤122)))||((decide (65≤c))&&(decide (c≤90)))
def subOK (s:Str) (d:Bool):Bool:=(s.all fun c=>alB c||(d&&isD c))&&((s !=[])&&decide (s.length≤8))
theorem zSB (c:UInt8) (d:Bool):(((decide (lowB c<97))||(decide (122<lowB c)))&&(((!d)||(decide (lowB c<48)))||(decide (57<lowB c))))=!(alB c||(d&&isD c)):=by
  have h1:=zMU (fun c=>(((decide (lowB c<97))||(decide (122<lowB c)))&&(((!true)||(decide (lowB c<48)))||(decide (57<lowB c))))==!(alB c||(true&&isD c))) (by decide +kernel) c
  have h2:=zMU (fun c=>(((decide (lowB c<97))||(decide (122<lowB c)))&&(((!false)||(decide (lowB c<48)))||(decide (57<lowB c))))==!(alB c||(false&&isD c))) (by decide +kernel) c
  cases d
  · exact beq_iff_eq.1 h2
  · exact beq_iff_eq.1 h1
theorem le8 (n:Nat):decide ((n:Int)≤8)=decide (n≤8):=zFB n 8
theorem zQA (s:Str) (d:Bool) (hs:s.length≤1000000):zEI s d=some (subOK s d):=by
  unfold zEI
  have hll:(lower s).length≤1000000:=by rw [zCG]; exact hs
  rw [zBL _ (by omega),zAA,zGK (lower s) (by omega) (fun c=>(((decide (c<97))||(decide (122<c)))&&(((!d)||(decide (c<48)))||(decide (57<c))))) (zB2 d (lower s)) false,zAA]
  · have e : (lower s).any (fun c => (((decide (c < 97)) || (decide (122 < c))) && (((!d) || (decide (c < 48))) || (decide (57 < c))))) = !(s.all fun c => alB c || (d && isD c)) := by
      unfold lower
      rw [List.any_map,← zJG]
      congr 1; funext c
      exact zSB c d
    rw [e,le8]
    unfold subOK
    cases s.all fun c=>alB c||(d&&isD c) <;> rfl
  · intro n hn
    unfold zB2
    rw [zAK hn,zAC,zAG hn,zAA,zAA]
    cases (((decide ((lower s)[n]<97))||(decide (122<(lower s)[n])))&&(((!d)||(decide ((lower s)[n]<48)))||(decide (57<(lower s)[n])))) <;> rfl
  · unfold zB2
    rw [zAH (Nat.le_refl _),zAB]
def zKv:Nat→List Str→Bool
  | _,[]=>true
  | n,x :: l=>subOK x (decide (0<n))&&zKv (n+1) l
def langS (s:Str):Bool:=zKv 0 (zAU 45 s)
theorem zKK (l : List Str) (hl : l.length ≤ 1000001) (body : Int → Option (Int ⊕ (Unit ⊕ Bool)))
    (h:∀ (n:Nat) (hn:n<l.length),body (n:Int)=some (if subOK l[n] (decide (0<n)) then .inl ((n+1:Nat):Int) else .inr (.inr false))) (h':body (l.length:Int)=some (.inr (.inl ()))) :
    ∀ (k n:Nat),n+k=l.length→zAF body (n:Int)=some (if zKv n (l.drop n) then .inl () else .inr false):=by
  intro k
  induction k with
  | zero =>
    intro n hn
    have:n=l.length:=by omega
    subst this
    rw [zAE h',List.drop_length]; rfl
  | succ k ih =>
    intro n hn
    have hlt:n<l.length:=by omega
    have hb:=h n hlt
    rw [List.drop_eq_getElem_cons hlt]
    unfold zKv
    cases hs:subOK l[n] (decide (0<n)) with
    | true=>rw [hs] at hb; rw [zAI hb,ih (n+1) (by omega),Bool.true_and]
    | false=>rw [hs] at hb; rw [zAE hb]; rfl
theorem pos0 (n:Nat):decide ((0:Int)<(n:Int))=decide (0<n):=zJO 0 n
theorem zPy (s:Str) (hs:s.length≤1000000):zD4 s=some (langS s):=by
  have hl:=zFS 45 s
  have hc:s.count 45≤s.length:=List.count_le_length
  unfold zD4
  rw [zPm s 45 hs,zAA]
  have:=zKK (zAU 45 s) (by omega) (zCy (zAU 45 s)) ?_ ?_ (zAU 45 s).length 0 (by omega)
  · rw [show ((0:Nat):Int)=0 from rfl,List.drop_zero] at this
    rw [this,zAA]
    unfold langS
    cases zKv 0 (zAU 45 s) <;> rfl
  · intro n hn
    have hsm:=zHR 45 s _ (List.getElem_mem hn)
    unfold zCy
    rw [zAK hn,zAC,zAG hn,zAA,pos0,zQA _ _ (by omega),zAA,wrs (by omega)]
    cases subOK (zAU 45 s)[n] (decide (0<n)) <;> rfl
  · unfold zCy
    rw [zAH (Nat.le_refl _),zAB]
theorem zND (s:Str) (hs:s.length≤1000000):zGH s=some (langS s):=by
  have hl:=zFS 45 s
  have hc:s.count 45≤s.length:=List.count_le_length
  unfold zGH
  rw [zIx s hs,zAA]
  have:=zKK (zAU 45 s) (by omega) (zE0 (zAU 45 s)) ?_ ?_ (zAU 45 s).length 0 (by omega)
  · rw [show ((0:Nat):Int)=0 from rfl,List.drop_zero] at this
    rw [this,zAA]
    unfold langS
    cases zKv 0 (zAU 45 s) <;> rfl
  · intro n hn
    have hsm:=zHR 45 s _ (List.getElem_mem hn)
    generalize hx:(zAU 45 s)[n]=x at *
    have hw:zAF (zEr (zAU 45 s) (n:Int)) 0=some (if x.any (fun c=>!(alB c||(decide (0<n)&&isD c))) then .inr (.inr (.inr false)) else .inl ()):=by
      have hx0:xnth (zAU 45 s) (n:Int)=some x:=by rw [zAG hn,hx]
      refine zDe (ρ:=Unit ⊕ (Int ⊕ (Unit ⊕ Bool))) _ x (fun c=>!(alB c||(decide (0<n)&&isD c))) (.inr (.inr (.inr false))) (.inl ()) ?_ ?_
      · intro i hi
        unfold zEr
        rw [hx0,zAA,zAK hi,zAC,zAA,zAG hi,zAA,pos0,zO9,wrs (by omega)]
        show ((bif alB x[i] then some true else _).bind _)=_
        cases alB x[i] <;> cases decide (0<n) <;> cases isD x[i] <;> simp <;> omega
      · unfold zEr
        rw [hx0,zAA,zAH (Nat.le_refl _),zAB]
    unfold zE0
    rw [zAK hn,zAC,zAG hn,hx,zAA,hw,wrs (by omega)]
    have e8:decide ((8:Int)<(x.length:Int))=!decide (x.length≤8):=by
      rw [Bool.eq_iff_iff]; simp only [decide_eq_true_eq,Bool.not_eq_true',decide_eq_false_iff_not]; omega
    have e1:decide ((x.length:Int)<1)=(x==[]):=by
      cases x with
      | nil=>rfl
      | cons a b=>rw [decide_eq_false (by rw [List.length_cons]; omega)]; rfl
    rw [e1,zAA,e8]
    unfold subOK
    rw [zJG]
    have e3:(x !=[])=!(x==[]):=rfl
    rw [e3]
    cases x==[] <;> cases decide (x.length≤8) <;> cases (x.all fun c=>alB c||(decide (0<n)&&isD c)) <;> rfl
  · unfold zE0
    rw [zAH (Nat.le_refl _),zAB]
end Go.Eng.Pure
namespace Go.Eng.Pure
open Go Go.Eng
set_option linter.unusedVariables false
theorem zQG {σ σ' ρ:Type} {body:σ→Option (σ ⊕ ρ)} {body':σ'→Option (σ' ⊕ ρ)} (φ:σ→σ') (h:∀ s,body' (φ s)=(body s).map (Sum.map φ id)) {s:σ} {r:ρ} (hw:zAF body s=some r):zAF body' (φ s)=some r:=by
  obtain ⟨n,hn⟩:=zGj hw
  refine zHc (n:=n) ?_
  clear hw
  induction n generalizing s with
  | zero=>simp [loopN] at hn
  | succ n ih =>
    unfold loopN at hn ⊢
    rw [h s]
    cases hb:body s with
    | none=>rw [hb] at hn; cases hn
    | some x =>
      cases x with
      | inl s'=>rw [hb] at hn; exact ih hn
      | inr r'=>rw [hb] at hn; exact hn
theorem zPF (s:Str) (x:List Str×Int×Bool×Int):zD2 s (x.1,x.2.2.1,x.2.1,x.2.2.2)=(zAa s 59 x).map (Sum.map (fun x=>(x.1,x.2.2.1,x.2.1,x.2.2.2)) id):=by
  obtain ⟨o,f,q,i⟩:=x
  unfold zD2 zAa
  simp only []
  cases decide (i<(s.length:Int)) with
  | false=>rfl
  | true =>
    simp only [zAC]
    cases hx:xnth s i with
    | none=>cases q <;> rfl
    | some c =>
      have key : ∀ b : Bool, (bif b then some (Sum.inl (o, q, f, wr (wr (i + 1) + 1))) else
          (some c).bind fun c32=>bif c32==34 then some (.inl (o,!q,f,wr (i+1))) else (some c).bind fun c34 =>
            bif c34==59&&!q then (xsub s f i).bind fun s38=>(xapp o [s38]).bind fun l44=>some (.inl (l44,q,wr (i+1),wr (i+1))) else some (.inl (o,q,f,wr (i+1)))) =
        (bif b then some (Sum.inl (o,f,q,wr (wr (i+1)+1))) else
          (some c).bind fun c33=>bif c33==34 then some (.inl (o,f,!q,wr (i+1))) else (some c).bind fun c35 =>
            bif c35==59&&!q then (xsub s f i).bind fun s39=>(xapp o [s39]).bind fun l45=>some (.inl (l45,wr (i+1),q,wr (i+1))) else some (.inl (o,f,q,wr (i+1))):Option ((List Str×Int×Bool×Int) ⊕ (List Str×Int))).map (Sum.map (fun x=>(x.1,x.2.2.1,x.2.1,x.2.2.2)) id):=by
        intro b
        cases b with
        | true=>rfl
        | false =>
          simp only [zAB,zAA]
          cases c==34 with
          | true=>rfl
          | false =>
            cases c==59 <;> cases q <;> simp only [zAB,zAC,Bool.not_true,Bool.not_false,Bool.and_true,Bool.and_false] <;> try rfl
            cases xsub s f i with
            | none=>rfl
            | some y =>
              simp only [zAA]
              cases xapp o [y] <;> rfl
      cases q
      · exact key false
      · exact key (c==92)
theorem zRW (s:Str) (hs:s.length≤1073741824):zIw s=some (cutS 59 s):=by
  have h:=zPc s 59 (by decide) hs
  obtain ⟨o,g,h1,h2,h3,h4⟩:=zNW s 59 (by decide) hs s.length 0 0 false [] (by omega) (by omega) (by omega) (by omega) (by simp)
  have h5:=zQG (body':=zD2 s) _ (zPF s) h1
  have h5:zAF (zD2 s) ([],false,0,0)=some (o,(g:Int)):=h5
  have h1:zAF (zAa s 59) ([],0,false,0)=some (o,(g:Int)):=h1
  unfold zGd at h
  rw [h1,zAA] at h
  unfold zIw
  rw [h5,zAA]
  exact h
theorem zSO (s:Str) (c:UInt8):Lib.indexByte s c=if c ∈ s then (s.idxOf c:Int) else -1:=by
  by_cases h:c ∈ s
  · obtain ⟨a,b,e,ha⟩:=zKM h
    rw [if_pos h,e,ixB c b a (fun x hx e=>ha (e ▸ hx)),List.idxOf_append,if_neg ha]; simp
  · rw [if_neg h,zNv c s h]
theorem zOv {s:Str} {c:UInt8} (h:c ∈ s):s.idxOf c<s.length:=List.idxOf_lt_length_of_mem h
theorem zLg (s:Str) (c:UInt8) (hs:s.length≤1073741824):zEY s [c]=some (if c ∈ s then (s.take (s.idxOf c),s.drop (s.idxOf c+1),true) else (s,[],false)):=by
  unfold zEY zFe zBH strings_IndexByte
  simp only []
  rw [zSO,zAA]
  by_cases h:c ∈ s
  · have hl:=zOv h
    rw [if_pos h,if_pos h,show decide ((0:Int)≤(s.idxOf c:Int))=true from decide_eq_true (by omega),zAC,zD9 (by omega),zAA,
      show ((([c]:Str).length:Nat):Int)=1 from rfl,wrs (by omega),zBz (by omega),zAA,zAA]
  · rw [if_neg h,if_neg h]; rfl
def oneS (m:Str):Str×Str×Bool :=
  if 61 ∈ m∧tok (m.take (m.idxOf 61))=true then
    (if tok (m.drop (m.idxOf 61+1)) then (lower (m.take (m.idxOf 61)),m.drop (m.idxOf 61+1),true)
     else (lower (m.take (m.idxOf 61)),(unq (m.drop (m.idxOf 61+1))).1,(unq (m.drop (m.idxOf 61+1))).2))
  else ([],[],false)
theorem zSG (m:Str) (hm:m.length≤1073741824):zIl m=some (oneS m):=by
  unfold zIl oneS
  rw [zLg m 61 hm,zAA]
  by_cases h:(61:UInt8) ∈ m
  · have h1:(m.take (m.idxOf 61)).length≤1073741824:=by rw [List.length_take]; omega
    have h2:(m.drop (m.idxOf 61+1)).length≤1073741824:=by rw [List.length_drop]; omega
    rw [if_pos h]
    simp only [Bool.not_true,zAB]
    rw [zCk _ h1,zAA,zAA]
    cases ht:tok (m.take (m.idxOf 61)) with
    | false=>rw [if_neg (by simp)]; rfl
    | true =>
      rw [if_pos ⟨h,rfl⟩,Bool.not_true,zAB,zCk _ h2,zAA]
      cases hv:tok (m.drop (m.idxOf 61+1)) with
      | true =>
        rw [Bool.not_true,zAB,zAA]
        simp only []
        rw [zBL _ h1,zAA]; rfl
      | false =>
        rw [Bool.not_false,zAC,zKx _ h2,zAA,zAA]
        simp only []
        rw [zBL _ h1,zAA]; rfl
  · rw [if_neg h,if_neg (fun h2=>h h2.1)]
    rfl
def parL:List Str→List GParam→Option (List GParam)
  | [],acc=>some acc
  | m :: l,acc=>if trim m=[] then parL l acc else if (oneS (trim m)).2.2 then parL l (acc++[⟨(oneS (trim m)).1,(oneS (trim m)).2.1⟩]) else none
def parC (x:Str) (l:List Str):Str×List GParam×Bool :=
  if trim x=[] then ([],[],false) else match parL l [] with | some ps=>(trim x,ps,true) | none=>([],[],false)
def parS (s:Str):Str×List GParam×Bool :=
  match cutS 59 s with
  | []=>([],[],false)
  | x :: l=>parC x l
def parF (acc:List GParam) (m:Str):List GParam ⊕ (List GParam ⊕ (Str×List GParam×Bool)) :=
  if trim m=[] then .inl acc else if (oneS (trim m)).2.2 then .inl (acc++[⟨(oneS (trim m)).1,(oneS (trim m)).2.1⟩]) else .inr (.inr ([],[],false))
theorem zK7:∀ (l:List Str) (acc:List GParam),run parF .inl l acc=match parL l acc with | some ps=>.inl ps | none=>.inr ([],[],false)
  | [],acc=>rfl
  | m :: l,acc=>by
    unfold run parF parL
    by_cases h:trim m=[]
    · rw [if_pos h,if_pos h]; exact zK7 l acc
    · rw [if_neg h,if_neg h]
      cases h2:(oneS (trim m)).2.2 with
      | true=>rw [if_pos rfl,if_pos rfl]; exact zK7 l _
      | false=>rw [if_neg (by decide),if_neg (by decide)]
theorem zPW (a:UInt8) (s:Str):cutS a s≠[]:=by
  have:∀ (s:Str) st cur,segs a st cur s≠[]:=by
    intro s
    induction s with
    | nil=>intro st cur; simp [segs]
    | cons c r ih => intro st cur; unfold segs; split; · simp
                     · exact ih _ _
  exact this s 0 []
theorem zMV (s:Str) (hs:s.length≤1000000):zFa s=some (parS s):=by
  obtain ⟨c1,c2⟩:=zI7 59 s
  unfold zFa parS
  rw [zRW s (by omega),zAA]
  cases hc:cutS 59 s with
  | nil=>exact absurd hc (zPW 59 s)
  | cons x l =>
    rw [hc] at c1 c2
    have hx:=c1 x List.mem_cons_self
    have hl:l.length≤1000000:=by rw [List.length_cons] at c2; omega
    show _=some (parC x l)
    rw [zBF,zAA,zKE _ (by omega),zAA]
    unfold parC
    by_cases ht:trim x=[]
    · rw [ht,if_pos rfl]; rfl
    · rw [show (trim x==[])=false by simpa using ht,zAB,if_neg ht]
      have hsub:xsub (x :: l) 1 ((x :: l).length:Int)=some l:=by
        have:=zBz (l:=x :: l) (i:=1) (by simp)
        simpa using this
      rw [hsub,zAA]
      have:=zHt (fun (acc:List GParam) i=>(acc,i)) l parF .inl (zDf l) (fun n acc=>acc.length≤n) [] (Nat.le_refl 0) ?_ ?_
      · rw [this,zAA,zK7]
        cases parL l [] <;> rfl
      · intro n hn acc hI
        have hm:=c1 l[n] (List.mem_cons_of_mem _ (List.getElem_mem hn))
        have htl:=zIe l[n]
        refine ⟨?_,?_⟩
        · unfold zDf parF
          simp only []
          rw [zAK hn,zAC,zAG hn,zAA,zKE _ (by omega),zAA]
          by_cases h1:trim l[n]=[]
          · rw [h1,if_pos rfl,wrs (by omega)]; rfl
          · rw [show (trim l[n]==[])=false by simpa using h1,zAB,if_neg h1,zSG _ (by omega),zAA]
            cases h2:(oneS (trim l[n])).2.2 with
            | true =>
              rw [Bool.not_true,zAB,if_pos rfl,zAc (by omega) (zA1 _),zAA,wrs (by omega)]
            | false=>rw [Bool.not_false,zAC,if_neg (by decide)]
        · intro st' h
          unfold parF at h
          split at h
          · injection h with h; subst h; omega
          · split at h
            · injection h with h; subst h; rw [List.length_append,List.length_singleton]; omega
            · cases h
      · intro acc hI
        unfold zDf
        simp only []
        rw [zAH (Nat.le_refl _),zAB]
theorem zMI (s:Str) (c:UInt8) (hs:s.length≤1073741824):zDu s c 0=some (if c ∈ s then (s.idxOf c:Int) else -1):=by
  have:=Etag.Index_eq s c hs s.length 0 (by omega)
  rw [List.drop_zero,show ((0:Nat):Int)=0 from rfl] at this
  rw [this]; simp
theorem zKy (s:Str) (hs:s.length≤1000000):zCJ s=some (parS s):=by
  obtain ⟨c1,c2⟩:=zI7 59 s
  unfold zCJ parS
  rw [zPc s 59 (by decide) (by omega),zAA]
  cases hc:cutS 59 s with
  | nil=>exact absurd hc (zPW 59 s)
  | cons x l =>
    rw [hc] at c1 c2
    have hx:=c1 x List.mem_cons_self
    have hl:(x :: l).length≤1000001:=by omega
    show _=some (parC x l)
    rw [zBF,zAA,zJh _ (by omega),zAA]
    unfold parC
    by_cases ht:trim x=[]
    · rw [ht,if_pos rfl]; rfl
    · rw [show (trim x==[])=false by simpa using ht,zAB,if_neg ht]
      have:=zMM (fun (acc:List GParam) i=>(acc,i)) (x :: l) parF .inl (zBZ (x :: l)) (fun n acc=>acc.length≤n) ?_ ?_ l.length 1 [] (by simp; omega) (by simp)
      · have e:(([]:List GParam),((1:Nat):Int))=(([]:List GParam),(1:Int)):=rfl
        rw [e,show (x :: l).drop 1=l from rfl] at this
        rw [this,zAA,zK7]
        cases parL l [] <;> rfl
      · intro n hn acc hI
        have hm:=c1 (x :: l)[n] (List.getElem_mem hn)
        have htl:=zIe (x :: l)[n]
        have hx1:=zAG hn
        generalize (x :: l)[n]=m at *
        refine ⟨?_,?_⟩
        · unfold zBZ parF
          simp only []
          rw [zAK hn,zAC,hx1,zAA,zJh _ (by omega),zAA]
          by_cases h1:trim m=[]
          · rw [h1,if_pos rfl,wrs (by omega)]; rfl
          · rw [show (trim m==[])=false by simpa using h1,zAB,if_neg h1]
            generalize trim m=t at *
            have ht1:(t.take (t.idxOf 61)).length≤1073741824:=by rw [List.length_take]; omega
            have ht2:(t.drop (t.idxOf 61+1)).length≤1073741824:=by rw [List.length_drop]; omega
            rw [zMI _ _ (by omega),zAA]
            by_cases h61:(61:UInt8) ∈ t
            · have hlt:=zOv h61
              rw [if_pos h61,show decide ((t.idxOf 61:Int)<0)=false from decide_eq_false (by omega),zAB,zD9 (by omega),zAA,zCs _ ht1,zAA,zAA]
              cases htk:tok (t.take (t.idxOf 61)) with
              | false =>
                have ho:oneS t=([],[],false):=by unfold oneS; rw [if_neg (by simp [htk])]
                rw [ho]; rfl
              | true =>
                rw [Bool.not_true,zAB,wrs (by omega),zBz (by omega),zAA,zCs _ ht2,zAA]
                cases hv:tok (t.drop (t.idxOf 61+1)) with
                | true =>
                  have ho:oneS t=(lower (t.take (t.idxOf 61)),t.drop (t.idxOf 61+1),true):=by unfold oneS; rw [if_pos ⟨h61,htk⟩,if_pos hv]
                  rw [ho,Bool.not_true,zAB,zAA]
                  simp only []
                  rw [zAA,zEu _ ht1,zAA,zAc (by omega) (zA1 _),zAA,wrs (by omega)]
                  rfl
                | false =>
                  have ho:oneS t=(lower (t.take (t.idxOf 61)),(unq (t.drop (t.idxOf 61+1))).1,(unq (t.drop (t.idxOf 61+1))).2):=by unfold oneS; rw [if_pos ⟨h61,htk⟩,if_neg (by simp [hv])]
                  rw [ho,Bool.not_false,zAC,zNE _ ht2,zAA]
                  cases hu:(unq (t.drop (t.idxOf 61+1))).2 with
                  | false=>rfl
                  | true =>
                    rw [Bool.not_true,zAB,zAA]
                    simp only []
                    rw [zAA,zEu _ ht1,zAA,zAc (by omega) (zA1 _),zAA,wrs (by omega)]
                    rfl
            · have ho:oneS t=([],[],false):=by unfold oneS; rw [if_neg (fun h=>h61 h.1)]
              rw [if_neg h61,ho]; rfl
        · intro st' h
          unfold parF at h
          split at h
          · injection h with h; subst h; omega
          · split at h
            · injection h with h; subst h; rw [List.length_append,List.length_singleton]; omega
            · cases h
      · intro acc hI
        unfold zBZ
        simp only []
        rw [zAH (Nat.le_refl _),zAB]
end Go.Eng.Pure
namespace Go.Eng.Pure
open Go Go.Eng
set_option linter.unusedVariables false
theorem zHw (s:Str):(parS s).1.length≤s.length∧(parS s).2.1.length≤s.length+1:=by
  obtain ⟨c1,c2⟩:=zI7 59 s
  have hp:∀ (l:List Str) (acc ps:List GParam),parL l acc=some ps→ps.length≤acc.length+l.length:=by
    intro l
    induction l with
    | nil=>intro acc ps h; unfold parL at h; injection h with h; subst h; simp
    | cons m l ih =>
      intro acc ps h
      unfold parL at h
      split at h
      · have:=ih _ _ h; simp; omega
      · split at h
        · have:=ih _ _ h; simp at this ⊢; omega
        · cases h
  unfold parS
  cases hc:cutS 59 s with
  | nil=>simp
  | cons x l =>
    rw [hc] at c1 c2
    have hx:=c1 x List.mem_cons_self
    have ht:=zIe x
    show (parC x l).1.length≤_∧(parC x l).2.1.length≤_
    unfold parC
    split
    · simp
    · split
      · rename_i ps h
        have:=hp l [] ps h
        simp at this c2 ⊢
        omega
      · simp
def noT:GMediaType:=⟨[],[],[]⟩
def zCB (s:Str):GMediaType×Bool :=
  if (parS s).2.2 = true ∧ (47 : UInt8) ∈ (parS s).1 ∧ tok ((parS s).1.take ((parS s).1.idxOf 47)) = true ∧ tok ((parS s).1.drop ((parS s).1.idxOf 47 + 1)) = true ∧
      ¬ ((parS s).1.take ((parS s).1.idxOf 47)=[42]∧(parS s).1.drop ((parS s).1.idxOf 47+1)≠[42]) then
    (⟨lower ((parS s).1.take ((parS s).1.idxOf 47)),lower ((parS s).1.drop ((parS s).1.idxOf 47+1)),(parS s).2.1⟩,true)
  else (noT,false)
theorem zJt (s:Str) (hs:s.length≤1000000):zBC s=some (zCB s):=by
  obtain ⟨l1,_⟩:=zHw s
  unfold zBC zCB
  rw [zMV s hs,zAA]
  generalize parS s=q at *
  obtain ⟨m,ps,ok⟩:=q
  simp only [] at l1 ⊢
  cases ok with
  | false=>rw [if_neg (by simp)]; rfl
  | true =>
    rw [Bool.not_true,zAB,zLg m 47 (by omega),zAA]
    by_cases h:(47:UInt8) ∈ m
    · have h1:(m.take (m.idxOf 47)).length≤1073741824:=by rw [List.length_take]; omega
      have h2:(m.drop (m.idxOf 47+1)).length≤1073741824:=by rw [List.length_drop]; omega
      rw [if_pos h]
      simp only []
      generalize m.take (m.idxOf 47)=a at *
      generalize m.drop (m.idxOf 47+1)=b at *
      rw [zCk a h1,zAA,zCk b h2]
      cases ta:tok a with
      | false=>rw [if_neg (by simp)]; rfl
      | true =>
        cases tb:tok b with
        | false=>rw [if_neg (by simp)]; rfl
        | true =>
          rw [Bool.not_true,zAB,zAA,zAA,Bool.not_true,Bool.false_or]
          by_cases hab:a=[42]∧b≠[42]
          · rw [show ((a==[42])&&(b !=[42]))=true by rw [hab.1]; simpa using hab.2,zAC,if_neg (fun hh=>hh.2.2.2.2 hab)]; rfl
          · rw [show ((a == [42]) && (b != [42])) = false by
              rw [Bool.eq_false_iff]; intro hh; rw [Bool.and_eq_true,beq_iff_eq,bne_iff_ne] at hh; exact hab hh,zAB,zBL _ h1,zAA,zBL _ h2,zAA,if_pos (show _ from ⟨by trivial,h,by trivial,by trivial,hab⟩)]
    · rw [if_neg h,if_neg (fun hh=>h hh.2.1)]
      simp only []
      rw [zCk m (by omega),zAA]
      have:zA0 []=some false:=by rw [zCk _ (by decide)]; rfl
      rw [this]
      cases tok m <;> rfl
theorem zJy (s:Str) (hs:s.length≤1000000):zBU s=some (zCB s):=by
  obtain ⟨l1,_⟩:=zHw s
  unfold zBU zCB
  rw [zKy s hs,zAA]
  generalize parS s=q at *
  obtain ⟨m,ps,ok⟩:=q
  simp only [] at l1 ⊢
  cases ok with
  | false=>rw [if_neg (by simp)]; rfl
  | true =>
    rw [Bool.not_true,zAB,zMI m 47 (by omega),zAA]
    by_cases h:(47:UInt8) ∈ m
    · have h1:(m.take (m.idxOf 47)).length≤1073741824:=by rw [List.length_take]; omega
      have h2:(m.drop (m.idxOf 47+1)).length≤1073741824:=by rw [List.length_drop]; omega
      have hlt:=zOv h
      rw [if_pos h,show decide ((m.idxOf 47:Int)<0)=false from decide_eq_false (by omega),zAB,zD9 (by omega),zAA,wrs (by omega),zBz (by omega)]
      generalize m.take (m.idxOf 47)=a at *
      generalize m.drop (m.idxOf 47+1)=b at *
      rw [zCs a h1,zAA,zAA,zAA,zCs b h2,zAA]
      cases ta:tok a with
      | false=>rw [if_neg (by simp)]; rfl
      | true =>
        cases tb:tok b with
        | false=>rw [if_neg (by simp)]; rfl
        | true =>
          rw [Bool.not_true,zAB,zAA,zAB]
          by_cases hab:a=[42]∧b≠[42]
          · rw [if_neg (fun hh=>hh.2.2.2.2 hab),zAA]
            have hk:(bif a==[42] then (some b).bind fun s46=>some (s46 !=[42]) else some false)=some true:=by
              rw [hab.1,show (([42]:Str)==[42])=true from rfl,zAC,zAA,show (b !=[42])=true by simpa using hab.2]
            rw [hk]; rfl
          · rw [if_pos (show _ from ⟨by trivial,h,by trivial,by trivial,hab⟩),zAA]
            have hk:(bif a==[42] then (some b).bind fun s46=>some (s46 !=[42]) else some false)=some false:=by
              by_cases ha:a=[42]
              · have hb : b = [42] := by
                  by_cases hb:b=[42]
                  · exact hb
                  · exact absurd ⟨ha,hb⟩ hab
                rw [ha,hb]; rfl
              · rw [show (a==[42])=false by simpa using ha]; rfl
            rw [hk,zAA,zAA,zAB,zAA,zEu _ h1,zAA,zAA,zEu _ h2,zAA]
    · rw [if_neg h,if_neg (fun hh=>h hh.2.1)]
      rfl
def typeS (s:Str):GMediaType×Bool:=if ((!(zCB s).2||(zCB s).1.fType==[42])||(zCB s).1.fSub==[42])=true then (noT,false) else ((zCB s).1,true)
theorem zNw (s:Str) (hs:s.length≤1000000):zCz s=some (typeS s):=by
  unfold zCz typeS
  rw [zJt s hs,zAA]
  cases ((!(zCB s).2||(zCB s).1.fType==[42])||(zCB s).1.fSub==[42]) <;> rfl
theorem zN6 (s:Str) (hs:s.length≤1000000):zCr s=some (typeS s):=by
  unfold zCr typeS
  rw [zJy s hs,zAA]
  cases ((!(zCB s).2||(zCB s).1.fType==[42])||(zCB s).1.fSub==[42]) <;> rfl
theorem zMS (s:Str):(typeS s).1.fParams.length≤s.length+1:=by
  have h:=(zHw s).2
  unfold typeS
  split
  · simp [noT]
  · unfold zCB
    split
    · exact h
    · simp [noT]
def canS (k:Int) (s:Str):Str :=
  if k=4∧lower s=[120,45,103,122,105,112] then [103,122,105,112] else if k=4∧lower s=[120,45,99,111,109,112,114,101,115,115] then [99,111,109,112,114,101,115,115] else lower s
theorem zMD (k:Int) (s:Str) (hs:s.length≤1073741824):zBD k s=some (canS k s):=by
  unfold zBD canS
  rw [zBL _ hs,zAA]
  by_cases hk:k=4
  · subst hk
    rw [show ((4:Int) !=4)=false from rfl,zAB]
    generalize lower s=l
    by_cases h1:l=[103,122,105,112]
    · subst h1; rfl
    by_cases h2:l=[120,45,103,122,105,112]
    · subst h2; rfl
    by_cases h3:l=[99,111,109,112,114,101,115,115]
    · subst h3; rfl
    by_cases h4:l=[120,45,99,111,109,112,114,101,115,115]
    · subst h4; rfl
    have e1:(l==[103,122,105,112])=false:=by simpa using h1
    have e2:(l==[120,45,103,122,105,112])=false:=by simpa using h2
    have e3:(l==[99,111,109,112,114,101,115,115])=false:=by simpa using h3
    have e4:(l==[120,45,99,111,109,112,114,101,115,115])=false:=by simpa using h4
    rw [e1,e2,e3,e4,if_neg (fun h=>h2 h.2),if_neg (fun h=>h4 h.2)]
    rfl
  · rw [show (k !=4)=true by simpa using hk,zAC,if_neg (fun h=>hk h.1),if_neg (fun h=>hk h.1)]
theorem zHK (k:Int) (s:Str) (hs:s.length≤1073741824):zA7 k s=some (canS k s):=by
  unfold zA7 canS
  rw [zEu _ hs,zAA]
  by_cases h1:k=4∧lower s=[120,45,103,122,105,112]
  · rw [if_pos h1,h1.1,h1.2]; rfl
  · rw [if_neg h1, show ((k == 4) && (lower s == [120, 45, 103, 122, 105, 112])) = false by
      rw [Bool.eq_false_iff]; intro h; rw [Bool.and_eq_true,beq_iff_eq,beq_iff_eq] at h; exact h1 h,zAB]
    by_cases h2:k=4∧lower s=[120,45,99,111,109,112,114,101,115,115]
    · rw [if_pos h2,h2.1,h2.2]; rfl
    · rw [if_neg h2, show ((k == 4) && (lower s == [120, 45, 99, 111, 109, 112, 114, 101, 115, 115])) = false by
        rw [Bool.eq_false_iff]; intro h; rw [Bool.and_eq_true,beq_iff_eq,beq_iff_eq] at h; exact h2 h,zAB]
end Go.Eng.Pure
namespace Go.Eng.Pure
open Go Go.Eng
set_option linter.unusedVariables false
def sameN (p x:GParam):Bool:=x.fName==p.fName
def zMT:List GParam→List GParam→Bool
  | _,[]=>true
  | prev,p :: l=>(p.fName !=[113]&&!(prev.any (sameN p)))&&zMT (prev++[p]) l
theorem zL2 (ms:List GParam) (f:GParam→Option Bool) (p:GParam→Bool) (hl:ms.length≤1073741824) (h:∀ m ∈ ms,f m=some (p m)):zAW ms f=some (ms.any p):=by
  have key:∀ (k n:Nat),n+k=ms.length→∃ r,zAF (zAL ms f) (n:Int)=some r∧(match r with | .inr i=>decide (0≤i) | .inl _=>false)=(ms.drop n).any p:=by
    intro k
    induction k with
    | zero =>
      intro n hn
      obtain rfl:n=ms.length:=by omega
      refine ⟨.inl (),zAE ?_,by simp⟩
      simp only [zAL,zAH (Nat.le_refl ms.length),zAB]
    | succ k ih =>
      intro n hn
      have hlt:n<ms.length:=by omega
      have hb:zAL ms f (n:Int)=some (if p ms[n] then .inr (.inr (n:Int)) else .inl ((n+1:Nat):Int)):=by
        simp only [zAL,zAK hlt,zAC,zAG hlt,zAA,h _ (List.getElem_mem hlt),wrs (show n≤4*1073741824 by omega)]
        cases p ms[n] <;> rfl
      rw [List.drop_eq_getElem_cons hlt,List.any_cons]
      cases hp:p ms[n] with
      | true =>
        rw [hp,if_pos rfl] at hb
        exact ⟨_,zAE hb,by show decide ((0:Int)≤(n:Int))=_; rw [decide_eq_true (by omega)]; rfl⟩
      | false =>
        rw [hp,if_neg (by decide)] at hb
        obtain ⟨r,h1,h2⟩:=ih (n+1) (by omega)
        exact ⟨r,by rw [zAI hb,h1],by rw [h2]; rfl⟩
  obtain ⟨r,h1,h2⟩:=key ms.length 0 (by omega)
  have h1:zAF (zAL ms f) 0=some r:=h1
  unfold zAW zAT
  rw [h1,zAA]
  rw [List.drop_zero] at h2
  rw [← h2]
  cases r <;> rfl
theorem zMJ (l : List GParam) (hl : l.length ≤ 1000001) (body : (Bool × Int) → Option ((Bool × Int) ⊕ Bool))
    (h:∀ (n:Nat) (hn:n<l.length) (b:Bool),body (b,(n:Int))=some (.inl (b&&(l[n].fName !=[113]&&!((l.take n).any (sameN l[n]))),((n+1:Nat):Int)))) (h':∀ b,body (b,(l.length:Int))=some (.inr b)) :
    ∀ (k n:Nat) (b:Bool),n+k=l.length→zAF body (b,(n:Int))=some (b&&zMT (l.take n) (l.drop n)):=by
  intro k
  induction k with
  | zero =>
    intro n b hn
    have:n=l.length:=by omega
    subst this
    rw [zAE (h' b),List.drop_length]; unfold zMT; rw [Bool.and_true]
  | succ k ih =>
    intro n b hn
    have hlt:n<l.length:=by omega
    rw [zAI (h n hlt b),ih (n+1) _ (by omega)]
    conv=>rhs; rw [List.drop_eq_getElem_cons hlt]
    conv=>rhs; unfold zMT
    rw [zAl hlt,Bool.and_assoc]
def zNX (s:Str):Bool:=(typeS s).2&&zMT [] (typeS s).1.fParams
theorem zQt (s:Str) (hs:s.length≤1000000):zCU () s=some (lower s,zNX s):=by
  have hl:=zMS s
  unfold zCU zNX
  rw [zNw s hs,zAA]
  have:=zMJ (typeS s).1.fParams (by omega) (zBE (typeS s)) ?_ ?_ (typeS s).1.fParams.length 0 (typeS s).2 (by omega)
  · rw [show ((0:Nat):Int)=0 from rfl,List.take_zero,List.drop_zero] at this
    rw [this,zAA,zBL _ (by omega),zAA]
  · intro n hn b
    unfold zBE
    simp only []
    rw [zAK hn,zAC,zAG hn,zAA,wrs (by omega)]
    generalize hp:(typeS s).1.fParams[n]=p
    have hc:zAW ((typeS s).1.fParams.take n) (fun x0=>zB1 x0 p)=some (((typeS s).1.fParams.take n).any (sameN p)) :=
      zL2 _ _ _ (by rw [List.length_take]; omega) (fun m _=>rfl)
    cases hb:b&&(p.fName !=[113]) with
    | true =>
      rw [zAC,zD9 (by omega),zAA,hc,zAA,zAA]
      rw [Bool.and_eq_true] at hb
      rw [hb.1,hb.2,Bool.true_and,Bool.true_and]
    | false =>
      rw [zAB,zAA]
      have:(b&&(p.fName !=[113]&&!(((typeS s).1.fParams.take n).any (sameN p))))=false:=by rw [← Bool.and_assoc,hb]; rfl
      rw [this]
  · intro b
    unfold zBE
    simp only []
    rw [zAH (Nat.le_refl _),zAB]
def txtOK (s:Str):Bool:=((decide (1≤s.length)&&decide (s.length≤100))&&txt s)&&(trim s==s)
def domF (n:Str):Gvariants_domain:=if kindF n=1 then .media else if kindF n=2 then .tags else if kindF n=3∨kindF n=4 then .words (kindF n) else .texts
def formD:Gvariants_domain→Str→Str×Bool
  | .media,s=>(lower s,zNX s)
  | .tags,s=>(lower s,langS s)
  | .words k,s=>(canS k s,tok s&&s !=[42])
  | .texts,s=>(s,txtOK s)
theorem zNh (n:Str) (hn:n.length≤1073741824):zCF n=some (domF n):=by
  unfold zCF domF
  rw [zM7 n hn,zAA]
  generalize kindF n=k
  by_cases h1:k=1
  · subst h1; rfl
  by_cases h2:k=2
  · subst h2; rfl
  by_cases h3:k=3
  · subst h3; rfl
  by_cases h4:k=4
  · subst h4; rfl
  rw [show (k==1)=false by simpa using h1,show (k==2)=false by simpa using h2,show (k==3)=false by simpa using h3,show (k==4)=false by simpa using h4,if_neg h1,if_neg h2,if_neg (by omega)]
  rfl
theorem le1 (n:Nat):decide ((1:Int)≤(n:Int))=decide (1≤n):=zFB 1 n
theorem le100 (n:Nat):decide ((n:Int)≤100)=decide (n≤100):=zFB n 100
theorem zMs (d:Gvariants_domain) (s:Str) (hs:s.length≤1000000):zBY d s=some (formD d s):=by
  cases d with
  | media=>exact zQt s hs
  | tags =>
    show zCl () s=some (lower s,langS s)
    unfold zCl
    rw [zBL _ (by omega),zAA,zPy s hs,zAA]
  | words k =>
    show zCS k s=some (canS k s,tok s&&s !=[42])
    unfold zCS
    rw [zMD _ _ (by omega),zAA,zCk _ (by omega),zAA]
  | texts =>
    show zCO () s=some (s,txtOK s)
    unfold zCO txtOK
    rw [le1,le100,zPe _ (by omega),zKE _ (by omega)]
    cases decide (1≤s.length) <;> cases decide (s.length≤100) <;> cases txt s <;> rfl
theorem zNJ (n a b:Str) (hn:n.length≤1073741824) (ha:a.length≤1000000) (hb:b.length≤1000000):zEP n a b=some ((formD (domF n) a).1==(formD (domF n) b).1):=by
  unfold zEP
  rw [zNh n hn,zAA,zMs _ a ha,zAA,zMs _ b hb,zAA]
end Go.Eng.Pure
namespace Go.Eng.Pure
open Go Go.Eng
set_option linter.unusedVariables false
theorem zLC (a b:Str):fold a b=(lower a==lower b):=by
  unfold fold
  cases h:lower a==lower b with
  | false=>rw [Bool.and_false]
  | true =>
    have h2:lower a=lower b:=by simpa using h
    have:a.length=b.length:=by rw [← zCG a,h2,zCG]
    rw [Bool.and_true,this]; simp
theorem zN2 (n a b:Str) (hn:n.length≤1073741824) (ha:a.length≤1000000) (hb:b.length≤1000000):zGX n a b=some ((formD (domF n) a).1==(formD (domF n) b).1):=by
  unfold zGX domF
  rw [zK9 n hn,zAA]
  generalize kindF n=k
  by_cases h1:k=1
  · subst h1; rw [zEj _ _ (by omega) (by omega),zLC]; rfl
  by_cases h2:k=2
  · subst h2; rw [zEj _ _ (by omega) (by omega),zLC]; rfl
  by_cases h3:k=3
  · subst h3; rw [zHK _ _ (by omega),zHK _ _ (by omega)]; rfl
  by_cases h4:k=4
  · subst h4; rw [zHK _ _ (by omega),zHK _ _ (by omega)]; rfl
  rw [show (k==1)=false by simpa using h1,show (k==2)=false by simpa using h2,show (k==3)=false by simpa using h3,show (k==4)=false by simpa using h4,if_neg h1,if_neg h2,if_neg (by omega)]
  rfl
theorem zQj (l : List GParam) (n : Nat) (hn : n < l.length) (hl : l.length ≤ 1000001) (r : GMediaType × Bool) (hr : r.1.fParams = l) : ∀ (k i : Nat) (b : Bool), i + k = n →
    zAF (zB5 r (n:Int)) (b,(i:Int))=some (b&&!(((l.take n).drop i).any (sameN l[n]))):=by
  intro k
  induction k with
  | zero =>
    intro i b hi
    have:i=n:=by omega
    subst this
    have hb:zB5 r (i:Int) (b,(i:Int))=some (.inr b):=by
      unfold zB5
      simp only []
      rw [zAH (Nat.le_refl _),zAB]
    rw [zAE hb,List.drop_eq_nil_of_le (by rw [List.length_take]; omega)]; simp
  | succ k ih =>
    intro i b hi
    have hlt:i<l.length:=by omega
    have hb:zB5 r (n:Int) (b,(i:Int))=some (.inl (b&&(l[n].fName !=l[i].fName),((i+1:Nat):Int))):=by
      unfold zB5
      simp only []
      rw [hr,zAK (show i<n by omega),zAC,zAG hn,zAA,zAG hlt,zAA,wrs (by omega)]
      cases b <;> rfl
    have hd:(l.take n).drop i=l[i] :: (l.take n).drop (i+1):=by
      rw [List.drop_eq_getElem_cons (by rw [List.length_take]; omega),List.getElem_take]
    rw [zAI hb,ih (i+1) _ (by omega),hd,List.any_cons]
    have e:sameN l[n] l[i]=!(l[n].fName !=l[i].fName):=by
      unfold sameN
      rw [bne,Bool.not_not,Bool.eq_iff_iff,beq_iff_eq,beq_iff_eq]
      exact ⟨Eq.symm,Eq.symm⟩
    rw [e]
    cases b <;> cases l[n].fName !=l[i].fName <;> simp
theorem zOZ (n s:Str) (hn:n.length≤1073741824) (hs:s.length≤1000000):zGz n s=some (formD (domF n) s).2:=by
  have hl:=zMS s
  have hm:zAF (zCe (typeS s)) ((typeS s).2,0)=some (zNX s):=by
    have:=zMJ (typeS s).1.fParams (by omega) (zCe (typeS s)) ?_ ?_ (typeS s).1.fParams.length 0 (typeS s).2 (by omega)
    · rw [show ((0:Nat):Int)=0 from rfl,List.take_zero,List.drop_zero] at this
      exact this
    · intro k hk b
      have hin:=zQj _ k hk (by omega) (typeS s) rfl k 0 b (by omega)
      rw [show ((0:Nat):Int)=0 from rfl,List.drop_zero] at hin
      unfold zCe
      simp only []
      rw [zAK hk,zAC,hin,zAA,zAG hk,wrs (by omega)]
      generalize ((typeS s).1.fParams.take k).any (sameN (typeS s).1.fParams[k])=y
      cases b <;> cases y <;> simp
    · intro b
      unfold zCe
      simp only []
      rw [zAH (Nat.le_refl _),zAB]
  unfold zGz domF
  rw [zK9 n hn,zAA]
  generalize kindF n=k
  by_cases h1:k=1
  · subst h1; rw [zN6 s hs]; simp only [zAA]; rw [hm]; rfl
  by_cases h2:k=2
  · subst h2; rw [zND s hs]; rfl
  by_cases h3:k=3
  · subst h3; rw [zCs s (by omega)]; rfl
  by_cases h4:k=4
  · subst h4; rw [zCs s (by omega)]; rfl
  rw [show (k==1)=false by simpa using h1,show (k==2)=false by simpa using h2,show (k==3)=false by simpa using h3,show (k==4)=false by simpa using h4,if_neg h1,if_neg h2,if_neg (by omega)]
  rw [le1,le100,zQ5 _ (by omega),zJh _ (by omega)]
  show _=some (txtOK s)
  unfold txtOK
  cases decide (1≤s.length) <;> cases decide (s.length≤100) <;> cases txt s <;> rfl
def chk {α:Type} (ok:List α→α→Bool):List α→List α→Bool
  | _,[]=>true
  | prev,x :: l=>ok prev x&&chk ok (prev++[x]) l
theorem zLT {α : Type} (l : List α) (ok : List α → α → Bool) (body : Int → Option (Int ⊕ (Unit ⊕ Bool)))
    (h:∀ (n:Nat) (hn:n<l.length),body (n:Int)=some (if ok (l.take n) l[n] then .inl ((n+1:Nat):Int) else .inr (.inr false))) (h':body (l.length:Int)=some (.inr (.inl ()))) :
    zAF body 0=some (if chk ok [] l then .inl () else .inr false):=by
  have key:∀ (k n:Nat),n+k=l.length→zAF body (n:Int)=some (if chk ok (l.take n) (l.drop n) then .inl () else .inr false):=by
    intro k
    induction k with
    | zero =>
      intro n hn
      have:n=l.length:=by omega
      subst this
      rw [zAE h',List.drop_length]; rfl
    | succ k ih =>
      intro n hn
      have hlt:n<l.length:=by omega
      have hb:=h n hlt
      conv=>rhs; rw [List.drop_eq_getElem_cons hlt]
      unfold chk
      cases hs:ok (l.take n) l[n] with
      | true=>rw [hs] at hb; rw [zAI hb,ih (n+1) (by omega),Bool.true_and,zAl hlt]
      | false=>rw [hs] at hb; rw [zAE hb]; rfl
  have:=key l.length 0 (by omega)
  rw [show ((0:Nat):Int)=0 from rfl,List.take_zero,List.drop_zero] at this
  exact this
end Go.Eng.Pure
