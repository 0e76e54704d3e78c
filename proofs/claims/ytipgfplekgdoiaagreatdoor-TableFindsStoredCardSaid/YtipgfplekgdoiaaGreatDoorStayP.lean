/- A part. -/
import Derived.Test.YtipgfplekgdoiaaGreatDoorFindE
import Derived.Test.YtipgfplekgdoiaaGreatDoorTabY
set_option linter.unusedVariables false
namespace Go.Eng.Pure
open Go Go.Eng
set_option linter.unusedVariables false
def zFF (R:List (List Str)):List Str:=R.map fun r=>r.headD []
def rowsS (axes:List GAxis) (l:List GField) (strict:Bool):List (List Str):=axes.map (rkS l strict)
def fullR (R:List (List Str)):Bool:=R.all fun r=>!r.isEmpty
def bestS (axes:List GAxis) (l:List GField) (strict:Bool):List Str×Bool:=if valB axes&&fullR (rowsS axes l strict) then (zFF (rowsS axes l strict),true) else ([],false)
theorem zN3 {axes:List GAxis} (h:valB axes=true):1≤axes.length∧axes.length≤4:=by
  unfold valB at h
  simp only [Bool.and_eq_true,decide_eq_true_eq] at h
  exact h.1
theorem zJi {α:Type} {l:List α} {n:Nat} (x:α) (h:n<l.length):xput l (n:Int) x=some (l.set n x):=by
  unfold xput
  rw [if_pos ⟨by omega,by omega⟩]; rfl
theorem zKF {α:Type} (n:Nat) (z:α) (h:n≤1000):xmake (n:Int) z=some (List.replicate n z):=by
  unfold xmake
  rw [if_pos ⟨by omega,by omega⟩]; rfl
theorem zPE {α:Type} (a:List α) (z x:α) (k:Nat):(a++List.replicate (k+1) z).set a.length x=(a++[x])++List.replicate k z:=by
  rw [List.set_append_right _ _ (Nat.le_refl _),Nat.sub_self,List.replicate_succ,List.set_cons_zero,List.append_assoc]; rfl
theorem zPT (axes : List GAxis) (l : List GField) (strict : Bool) (ha : ∀ a ∈ axes, smA a) (hl : smL l) (hn : axes.length ≤ 4) :
    zAF (zBi axes l strict) (0,List.replicate axes.length [])=some (if fullR (rowsS axes l strict) then .inl (rowsS axes l strict) else .inr []):=by
  have:=zHt (fun (st:List (List Str)) i=>(i,st++List.replicate (axes.length - st.length) [])) axes (fun st a=>if (rkS l strict a).isEmpty then .inr (.inr []) else .inl (st++[rkS l strict a])) (fun st=>(.inl st:List (List Str) ⊕ List (List Str))) (zBi axes l strict) (fun n st=>st.length=n) [] rfl ?_ ?_
  · simp only [List.nil_append,List.length_nil,Nat.sub_zero] at this
    rw [this]
    have e:∀ (xs:List GAxis) (st:List (List Str)),run (fun st a=>if (rkS l strict a).isEmpty then .inr (.inr []) else .inl (st++[rkS l strict a])) (fun st=>(.inl st:List (List Str) ⊕ List (List Str))) xs st=if fullR (xs.map (rkS l strict)) then .inl (st++xs.map (rkS l strict)) else .inr []:=by
      intro xs
      induction xs with
      | nil=>intro st; simp [run,fullR]
      | cons x xs ih =>
        intro st
        unfold run
        cases hx:(rkS l strict x).isEmpty with
        | true=>simp [fullR,hx]
        | false =>
          rw [if_neg (by decide)]
          simp only []
          rw [ih]
          unfold fullR
          rw [List.map_cons,List.all_cons,hx,Bool.not_false,Bool.true_and,List.append_assoc]; rfl
    rw [e,List.nil_append]; rfl
  · intro n hlt st hI
    subst hI
    have hm:=ha _ (List.getElem_mem hlt)
    have hk:axes.length - st.length=(axes.length - (st.length+1))+1:=by omega
    refine ⟨?_,?_⟩
    · unfold zBi
      simp only []
      rw [zAK hlt,zAC,zAG hlt,zAA,zOF _ l strict hm hl,zAA]
      generalize rkS l strict axes[st.length]=r
      rw [hk]
      have hln:st.length<(st++List.replicate (axes.length - (st.length+1)+1) ([]:List Str)).length:=by simp
      rw [zAG hln,zAA,zJi r hln,zAA,zPE]
      have hl2:st.length<((st++[r])++List.replicate (axes.length - (st.length+1)) ([]:List Str)).length:=by simp
      have hg:((st++[r])++List.replicate (axes.length - (st.length+1)) ([]:List Str))[st.length]=r:=by simp
      rw [zAG hl2,zAA,hg,show ((r.length:Int)==0)=r.isEmpty by rw [show ((r.length:Int)==0)=(r.length==0) from eqI _ 0]; cases r <;> rfl,wrs (by omega)]
      cases r.isEmpty with
      | true=>rfl
      | false =>
        rw [zAB,if_neg (by decide)]
        simp only [List.length_append,List.length_singleton]
    · intro st' h
      split at h
      · cases h
      · injection h with h; subst h; simp
  · intro st hI
    unfold zBi
    simp only []
    rw [zAH (Nat.le_refl _),zAB,hI,Nat.sub_self,List.replicate_zero,List.append_nil]
theorem zRC (R:List (List Str)) (hf:fullR R=true) (hn:R.length≤4):zAF (zBh R (List.replicate R.length 0)) (0,List.replicate R.length [])=some (zFF R):=by
  have hz:(List.replicate R.length (0:Int)).length=R.length:=List.length_replicate
  have:=zBB (fun (st:List Str) i=>(i,st++List.replicate (R.length - st.length) [])) R (fun st r=>st++[r.headD []]) id (zBh R (List.replicate R.length 0)) (fun n st=>st.length=n) [] rfl ?_ ?_
  · simp only [List.nil_append,List.length_nil,Nat.sub_zero] at this
    rw [this]
    have e:∀ (xs:List (List Str)) (st:List Str),xs.foldl (fun st r=>st++[r.headD []]) st=st++zFF xs:=by
      intro xs
      induction xs with
      | nil=>intro st; simp [zFF]
      | cons x xs ih=>intro st; rw [List.foldl_cons,ih,List.append_assoc]; rfl
    rw [e]; rfl
  · intro n hlt st hI
    subst hI
    have hk:R.length - st.length=(R.length - (st.length+1))+1:=by omega
    refine ⟨?_,by simp⟩
    unfold zBh
    simp only []
    have hzl:st.length<(List.replicate R.length (0:Int)).length:=by rw [hz]; exact hlt
    have hr:∃ x xs,R[st.length]=x :: xs:=by
      unfold fullR at hf
      rw [List.all_eq_true] at hf
      have:=hf _ (List.getElem_mem hlt)
      cases hr:R[st.length] with
      | nil=>rw [hr] at this; simp at this
      | cons x xs=>exact ⟨x,xs,rfl⟩
    obtain ⟨x,xs,hr⟩:=hr
    rw [hz,zAK hlt,zAC,zAG hzl,zAA,zAG hlt,zAA,List.getElem_replicate,hr,zBF,zAA,hk]
    have hln:st.length<(st++List.replicate (R.length - (st.length+1)+1) ([]:Str)).length:=by simp
    rw [zAG hln,zAA,zJi x hln,zAA,zPE,wrs (by omega)]
    simp only [List.length_append,List.length_singleton,List.headD_cons]
  · intro st hI
    unfold zBh
    simp only []
    rw [hz,zAH (Nat.le_refl _),zAB,hI,Nat.sub_self,List.replicate_zero,List.append_nil]; rfl
theorem zOW (R:List (List Str)) (hn:R.length≤4) (hr:∀ r ∈ R,r.length≤16):∀ n,n≤R.length→∃ y:Int,y<R.length∧zAF (zBg R) ((n:Int) - 1,List.replicate R.length 0)=some (y,List.replicate R.length 0):=by
  have hz:(List.replicate R.length (0:Int)).length=R.length:=List.length_replicate
  intro n
  induction n with
  | zero =>
    intro _
    refine ⟨-1,by omega,zAE ?_⟩
    unfold zBg
    rfl
  | succ n ih =>
    intro hle
    have hlt:n<R.length:=by omega
    have hzl:n<(List.replicate R.length (0:Int)).length:=by rw [hz]; exact hlt
    have hrl:=hr _ (List.getElem_mem hlt)
    have e:((n+1:Nat):Int) - 1=(n:Int):=by omega
    have hb:zBg R ((n:Int),List.replicate R.length 0)=some (if R[n].length=1 then .inl ((n:Int) - 1,List.replicate R.length 0) else .inr ((n:Int),List.replicate R.length 0)):=by
      unfold zBg
      simp only []
      rw [decide_eq_true (by omega),zAC,zAG hzl,zAA,zAG hlt,zAA,List.getElem_replicate,zAA,wr_eq ⟨by omega,by omega⟩,wr_eq ⟨by omega,by omega⟩,zAA,zJi 0 hzl,zAA]
      have hs:(List.replicate R.length (0:Int)).set n 0=List.replicate R.length 0:=by
        apply List.ext_getElem (by simp)
        intro i h1 h2
        rw [List.getElem_set]
        simp
      rw [hs]
      by_cases h1:R[n].length=1
      · rw [if_pos h1,show ((0:Int)==(R[n].length:Int) - 1)=true by rw [beq_iff_eq]; omega,zAC]
      · rw [if_neg h1,show ((0:Int)==(R[n].length:Int) - 1)=false by rw [beq_eq_false_iff_ne]; omega,zAB]
    rw [e]
    by_cases h1:R[n].length=1
    · rw [if_pos h1] at hb
      obtain ⟨y,h2,h3⟩:=ih (by omega)
      exact ⟨y,h2,by rw [zAI hb]; exact h3⟩
    · rw [if_neg h1] at hb
      exact ⟨n,by omega,zAE hb⟩
theorem zQW (axes : List GAxis) (R : List (List Str)) (he : axes.length = R.length) (hf : fullR R = true) (hn : R.length ≤ 4) (hr : ∀ r ∈ R, r.length ≤ 16) :
    zAF (zBJ axes 1 R) (([]:List (List Str)),List.replicate R.length 0)=some [zFF R]:=by
  have hz:(List.replicate R.length (0:Int)).length=R.length:=List.length_replicate
  obtain ⟨y,h1,h2⟩:=zOW R hn hr R.length (Nat.le_refl _)
  have hdone:∀ D:List Int,zAF (zBJ axes 1 R) ([zFF R],D)=some [zFF R]:=by
    intro D
    refine zAE ?_
    unfold zBJ
    rfl
  have hb:zBJ axes 1 R (([]:List (List Str)),List.replicate R.length 0)=some (if y<0 then .inr [zFF R] else .inl ([zFF R],(List.replicate R.length (0:Int)).set y.toNat 1)):=by
    unfold zBJ
    simp only []
    rw [show decide ((([]:List (List Str)).length:Int)<1)=true from rfl,zAC,he,zKF _ _ (by omega),zAA,zRC R hf hn,zAA,zAc (by simp) (zA1 _),zAA,hz,wr_eq ⟨by omega,by omega⟩,h2,zAA]
    simp only [List.nil_append]
    by_cases hy:y<0
    · rw [decide_eq_true hy,zAC,if_pos hy]
    · have hyn:y=((y.toNat:Nat):Int):=by omega
      have hlt:y.toNat<(List.replicate R.length (0:Int)).length:=by rw [hz]; omega
      rw [decide_eq_false hy,zAB,if_neg hy]
      generalize y.toNat=m at *
      subst hyn
      rw [zAG hlt,zAA,zAA,List.getElem_replicate,zJi _ hlt,zAA]
      rfl
  by_cases hy:y<0
  · rw [if_pos hy] at hb; exact zAE hb
  · rw [if_neg hy] at hb; rw [zAI hb]; exact hdone _
theorem zRx (axes:List GAxis) (l:List GField) (strict:Bool):∀ r ∈ rowsS axes l strict,r.length≤16:=by
  intro r hr
  unfold rowsS at hr
  rw [List.mem_map] at hr
  obtain ⟨a,_,rfl⟩:=hr
  exact (zO2 a l strict).1
theorem zRd (axes:List GAxis) (l:List GField) (strict:Bool) (ha:∀ a ∈ axes,smA a) (hl:smL l):zEn axes l strict=some (bestS axes l strict):=by
  unfold zEn zGB bestS
  rw [zHH axes ha,zAA]
  cases hv:valB axes with
  | false=>rfl
  | true =>
    obtain ⟨n1,n2⟩:=zN3 hv
    have he:axes.length=(rowsS axes l strict).length:=by unfold rowsS; rw [List.length_map]
    rw [Bool.not_true,zAB,zKF _ _ (by omega),zAA,zPT axes l strict ha hl n2,zAA,zKF _ _ (by omega),Bool.true_and]
    simp only [zAA]
    cases hf:fullR (rowsS axes l strict) with
    | false=>rfl
    | true =>
      rw [if_pos rfl,if_pos rfl]
      simp only []
      have:=zQW axes (rowsS axes l strict) he hf (by omega) (zRx axes l strict)
      rw [← he] at this
      rw [this,zAA,zAA]
      rfl
def prodS (st:List (List Str)) (R:List (List Str)):List (List Str):=R.foldl (fun st r=>st.flatMap fun o=>r.map fun x=>o++[x]) st
theorem zNq:∀ R:List (List Str),prodS [] R=[]
  | []=>rfl
  | r :: R=>by
    show prodS ([].flatMap _) R=[]
    rw [List.flatMap_nil]
    exact zNq R
theorem zKj:∀ (R:List (List Str)) (o:List Str) (st:List (List Str)),fullR R=true→∃ m,prodS (o :: st) R=(o++zFF R) :: m
  | [],o,st,_=>⟨st,by simp [prodS,zFF]⟩
  | r :: R,o,st,h=>by
    unfold fullR at h
    rw [List.all_cons,Bool.and_eq_true] at h
    cases r with
    | nil=>simp at h
    | cons x xs =>
      obtain ⟨m,hm⟩:=zKj R (o++[x]) ((xs.map fun x=>o++[x])++st.flatMap fun o=>(x :: xs).map fun x=>o++[x]) h.2
      refine ⟨m,?_⟩
      show prodS ((o :: st).flatMap fun o=>(x :: xs).map fun x=>o++[x]) R=_
      rw [List.flatMap_cons,List.map_cons,List.cons_append,hm]
      simp [zFF]
theorem zKw:∀ (R:List (List Str)) (st:List (List Str)),fullR R=false→prodS st R=[]
  | [],st,h=>by simp [fullR] at h
  | r :: R,st,h=>by
    show prodS (st.flatMap fun o=>r.map fun x=>o++[x]) R=[]
    cases r with
    | nil =>
      have:(st.flatMap fun o=>([]:List Str).map fun x=>o++[x])=[]:=by simp
      rw [this,zNq]
    | cons x xs =>
      refine zKw R _ ?_
      unfold fullR at h ⊢
      rw [List.all_cons] at h
      simpa using h
theorem zR8 (out : List (List Str)) (r : List Str) (k : Nat) (hk : k < out.length) (ho : out[k].length ≤ 1000) (hr : r.length ≤ 16) (next : List (List Str)) (hn : next.length ≤ 1000000000) :
    zAF (zC8 out r (k:Int)) (next,0)=some (next++r.map fun x=>out[k]++[x]):=by
  have:=zBB (fun (st:List (List Str)) i=>(st,i)) r (fun st x=>st++[out[k]++[x]]) id (zC8 out r (k:Int)) (fun n st=>st.length=next.length+n) next rfl ?_ ?_
  · rw [this]
    have e:∀ (xs:List Str) (st:List (List Str)),xs.foldl (fun st x=>st++[out[k]++[x]]) st=st++xs.map fun x=>out[k]++[x]:=by
      intro xs
      induction xs with
      | nil=>intro st; simp
      | cons x xs ih=>intro st; rw [List.foldl_cons,ih,List.append_assoc]; rfl
    rw [e]; rfl
  · intro n hlt st hI
    refine ⟨?_,by rw [List.length_append,List.length_singleton]; omega⟩
    unfold zC8
    simp only []
    rw [zAK hlt,zAC,zAG hk,zAA,zAc (by simp) (by omega),zAA,zAG hlt,zAA,List.nil_append,zAc (by omega) (zA1 _),zAA,zAc (by omega) (zA1 _),zAA,wrs (by omega)]
  · intro st hI
    unfold zC8
    simp only []
    rw [zAH (Nat.le_refl _),zAB]; rfl
theorem zQm (out : List (List Str)) (r : List Str) (hl : out.length ≤ 5000000) (ho : ∀ o ∈ out, o.length ≤ 1000) (hr : r.length ≤ 16) :
    zAF (zDF out r) (([]:List (List Str)),0)=some (out.flatMap fun o=>r.map fun x=>o++[x]):=by
  have:=zBB (fun (st:List (List Str)) i=>(st,i)) out (fun st o=>st++r.map fun x=>o++[x]) id (zDF out r) (fun n st=>st.length≤16*n) [] (by simp) ?_ ?_
  · rw [this,zGv]; rfl
  · intro n hlt st hI
    have h1:=ho _ (List.getElem_mem hlt)
    refine ⟨?_,by rw [List.length_append,List.length_map]; omega⟩
    unfold zDF
    simp only []
    rw [zAK hlt,zAC,zR8 out r n hlt h1 hr st (by omega),zAA,wrs (by omega)]
  · intro st hI
    unfold zDF
    simp only []
    rw [zAH (Nat.le_refl _),zAB]; rfl
theorem zR7 (st:List (List Str)) (r:List Str) (hr:r.length≤16) (B C:Nat) (h:st.length≤B) (ho:∀ o ∈ st,o.length≤C):(st.flatMap fun o=>r.map fun x=>o++[x]).length≤16*B∧∀ o ∈ st.flatMap (fun o=>r.map fun x=>o++[x]),o.length≤C+1:=by
  constructor
  · have : ∀ st : List (List Str), (st.flatMap fun o => r.map fun x => o ++ [x]).length ≤ 16 * st.length := by
      intro st
      induction st with
      | nil=>simp
      | cons o st ih=>rw [List.flatMap_cons,List.length_append,List.length_map,List.length_cons]; omega
    have:=this st
    omega
  · intro o hm
    rw [List.mem_flatMap] at hm
    obtain ⟨p,hp,hm⟩:=hm
    rw [List.mem_map] at hm
    obtain ⟨x,_,rfl⟩:=hm
    have:=ho p hp
    rw [List.length_append,List.length_singleton]; omega
theorem zQP (axes : List GAxis) (l : List GField) (strict : Bool) (ha : ∀ a ∈ axes, smA a) (hl : smL l) (hn : axes.length ≤ 4) :
    zAF (zDE axes l strict) (([([]:List Str)]:List (List Str)),0)=some (prodS [[]] (rowsS axes l strict)):=by
  have:=zBB (fun (st:List (List Str)) i=>(st,i)) axes (fun st a=>st.flatMap fun o=>(rkS l strict a).map fun x=>o++[x]) id (zDE axes l strict) (fun n st=>st.length≤16 ^ n∧∀ o ∈ st,o.length≤n) [[]] (by simp) ?_ ?_
  · rw [this]
    unfold prodS rowsS
    rw [List.foldl_map]; rfl
  · intro n hlt st hI
    have hm:=ha _ (List.getElem_mem hlt)
    have hr:=(zO2 axes[n] l strict).1
    have hB:st.length≤65536:=Nat.le_trans hI.1 (Nat.pow_le_pow_right (by omega) (show n≤4 by omega))
    refine ⟨?_,?_⟩
    · unfold zDE
      simp only []
      rw [zAK hlt,zAC,zAG hlt,zAA,zOV _ l strict hm hl,zAA,zQm st _ (by omega) (fun o ho=>by have:=hI.2 o ho; omega) hr,zAA,wrs (by omega)]
    · have:=zR7 st (rkS l strict axes[n]) hr (16 ^ n) n hI.1 hI.2
      rw [Nat.pow_succ,Nat.mul_comm]
      exact this
  · intro st hI
    unfold zDE
    simp only []
    rw [zAH (Nat.le_refl _),zAB]; rfl
theorem zQU (axes:List GAxis) (l:List GField) (strict:Bool) (ha:∀ a ∈ axes,smA a) (hl:smL l):zHq axes l strict=some (bestS axes l strict):=by
  unfold zHq zIz bestS
  rw [zPI axes ha,zAA]
  cases hv:valB axes with
  | false=>rfl
  | true =>
    obtain ⟨n1,n2⟩:=zN3 hv
    rw [Bool.not_true,zAB,zQP axes l strict ha hl n2,zAA,Bool.true_and]
    cases hf:fullR (rowsS axes l strict) with
    | false=>rw [zKw _ _ hf]; rfl
    | true =>
      obtain ⟨m,hm⟩:=zKj (rowsS axes l strict) [] [] hf
      rw [hm,if_pos rfl,List.nil_append]
      by_cases h64:64<(zFF (rowsS axes l strict) :: m).length
      · rw [decide_eq_true (by omega),zAC,show ((64:Int))=((64:Nat):Int) from rfl,zD9 (by omega),zAA,zAA,zAA]
        rfl
      · rw [decide_eq_false (by omega),zAB,zAA,zAA]
        rw [show (((zFF (rowsS axes l strict) :: m).length:Int)==0)=false by rw [beq_eq_false_iff_ne]; simp; omega,zAB,zBF,zAA]
end Go.Eng.Pure
namespace Go.Eng.Pure
open Go Go.Eng
set_option linter.unusedVariables false
def badX (a:GAxis):Bool:=decide (100<a.fName.length)||!keepS a.fValues
def keepX (l:List GAxis):Bool:=!((l.take 7).any badX)&&decide (l.length≤6)
theorem zLx (l:List GAxis):zIU l=some (keepX l):=by
  unfold zIU keepX
  rw [zGZ l 7 badX]
  · have e:decide ((l.length:Int)≤6)=decide (l.length≤6):=zFB l.length 6
    rw [e]
    cases (l.take 7).any badX <;> simp
  · intro n hn hm
    have e1:decide ((n:Int)<7)=true:=zAK hm
    have e2:wr ((n:Int)+1)=(n:Int)+1:=by rw [wrs (n:=n) (by omega)]; omega
    have e3:decide (100<((l[n].fName.length:Nat):Int))=decide (100<l[n].fName.length):=zJO 100 _
    simp only [zFr,zAK hn,e1,Bool.and_self,zAC,zAG hn,zAA,e2,zEN,e3]
    unfold badX
    cases decide (100<l[n].fName.length) <;> cases keepS l[n].fValues <;> rfl
  · intro n hn
    have:(decide ((n:Int)<(l.length:Int))&&decide ((n:Int)<7))=false:=by
      rcases hn with h | h
      · rw [zAH h]; rfl
      · rw [show decide ((n:Int)<7)=false from zAH h]; simp
    simp only [zFr,this,zAB]
def keepT (t:GTable):Bool:=!((t.fEntries.take 9).any fun e=>!keepE e)&&(decide (t.fEntries.length≤8)&&keepX t.fAxes)
theorem zLK (t:GTable):zHj t=some (keepT t):=by
  unfold zHj keepT
  rw [zGZ t.fEntries 9 (fun e=>!keepE e),zAA,zLx]
  · have e:decide ((t.fEntries.length:Int)≤8)=decide (t.fEntries.length≤8):=zFB _ 8
    rw [e]
    cases (t.fEntries.take 9).any (fun e=>!keepE e) <;> cases decide (t.fEntries.length≤8) <;> cases keepX t.fAxes <;> rfl
  · intro n hn hm
    have e1:decide ((n:Int)<9)=true:=zAK hm
    have e2:wr ((n:Int)+1)=(n:Int)+1:=by rw [wrs (n:=n) (by omega)]; omega
    simp only [zFH,zAK hn,e1,Bool.and_self,zAC,zAG hn,zAA,e2,zLc]
    cases keepE t.fEntries[n] <;> rfl
  · intro n hn
    have:(decide ((n:Int)<(t.fEntries.length:Int))&&decide ((n:Int)<9))=false:=by
      rcases hn with h | h
      · rw [zAH h]; rfl
      · rw [show decide ((n:Int)<9)=false from zAH h]; simp
    simp only [zFH,this,zAB]
def kpA (l:List GAxis):Prop:=l.length≤6∧∀ a ∈ l,a.fName.length≤100∧a.fValues.length≤20∧∀ v ∈ a.fValues,v.length≤100
theorem zNU {l:List GAxis} (h:keepX l=true):kpA l:=by
  unfold keepX at h
  simp only [Bool.and_eq_true,Bool.not_eq_true',decide_eq_true_eq] at h
  refine ⟨h.2,fun a ha=>?_⟩
  rw [List.take_of_length_le (by omega)] at h
  have:=List.any_eq_false.1 h.1 a ha
  simp only [badX,Bool.or_eq_true,decide_eq_true_eq,Bool.not_eq_true',not_or,Bool.not_eq_false] at this
  have h2:=zNu this.2
  exact ⟨by omega,h2.1,h2.2⟩
theorem zO6 {l:List GAxis} (h:kpA l):∀ a ∈ l,smA a:=fun a ha=>by
  obtain ⟨h1,h2,h3⟩:=h.2 a ha
  exact ⟨by omega,fun v hv=>by have:=h3 v hv; omega⟩
theorem zLk {l:List GAxis} (h:kpA l):smAx l:=⟨by have:=h.1; omega,fun a ha=>by have:=(h.2 a ha).1; omega⟩
theorem zLE {l:List GAxis} (h:kpA l):∀ a ∈ l,a.fValues.length≤1000000:=fun a ha=>by have:=(h.2 a ha).2.1; omega
theorem zLA {e:GEntry} (h:smE e):smEn e:=by
  obtain ⟨⟨h1,h2⟩,h3,h4,h5,_⟩:=h
  exact ⟨by omega,fun k hk=>by have:=(h2 k hk).1; omega,by have:=h3.1; omega,by have:=h4.1; omega,by have:=h5.1; omega⟩
theorem zJf {e:GEntry} (h:smE e):smKs e.fKeys:=by
  obtain ⟨⟨h1,h2⟩,_⟩:=h
  exact ⟨by omega,fun k hk=>⟨by have:=(h2 k hk).1; omega,fun v hv=>by have:=(h2 k hk).2 v hv; omega⟩⟩
def kpT (t:GTable):Prop:=kpA t.fAxes∧t.fEntries.length≤8∧∀ e ∈ t.fEntries,smE e
theorem zJc {t:GTable} (h:keepT t=true):kpT t:=by
  unfold keepT at h
  simp only [Bool.and_eq_true,Bool.not_eq_true',decide_eq_true_eq] at h
  obtain ⟨h1,h2,h3⟩:=h
  refine ⟨zNU h3,h2,fun e he=>?_⟩
  rw [List.take_of_length_le (by omega)] at h1
  have:=List.any_eq_false.1 h1 e he
  exact zLV (by simpa using this)
theorem zJj {t:GTable} (h:kpT t):smTb t:=⟨zLk h.1,zLE h.1,by have:=h.2.1; omega,fun e he=>⟨zLA (h.2.2 e he),zJf (h.2.2 e he)⟩⟩
structure FindOK (t:GTable) (l:List GField):Prop where
  ax:∀ a ∈ t.fAxes,smA a
  al:t.fAxes.length≤1000000
  nm:t.fEntries.length≤1000000
  vr:∀ e ∈ t.fEntries,e.fVary.length≤1000∧∀ n ∈ e.fVary,n.length≤1073741824
  sn:∀ e ∈ t.fEntries,e.fSnapshot.length≤1073741824
  ks:∀ e ∈ t.fEntries,smKs e.fKeys
  fl:smL l
theorem zN4 {t:GTable} {l:List GField} (h:kpT t) (hl:smL l):FindOK t l:=by
  refine ⟨zO6 h.1,by have:=h.1.1; omega,by have:=h.2.1; omega,fun e he=>?_,fun e he=>?_,fun e he=>zJf (h.2.2 e he),hl⟩
  · obtain ⟨_,h3,_⟩:=h.2.2 e he
    exact ⟨h3.1,fun n hn=>by have:=h3.2 n hn; omega⟩
  · obtain ⟨_,_,h4,_⟩:=h.2.2 e he
    have:=h4.1; omega
def findS (t:GTable) (l:List GField) (strict:Bool):Int×Bool :=
  bif t.fAxes.isEmpty then (lastI t.fEntries (fun e=>snapF l e.fVary==e.fSnapshot) t.fEntries.length,true)
  else bif (bestS t.fAxes l strict).2 then (lastI t.fEntries (fun e=>hasB t.fAxes e (bestS t.fAxes l strict).1) t.fEntries.length,true) else (-1,false)
theorem zP9 {axes:List GAxis} (l:List GField) (strict:Bool) (ha:∀ a ∈ axes,smA a) (hn:axes.length≤1000000):(bestS axes l strict).1.length≤1000000∧smKy (bestS axes l strict).1:=by
  unfold bestS
  split
  · refine ⟨by unfold zFF rowsS; simp only [List.length_map]; exact hn,fun v hv=>?_⟩
    unfold zFF rowsS at hv
    simp only [List.mem_map] at hv
    obtain ⟨r,⟨a,ham,rfl⟩,rfl⟩:=hv
    have h2:=(zO2 a l strict).2
    cases hr:rkS l strict a with
    | nil=>simp
    | cons x xs =>
      rw [hr] at h2
      exact (ha a ham).2 x (h2 x List.mem_cons_self)
  · exact ⟨by simp,fun v hv=>by cases hv⟩
theorem zRL {α:Type} (l:List α):((l.length:Int)==0)=l.isEmpty:=by
  rw [show ((l.length:Int)==0)=(l.length==0) from eqI _ 0]; cases l <;> rfl
theorem zOm (t:GTable) (l:List GField) (strict:Bool) (h:FindOK t l):zFW t l strict=some (findS t l strict):=by
  unfold zFW findS
  have hnm:=h.nm
  rw [zRL]
  cases hx:t.fAxes.isEmpty with
  | true =>
    rw [zAC,zAC,zMm t.fEntries _ (fun e=>snapF l e.fVary==e.fSnapshot) (by omega) (fun e he=>by
      unfold zFt
      rw [zQo _ _ l h.fl (h.vr e he).1 (h.vr e he).2]; rfl),zAA]
  | false =>
    obtain ⟨s1,s2⟩:=zP9 l strict h.ax h.al
    rw [zAB,zAB,zRd _ l strict h.ax h.fl,zAA]
    cases hb:(bestS t.fAxes l strict).2 with
    | false=>rfl
    | true =>
      rw [Bool.not_true,zAB,zAC,zMm t.fEntries _ (fun e=>hasB t.fAxes e (bestS t.fAxes l strict).1) (by omega) (fun e he=>by
        unfold zFq
        rw [zOs _ e _ ⟨h.al,fun a ha=>(h.ax a ha).1⟩ (h.ks e he) s1 s2]; rfl),zAA]
end Go.Eng.Pure
namespace Go.Eng.Pure
open Go Go.Eng
set_option linter.unusedVariables false
def wkX:List GAxis:=[⟨[97,99,99,101,112,116,45,108,97,110,103,117,97,103,101],[[101,110],[102,114]]⟩]
def wkE:GEntry:=⟨[[[101,110]],[[102,114]]],[],[],[],[],[49],0,0⟩
def wkF:GEntry:=⟨[[[102,114]]],[],[],[],[],[50],0,0⟩
def wkL:List GField:=[⟨[65,99,99,101,112,116,45,76,97,110,103,117,97,103,101],[101,110]⟩]
def wkT:GTable:=⟨wkX,[wkF]⟩
theorem wk1:putS ⟨[],[]⟩ wkE wkX 5=⟨wkX,[wkE]⟩:=by decide +kernel
theorem wk2:putS ⟨wkX,[wkE]⟩ wkF wkX 5=wkT:=by decide +kernel
theorem wk3:findS wkT wkL true=(-1,true):=by decide +kernel
theorem wk4:zPr wkT 5=true:=by decide +kernel
theorem zNT:kpA wkX:=zNU (by decide +kernel)
theorem zRN:smE wkE:=zLV (by decide +kernel)
theorem zRT:smE wkF:=zLV (by decide +kernel)
theorem zR1:kpT ⟨[],[]⟩:=zJc (by decide +kernel)
theorem zRh:kpT ⟨wkX,[wkE]⟩:=zJc (by decide +kernel)
theorem zO8:kpT wkT:=zJc (by decide +kernel)
theorem zSH:smL wkL:=zLJ (by decide +kernel)
theorem zM4:zFY=some true:=by
  have p1:=zPQ ⟨[],[]⟩ wkE wkX 5 (zJj zR1) (zLA zRN) (zJf zRN) (zLk zNT) (zLE zNT) (by omega)
  have p2:=zPQ ⟨wkX,[wkE]⟩ wkF wkX 5 (zJj zRh) (zLA zRT) (zJf zRT) (zLk zNT) (zLE zNT) (by omega)
  have p3:=zOm wkT wkL true (zN4 zO8 zSH)
  have p4:=zOQ wkT 5 (zJj zO8) (zO6 zO8.1)
  rw [wk1] at p1
  rw [wk2] at p2
  rw [wk3] at p3
  rw [wk4] at p4
  unfold zFY
  show (zEy ⟨[],[]⟩ wkE wkX 5).bind _=_
  rw [p1,zAA]
  show (zEy ⟨wkX,[wkE]⟩ wkF wkX 5).bind _=_
  rw [p2,zAA]
  show (zFW wkT wkL true).bind _=_
  rw [p3,zAA]
  show (((some true).bind fun b82=>_):Option Bool)=_
  rw [zAA]
  show ((zFb wkT 5).bind _).bind _=_
  rw [p4]; rfl
theorem zNg (t:GTable) (e:GEntry) (axes:List GAxis):(∀ x ∈ putE t e axes,x ∈ t.fEntries∨x=e)∧(putE t e axes).length≤t.fEntries.length+1:=by
  unfold putE
  refine ⟨fun x hx=>?_,?_⟩
  · rcases List.mem_append.1 hx with hx | hx
    · split at hx
      · exact .inl (List.mem_filter.1 hx).1
      · cases hx
    · exact .inr (List.mem_singleton.1 hx)
  · rw [List.length_append,List.length_singleton]
    split
    · have:=List.length_filter_le (fun x=>!replB axes e x) t.fEntries; omega
    · simp
theorem zQe {t:GTable} {e:GEntry} {axes:List GAxis} {limit:Int}:(∀ x ∈ (putS t e axes limit).fEntries,x ∈ t.fEntries∨x=e)∧(putS t e axes limit).fEntries.length≤t.fEntries.length+1:=by
  obtain ⟨h1,h2⟩:=zNg t e axes
  unfold putS
  exact ⟨fun x hx=>h1 x (List.mem_of_mem_drop hx),by simp only [List.length_drop]; omega⟩
end Go.Eng.Pure
namespace Go.Eng.Pure
open Go Go.Eng
set_option linter.unusedVariables false
theorem zRK:∀ {l:List Str},Asc l→asc l=true
  | [],_=>rfl
  | [_],_=>rfl
  | a :: b :: l,h=>by
    unfold asc
    have h1:=(List.pairwise_cons.1 h).1 b (by simp)
    rw [zRK (List.pairwise_cons.1 h).2,Proofs.bytesLess_eq,decide_eq_true h1]; rfl
theorem zOX (l:List GField):asc (zHh l).1=true:=by
  unfold zHh
  split
  · rfl
  · exact zRK (zKm _).1
theorem zO5:∀ (al:List GAxis) (kl acc out:List Str),kl.length=al.length→resL al kl acc=some out→∃ vs,out=acc++vs∧inAx al vs=true∧vs.length=al.length
  | [],kl,acc,out,hl,h=>by
    unfold resL at h
    refine ⟨[],?_,rfl,rfl⟩
    cases kl <;> (injection h with h; subst h; simp)
  | a :: al,[],acc,out,hl,h=>by cases hl
  | a :: al,k :: kl,acc,out,hl,h=>by
    unfold resL at h
    cases hf:a.fValues.find? (samV a k) with
    | none=>rw [hf] at h; cases h
    | some v =>
      rw [hf] at h
      obtain ⟨vs,h1,h2,h3⟩:=zO5 al kl _ out (by simpa using hl) h
      refine ⟨v :: vs,by rw [h1]; simp,?_,by simp [h3]⟩
      unfold inAx
      rw [h2,Bool.and_true,List.contains_iff_mem]
      exact List.mem_of_find?_eq_some hf
theorem zP2 {axes:List GAxis} {k:List Str} (h:(resS axes k).2=true):zFm axes (resS axes k).1=true:=by
  unfold resS at h ⊢
  split at h
  · rename_i hl
    rw [if_pos hl]
    cases hr:resL axes k [] with
    | none=>rw [hr] at h; cases h
    | some o =>
      obtain ⟨vs,h1,h2,h3⟩:=zO5 axes k [] o hl hr
      rw [List.nil_append] at h1
      subst h1
      unfold zFm
      simp only []
      rw [h2,h3]; simp
  · cases h
theorem zNb:∀ {axes:List GAxis} {k:List Str},inAx axes k=true→k.length=axes.length→∀ v ∈ k,∃ a ∈ axes,v ∈ a.fValues
  | [],[],_,_,v,hv=>by cases hv
  | [],x :: xs,_,hl,v,hv=>by cases hl
  | a :: l,[],_,hl,v,hv=>by cases hl
  | a :: l,x :: xs,h,hl,v,hv=>by
    unfold inAx at h
    rw [Bool.and_eq_true,List.contains_iff_mem] at h
    rcases List.mem_cons.1 hv with e | hv
    · subst e; exact ⟨a,by simp,h.1⟩
    · obtain ⟨b,hb,hvb⟩:=zNb h.2 (by simpa using hl) v hv
      exact ⟨b,by simp [hb],hvb⟩
theorem zPh {l:List GField} {axes:List GAxis} (h:(parK l axes).2=0):∀ k ∈ (parK l axes).1,zFm axes k=true:=by
  unfold parK at h ⊢
  cases hv:valB axes with
  | false=>rw [hv] at h; exact absurd h (by simp)
  | true =>
    rw [hv,if_pos rfl] at h
    rw [if_pos rfl]
    by_cases h0:(allM l keyN).length=0
    · rw [if_pos h0] at h; exact absurd h (by simp)
    · rw [if_neg h0] at h
      rw [if_neg h0]
      cases ho:optL memK (allM l keyN) with
      | none=>rw [ho] at h; exact absurd h (by simp)
      | some ks =>
        rw [ho] at h
        simp only [] at h ⊢
        cases ha:addK axes ks [] with
        | none=>rw [ha] at h; exact absurd h (by simp)
        | some o =>
          simp only []
          obtain ⟨a1,a2,a3,a4⟩:=zM2 axes ks [] o ha
          intro k hk
          rcases a4 k hk with h | ⟨k',_,h1,h2⟩
          · simp at h
          · rw [← h2]; exact zP2 h1
structure MadeOK (q:GRequest) (r:GResponse) (e:GEntry) (axes:List GAxis):Prop where
  en:smEn e
  ks:smKs e.fKeys
  ax:smX axes
  vr:e.fVary.length≤1000∧∀ n ∈ e.fVary,n.length≤1000
  sn:e.fSnapshot.length≤1000
  ok:(axes=[]∧e.fKeys=[]∧e.fSnapshot=snapF q.fFields e.fVary∧asc e.fVary=true)∨(valB axes=true∧zKr axes e=true)
theorem zSF (q:GRequest) (r:GResponse) (hr:smL r.fFields):MadeOK q r (mkS q r 0 0).1 (mkS q r 0 0).2:=by
  have hm:=zNH hr
  obtain ⟨n1,n2⟩:=zLQ hr
  have hl:=(zSI q r 0 0 hr).1
  unfold mkS at hl ⊢
  split
  · rename_i h
    rw [if_pos h] at hl
    rw [Bool.and_eq_true,beq_iff_eq,beq_iff_eq] at h
    obtain ⟨k1,k2,k3,k4⟩:=zKs hm h.2
    have hf:=zPh h.2
    have hx:=zK2 hm
    refine ⟨hl,⟨by simp only []; omega,fun k hk=>⟨by simp only [] at hk; rw [k4 k hk]; have:=hx.1; omega,fun v hv=>?_⟩⟩,hx,⟨by simp,by simp⟩,by simp,.inr ⟨k1,?_⟩⟩
    · have h1:=hf k hk
      unfold zFm at h1
      rw [Bool.and_eq_true] at h1
      obtain ⟨a,ha,hva⟩:=zNb h1.2 (k4 k hk) v hv
      exact (hx.2 a ha).1.2 v hva
    · unfold zKr
      simp only []
      rw [Bool.and_eq_true]
      refine ⟨decide_eq_true ⟨List.length_pos_iff.2 k2,k3,rfl⟩,List.all_eq_true.2 hf⟩
  · rename_i h
    rw [if_neg h] at hl
    refine ⟨hl,⟨by simp,by simp⟩,⟨by simp,by simp⟩,⟨by simp only []; omega,fun n hn=>by have:=n2 n hn; omega⟩,by simp only []; rw [zJk]; omega,.inl ⟨rfl,rfl,rfl,zOX _⟩⟩
theorem zNl {axes:List GAxis} (h:smX axes):smAx axes:=⟨by have:=h.1; omega,fun a ha=>(h.2 a ha).1.1⟩
theorem zQ7 {axes:List GAxis} (h:smX axes):∀ a ∈ axes,a.fValues.length≤1000000:=fun a ha=>by have:=(h.2 a ha).2; omega
theorem zQQ (t:GTable) (e:GEntry) (axes:List GAxis):1≤(putE t e axes).length:=by
  unfold putE; simp
theorem zP7 (t:GTable) (e:GEntry) (axes:List GAxis) (n:Nat) (hn:n<(putE t e axes).length):((putE t e axes).drop n)[((putE t e axes).drop n).length - 1]?=some e:=by
  have hd:(putE t e axes).getLast?=some e:=by unfold putE; simp
  rw [← List.getLast?_eq_getElem?,List.getLast?_drop,if_neg (by omega),hd]
theorem zMR {α:Type} (l:List α) (p:α→Bool) (n:Nat):(lastI l p (n+1)==(n:Int))=(l[n]?).any p:=by
  have e:lastI l p (n+1)=if (l[n]?).any p=true then (n:Int) else lastI l p n:=by first | rfl | (unfold lastI; rfl)
  rw [e]
  cases hp:(l[n]?).any p with
  | true=>simp
  | false =>
    rw [if_neg (by simp)]
    have:=zNK l p n
    simp only [beq_eq_false_iff_ne]; omega
theorem zMn (e : GEntry) (axes : List GAxis) (b : List Str × Bool) (hk : smKs e.fKeys) (hax : smAx axes) (hb : b.1.length ≤ 1000000 ∧ smKy b.1) :
    zAF (zAi (e,axes) b) (false,0)=some (hasB axes e b.1):=by
  have key:∀ (k n:Nat) (acc:Bool),n+k=e.fKeys.length→zAF (zAi (e,axes) b) (acc,(n:Int))=some (acc||(e.fKeys.drop n).any fun k=>sameL axes k b.1):=by
    intro k
    induction k with
    | zero =>
      intro n acc hn
      obtain rfl:n=e.fKeys.length:=by omega
      rw [zAE (r:=acc)]
      · rw [List.drop_length]; simp
      · unfold zAi
        simp only [zAH (Nat.le_refl _),zAB]
    | succ k ih =>
      intro n acc hn
      have hlt:n<e.fKeys.length:=by omega
      have hl:=hk.1
      obtain ⟨k1,k2⟩:=hk.2 _ (List.getElem_mem hlt)
      have hb':zAi (e,axes) b (acc,(n:Int))=some (.inl (acc||sameL axes e.fKeys[n] b.1,((n+1:Nat):Int))):=by
        unfold zAi
        simp only [zAK hlt,zAC,zAG hlt,zAA,zM0 axes _ _ hax k2 hb.2 k1 hb.1,wrs (show n≤4*1073741824 by omega)]
        cases acc <;> rfl
      rw [zAI hb',ih (n+1) _ (by omega),List.drop_eq_getElem_cons hlt,List.any_cons,Bool.or_assoc]
  have:=key e.fKeys.length 0 false (by omega)
  rw [List.drop_zero,Bool.false_or] at this
  exact this
theorem zHP (t:GTable) (q:GRequest) (r:GResponse) (strict:Bool):zCj t q r strict=some true:=by
  unfold zCj
  rw [zLK,zAA,zJ0,zAA,zJT,zAA]
  cases ht:keepT t with
  | false=>rfl
  | true =>
  cases hq:keepQ q with
  | false=>rfl
  | true =>
  cases hr:keepR r with
  | false=>rfl
  | true =>
  simp only [Bool.not_true,zAB,zAA]
  unfold keepQ at hq
  unfold keepR at hr
  simp only [Bool.and_eq_true] at hq hr
  have h1:=zNt hq.1.2
  have h2:=zNt hr.1.2
  have hk:=zJc ht
  have hsm:=zJj hk
  rw [zRc _ _ _ _ h1 h2,zAA]
  have hM:=zSF q r h2
  generalize hMk:mkS q r 0 0=M at *
  obtain ⟨e,axes⟩:=M
  simp only [] at hM ⊢
  rw [zPQ t e axes 64 hsm hM.en hM.ks (zNl hM.ax) (zQ7 hM.ax) (by omega),zAA]
  obtain ⟨q1,q2⟩:=zQe (t:=t) (e:=e) (axes:=axes) (limit:=64)
  have hn:=hk.2.1
  have hp:=zQQ t e axes
  have hpl:=(zNg t e axes).2
  have hlen:(putS t e axes 64).fEntries.length=(putE t e axes).length:=by
    unfold putS; simp only [List.length_drop]
    have:limN 64=64:=rfl
    omega
  have hlast:(putS t e axes 64).fEntries[(putS t e axes 64).fEntries.length - 1]?=some e:=zP7 t e axes _ (by have:limN 64=64:=rfl; omega)
  have hax:(putS t e axes 64).fAxes=axes:=rfl
  have hf0:=zN4 hk h1
  have hF:FindOK (putS t e axes 64) q.fFields:=by
    refine ⟨fun a ha=>(hM.ax.2 a ha).1,by rw [hax]; have:=hM.ax.1; omega,by omega,fun x hx=>?_,fun x hx=>?_,fun x hx=>?_,h1⟩
    · rcases q1 x hx with h | h
      · exact hf0.vr x h
      · rw [h]; exact ⟨hM.vr.1,fun n hn=>by have:=hM.vr.2 n hn; omega⟩
    · rcases q1 x hx with h | h
      · exact hf0.sn x h
      · rw [h]; have:=hM.sn; omega
    · rcases q1 x hx with h | h
      · exact hf0.ks x h
      · rw [h]; exact hM.ks
  rw [zOm _ _ strict hF,zAA,zRL]
  unfold findS
  rw [hax]
  generalize putS t e axes 64=u at *
  obtain ⟨m,hm⟩:∃ m,u.fEntries.length=m+1:=⟨u.fEntries.length - 1,by omega⟩
  have e1:wr ((u.fEntries.length:Int) - 1)=(m:Int):=by rw [wr_eq ⟨by omega,by omega⟩]; omega
  have hla:u.fEntries[m]?=some e:=by rw [hm] at hlast; exact hlast
  rw [e1]
  cases hx:axes.isEmpty with
  | true =>
    rw [zAC,zAC]
    simp only []
    rcases hM.ok with ⟨g1,g2,g3,g4⟩ | ⟨g1,g2⟩
    · rw [hm,zMR,hla,Option.any_some,g3,zM4]; simp
    · rw [List.isEmpty_iff.1 hx] at g1; cases g1
  | false =>
    rw [zAB,zAB,zQU axes q.fFields strict (fun a ha=>(hM.ax.2 a ha).1) h1,zAA]
    obtain ⟨s1,s2⟩:=zP9 (axes:=axes) q.fFields strict (fun a ha=>(hM.ax.2 a ha).1) (by have:=hM.ax.1; omega)
    rw [zMn e axes _ hM.ks (zNl hM.ax) ⟨s1,s2⟩,zAA]
    cases hb:(bestS axes q.fFields strict).2 with
    | false =>
      rw [zAB,zM4]
      simp only [Bool.false_and]
      rw [show ((-1:Int)==(m:Int))=false by simp only [beq_eq_false_iff_ne]; omega]
      rfl
    | true =>
      rw [zAC,zM4]
      simp only [Bool.true_and]
      rw [hm,zMR,hla,Option.any_some]
      cases hasB axes e (bestS axes q.fFields strict).1 <;> rfl
end Go.Eng.Pure
