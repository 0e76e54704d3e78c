/- A part of the proof of laws of the seat. -/
import Derived.Test.YtipgfplekgdoiaaGreatDoorFindE
set_option linter.unusedVariables false
namespace Go.Eng.Pure
open Go Go.Eng
set_option linter.unusedVariables false
def zEh (R:List (List Str)):List Str:=R.map fun r=>r.headD []
def rowsS (axes:List GAxis) (l:List GField) (strict:Bool):List (List Str):=axes.map (rkS l strict)
def fullR (R:List (List Str)):Bool:=R.all fun r=>!r.isEmpty
def bestS (axes:List GAxis) (l:List GField) (strict:Bool):List Str×Bool:=if valB axes&&fullR (rowsS axes l strict) then (zEh (rowsS axes l strict),true) else ([],false)
theorem zL1 {axes:List GAxis} (h:valB axes=true):1≤axes.length∧axes.length≤4:=by
  unfold valB at h
  simp only [Bool.and_eq_true,decide_eq_true_eq] at h
  exact h.1
theorem zIp {α:Type} {l:List α} {n:Nat} (x:α) (h:n<l.length):xput l (n:Int) x=some (l.set n x):=by
  unfold xput
  rw [if_pos ⟨by omega,by omega⟩]; rfl
theorem zJV {α:Type} (n:Nat) (z:α) (h:n≤1000):xmake (n:Int) z=some (List.replicate n z):=by
  unfold xmake
  rw [if_pos ⟨by omega,by omega⟩]; rfl
theorem zNS {α:Type} (a:List α) (z x:α) (k:Nat):(a++List.replicate (k+1) z).set a.length x=(a++[x])++List.replicate k z:=by
  rw [List.set_append_right _ _ (Nat.le_refl _),Nat.sub_self,List.replicate_succ,List.set_cons_zero,List.append_assoc]; rfl
theorem zOK (axes : List GAxis) (l : List GField) (strict : Bool) (ha : ∀ a ∈ axes, smA a) (hl : smL l) (hn : axes.length ≤ 4) :
    zAF (zBY axes l strict) (0,List.replicate axes.length [])=some (if fullR (rowsS axes l strict) then .inl (rowsS axes l strict) else .inr []):=by
  have:=zG9 (fun (st:List (List Str)) i=>(i,st++List.replicate (axes.length - st.length) [])) axes (fun st a=>if (rkS l strict a).isEmpty then .inr (.inr []) else .inl (st++[rkS l strict a])) (fun st=>(.inl st:List (List Str) ⊕ List (List Str))) (zBY axes l strict) (fun n st=>st.length=n) [] rfl ?_ ?_
  · simp only [List.nil_append,List.length_nil,Nat.sub_zero] at this
    rw [this]
    have e:∀ (xs:List GAxis) (st:List (List Str)),run (fun st a=>if (rkS l strict a).isEmpty then .inr (.inr []) else .inl (st++[rkS l strict a])) (fun st=>(.inl st:List (List Str) ⊕ List (List Str))) xs st=if fullR (xs.map (rkS l strict)) then .inl (st++xs.map (rkS l strict)) else .inr []:=by
      intro xs
      induction xs with
      | nil=>intro st; simp [run,fullR]
      | cons x xs ih =>
        intro st
        unfold run
        cases hx:(rkS l strict x).isEmpty with
        | true=>simp [fullR,hx]
        | false =>
          rw [if_neg (by decide)]
          simp only []
          rw [ih]
          unfold fullR
          rw [List.map_cons,List.all_cons,hx,Bool.not_false,Bool.true_and,List.append_assoc]; rfl
    rw [e,List.nil_append]; rfl
  · intro n hlt st hI
    subst hI
    have hm:=ha _ (List.getElem_mem hlt)
    have hk:axes.length - st.length=(axes.length - (st.length+1))+1:=by omega
    refine ⟨?_,?_⟩
    · unfold zBY
      simp only []
      rw [zAK hlt,zAC,zAG hlt,zAA,zNA _ l strict hm hl,zAA]
      generalize rkS l strict axes[st.length]=r
      rw [hk]
      have hln:st.length<(st++List.replicate (axes.length - (st.length+1)+1) ([]:List Str)).length:=by simp
      rw [zAG hln,zAA,zIp r hln,zAA,zNS]
      have hl2:st.length<((st++[r])++List.replicate (axes.length - (st.length+1)) ([]:List Str)).length:=by simp
      have hg:((st++[r])++List.replicate (axes.length - (st.length+1)) ([]:List Str))[st.length]=r:=by simp
      rw [zAG hl2,zAA,hg,show ((r.length:Int)==0)=r.isEmpty by rw [show ((r.length:Int)==0)=(r.length==0) from eqI _ 0]; cases r <;> rfl,wrs (by omega)]
      cases r.isEmpty with
      | true=>rfl
      | false =>
        rw [zAB,if_neg (by decide)]
        simp only [List.length_append,List.length_singleton]
    · intro st' h
      split at h
      · cases h
      · injection h with h; subst h; simp
  · intro st hI
    unfold zBY
    simp only []
    rw [zAI (Nat.le_refl _),zAB,hI,Nat.sub_self,List.replicate_zero,List.append_nil]
theorem zOj (R:List (List Str)) (hf:fullR R=true) (hn:R.length≤4):zAF (zBV R (List.replicate R.length 0)) (0,List.replicate R.length [])=some (zEh R):=by
  have hz:(List.replicate R.length (0:Int)).length=R.length:=List.length_replicate
  have:=zBI (fun (st:List Str) i=>(i,st++List.replicate (R.length - st.length) [])) R (fun st r=>st++[r.headD []]) id (zBV R (List.replicate R.length 0)) (fun n st=>st.length=n) [] rfl ?_ ?_
  · simp only [List.nil_append,List.length_nil,Nat.sub_zero] at this
    rw [this]
    have e:∀ (xs:List (List Str)) (st:List Str),xs.foldl (fun st r=>st++[r.headD []]) st=st++zEh xs:=by
      intro xs
      induction xs with
      | nil=>intro st; simp [zEh]
      | cons x xs ih=>intro st; rw [List.foldl_cons,ih,List.append_assoc]; rfl
    rw [e]; rfl
  · intro n hlt st hI
    subst hI
    have hk:R.length - st.length=(R.length - (st.length+1))+1:=by omega
    refine ⟨?_,by simp⟩
    unfold zBV
    simp only []
    have hzl:st.length<(List.replicate R.length (0:Int)).length:=by rw [hz]; exact hlt
    have hr:∃ x xs,R[st.length]=x :: xs:=by
      unfold fullR at hf
      rw [List.all_eq_true] at hf
      have:=hf _ (List.getElem_mem hlt)
      cases hr:R[st.length] with
      | nil=>rw [hr] at this; simp at this
      | cons x xs=>exact ⟨x,xs,rfl⟩
    obtain ⟨x,xs,hr⟩:=hr
    rw [hz,zAK hlt,zAC,zAG hzl,zAA,zAG hlt,zAA,List.getElem_replicate,hr,zBZ,zAA,hk]
    have hln:st.length<(st++List.replicate (R.length - (st.length+1)+1) ([]:Str)).length:=by simp
    rw [zAG hln,zAA,zIp x hln,zAA,zNS,wrs (by omega)]
    simp only [List.length_append,List.length_singleton,List.headD_cons]
  · intro st hI
    unfold zBV
    simp only []
    rw [hz,zAI (Nat.le_refl _),zAB,hI,Nat.sub_self,List.replicate_zero,List.append_nil]; rfl
theorem zND (R:List (List Str)) (hn:R.length≤4) (hr:∀ r ∈ R,r.length≤16):∀ n,n≤R.length→∃ y:Int,y<R.length∧zAF (zBX R) ((n:Int) - 1,List.replicate R.length 0)=some (y,List.replicate R.length 0):=by
  have hz:(List.replicate R.length (0:Int)).length=R.length:=List.length_replicate
  intro n
  induction n with
  | zero =>
    intro _
    refine ⟨-1,by omega,zAE ?_⟩
    unfold zBX
    rfl
  | succ n ih =>
    intro hle
    have hlt:n<R.length:=by omega
    have hzl:n<(List.replicate R.length (0:Int)).length:=by rw [hz]; exact hlt
    have hrl:=hr _ (List.getElem_mem hlt)
    have e:((n+1:Nat):Int) - 1=(n:Int):=by omega
    have hb:zBX R ((n:Int),List.replicate R.length 0)=some (if R[n].length=1 then .inl ((n:Int) - 1,List.replicate R.length 0) else .inr ((n:Int),List.replicate R.length 0)):=by
      unfold zBX
      simp only []
      rw [decide_eq_true (by omega),zAC,zAG hzl,zAA,zAG hlt,zAA,List.getElem_replicate,zAA,wr_eq ⟨by omega,by omega⟩,wr_eq ⟨by omega,by omega⟩,zAA,zIp 0 hzl,zAA]
      have hs:(List.replicate R.length (0:Int)).set n 0=List.replicate R.length 0:=by
        apply List.ext_getElem (by simp)
        intro i h1 h2
        rw [List.getElem_set]
        simp
      rw [hs]
      by_cases h1:R[n].length=1
      · rw [if_pos h1,show ((0:Int)==(R[n].length:Int) - 1)=true by rw [beq_iff_eq]; omega,zAC]
      · rw [if_neg h1,show ((0:Int)==(R[n].length:Int) - 1)=false by rw [beq_eq_false_iff_ne]; omega,zAB]
    rw [e]
    by_cases h1:R[n].length=1
    · rw [if_pos h1] at hb
      obtain ⟨y,h2,h3⟩:=ih (by omega)
      exact ⟨y,h2,by rw [zAJ hb]; exact h3⟩
    · rw [if_neg h1] at hb
      exact ⟨n,by omega,zAE hb⟩
theorem zOb (axes : List GAxis) (R : List (List Str)) (he : axes.length = R.length) (hf : fullR R = true) (hn : R.length ≤ 4) (hr : ∀ r ∈ R, r.length ≤ 16) :
    zAF (zA8 axes 1 R) (([]:List (List Str)),List.replicate R.length 0)=some [zEh R]:=by
  have hz:(List.replicate R.length (0:Int)).length=R.length:=List.length_replicate
  obtain ⟨y,h1,h2⟩:=zND R hn hr R.length (Nat.le_refl _)
  have hdone:∀ D:List Int,zAF (zA8 axes 1 R) ([zEh R],D)=some [zEh R]:=by
    intro D
    refine zAE ?_
    unfold zA8
    rfl
  have hb:zA8 axes 1 R (([]:List (List Str)),List.replicate R.length 0)=some (if y<0 then .inr [zEh R] else .inl ([zEh R],(List.replicate R.length (0:Int)).set y.toNat 1)):=by
    unfold zA8
    simp only []
    rw [show decide ((([]:List (List Str)).length:Int)<1)=true from rfl,zAC,he,zJV _ _ (by omega),zAA,zOj R hf hn,zAA,zAj (by simp) (zA5 _),zAA,hz,wr_eq ⟨by omega,by omega⟩,h2,zAA]
    simp only [List.nil_append]
    by_cases hy:y<0
    · rw [decide_eq_true hy,zAC,if_pos hy]
    · have hyn:y=((y.toNat:Nat):Int):=by omega
      have hlt:y.toNat<(List.replicate R.length (0:Int)).length:=by rw [hz]; omega
      rw [decide_eq_false hy,zAB,if_neg hy]
      generalize y.toNat=m at *
      subst hyn
      rw [zAG hlt,zAA,zAA,List.getElem_replicate,zIp _ hlt,zAA]
      rfl
  by_cases hy:y<0
  · rw [if_pos hy] at hb; exact zAE hb
  · rw [if_neg hy] at hb; rw [zAJ hb]; exact hdone _
theorem zPi (axes:List GAxis) (l:List GField) (strict:Bool):∀ r ∈ rowsS axes l strict,r.length≤16:=by
  intro r hr
  unfold rowsS at hr
  rw [List.mem_map] at hr
  obtain ⟨a,_,rfl⟩:=hr
  exact (zNQ a l strict).1
theorem zPp (axes:List GAxis) (l:List GField) (strict:Bool) (ha:∀ a ∈ axes,smA a) (hl:smL l):zEJ axes l strict=some (bestS axes l strict):=by
  unfold zEJ zFi bestS
  rw [zJO axes ha,zAA]
  cases hv:valB axes with
  | false=>rfl
  | true =>
    obtain ⟨n1,n2⟩:=zL1 hv
    have he:axes.length=(rowsS axes l strict).length:=by unfold rowsS; rw [List.length_map]
    rw [Bool.not_true,zAB,zJV _ _ (by omega),zAA,zOK axes l strict ha hl n2,zAA,zJV _ _ (by omega),Bool.true_and]
    simp only [zAA]
    cases hf:fullR (rowsS axes l strict) with
    | false=>rfl
    | true =>
      rw [if_pos rfl,if_pos rfl]
      simp only []
      have:=zOb axes (rowsS axes l strict) he hf (by omega) (zPi axes l strict)
      rw [← he] at this
      rw [this,zAA,zAA]
      rfl
def prodS (st:List (List Str)) (R:List (List Str)):List (List Str):=R.foldl (fun st r=>st.flatMap fun o=>r.map fun x=>o++[x]) st
theorem zMd:∀ R:List (List Str),prodS [] R=[]
  | []=>rfl
  | r :: R=>by
    show prodS ([].flatMap _) R=[]
    rw [List.flatMap_nil]
    exact zMd R
theorem zJy:∀ (R:List (List Str)) (o:List Str) (st:List (List Str)),fullR R=true→∃ m,prodS (o :: st) R=(o++zEh R) :: m
  | [],o,st,_=>⟨st,by simp [prodS,zEh]⟩
  | r :: R,o,st,h=>by
    unfold fullR at h
    rw [List.all_cons,Bool.and_eq_true] at h
    cases r with
    | nil=>simp at h
    | cons x xs =>
      obtain ⟨m,hm⟩:=zJy R (o++[x]) ((xs.map fun x=>o++[x])++st.flatMap fun o=>(x :: xs).map fun x=>o++[x]) h.2
      refine ⟨m,?_⟩
      show prodS ((o :: st).flatMap fun o=>(x :: xs).map fun x=>o++[x]) R=_
      rw [List.flatMap_cons,List.map_cons,List.cons_append,hm]
      simp [zEh]
theorem zJu:∀ (R:List (List Str)) (st:List (List Str)),fullR R=false→prodS st R=[]
  | [],st,h=>by simp [fullR] at h
  | r :: R,st,h=>by
    show prodS (st.flatMap fun o=>r.map fun x=>o++[x]) R=[]
    cases r with
    | nil =>
      have:(st.flatMap fun o=>([]:List Str).map fun x=>o++[x])=[]:=by simp
      rw [this,zMd]
    | cons x xs =>
      refine zJu R _ ?_
      unfold fullR at h ⊢
      rw [List.all_cons] at h
      simpa using h
theorem zPn (out : List (List Str)) (r : List Str) (k : Nat) (hk : k < out.length) (ho : out[k].length ≤ 1000) (hr : r.length ≤ 16) (next : List (List Str)) (hn : next.length ≤ 1000000000) :
    zAF (zC4 out r (k:Int)) (next,0)=some (next++r.map fun x=>out[k]++[x]):=by
  have:=zBI (fun (st:List (List Str)) i=>(st,i)) r (fun st x=>st++[out[k]++[x]]) id (zC4 out r (k:Int)) (fun n st=>st.length=next.length+n) next rfl ?_ ?_
  · rw [this]
    have e:∀ (xs:List Str) (st:List (List Str)),xs.foldl (fun st x=>st++[out[k]++[x]]) st=st++xs.map fun x=>out[k]++[x]:=by
      intro xs
      induction xs with
      | nil=>intro st; simp
      | cons x xs ih=>intro st; rw [List.foldl_cons,ih,List.append_assoc]; rfl
    rw [e]; rfl
  · intro n hlt st hI
    refine ⟨?_,by rw [List.length_append,List.length_singleton]; omega⟩
    unfold zC4
    simp only []
    rw [zAK hlt,zAC,zAG hk,zAA,zAj (by simp) (by omega),zAA,zAG hlt,zAA,List.nil_append,zAj (by omega) (zA5 _),zAA,zAj (by omega) (zA5 _),zAA,wrs (by omega)]
  · intro st hI
    unfold zC4
    simp only []
    rw [zAI (Nat.le_refl _),zAB]; rfl
theorem zO7 (out : List (List Str)) (r : List Str) (hl : out.length ≤ 5000000) (ho : ∀ o ∈ out, o.length ≤ 1000) (hr : r.length ≤ 16) :
    zAF (zCz out r) (([]:List (List Str)),0)=some (out.flatMap fun o=>r.map fun x=>o++[x]):=by
  have:=zBI (fun (st:List (List Str)) i=>(st,i)) out (fun st o=>st++r.map fun x=>o++[x]) id (zCz out r) (fun n st=>st.length≤16*n) [] (by simp) ?_ ?_
  · rw [this,zGN]; rfl
  · intro n hlt st hI
    have h1:=ho _ (List.getElem_mem hlt)
    refine ⟨?_,by rw [List.length_append,List.length_map]; omega⟩
    unfold zCz
    simp only []
    rw [zAK hlt,zAC,zPn out r n hlt h1 hr st (by omega),zAA,wrs (by omega)]
  · intro st hI
    unfold zCz
    simp only []
    rw [zAI (Nat.le_refl _),zAB]; rfl
theorem zPV (st:List (List Str)) (r:List Str) (hr:r.length≤16) (B C:Nat) (h:st.length≤B) (ho:∀ o ∈ st,o.length≤C):(st.flatMap fun o=>r.map fun x=>o++[x]).length≤16*B∧∀ o ∈ st.flatMap (fun o=>r.map fun x=>o++[x]),o.length≤C+1:=by
  constructor
  · have : ∀ st : List (List Str), (st.flatMap fun o => r.map fun x => o ++ [x]).length ≤ 16 * st.length := by
      intro st
      induction st with
      | nil=>simp
      | cons o st ih=>rw [List.flatMap_cons,List.length_append,List.length_map,List.length_cons]; omega
    have:=this st
    omega
  · intro o hm
    rw [List.mem_flatMap] at hm
    obtain ⟨p,hp,hm⟩:=hm
    rw [List.mem_map] at hm
    obtain ⟨x,_,rfl⟩:=hm
    have:=ho p hp
    rw [List.length_append,List.length_singleton]; omega
theorem zPC (axes : List GAxis) (l : List GField) (strict : Bool) (ha : ∀ a ∈ axes, smA a) (hl : smL l) (hn : axes.length ≤ 4) :
    zAF (zCy axes l strict) (([([]:List Str)]:List (List Str)),0)=some (prodS [[]] (rowsS axes l strict)):=by
  have:=zBI (fun (st:List (List Str)) i=>(st,i)) axes (fun st a=>st.flatMap fun o=>(rkS l strict a).map fun x=>o++[x]) id (zCy axes l strict) (fun n st=>st.length≤16 ^ n∧∀ o ∈ st,o.length≤n) [[]] (by simp) ?_ ?_
  · rw [this]
    unfold prodS rowsS
    rw [List.foldl_map]; rfl
  · intro n hlt st hI
    have hm:=ha _ (List.getElem_mem hlt)
    have hr:=(zNQ axes[n] l strict).1
    have hB:st.length≤65536:=Nat.le_trans hI.1 (Nat.pow_le_pow_right (by omega) (show n≤4 by omega))
    refine ⟨?_,?_⟩
    · unfold zCy
      simp only []
      rw [zAK hlt,zAC,zAG hlt,zAA,zMr _ l strict hm hl,zAA,zO7 st _ (by omega) (fun o ho=>by have:=hI.2 o ho; omega) hr,zAA,wrs (by omega)]
    · have:=zPV st (rkS l strict axes[n]) hr (16 ^ n) n hI.1 hI.2
      rw [Nat.pow_succ,Nat.mul_comm]
      exact this
  · intro st hI
    unfold zCy
    simp only []
    rw [zAI (Nat.le_refl _),zAB]; rfl
theorem zOW (axes:List GAxis) (l:List GField) (strict:Bool) (ha:∀ a ∈ axes,smA a) (hl:smL l):zHB axes l strict=some (bestS axes l strict):=by
  unfold zHB zIM bestS
  rw [zNn axes ha,zAA]
  cases hv:valB axes with
  | false=>rfl
  | true =>
    obtain ⟨n1,n2⟩:=zL1 hv
    rw [Bool.not_true,zAB,zPC axes l strict ha hl n2,zAA,Bool.true_and]
    cases hf:fullR (rowsS axes l strict) with
    | false=>rw [zJu _ _ hf]; rfl
    | true =>
      obtain ⟨m,hm⟩:=zJy (rowsS axes l strict) [] [] hf
      rw [hm,if_pos rfl,List.nil_append]
      by_cases h64:64<(zEh (rowsS axes l strict) :: m).length
      · rw [decide_eq_true (by omega),zAC,show ((64:Int))=((64:Nat):Int) from rfl,zD8 (by omega),zAA,zAA,zAA]
        rfl
      · rw [decide_eq_false (by omega),zAB,zAA,zAA]
        rw [show (((zEh (rowsS axes l strict) :: m).length:Int)==0)=false by rw [beq_eq_false_iff_ne]; simp; omega,zAB,zBZ,zAA]
end Go.Eng.Pure
namespace Go.Eng.Pure
open Go Go.Eng
set_option linter.unusedVariables false
def badX (a:GAxis):Bool:=decide (100<a.fName.length)||!keepS a.fValues
def keepX (l:List GAxis):Bool:=!((l.take 7).any badX)&&decide (l.length≤6)
theorem zK5 (l:List GAxis):zHr l=some (keepX l):=by
  unfold zHr keepX
  rw [zFx l 7 badX]
  · have e:decide ((l.length:Int)≤6)=decide (l.length≤6):=zHL l.length 6
    rw [e]
    cases (l.take 7).any badX <;> simp
  · intro n hn hm
    have e1:decide ((n:Int)<7)=true:=zAK hm
    have e2:wr ((n:Int)+1)=(n:Int)+1:=by rw [wrs (n:=n) (by omega)]; omega
    have e3:decide (100<((l[n].fName.length:Nat):Int))=decide (100<l[n].fName.length):=zHs 100 _
    simp only [zFS,zAK hn,e1,Bool.and_self,zAC,zAG hn,zAA,e2,zDy,e3]
    unfold badX
    cases decide (100<l[n].fName.length) <;> cases keepS l[n].fValues <;> rfl
  · intro n hn
    have:(decide ((n:Int)<(l.length:Int))&&decide ((n:Int)<7))=false:=by
      rcases hn with h | h
      · rw [zAI h]; rfl
      · rw [show decide ((n:Int)<7)=false from zAI h]; simp
    simp only [zFS,this,zAB]
def keepT (t:GTable):Bool:=!((t.fEntries.take 9).any fun e=>!keepE e)&&(decide (t.fEntries.length≤8)&&keepX t.fAxes)
theorem zKZ (t:GTable):zG4 t=some (keepT t):=by
  unfold zG4 keepT
  rw [zFx t.fEntries 9 (fun e=>!keepE e),zAA,zK5]
  · have e:decide ((t.fEntries.length:Int)≤8)=decide (t.fEntries.length≤8):=zHL _ 8
    rw [e]
    cases (t.fEntries.take 9).any (fun e=>!keepE e) <;> cases decide (t.fEntries.length≤8) <;> cases keepX t.fAxes <;> rfl
  · intro n hn hm
    have e1:decide ((n:Int)<9)=true:=zAK hm
    have e2:wr ((n:Int)+1)=(n:Int)+1:=by rw [wrs (n:=n) (by omega)]; omega
    simp only [zEr,zAK hn,e1,Bool.and_self,zAC,zAG hn,zAA,e2,zKf]
    cases keepE t.fEntries[n] <;> rfl
  · intro n hn
    have:(decide ((n:Int)<(t.fEntries.length:Int))&&decide ((n:Int)<9))=false:=by
      rcases hn with h | h
      · rw [zAI h]; rfl
      · rw [show decide ((n:Int)<9)=false from zAI h]; simp
    simp only [zEr,this,zAB]
def kpA (l:List GAxis):Prop:=l.length≤6∧∀ a ∈ l,a.fName.length≤100∧a.fValues.length≤20∧∀ v ∈ a.fValues,v.length≤100
theorem zMe {l:List GAxis} (h:keepX l=true):kpA l:=by
  unfold keepX at h
  simp only [Bool.and_eq_true,Bool.not_eq_true',decide_eq_true_eq] at h
  refine ⟨h.2,fun a ha=>?_⟩
  rw [List.take_of_length_le (by omega)] at h
  have:=List.any_eq_false.1 h.1 a ha
  simp only [badX,Bool.or_eq_true,decide_eq_true_eq,Bool.not_eq_true',not_or,Bool.not_eq_false] at this
  have h2:=zMU this.2
  exact ⟨by omega,h2.1,h2.2⟩
theorem zON {l:List GAxis} (h:kpA l):∀ a ∈ l,smA a:=fun a ha=>by
  obtain ⟨h1,h2,h3⟩:=h.2 a ha
  exact ⟨by omega,fun v hv=>by have:=h3 v hv; omega⟩
theorem zKT {l:List GAxis} (h:kpA l):smAx l:=⟨by have:=h.1; omega,fun a ha=>by have:=(h.2 a ha).1; omega⟩
theorem zKU {l:List GAxis} (h:kpA l):∀ a ∈ l,a.fValues.length≤1000000:=fun a ha=>by have:=(h.2 a ha).2.1; omega
theorem zJ3 {e:GEntry} (h:smE e):smEn e:=by
  obtain ⟨⟨h1,h2⟩,h3,h4,h5,_⟩:=h
  exact ⟨by omega,fun k hk=>by have:=(h2 k hk).1; omega,by have:=h3.1; omega,by have:=h4.1; omega,by have:=h5.1; omega⟩
theorem zI0 {e:GEntry} (h:smE e):smKs e.fKeys:=by
  obtain ⟨⟨h1,h2⟩,_⟩:=h
  exact ⟨by omega,fun k hk=>⟨by have:=(h2 k hk).1; omega,fun v hv=>by have:=(h2 k hk).2 v hv; omega⟩⟩
def kpT (t:GTable):Prop:=kpA t.fAxes∧t.fEntries.length≤8∧∀ e ∈ t.fEntries,smE e
theorem zIu {t:GTable} (h:keepT t=true):kpT t:=by
  unfold keepT at h
  simp only [Bool.and_eq_true,Bool.not_eq_true',decide_eq_true_eq] at h
  obtain ⟨h1,h2,h3⟩:=h
  refine ⟨zMe h3,h2,fun e he=>?_⟩
  rw [List.take_of_length_le (by omega)] at h1
  have:=List.any_eq_false.1 h1 e he
  exact zKL (by simpa using this)
theorem zKR {t:GTable} (h:kpT t):smTb t:=⟨zKT h.1,zKU h.1,by have:=h.2.1; omega,fun e he=>⟨zJ3 (h.2.2 e he),zI0 (h.2.2 e he)⟩⟩
structure FindOK (t:GTable) (l:List GField):Prop where
  ax:∀ a ∈ t.fAxes,smA a
  al:t.fAxes.length≤1000000
  nm:t.fEntries.length≤1000000
  vr:∀ e ∈ t.fEntries,e.fVary.length≤1000∧∀ n ∈ e.fVary,n.length≤1073741824
  sn:∀ e ∈ t.fEntries,e.fSnapshot.length≤1073741824
  ks:∀ e ∈ t.fEntries,smKs e.fKeys
  fl:smL l
theorem zL7 {t:GTable} {l:List GField} (h:kpT t) (hl:smL l):FindOK t l:=by
  refine ⟨zON h.1,by have:=h.1.1; omega,by have:=h.2.1; omega,fun e he=>?_,fun e he=>?_,fun e he=>zI0 (h.2.2 e he),hl⟩
  · obtain ⟨_,h3,_⟩:=h.2.2 e he
    exact ⟨h3.1,fun n hn=>by have:=h3.2 n hn; omega⟩
  · obtain ⟨_,_,h4,_⟩:=h.2.2 e he
    have:=h4.1; omega
def findS (t:GTable) (l:List GField) (strict:Bool):Int×Bool :=
  bif t.fAxes.isEmpty then (lastI t.fEntries (fun e=>snapF l e.fVary==e.fSnapshot) t.fEntries.length,true)
  else bif (bestS t.fAxes l strict).2 then (lastI t.fEntries (fun e=>hasB t.fAxes e (bestS t.fAxes l strict).1) t.fEntries.length,true) else (-1,false)
theorem zNF {axes:List GAxis} (l:List GField) (strict:Bool) (ha:∀ a ∈ axes,smA a) (hn:axes.length≤1000000):(bestS axes l strict).1.length≤1000000∧smKy (bestS axes l strict).1:=by
  unfold bestS
  split
  · refine ⟨by unfold zEh rowsS; simp only [List.length_map]; exact hn,fun v hv=>?_⟩
    unfold zEh rowsS at hv
    simp only [List.mem_map] at hv
    obtain ⟨r,⟨a,ham,rfl⟩,rfl⟩:=hv
    have h2:=(zNQ a l strict).2
    cases hr:rkS l strict a with
    | nil=>simp
    | cons x xs =>
      rw [hr] at h2
      exact (ha a ham).2 x (h2 x List.mem_cons_self)
  · exact ⟨by simp,fun v hv=>by cases hv⟩
theorem zP6 {α:Type} (l:List α):((l.length:Int)==0)=l.isEmpty:=by
  rw [show ((l.length:Int)==0)=(l.length==0) from eqI _ 0]; cases l <;> rfl
theorem zNy (t:GTable) (l:List GField) (strict:Bool) (h:FindOK t l):zE2 t l strict=some (findS t l strict):=by
  unfold zE2 findS
  have hnm:=h.nm
  rw [zP6]
  cases hx:t.fAxes.isEmpty with
  | true =>
    rw [zAC,zAC,zLs t.fEntries _ (fun e=>snapF l e.fVary==e.fSnapshot) (by omega) (fun e he=>by
      unfold zFT
      rw [zO2 _ _ l h.fl (h.vr e he).1 (h.vr e he).2]; rfl),zAA]
  | false =>
    obtain ⟨s1,s2⟩:=zNF l strict h.ax h.al
    rw [zAB,zAB,zPp _ l strict h.ax h.fl,zAA]
    cases hb:(bestS t.fAxes l strict).2 with
    | false=>rfl
    | true =>
      rw [Bool.not_true,zAB,zAC,zLs t.fEntries _ (fun e=>hasB t.fAxes e (bestS t.fAxes l strict).1) (by omega) (fun e he=>by
        unfold zFf
        rw [zOM _ e _ ⟨h.al,fun a ha=>(h.ax a ha).1⟩ (h.ks e he) s1 s2]; rfl),zAA]
end Go.Eng.Pure
namespace Go.Eng.Pure
open Go Go.Eng
set_option linter.unusedVariables false
def wkX:List GAxis:=[⟨[97,99,99,101,112,116,45,108,97,110,103,117,97,103,101],[[101,110],[102,114]]⟩]
def wkE:GEntry:=⟨[[[101,110]],[[102,114]]],[],[],[],[],[49],0,0⟩
def wkF:GEntry:=⟨[[[102,114]]],[],[],[],[],[50],0,0⟩
def wkL:List GField:=[⟨[65,99,99,101,112,116,45,76,97,110,103,117,97,103,101],[101,110]⟩]
def wkT:GTable:=⟨wkX,[wkF]⟩
theorem wk1:putS ⟨[],[]⟩ wkE wkX 5=⟨wkX,[wkE]⟩:=by decide +kernel
theorem wk2:putS ⟨wkX,[wkE]⟩ wkF wkX 5=wkT:=by decide +kernel
theorem wk3:findS wkT wkL true=(-1,true):=by decide +kernel
theorem wk4:zNX wkT 5=true:=by decide +kernel
theorem zL0:kpA wkX:=zMe (by decide +kernel)
theorem zPO:smE wkE:=zKL (by decide +kernel)
theorem zPT:smE wkF:=zKL (by decide +kernel)
theorem zPs:kpT ⟨[],[]⟩:=zIu (by decide +kernel)
theorem zPb:kpT ⟨wkX,[wkE]⟩:=zIu (by decide +kernel)
theorem zNU:kpT wkT:=zIu (by decide +kernel)
theorem zQE:smL wkL:=zKN (by decide +kernel)
theorem zPj:zGP=some true:=by
  have p1:=zPF ⟨[],[]⟩ wkE wkX 5 (zKR zPs) (zJ3 zPO) (zI0 zPO) (zKT zL0) (zKU zL0) (by omega)
  have p2:=zPF ⟨wkX,[wkE]⟩ wkF wkX 5 (zKR zPb) (zJ3 zPT) (zI0 zPT) (zKT zL0) (zKU zL0) (by omega)
  have p3:=zNy wkT wkL true (zL7 zNU zQE)
  have p4:=zMp wkT 5 (zKR zNU) (zON zNU.1)
  rw [wk1] at p1
  rw [wk2] at p2
  rw [wk3] at p3
  rw [wk4] at p4
  unfold zGP
  show (zFB ⟨[],[]⟩ wkE wkX 5).bind _=_
  rw [p1,zAA]
  show (zFB ⟨wkX,[wkE]⟩ wkF wkX 5).bind _=_
  rw [p2,zAA]
  show (zE2 wkT wkL true).bind _=_
  rw [p3,zAA]
  show (((some true).bind fun b82=>_):Option Bool)=_
  rw [zAA]
  show ((zFQ wkT 5).bind _).bind _=_
  rw [p4]; rfl
theorem zRC {α:Type} (l:List α) (p:α→Bool):∀ n (i:Nat),lastI l p n=(i:Int)→(l[i]?).any p=true
  | 0,i,h=>by unfold lastI at h; omega
  | n+1,i,h=>by
    unfold lastI at h
    split at h
    · rename_i hp
      have:n=i:=by omega
      rw [← this]; exact hp
    · exact zRC l p n i h
theorem zRE (t : GTable) (x : GEntry) (b : List Str) (hax : smAx t.fAxes) (hk : smKs x.fKeys) (h1 : b.length ≤ 1000000) (h2 : smKy b) (h : hasB t.fAxes x b = true) :
    zAF (zQ8 t x (b,true)) 0=some (.inr true):=by
  rw [zCY (zQ8 t x (b,true)) x.fKeys (fun k=>sameL t.fAxes k b) (.inr true) (.inl ())]
  · unfold hasB at h
    rw [h]; rfl
  · intro n hn
    have hl:=hk.1
    obtain ⟨k1,k2⟩:=hk.2 _ (List.getElem_mem hn)
    unfold zQ8
    rw [zAK hn,zAC,zAC,zAG hn,zAA,zLd _ _ _ hax k2 h2 k1 h1,zAA,zAA,zPj,zAA,wrs (by omega)]
    cases sameL t.fAxes x.fKeys[n] b <;> rfl
  · unfold zQ8
    rw [zAI (Nat.le_refl _),zAB]
theorem zRB (t:GTable) (l:List GField) (strict:Bool):zQ9 t l strict=some true:=by
  unfold zQ9
  rw [zKZ,zAA,zHR]
  cases ht:keepT t with
  | false=>rfl
  | true =>
    cases hl:keepF l with
    | false=>rfl
    | true =>
      have hk:=zIu ht
      have h:=zL7 hk (zKN hl)
      rw [zNy t l strict h,zPj]
      simp only [Bool.not_true,zAB,zAA]
      unfold findS
      rw [show decide ((0:Int)<(t.fAxes.length:Int))=!t.fAxes.isEmpty by
        cases t.fAxes with
        | nil=>rfl
        | cons a l=>rw [decide_eq_true (by simp only [List.length_cons]; omega)]; rfl,zP6]
      cases hx:t.fAxes.isEmpty with
      | true =>
        simp only [zAC,Bool.not_true,Bool.or_false]
        rcases zRD t.fEntries (fun e=>snapF l e.fVary==e.fSnapshot) t.fEntries.length with g | g
        · rw [g]; rfl
        · obtain ⟨i,hi⟩:∃ i:Nat,lastI t.fEntries (fun e=>snapF l e.fVary==e.fSnapshot) t.fEntries.length=(i:Int):=⟨_,(Int.toNat_of_nonneg g.1).symm⟩
          have hs:=zRC _ _ _ i hi
          rw [hi] at g ⊢
          have hlt:i<t.fEntries.length:=by omega
          rw [List.getElem?_eq_getElem hlt] at hs
          have hm:=List.getElem_mem hlt
          rw [decide_eq_false (by omega),zAB,decide_eq_false (by omega),zAB,zAG hlt,zAA,zNO _ _ l h.fl (h.vr _ hm).1 (h.vr _ hm).2,zAA]
          simp only [Option.any_some] at hs
          rw [hs]; rfl
      | false =>
        simp only [zAB,Bool.not_false,Bool.or_true]
        obtain ⟨s1,s2⟩:=zNF l strict h.ax h.al
        have hB:=zOW t.fAxes l strict h.ax h.fl
        generalize bestS t.fAxes l strict=B at *
        obtain ⟨b,ok⟩:=B
        cases ok with
        | false=>rfl
        | true =>
          simp only [zAC] at s1 s2 ⊢
          rcases zRD t.fEntries (fun e=>hasB t.fAxes e b) t.fEntries.length with g | g
          · rw [g]; rfl
          · obtain ⟨i,hi⟩:∃ i:Nat,lastI t.fEntries (fun e=>hasB t.fAxes e b) t.fEntries.length=(i:Int):=⟨_,(Int.toNat_of_nonneg g.1).symm⟩
            have hs:=zRC _ _ _ i hi
            rw [hi] at g ⊢
            have hlt:i<t.fEntries.length:=by omega
            rw [List.getElem?_eq_getElem hlt] at hs
            have hm:=List.getElem_mem hlt
            simp only [Option.any_some] at hs
            rw [decide_eq_false (by omega),zAB,decide_eq_false (by omega),Bool.not_true,Bool.or_false,zAB,zAG hlt,zAA,hB,zAA,zRE t _ b ⟨h.al,fun a ha=>(h.ax a ha).1⟩ (h.ks _ hm) s1 s2 hs]
            rfl
end Go.Eng.Pure
