/- A part. -/
import Derived.Test.YtffangblkofjdaaGreatDoorFindE
import Derived.Test.YtffangblkofjdaaGreatDoorCacheP
import Derived.Lib.IndexAny
import Derived.Test.YtffangblkofjdaaGreatDoorTabW
set_option linter.unusedVariables false
namespace Go.Eng.Pure
open Go Go.Eng
set_option linter.unusedVariables false
def zGA (R:List (List Str)):List Str:=R.map fun r=>r.headD []
def rowsS (axes:List GAxis) (l:List GField) (strict:Bool):List (List Str):=axes.map (rkS l strict)
def fullR (R:List (List Str)):Bool:=R.all fun r=>!r.isEmpty
def bestS (axes:List GAxis) (l:List GField) (strict:Bool):List Str×Bool:=if valB axes&&fullR (rowsS axes l strict) then (zGA (rowsS axes l strict),true) else ([],false)
theorem zMy {axes:List GAxis} (h:valB axes=true):1≤axes.length∧axes.length≤4:=by
  unfold valB at h
  simp only [Bool.and_eq_true,decide_eq_true_eq] at h
  exact h.1
theorem zIg {α:Type} {l:List α} {n:Nat} (x:α) (h:n<l.length):xput l (n:Int) x=some (l.set n x):=by
  unfold xput
  rw [if_pos ⟨by omega,by omega⟩]; rfl
theorem zJH {α:Type} (n:Nat) (z:α) (h:n≤1000):xmake (n:Int) z=some (List.replicate n z):=by
  unfold xmake
  rw [if_pos ⟨by omega,by omega⟩]; rfl
theorem zPn {α:Type} (a:List α) (z x:α) (k:Nat):(a++List.replicate (k+1) z).set a.length x=(a++[x])++List.replicate k z:=by
  rw [List.set_append_right _ _ (Nat.le_refl _),Nat.sub_self,List.replicate_succ,List.set_cons_zero,List.append_assoc]; rfl
theorem zPF (axes : List GAxis) (l : List GField) (strict : Bool) (ha : ∀ a ∈ axes, smA a) (hl : smL l) (hn : axes.length ≤ 4) :
    zAE (zBH axes l strict) (0,List.replicate axes.length [])=some (if fullR (rowsS axes l strict) then .inl (rowsS axes l strict) else .inr []):=by
  have:=zGa (fun (st:List (List Str)) i=>(i,st++List.replicate (axes.length - st.length) [])) axes (fun st a=>if (rkS l strict a).isEmpty then .inr (.inr []) else .inl (st++[rkS l strict a])) (fun st=>(.inl st:List (List Str) ⊕ List (List Str))) (zBH axes l strict) (fun n st=>st.length=n) [] rfl ?_ ?_
  · simp only [List.nil_append,List.length_nil,Nat.sub_zero] at this
    rw [this]
    have e:∀ (xs:List GAxis) (st:List (List Str)),run (fun st a=>if (rkS l strict a).isEmpty then .inr (.inr []) else .inl (st++[rkS l strict a])) (fun st=>(.inl st:List (List Str) ⊕ List (List Str))) xs st=if fullR (xs.map (rkS l strict)) then .inl (st++xs.map (rkS l strict)) else .inr []:=by
      intro xs
      induction xs with
      | nil=>intro st; simp [run,fullR]
      | cons x xs ih =>
        intro st
        unfold run
        cases hx:(rkS l strict x).isEmpty with
        | true=>simp [fullR,hx]
        | false =>
          rw [if_neg (by decide)]
          simp only []
          rw [ih]
          unfold fullR
          rw [List.map_cons,List.all_cons,hx,Bool.not_false,Bool.true_and,List.append_assoc]; rfl
    rw [e,List.nil_append]; rfl
  · intro n hlt st hI
    subst hI
    have hm:=ha _ (List.getElem_mem hlt)
    have hk:axes.length - st.length=(axes.length - (st.length+1))+1:=by omega
    refine ⟨?_,?_⟩
    · unfold zBH
      simp only []
      rw [zAN hlt,zAC,zAK hlt,zAA,zKA _ l strict hm hl,zAA]
      generalize rkS l strict axes[st.length]=r
      rw [hk]
      have hln:st.length<(st++List.replicate (axes.length - (st.length+1)+1) ([]:List Str)).length:=by simp
      rw [zAK hln,zAA,zIg r hln,zAA,zPn]
      have hl2:st.length<((st++[r])++List.replicate (axes.length - (st.length+1)) ([]:List Str)).length:=by simp
      have hg:((st++[r])++List.replicate (axes.length - (st.length+1)) ([]:List Str))[st.length]=r:=by simp
      rw [zAK hl2,zAA,hg,show ((r.length:Int)==0)=r.isEmpty by rw [show ((r.length:Int)==0)=(r.length==0) from eqI _ 0]; cases r <;> rfl,wrs (by omega)]
      cases r.isEmpty with
      | true=>rfl
      | false =>
        rw [zAB,if_neg (by decide)]
        simp only [List.length_append,List.length_singleton]
    · intro st' h
      split at h
      · cases h
      · injection h with h; subst h; simp
  · intro st hI
    unfold zBH
    simp only []
    rw [zAM (Nat.le_refl _),zAB,hI,Nat.sub_self,List.replicate_zero,List.append_nil]
theorem zQp (R:List (List Str)) (hf:fullR R=true) (hn:R.length≤4):zAE (zBK R (List.replicate R.length 0)) (0,List.replicate R.length [])=some (zGA R):=by
  have hz:(List.replicate R.length (0:Int)).length=R.length:=List.length_replicate
  have:=zEE (fun (st:List Str) i=>(i,st++List.replicate (R.length - st.length) [])) R (fun st r=>st++[r.headD []]) id (zBK R (List.replicate R.length 0)) (fun n st=>st.length=n) [] rfl ?_ ?_
  · simp only [List.nil_append,List.length_nil,Nat.sub_zero] at this
    rw [this]
    have e:∀ (xs:List (List Str)) (st:List Str),xs.foldl (fun st r=>st++[r.headD []]) st=st++zGA xs:=by
      intro xs
      induction xs with
      | nil=>intro st; simp [zGA]
      | cons x xs ih=>intro st; rw [List.foldl_cons,ih,List.append_assoc]; rfl
    rw [e]; rfl
  · intro n hlt st hI
    subst hI
    have hk:R.length - st.length=(R.length - (st.length+1))+1:=by omega
    refine ⟨?_,by simp⟩
    unfold zBK
    simp only []
    have hzl:st.length<(List.replicate R.length (0:Int)).length:=by rw [hz]; exact hlt
    have hr:∃ x xs,R[st.length]=x :: xs:=by
      unfold fullR at hf
      rw [List.all_eq_true] at hf
      have:=hf _ (List.getElem_mem hlt)
      cases hr:R[st.length] with
      | nil=>rw [hr] at this; simp at this
      | cons x xs=>exact ⟨x,xs,rfl⟩
    obtain ⟨x,xs,hr⟩:=hr
    rw [hz,zAN hlt,zAC,zAK hzl,zAA,zAK hlt,zAA,List.getElem_replicate,hr,zDL,zAA,hk]
    have hln:st.length<(st++List.replicate (R.length - (st.length+1)+1) ([]:Str)).length:=by simp
    rw [zAK hln,zAA,zIg x hln,zAA,zPn,wrs (by omega)]
    simp only [List.length_append,List.length_singleton,List.headD_cons]
  · intro st hI
    unfold zBK
    simp only []
    rw [hz,zAM (Nat.le_refl _),zAB,hI,Nat.sub_self,List.replicate_zero,List.append_nil]; rfl
theorem zN8 (R:List (List Str)) (hn:R.length≤4) (hr:∀ r ∈ R,r.length≤16):∀ n,n≤R.length→∃ y:Int,y<R.length∧zAE (zBI R) ((n:Int) - 1,List.replicate R.length 0)=some (y,List.replicate R.length 0):=by
  have hz:(List.replicate R.length (0:Int)).length=R.length:=List.length_replicate
  intro n
  induction n with
  | zero =>
    intro _
    refine ⟨-1,by omega,zAG ?_⟩
    unfold zBI
    rfl
  | succ n ih =>
    intro hle
    have hlt:n<R.length:=by omega
    have hzl:n<(List.replicate R.length (0:Int)).length:=by rw [hz]; exact hlt
    have hrl:=hr _ (List.getElem_mem hlt)
    have e:((n+1:Nat):Int) - 1=(n:Int):=by omega
    have hb:zBI R ((n:Int),List.replicate R.length 0)=some (if R[n].length=1 then .inl ((n:Int) - 1,List.replicate R.length 0) else .inr ((n:Int),List.replicate R.length 0)):=by
      unfold zBI
      simp only []
      rw [decide_eq_true (by omega),zAC,zAK hzl,zAA,zAK hlt,zAA,List.getElem_replicate,zAA,wr_eq ⟨by omega,by omega⟩,wr_eq ⟨by omega,by omega⟩,zAA,zIg 0 hzl,zAA]
      have hs:(List.replicate R.length (0:Int)).set n 0=List.replicate R.length 0:=by
        apply List.ext_getElem (by simp)
        intro i h1 h2
        rw [List.getElem_set]
        simp
      rw [hs]
      by_cases h1:R[n].length=1
      · rw [if_pos h1,show ((0:Int)==(R[n].length:Int) - 1)=true by rw [beq_iff_eq]; omega,zAC]
      · rw [if_neg h1,show ((0:Int)==(R[n].length:Int) - 1)=false by rw [beq_eq_false_iff_ne]; omega,zAB]
    rw [e]
    by_cases h1:R[n].length=1
    · rw [if_pos h1] at hb
      obtain ⟨y,h2,h3⟩:=ih (by omega)
      exact ⟨y,h2,by rw [zAI hb]; exact h3⟩
    · rw [if_neg h1] at hb
      exact ⟨n,by omega,zAG hb⟩
theorem zQn (axes : List GAxis) (R : List (List Str)) (he : axes.length = R.length) (hf : fullR R = true) (hn : R.length ≤ 4) (hr : ∀ r ∈ R, r.length ≤ 16) :
    zAE (zA3 axes 1 R) (([]:List (List Str)),List.replicate R.length 0)=some [zGA R]:=by
  have hz:(List.replicate R.length (0:Int)).length=R.length:=List.length_replicate
  obtain ⟨y,h1,h2⟩:=zN8 R hn hr R.length (Nat.le_refl _)
  have hdone:∀ D:List Int,zAE (zA3 axes 1 R) ([zGA R],D)=some [zGA R]:=by
    intro D
    refine zAG ?_
    unfold zA3
    rfl
  have hb:zA3 axes 1 R (([]:List (List Str)),List.replicate R.length 0)=some (if y<0 then .inr [zGA R] else .inl ([zGA R],(List.replicate R.length (0:Int)).set y.toNat 1)):=by
    unfold zA3
    simp only []
    rw [show decide ((([]:List (List Str)).length:Int)<1)=true from rfl,zAC,he,zJH _ _ (by omega),zAA,zQp R hf hn,zAA,zBh (by simp) (zCY _),zAA,hz,wr_eq ⟨by omega,by omega⟩,h2,zAA]
    simp only [List.nil_append]
    by_cases hy:y<0
    · rw [decide_eq_true hy,zAC,if_pos hy]
    · have hyn:y=((y.toNat:Nat):Int):=by omega
      have hlt:y.toNat<(List.replicate R.length (0:Int)).length:=by rw [hz]; omega
      rw [decide_eq_false hy,zAB,if_neg hy]
      generalize y.toNat=m at *
      subst hyn
      rw [zAK hlt,zAA,zAA,List.getElem_replicate,zIg _ hlt,zAA]
      rfl
  by_cases hy:y<0
  · rw [if_pos hy] at hb; exact zAG hb
  · rw [if_neg hy] at hb; rw [zAI hb]; exact hdone _
theorem zRS (axes:List GAxis) (l:List GField) (strict:Bool):∀ r ∈ rowsS axes l strict,r.length≤16:=by
  intro r hr
  unfold rowsS at hr
  rw [List.mem_map] at hr
  obtain ⟨a,_,rfl⟩:=hr
  exact (zPa a l strict).1
theorem zR8 (axes:List GAxis) (l:List GField) (strict:Bool) (ha:∀ a ∈ axes,smA a) (hl:smL l):zCe axes l strict=some (bestS axes l strict):=by
  unfold zCe zDj bestS
  rw [zHk axes ha,zAA]
  cases hv:valB axes with
  | false=>rfl
  | true =>
    obtain ⟨n1,n2⟩:=zMy hv
    have he:axes.length=(rowsS axes l strict).length:=by unfold rowsS; rw [List.length_map]
    rw [Bool.not_true,zAB,zJH _ _ (by omega),zAA,zPF axes l strict ha hl n2,zAA,zJH _ _ (by omega),Bool.true_and]
    simp only [zAA]
    cases hf:fullR (rowsS axes l strict) with
    | false=>rfl
    | true =>
      rw [if_pos rfl,if_pos rfl]
      simp only []
      have:=zQn axes (rowsS axes l strict) he hf (by omega) (zRS axes l strict)
      rw [← he] at this
      rw [this,zAA,zAA]
      rfl
end Go.Eng.Pure
namespace Go.Eng.Pure
open Go Go.Eng
set_option linter.unusedVariables false
def badX (a:GAxis):Bool:=decide (100<a.fName.length)||!keepS a.fValues
def keepX (l:List GAxis):Bool:=!((l.take 7).any badX)&&decide (l.length≤6)
theorem zLV (l:List GAxis):zHo l=some (keepX l):=by
  unfold zHo keepX
  rw [zE0 l 7 badX]
  · have e:decide ((l.length:Int)≤6)=decide (l.length≤6):=zGs l.length 6
    rw [e]
    cases (l.take 7).any badX <;> simp
  · intro n hn hm
    have e1:decide ((n:Int)<7)=true:=zAN hm
    have e2:wr ((n:Int)+1)=(n:Int)+1:=by rw [wrs (n:=n) (by omega)]; omega
    have e3:decide (100<((l[n].fName.length:Nat):Int))=decide (100<l[n].fName.length):=zJj 100 _
    simp only [zGD,zAN hn,e1,Bool.and_self,zAC,zAK hn,zAA,e2,zDH,e3]
    unfold badX
    cases decide (100<l[n].fName.length) <;> cases keepS l[n].fValues <;> rfl
  · intro n hn
    have:(decide ((n:Int)<(l.length:Int))&&decide ((n:Int)<7))=false:=by
      rcases hn with h | h
      · rw [zAM h]; rfl
      · rw [show decide ((n:Int)<7)=false from zAM h]; simp
    simp only [zGD,this,zAB]
def keepT (t:GTable):Bool:=!((t.fEntries.take 9).any fun e=>!keepE e)&&(decide (t.fEntries.length≤8)&&keepX t.fAxes)
theorem zKY (t:GTable):zGS t=some (keepT t):=by
  unfold zGS keepT
  rw [zE0 t.fEntries 9 (fun e=>!keepE e),zAA,zLV]
  · have e:decide ((t.fEntries.length:Int)≤8)=decide (t.fEntries.length≤8):=zGs _ 8
    rw [e]
    cases (t.fEntries.take 9).any (fun e=>!keepE e) <;> cases decide (t.fEntries.length≤8) <;> cases keepX t.fAxes <;> rfl
  · intro n hn hm
    have e1:decide ((n:Int)<9)=true:=zAN hm
    have e2:wr ((n:Int)+1)=(n:Int)+1:=by rw [wrs (n:=n) (by omega)]; omega
    simp only [zFi,zAN hn,e1,Bool.and_self,zAC,zAK hn,zAA,e2,zKS]
    cases keepE t.fEntries[n] <;> rfl
  · intro n hn
    have:(decide ((n:Int)<(t.fEntries.length:Int))&&decide ((n:Int)<9))=false:=by
      rcases hn with h | h
      · rw [zAM h]; rfl
      · rw [show decide ((n:Int)<9)=false from zAM h]; simp
    simp only [zFi,this,zAB]
def kpA (l:List GAxis):Prop:=l.length≤6∧∀ a ∈ l,a.fName.length≤100∧a.fValues.length≤20∧∀ v ∈ a.fValues,v.length≤100
theorem zQL {l:List GAxis} (h:keepX l=true):kpA l:=by
  unfold keepX at h
  simp only [Bool.and_eq_true,Bool.not_eq_true',decide_eq_true_eq] at h
  refine ⟨h.2,fun a ha=>?_⟩
  rw [List.take_of_length_le (by omega)] at h
  have:=List.any_eq_false.1 h.1 a ha
  simp only [badX,Bool.or_eq_true,decide_eq_true_eq,Bool.not_eq_true',not_or,Bool.not_eq_false] at this
  have h2:=zNL this.2
  exact ⟨by omega,h2.1,h2.2⟩
theorem zMC {l:List GAxis} (h:kpA l):∀ a ∈ l,smA a:=fun a ha=>by
  obtain ⟨h1,h2,h3⟩:=h.2 a ha
  exact ⟨by omega,fun v hv=>by have:=h3 v hv; omega⟩
theorem zQ2 {e:GEntry} (h:smE e):smKs e.fKeys:=by
  obtain ⟨⟨h1,h2⟩,_⟩:=h
  exact ⟨by omega,fun k hk=>⟨by have:=(h2 k hk).1; omega,fun v hv=>by have:=(h2 k hk).2 v hv; omega⟩⟩
def kpT (t:GTable):Prop:=kpA t.fAxes∧t.fEntries.length≤8∧∀ e ∈ t.fEntries,smE e
theorem zQZ {t:GTable} (h:keepT t=true):kpT t:=by
  unfold keepT at h
  simp only [Bool.and_eq_true,Bool.not_eq_true',decide_eq_true_eq] at h
  obtain ⟨h1,h2,h3⟩:=h
  refine ⟨zQL h3,h2,fun e he=>?_⟩
  rw [List.take_of_length_le (by omega)] at h1
  have:=List.any_eq_false.1 h1 e he
  exact zQg (by simpa using this)
structure FindOK (t:GTable) (l:List GField):Prop where
  ax:∀ a ∈ t.fAxes,smA a
  al:t.fAxes.length≤1000000
  nm:t.fEntries.length≤1000000
  vr:∀ e ∈ t.fEntries,e.fVary.length≤1000∧∀ n ∈ e.fVary,n.length≤1073741824
  sn:∀ e ∈ t.fEntries,e.fSnapshot.length≤1073741824
  ks:∀ e ∈ t.fEntries,smKs e.fKeys
  fl:smL l
theorem zM3 {t:GTable} {l:List GField} (h:kpT t) (hl:smL l):FindOK t l:=by
  refine ⟨zMC h.1,by have:=h.1.1; omega,by have:=h.2.1; omega,fun e he=>?_,fun e he=>?_,fun e he=>zQ2 (h.2.2 e he),hl⟩
  · obtain ⟨_,h3,_⟩:=h.2.2 e he
    exact ⟨h3.1,fun n hn=>by have:=h3.2 n hn; omega⟩
  · obtain ⟨_,_,h4,_⟩:=h.2.2 e he
    have:=h4.1; omega
def findS (t:GTable) (l:List GField) (strict:Bool):Int×Bool :=
  bif t.fAxes.isEmpty then (lastI t.fEntries (fun e=>snapF l e.fVary==e.fSnapshot) t.fEntries.length,true)
  else bif (bestS t.fAxes l strict).2 then (lastI t.fEntries (fun e=>hasB t.fAxes e (bestS t.fAxes l strict).1) t.fEntries.length,true) else (-1,false)
theorem zRw {axes:List GAxis} (l:List GField) (strict:Bool) (ha:∀ a ∈ axes,smA a) (hn:axes.length≤1000000):(bestS axes l strict).1.length≤1000000∧smKy (bestS axes l strict).1:=by
  unfold bestS
  split
  · refine ⟨by unfold zGA rowsS; simp only [List.length_map]; exact hn,fun v hv=>?_⟩
    unfold zGA rowsS at hv
    simp only [List.mem_map] at hv
    obtain ⟨r,⟨a,ham,rfl⟩,rfl⟩:=hv
    have h2:=(zPa a l strict).2
    cases hr:rkS l strict a with
    | nil=>simp
    | cons x xs =>
      rw [hr] at h2
      exact (ha a ham).2 x (h2 x List.mem_cons_self)
  · exact ⟨by simp,fun v hv=>by cases hv⟩
theorem zRO {α:Type} (l:List α):((l.length:Int)==0)=l.isEmpty:=by
  rw [show ((l.length:Int)==0)=(l.length==0) from eqI _ 0]; cases l <;> rfl
theorem zO4 (t:GTable) (l:List GField) (strict:Bool) (h:FindOK t l):zEG t l strict=some (findS t l strict):=by
  unfold zEG findS
  have hnm:=h.nm
  rw [zRO]
  cases hx:t.fAxes.isEmpty with
  | true =>
    rw [zAC,zAC,zPG t.fEntries _ (fun e=>snapF l e.fVary==e.fSnapshot) (by omega) (fun e he=>by
      unfold zEn
      rw [zRA _ _ l h.fl (h.vr e he).1 (h.vr e he).2]; rfl),zAA]
  | false =>
    obtain ⟨s1,s2⟩:=zRw l strict h.ax h.al
    rw [zAB,zAB,zR8 _ l strict h.ax h.fl,zAA]
    cases hb:(bestS t.fAxes l strict).2 with
    | false=>rfl
    | true =>
      rw [Bool.not_true,zAB,zAC,zPG t.fEntries _ (fun e=>hasB t.fAxes e (bestS t.fAxes l strict).1) (by omega) (fun e he=>by
        unfold zEq
        rw [zSD _ e _ ⟨h.al,fun a ha=>(h.ax a ha).1⟩ (h.ks e he) s1 s2]; rfl),zAA]
end Go.Eng.Pure
namespace Go.Eng.Pure
open Go Go.Eng
def plc (c:UInt8):Bool:=decide (33≤c)&&decide (c≤126)&&!([40,41,44,34]:Str).contains c
def zDP (v:Str):Bool:=!v.isEmpty&&v.all plc
def qb (v:Str):Str:=v.flatMap fun c=>bif c==34||c==92 then [92,c] else [c]
def zI7 (v:Str):Str:=34 :: (qb v++[34])
def encV (v:Str):Str:=bif zDP v then v else zI7 v
def joinV:List Str→Str
  | []=>[]
  | [v]=>encV v
  | v :: w :: r=>encV v++32 :: joinV (w :: r)
def gwS (l:List Str):Str:=40 :: (joinV l++[41])
def clsP:List (Str×List Str)→Str
  | []=>[]
  | [p]=>p.1++61 :: gwS p.2
  | p :: q :: r=>p.1++61 :: gwS p.2++44 :: 32 :: clsP (q :: r)
theorem zSV:∀ (v w x y:Str),qb v++34 :: x=qb w++34 :: y→v=w∧x=y:=by
  intro v
  induction v with
  | nil =>
    intro w x y h
    cases w with
    | nil=>simpa [qb] using h
    | cons c w =>
      simp only [qb,List.flatMap_nil,List.nil_append,List.flatMap_cons] at h
      cases hc:(c==34||c==92) with
      | true=>rw [hc] at h; simp at h
      | false =>
        rw [hc] at h
        simp only [cond_false,List.cons_append,List.nil_append,List.cons.injEq] at h
        rw [← h.1] at hc; simp at hc
  | cons c v ih =>
    intro w x y h
    cases w with
    | nil =>
      simp only [qb,List.flatMap_nil,List.nil_append,List.flatMap_cons] at h
      cases hc:(c==34||c==92) with
      | true=>rw [hc] at h; simp at h
      | false =>
        rw [hc] at h
        simp only [cond_false,List.cons_append,List.nil_append,List.cons.injEq] at h
        rw [h.1] at hc; simp at hc
    | cons d w =>
      simp only [qb,List.flatMap_cons] at h
      cases hc:(c==34||c==92) with
      | true =>
        cases hd:(d==34||d==92) with
        | true =>
          rw [hc,hd] at h
          simp only [cond_true,List.cons_append,List.nil_append,List.cons.injEq,true_and] at h
          obtain ⟨h1,h2⟩:=ih w x y h.2
          exact ⟨by rw [h.1,h1],h2⟩
        | false =>
          rw [hc,hd] at h
          simp only [cond_true,cond_false,List.cons_append,List.nil_append,List.cons.injEq] at h
          rw [← h.1] at hd; simp at hd
      | false =>
        cases hd:(d==34||d==92) with
        | true =>
          rw [hc,hd] at h
          simp only [cond_true,cond_false,List.cons_append,List.nil_append,List.cons.injEq] at h
          rw [h.1] at hc; simp at hc
        | false =>
          rw [hc,hd] at h
          simp only [cond_false,List.cons_append,List.nil_append,List.cons.injEq] at h
          obtain ⟨h1,h2⟩:=ih w x y h.2
          exact ⟨by rw [h.1,h1],h2⟩
def ends (x:Str):Prop:=∃ c r,x=c :: r∧plc c=false
theorem zOm:∀ (v w x y:Str),v.all plc=true→w.all plc=true→ends x→ends y→v++x=w++y→v=w∧x=y:=by
  intro v
  induction v with
  | nil =>
    intro w x y _ hw hx hy h
    cases w with
    | nil=>exact ⟨rfl,h⟩
    | cons d w =>
      obtain ⟨c,r,rfl,hc⟩:=hx
      simp only [List.nil_append,List.cons_append,List.cons.injEq] at h
      simp only [List.all_cons,Bool.and_eq_true] at hw
      rw [h.1,hw.1] at hc; cases hc
  | cons c v ih =>
    intro w x y hv hw hx hy h
    simp only [List.all_cons,Bool.and_eq_true] at hv
    cases w with
    | nil =>
      obtain ⟨d,r,rfl,hd⟩:=hy
      simp only [List.nil_append,List.cons_append,List.cons.injEq] at h
      rw [← h.1,hv.1] at hd; cases hd
    | cons d w =>
      simp only [List.cons_append,List.cons.injEq] at h
      simp only [List.all_cons,Bool.and_eq_true] at hw
      obtain ⟨h1,h2⟩:=ih w x y hv.2 hw.2 hx hy h.2
      exact ⟨by rw [h.1,h1],h2⟩
theorem zHw {v:Str} (h:zDP v=true):∃ c r,v=c :: r∧plc c=true∧v.all plc=true:=by
  unfold zDP at h
  rw [Bool.and_eq_true] at h
  cases v with
  | nil=>simp at h
  | cons c r=>exact ⟨c,r,rfl,by have:=h.2; simp only [List.all_cons,Bool.and_eq_true] at this; exact this.1,h.2⟩
theorem zIr (v w x y:Str) (hx:ends x) (hy:ends y) (h:encV v++x=encV w++y):v=w∧x=y:=by
  unfold encV at h
  cases hv:zDP v with
  | true =>
    obtain ⟨c,r,e,hc,ha⟩:=zHw hv
    cases hw:zDP w with
    | true =>
      obtain ⟨d,s,e2,hd,hb⟩:=zHw hw
      rw [hv,hw] at h
      exact zOm v w x y ha hb hx hy h
    | false =>
      rw [hv,hw,e] at h
      simp only [cond_true,cond_false,zI7,List.cons_append,List.cons.injEq] at h
      rw [h.1] at hc; exact absurd hc (by decide)
  | false =>
    cases hw:zDP w with
    | true =>
      obtain ⟨d,s,e2,hd,hb⟩:=zHw hw
      rw [hv,hw,e2] at h
      simp only [cond_true,cond_false,zI7,List.cons_append,List.cons.injEq] at h
      rw [← h.1] at hd; exact absurd hd (by decide)
    | false =>
      rw [hv,hw] at h
      simp only [cond_false,zI7,List.cons_append,List.cons.injEq,true_and,List.append_assoc,List.nil_append] at h
      exact zSV v w x y h
theorem zHQ (v x:Str):∃ c r,encV v++x=c :: r∧c≠41:=by
  unfold encV
  cases hv:zDP v with
  | true =>
    obtain ⟨c,r,e,hc,_⟩:=zHw hv
    refine ⟨c,r++x,by rw [e]; rfl,fun h=>?_⟩
    rw [h] at hc; exact absurd hc (by decide)
  | false=>exact ⟨34,_,rfl,by decide⟩
theorem zKz (x:Str):ends (41 :: x):=⟨41,x,rfl,by decide⟩
theorem zKn (x:Str):ends (32 :: x):=⟨32,x,rfl,by decide⟩
theorem zJN:∀ (l m:List Str) (x y:Str),joinV l++41 :: x=joinV m++41 :: y→l=m∧x=y
  | [],[],x,y,h=>by simp only [joinV,List.nil_append,List.cons.injEq,true_and] at h; exact ⟨rfl,h⟩
  | [],[w],x,y,h=>by
    obtain ⟨c,r,e,hc⟩:=zHQ w (41 :: y)
    simp only [joinV,List.nil_append] at h
    rw [e] at h; injection h with h1 _; exact absurd h1.symm hc
  | [],w :: w2 :: m,x,y,h=>by
    obtain ⟨c,r,e,hc⟩:=zHQ w (32 :: joinV (w2 :: m)++41 :: y)
    simp only [joinV,List.nil_append,List.append_assoc] at h e
    rw [e] at h; injection h with h1 _; exact absurd h1.symm hc
  | [v],[],x,y,h=>by
    obtain ⟨c,r,e,hc⟩:=zHQ v (41 :: x)
    simp only [joinV,List.nil_append] at h
    rw [e] at h; injection h with h1 _; exact absurd h1 hc
  | v :: v2 :: l,[],x,y,h=>by
    obtain ⟨c,r,e,hc⟩:=zHQ v (32 :: joinV (v2 :: l)++41 :: x)
    simp only [joinV,List.nil_append,List.append_assoc] at h e
    rw [e] at h; injection h with h1 _; exact absurd h1 hc
  | [v],[w],x,y,h=>by
    obtain ⟨h1,h2⟩:=zIr v w _ _ (zKz x) (zKz y) (by simpa [joinV] using h)
    injection h2 with _ h2
    exact ⟨by rw [h1],h2⟩
  | [v],w :: w2 :: m,x,y,h=>by
    obtain ⟨_,h2⟩:=zIr v w (41 :: x) (32 :: (joinV (w2 :: m)++41 :: y)) (zKz x) (zKn _) (by simpa [joinV] using h)
    injection h2 with h2 _; exact absurd h2 (by decide)
  | v :: v2 :: l,[w],x,y,h=>by
    obtain ⟨_,h2⟩:=zIr v w (32 :: (joinV (v2 :: l)++41 :: x)) (41 :: y) (zKn _) (zKz y) (by simpa [joinV] using h)
    injection h2 with h2 _; exact absurd h2 (by decide)
  | v :: v2 :: l,w :: w2 :: m,x,y,h=>by
    obtain ⟨h1,h2⟩:=zIr v w (32 :: (joinV (v2 :: l)++41 :: x)) (32 :: (joinV (w2 :: m)++41 :: y)) (zKn _) (zKn _) (by simpa [joinV] using h)
    injection h2 with _ h2
    obtain ⟨h3,h4⟩:=zJN (v2 :: l) (w2 :: m) x y h2
    exact ⟨by rw [h1,h3],h4⟩
theorem zPO {α:Type} (nm:α→Str) (f g:α→List Str):∀ (axes:List α),clsP (axes.map fun a=>(nm a,f a))=clsP (axes.map fun a=>(nm a,g a))→∀ a ∈ axes,f a=g a
  | [],_=>fun a h=>by cases h
  | [a],h=>by
    simp only [List.map_cons,List.map_nil,clsP,gwS] at h
    have h:=List.append_cancel_left h
    injection h with _ h
    injection h with _ h
    obtain ⟨h1,_⟩:=zJN (f a) (g a) [] [] h
    intro b hb
    rw [List.mem_singleton.1 hb]; exact h1
  | a :: b :: r,h=>by
    simp only [List.map_cons,clsP,gwS,List.cons_append,List.append_assoc] at h
    have h:=List.append_cancel_left h
    injection h with _ h
    injection h with _ h
    simp only [List.nil_append] at h
    obtain ⟨h1,h2⟩:=zJN (f a) (g a) _ _ h
    injection h2 with _ h2
    injection h2 with _ h2
    have ih:=zPO nm f g (b :: r) (by simpa using h2)
    intro c hc
    rcases List.mem_cons.1 hc with rfl | hc
    · exact h1
    · exact ih c hc
end Go.Eng.Pure
namespace Go.Eng.Pure
open Go Go.Eng
set_option linter.unusedVariables false
theorem zQO (s:Str) (h:s.length≤1000000):zFa s=some (zDP s):=by
  unfold zFa zDP
  have:=zHu s (by omega) (fun c=>!plc c) (zDe s) false ?_ ?_
  · rw [this]
    cases ha:s.any (fun c=>!plc c) with
    | true =>
      have:s.all plc=false:=by
        rw [Bool.eq_false_iff]; intro h2
        rw [List.any_eq_true] at ha
        obtain ⟨c,hc,hb⟩:=ha
        rw [List.all_eq_true.1 h2 c hc] at hb; cases hb
      rw [this]; simp
    | false =>
      have:s.all plc=true:=by
        rw [List.all_eq_true]; intro c hc
        have:=List.any_eq_false.1 ha c hc
        simpa using this
      rw [this]
      cases s <;> simp
  · intro n hn
    unfold zDe
    rw [zAN hn,zAC,zAK hn,zAA]
    simp only [zAA]
    have e:decide (0≤Lib.indexByte [40,41,44,34] s[n])=([40,41,44,34]:Str).contains s[n]:=(Lib.contains_iff_indexByte _ _).symm
    simp only [strings_IndexByte,zAA,e]
    generalize s[n]=c
    have h1:decide (c<33)=!decide (33≤c):=by rw [Bool.eq_iff_iff]; simp [UInt8.not_le]
    have h2:decide (126<c)=!decide (c≤126):=by rw [Bool.eq_iff_iff]; simp [UInt8.not_le]
    rw [h1,h2]
    unfold plc
    generalize decide (33≤c)=a
    generalize decide (c≤126)=b
    generalize ([40,41,44,34]:Str).contains c=d
    cases a <;> cases b <;> cases d <;> rfl
  · unfold zDe
    rw [zAM (Nat.le_refl _),zAB]
theorem zRV (s:Str):quote s=zI7 s:=by
  unfold quote zI7 qb
  have:(fun c:UInt8=>if c=34∨c=92 then [92,c] else [c])=(fun c:UInt8=>bif c==34||c==92 then [92,c] else [c]):=by
    funext c
    by_cases h1:c=34
    · simp [h1]
    · by_cases h2:c=92
      · simp [h2]
      · rw [if_neg (by simp [h1,h2]),show (c==34||c==92)=false from by rw [beq_eq_false_iff_ne.2 h1,beq_eq_false_iff_ne.2 h2]; rfl]; rfl
  rw [this]
theorem zSI (s:Str):(qb s).length≤2*s.length:=by
  unfold qb
  induction s with
  | nil=>exact Nat.le_refl _
  | cons c t ih =>
    have e:(bif c==34||c==92 then [92,c] else [c]).length≤2:=by
      cases c==34||c==92 <;> simp
    rw [List.flatMap_cons,List.length_append,List.length_cons]
    omega
theorem zNj (s:Str):(encV s).length≤2*s.length+2:=by
  unfold encV
  cases zDP s with
  | true=>rw [cond_true]; omega
  | false =>
    rw [cond_false]
    unfold zI7
    have:=zSI s
    simp only [List.length_cons,List.length_append,List.length_nil]; omega
theorem zM8:∀ l:List Str,jo (l.map encV) [32]=joinV l
  | []=>rfl
  | [v]=>by simp [joinV,jo,Lib.join]
  | v :: w :: r=>by
    have:=zM8 (w :: r)
    simp only [joinV,List.map_cons,jo,Lib.join] at this ⊢
    rw [← this]
    simp [List.intercalate,List.intersperse]
theorem zJQ:∀ (l:List Str) (B:Nat),(∀ v ∈ l,v.length≤B)→(joinV l).length≤l.length*(2*B+3)
  | [],B,_=>by simp [joinV]
  | [v],B,h=>by
    have h1:=zNj v
    have h2:=h v List.mem_cons_self
    simp only [joinV,List.length_cons,List.length_nil]; omega
  | v :: w :: r,B,h=>by
    have h1:=zNj v
    have h2:=h v List.mem_cons_self
    have h3:=zJQ (w :: r) B fun x hx=>h x (List.mem_cons_of_mem _ hx)
    simp only [joinV,List.length_append,List.length_cons] at h3 ⊢
    have:(r.length+1+1)*(2*B+3)=(r.length+1)*(2*B+3)+(2*B+3):=by rw [Nat.succ_mul]
    omega
theorem zQ8 (l:List Str) (hl:l.length≤100) (hv:∀ v ∈ l,v.length≤1000):zDb l=some (gwS l):=by
  unfold zDb
  have key:=zEE (fun (st:List Str) i=>(st,i)) l (fun st v=>st++[encV v]) id (zCd l) (fun n st=>st.length=n) [] rfl ?_ ?_
  · have key2:zAE (zCd l) (([]:List Str),(0:Int))=_:=key
    rw [key2,zAA]
    have e:∀ (l a:List Str),l.foldl (fun st v=>st++[encV v]) a=a++l.map encV:=by
      intro l
      induction l with
      | nil=>intro a; simp
      | cons v l ih=>intro a; rw [List.foldl_cons,ih]; simp
    rw [e,List.nil_append]
    have h1:=zJQ l 1000 hv
    have h2:(joinV l).length≤1000000:=by
      have:l.length*(2*1000+3)≤100*2003:=Nat.mul_le_mul_right _ hl
      omega
    have e2:strings_Join (id (l.map encV)) [32]=some (joinV l):=by
      unfold strings_Join
      show (if (jo (l.map encV) [32]).length≤big∧(l.map encV).length≤big then some (jo (l.map encV) [32]) else none)=_
      rw [zM8,if_pos ⟨by simp only [big]; omega,by rw [List.length_map]; simp only [big]; omega⟩]
    rw [e2,zAA,zEU (zCY _) (Nat.le_trans h2 (by omega)),zAA,zEU (by rw [List.length_append]; simp only [List.length_cons,List.length_nil]; omega) (zCY _),zAA]
    unfold gwS
    simp
  · intro n hn st hI
    refine ⟨?_,by rw [List.length_append,hI]; rfl⟩
    have hx:=hv _ (List.getElem_mem hn)
    unfold zCd
    simp only []
    rw [zAN hn,zAC,zAK hn,zAA,zQO _ (by omega),zAA,wrs (by omega)]
    have hst:st.length≤64*1073741824:=by omega
    unfold encV
    cases zDP l[n] with
    | true=>simp only [Bool.not_true,zAB,zAC,zAA,zBh hst (zCY _)]
    | false=>simp only [Bool.not_false,zAC,zAB,zLr _ (show l[n].length≤1073741824 by omega),zRV,zAA,zBh hst (zCY _)]
  · intro st hI
    unfold zCd
    simp only []
    rw [zAM (Nat.le_refl _),zAB]; rfl
theorem zRe (l:List Str) (hl:l.length≤100) (hv:∀ v ∈ l,v.length≤1000):(gwS l).length≤300000:=by
  have h1:=zJQ l 1000 hv
  have:l.length*(2*1000+3)≤100*2003:=Nat.mul_le_mul_right _ hl
  unfold gwS
  simp only [List.length_cons,List.length_append,List.length_nil]; omega
theorem zLs (f : GAxis → Str × List Str) : ∀ (axes : List GAxis) (a : Str) (i : Nat), 0 < i →
    (axes.foldl (fun (st:Str×Nat) x=>(st.1++((if 0<st.2 then [44,32] else [])++((f x).1++61 :: gwS (f x).2)),st.2+1)) (a,i)).1=a++(match axes with | []=>[] | _=>44 :: 32 :: clsP (axes.map f))
  | [],a,i,_=>by simp
  | [x],a,i,h=>by simp [clsP,h]
  | x :: y :: r,a,i,h=>by
    rw [List.foldl_cons,zLs f (y :: r) _ _ (by omega)]
    simp [clsP,h]
theorem zOX (f : GAxis → Str × List Str) (axes : List GAxis) :
    (axes.foldl (fun (st:Str×Nat) x=>(st.1++((if 0<st.2 then [44,32] else [])++((f x).1++61 :: gwS (f x).2)),st.2+1)) ([],0)).1=clsP (axes.map f):=by
  cases axes with
  | nil=>rfl
  | cons x r =>
    rw [List.foldl_cons,zLs f r _ _ (by simp)]
    cases r with
    | nil=>simp [clsP]
    | cons y r=>simp [clsP]
theorem zNt (axes:List GAxis) (l:List GField) (strict:Bool) (ha:kpA axes) (hl:smL l):zDZ axes l strict=some (if valB axes then clsP (axes.map fun a=>(a.fName,rkS l strict a)) else []):=by
  have hsm:=zMC ha
  unfold zDZ
  rw [zHk axes hsm,zAA]
  cases hv:valB axes with
  | false=>rfl
  | true =>
    obtain ⟨n1,n2⟩:=zMy hv
    rw [Bool.not_true,zAB,if_pos rfl]
    have hr:∀ a ∈ axes,(rkS l strict a).length≤100∧∀ v ∈ rkS l strict a,v.length≤1000:=fun a hm=>by
      obtain ⟨r1,r2⟩:=zPa a l strict
      exact ⟨by omega,fun v hvv=>by have:=(ha.2 a hm).2.2 v (r2 v hvv); omega⟩
    have key:=zEE (fun (st:Str×Nat) i=>(i,st.1)) axes (fun (st:Str×Nat) x=>(st.1++((if 0<st.2 then [44,32] else [])++(x.fName++61 :: gwS (rkS l strict x))),st.2+1)) Prod.fst (zB5 axes l strict)
      (fun n st=>st.2=n∧st.1.length≤1000000*n) ([],0) ⟨rfl,Nat.zero_le _⟩ ?_ ?_
    · have key2:zAE (zB5 axes l strict) (0,([]:Str))=_:=key
      rw [key2,zAA]
      have:=zOX (fun a=>(a.fName,rkS l strict a)) axes
      rw [← this]; rfl
    · rintro n hn ⟨st,i⟩ ⟨hi,hI⟩
      change i=n at hi
      change st.length≤1000000*n at hI
      subst hi
      have hm:=List.getElem_mem (l:=axes) hn
      generalize hax:axes[i]=ax at hm
      obtain ⟨q1,q2⟩:=hr _ hm
      have hg:=zRe _ q1 q2
      have hnm:=(ha.2 _ hm).1
      have hIb:st.length≤4000000:=by
        have:1000000*i≤1000000*4:=Nat.mul_le_mul_left _ (by omega)
        omega
      refine ⟨?_,rfl,?_⟩
      · unfold zB5
        simp only []
        rw [zAN hn,zAC,zAK hn,zAA,wrs (by omega)]
        simp only [hax]
        have hw : ∀ m : Str, m.length ≤ 5000000 → ((xcat ax.fName [61]).bind fun s72 => (zBD ax l strict).bind fun r73 => (zDb r73).bind fun r79 => (xcat s72 r79).bind fun s84 => (zAD s84 m).bind fun r85 =>
            some (Sum.inl (((i+1:Nat):Int),r85.2.2):(Int×List UInt8) ⊕ List UInt8))=some (.inl (((i+1:Nat):Int),m++(ax.fName++61 :: gwS (rkS l strict ax)))):=by
          intro m hm2
          rw [zEU (by omega) (by simp),zAA,zKA _ l strict (hsm _ hm) hl,zAA,zQ8 _ q1 q2,zAA,zEU (by simp; omega) (by omega),zAA,WS_eq _ _ (by simp; omega) (by omega),zAA]
          simp
        by_cases h0:0<i
        · rw [show decide ((0:Int)<(i:Int))=true from decide_eq_true (by omega),zAC,WS_eq _ _ (by simp) (by omega),zAA,zAA]
          simp only []
          rw [hw _ (by simp; omega),if_pos h0]
          simp
        · rw [show decide ((0:Int)<(i:Int))=false from decide_eq_false (by omega),zAB,zAA]
          rw [hw _ (by omega),if_neg h0]
          simp
      · change (st++((if 0<i then [44,32] else ([]:Str))++(ax.fName++61 :: gwS (rkS l strict ax)))).length≤1000000*(i+1)
        simp only [List.length_append,List.length_cons]
        have:(if 0<i then [44,32] else ([]:Str)).length≤2:=by split <;> simp
        rw [Nat.mul_succ]; omega
    · rintro ⟨st,i⟩ ⟨h1,hI⟩
      unfold zB5
      simp only []
      rw [zAM (Nat.le_refl _),zAB]
noncomputable def zGZ (t:GTable) (l m:List GField) (s:Bool):Option Bool :=
  (zGS t).bind fun r =>
  (bif !r then some true else (zDY l).bind fun r=>some (!r)).bind fun b1 =>
  (bif b1 then some true else (zDY m).bind fun r=>some (!r)).bind fun b2 =>
  (bif (b2||((t.fAxes.length:Int)==0)) then some true else (zIJ t.fAxes l m s).bind fun r=>some (!r)).bind fun b3 =>
  (bif b3 then some true
  else
    (zEG t l s).bind fun r1 =>
    (zEG t m s).bind fun r2 =>
    (bif ((r1.1==r2.1)&&(r1.2==r2.2)) then some true else some false).bind fun b=>some b)
theorem zJD (t:GTable) (l m:List GField) (s:Bool):zGZ t l m s=some true:=by
  unfold zGZ
  rw [zKY,zAA,zEs,zEs]
  cases ht:keepT t with
  | false=>rfl
  | true =>
    cases hl:keepF l with
    | false=>rfl
    | true =>
      cases hm:keepF m with
      | false=>rfl
      | true =>
        have kt:=zQZ ht
        have kl:=zKc hl
        have km:=zKc hm
        simp only [Bool.not_true,zAB,zAA,Bool.false_or]
        rw [zRO]
        cases hx:t.fAxes.isEmpty with
        | true=>rfl
        | false =>
          rw [zAB]
          unfold zIJ
          rw [zHk _ (zMC kt.1),zAA]
          cases hv:valB t.fAxes with
          | false=>rfl
          | true =>
            rw [zAC,zNt _ l s kt.1 kl,zNt _ m s kt.1 km,zAA,zAA,hv,if_pos rfl,if_pos rfl,zAA,zAA,zAA]
            cases hq:(clsP (t.fAxes.map fun a=>(a.fName,rkS l s a)))==(clsP (t.fAxes.map fun a=>(a.fName,rkS m s a))) with
            | false=>rfl
            | true =>
              have hrow:=zPO (fun a:GAxis=>a.fName) (fun a=>rkS l s a) (fun a=>rkS m s a) t.fAxes (by simpa using hq)
              rw [Bool.not_true,zAB,zO4 t l s (zM3 kt kl),zO4 t m s (zM3 kt km),zAA,zAA]
              have hb:bestS t.fAxes l s=bestS t.fAxes m s:=by
                unfold bestS rowsS
                rw [show t.fAxes.map (rkS l s)=t.fAxes.map (rkS m s) from List.map_congr_left hrow]
              have:findS t l s=findS t m s:=by
                unfold findS
                rw [hx,zAB,zAB,hb]
              rw [this]
              simp
end Go.Eng.Pure
namespace Go.Proofs
open Go Go.Eng Go.VI Go.Eng.Pure
set_option maxRecDepth 10000
theorem cLaw:FE.ok (U:=UU) Tryz.prog ⟨3,[.st 25,.sl (.st 41),.sl (.st 41),.boo],[.boo],fun x=>zGZ x.1 x.2.1 x.2.2.1 x.2.2.2⟩:=mk (fcons cAw (fcons c4 (fcons c5 (fcons c6 (fcons c8 anil))))) .e Tryz.func3
theorem zSU (H:Hp):GlOk UU H:=fun _ _ e=>by cases e
theorem zIC {w0 : World} {H0 : Hp} (hw : Holds w0 H0) (hG : Tryz.Gl w0) (p_t : GTable) (p_l p_m : (List GField)) (p_s : Bool) {vp_t0 : Value} {vp_t1 : Value} {vp_l : Value} {vp_m : Value} (Rp_t0 : Sl (α := GAxis) H0 vp_t0 p_t.fAxes) (Rp_t1 : Sl (α := GEntry) H0 vp_t1 p_t.fEntries) (Rp_l : Sl (α := GField) H0 vp_l p_l) (Rp_m : Sl (α := GField) H0 vp_m p_m) {r : Bool} (h : zGZ p_t p_l p_m p_s = some r) :
    Con Tryz.prog 3 [(agg [vp_t0,vp_t1]),vp_l,vp_m,(boo p_s)] w0 H0 (fun _ v=>v=(boo r)):=by
  refine (cLaw (xs:=(p_t,p_l,p_m,p_s)) (y:=r) hw (zSU H0) hG ⟨_,_,rfl,⟨_,rfl,⟨_,_,rfl,Rp_t0,Rp_t1⟩⟩,⟨_,_,rfl,Rp_l,⟨_,_,rfl,Rp_m,⟨_,rfl,rfl⟩⟩⟩⟩ h).mono ?_
  rintro _ v ⟨_,rfl,v1,rfl,e⟩
  exact e
end Go.Proofs
