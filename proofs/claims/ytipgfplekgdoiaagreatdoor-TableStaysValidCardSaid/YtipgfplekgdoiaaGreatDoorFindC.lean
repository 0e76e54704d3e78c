/- A part of the proof of laws of the seat. -/
import Derived.Test.YtipgfplekgdoiaaGreatDoorTabW
set_option linter.unusedVariables false
namespace Go.Eng.Pure
open Go Go.Eng
set_option linter.unusedVariables false
theorem zTQ (axes : List GAxis) (e : GEntry) (i j : Nat) (hi : i < e.fKeys.length) (hj : j < axes.length) (hk : j < e.fKeys[i].length) (hv : axes[j].fValues.length ≤ 1073741824) :
    zAF (zSY axes e (i:Int) (j:Int)) (false,0)=some (axes[j].fValues.contains (e.fKeys[i][j])):=by
  have:=zBB (fun (st:Bool) n=>(st,n)) axes[j].fValues (fun st x=>st||x==e.fKeys[i][j]) id (zSY axes e (i:Int) (j:Int)) (fun _ _=>True) false trivial ?_ ?_
  · rw [this]
    congr 1
    have key:∀ (l:List Str) (acc:Bool),l.foldl (fun st x=>st||x==e.fKeys[i][j]) acc=(acc||l.contains e.fKeys[i][j]):=by
      intro l
      induction l with
      | nil=>intro acc; simp
      | cons x l ih =>
        intro acc
        rw [List.foldl_cons,ih,List.contains_cons,Bool.or_assoc]
        congr 2
        exact Bool.beq_comm
    rw [key]; simp
  · intro n hn st _
    refine ⟨?_,trivial⟩
    simp only [zSY]
    rw [zAG hj,zAA,zAK hn,zAC,zAA,zAG hn,zAA,zAG hi,zAA,zAG hk,zAA,wrs (show n≤4*1073741824 by omega)]
    cases st <;> rfl
  · intro st _
    simp only [zSY]
    rw [zAG hj,zAA,zAH (Nat.le_refl _),zAB]
    rfl
theorem zTI (axes : List GAxis) (e : GEntry) (i : Nat) (hi : i < e.fKeys.length) (hl : axes.length ≤ 1073741824) (hv : ∀ a ∈ axes, a.fValues.length ≤ 1073741824) (hk : e.fKeys[i].length = axes.length) :
    zAF (zSX axes e (i:Int)) 0=some (if inAx axes e.fKeys[i] then .inl () else .inr (.inr (.inr false))):=by
  have key:∀ (j n:Nat),n+j=axes.length→zAF (zSX axes e (i:Int)) (n:Int)=some (if inAx (axes.drop n) (e.fKeys[i].drop n) then .inl () else .inr (.inr (.inr false))):=by
    intro j
    induction j with
    | zero =>
      intro n hn
      have:n=axes.length:=by omega
      subst this
      rw [zAE (r:=.inl ())]
      · rw [List.drop_length]; rfl
      · simp only [zSX]
        rw [zAH (Nat.le_refl _),zAB]
    | succ j ih =>
      intro n hn
      have hlt:n<axes.length:=by omega
      have hb:zSX axes e (i:Int) (n:Int)=some (if axes[n].fValues.contains (e.fKeys[i][n]'(by omega)) then .inl ((n+1:Nat):Int) else .inr (.inr (.inr (.inr false)))):=by
        simp only [zSX]
        rw [zAK hlt,zAC,zTQ axes e i n hi hlt (by omega) (hv _ (List.getElem_mem hlt)),zAA,wrs (show n≤4*1073741824 by omega)]
        cases axes[n].fValues.contains (e.fKeys[i][n]'(by omega)) <;> rfl
      rw [List.drop_eq_getElem_cons hlt,List.drop_eq_getElem_cons (show n<e.fKeys[i].length by omega),inAx]
      cases hp:axes[n].fValues.contains (e.fKeys[i][n]'(by omega)) with
      | true =>
        rw [hp,if_pos rfl] at hb
        rw [zAI hb,ih (n+1) (by omega),Bool.true_and]
      | false =>
        rw [hp,if_neg (by simp)] at hb
        rw [zAE hb]; rfl
  have:=key axes.length 0 (by omega)
  rw [List.drop_zero,List.drop_zero] at this
  exact this
theorem zTA (axes : List GAxis) (e : GEntry) (hl : axes.length ≤ 1073741824) (hv : ∀ a ∈ axes, a.fValues.length ≤ 1073741824) (hk : e.fKeys.length ≤ 1073741824) (h1 : e.fVary.length ≤ 1073741824) (h2 : e.fSnapshot.length ≤ 1073741824) :
    zSj axes e=some (bif axes.isEmpty then zLS e else zKr axes e):=by
  unfold zSj
  cases hx:axes with
  | nil =>
    rw [show ((([]:List GAxis).length:Int)==0)=true from rfl,zAC,show ([]:List GAxis).isEmpty=true from rfl,zAC]
    rw [zQV e.fVary (zSd e) h1]
    · rw [zAA]
      unfold zLS
      cases hA:asc e.fVary with
      | false=>simp
      | true =>
        simp only [if_true,Bool.and_true]
        congr 2
        · cases e.fKeys with
          | nil=>rfl
          | cons k ks=>simp; omega
        · by_cases hq:e.fVary.length=e.fSnapshot.length
          · simp [hq]
          · have:¬ ((e.fVary.length:Int)=(e.fSnapshot.length:Int)):=by omega
            rw [show (e.fVary.length==e.fSnapshot.length)=false from by simp [hq]]
            simp [this]
    · intro n hn
      simp only [zSd]
      rw [zAK hn,zAC,show ((n+1:Nat):Int) - 1=(n:Int) by omega,wr_eq ⟨by omega,by omega⟩,zAG (show n<e.fVary.length by omega),zAA,zAG hn,zAA,wrs (by omega)]
      cases Op.bytesLess (e.fVary[n]'(by omega)) e.fVary[n+1] <;> rfl
    · intro n hn
      simp only [zSd]
      rw [zAH hn,zAB]
  | cons a l =>
    rw [← hx]
    have e0:((axes.length:Int)==0)=false:=by rw [hx]; simp; omega
    have e2:axes.isEmpty=false:=by rw [hx]; rfl
    have hloop:zAF (zSZ axes e) 0=some (if e.fKeys.any (fun k=>!zFm axes k) then .inr false else .inl ()):=by
      refine zDe (zSZ axes e) e.fKeys (fun k=>!zFm axes k) (.inr false) (.inl ()) ?_ ?_
      · intro n hn
        simp only [zSZ]
        rw [zAK hn,zAC,zAG hn,zAA]
        unfold zFm
        by_cases hkl:e.fKeys[n].length=axes.length
        · rw [show ((e.fKeys[n].length:Int) !=(axes.length:Int))=false from by simp [hkl],zAB,zTI axes e n hn hl hv hkl,zAA,show (e.fKeys[n].length==axes.length)=true from by simp [hkl],Bool.true_and,wrs (show n≤4*1073741824 by omega)]
          cases inAx axes e.fKeys[n] <;> rfl
        · rw [show ((e.fKeys[n].length:Int) !=(axes.length:Int))=true from by simp; omega,zAC,show (e.fKeys[n].length==axes.length)=false from by simp [hkl]]; rfl
      · simp only [zSZ]
        rw [zAH (Nat.le_refl _),zAB]
    have hany:e.fKeys.any (fun k=>!zFm axes k)=!e.fKeys.all (zFm axes):=by
      rw [List.all_eq_not_any_not]; simp
    unfold zKr
    rw [e0,zAB,e2,zAB,hloop,wr_eq ⟨by omega,by omega⟩]
    by_cases hc:1≤e.fKeys.length∧e.fKeys.length≤64∧e.fVary.length+e.fSnapshot.length=0
    · rw [decide_eq_true hc,Bool.true_and]
      have e1:((decide ((e.fKeys.length:Int)<1)||decide (64<(e.fKeys.length:Int)))||decide (0<(e.fVary.length:Int)+(e.fSnapshot.length:Int)))=false:=by
        rw [decide_eq_false (by omega),decide_eq_false (by omega),decide_eq_false (by omega)]; rfl
      rw [e1,zAB,zAA,hany]
      cases e.fKeys.all (zFm axes) <;> rfl
    · rw [decide_eq_false hc,Bool.false_and]
      have e1:((decide ((e.fKeys.length:Int)<1)||decide (64<(e.fKeys.length:Int)))||decide (0<(e.fVary.length:Int)+(e.fSnapshot.length:Int)))=true:=by
        simp only [Bool.or_eq_true,decide_eq_true_eq]; omega
      rw [e1,zAC]
end Go.Eng.Pure
namespace Go.Eng.Pure
open Go Go.Eng
set_option linter.unusedVariables false
def okAt (t:GTable) (i:Nat):Bool:=(t.fEntries[i]?).any fun e=>bif t.fAxes.isEmpty then zLS e else zKr t.fAxes e&&!((t.fEntries.take i).any fun x=>replB t.fAxes e x)
def zPr (t:GTable) (limit:Int):Bool:=decide ((t.fEntries.length:Int)≤limit)&&(t.fAxes.isEmpty||valB t.fAxes)&&(List.range t.fEntries.length).all (okAt t)
theorem zOc (t:GTable) (ht:smTb t):zAF (zCg t) 0=some (if (List.range t.fEntries.length).any (fun i=>!okAt t i) then .inr false else .inl ()):=by
  obtain ⟨ht1,ht2,ht3,ht4⟩:=ht
  refine zDe (zCg t) (List.range t.fEntries.length) (fun i=>!okAt t i) (.inr false) (.inl ()) ?_ ?_
  · intro n hn
    have hlt:n<t.fEntries.length:=by simpa using hn
    obtain ⟨he,hk⟩:=ht4 _ (List.getElem_mem hlt)
    rw [List.getElem_range]
    unfold okAt
    rw [List.getElem?_eq_getElem hlt,Option.any_some]
    simp only [zCg]
    rw [zAK hlt,zAC,zAG hlt,zAA]
    cases hx:t.fAxes with
    | nil =>
      rw [show ((([]:List GAxis).length:Int)==0)=true from rfl,zAC,zOG _ (by have:=he.2.2.1; omega),zAA,wrs (show n≤4*1073741824 by omega),show ([]:List GAxis).isEmpty=true from rfl,zAC]
      cases zLS t.fEntries[n] <;> rfl
    | cons a l =>
      rw [← hx]
      have e0:((t.fAxes.length:Int)==0)=false:=by rw [hx]; simp; omega
      have e2:t.fAxes.isEmpty=false:=by rw [hx]; rfl
      rw [e0,zAB,e2,zAB,zPp t.fAxes _ (by have:=ht1.1; omega) (fun a h=>by have:=ht2 a h; omega) (by have:=hk.1; omega) (by have:=he.2.2.1; omega) (by have:=he.2.2.2.1; omega),zAA]
      cases zKr t.fAxes t.fEntries[n] with
      | false=>rfl
      | true =>
        rw [Bool.not_true,zAB,zD9 (show n≤t.fEntries.length by omega),zAA,zMm (t.fEntries.take n) _ (fun x=>replB t.fAxes t.fEntries[n] x) (by rw [List.length_take]; omega) (fun x hx'=>by
          unfold zFJ
          rw [zNN t.fAxes _ x ht1 hk (ht4 x (List.mem_of_mem_take hx')).2 (by have:=he.2.2.1; omega) (by have:=he.2.2.2.1; omega)]; rfl),zAA,zAA,zL1 _ _ _ (Nat.le_refl _),List.take_length,wrs (show n≤4*1073741824 by omega)]
        cases (t.fEntries.take n).any fun x=>replB t.fAxes t.fEntries[n] x <;> rfl
  · simp only [zCg]
    rw [List.length_range,zAH (Nat.le_refl _),zAB]
theorem zOQ (t:GTable) (limit:Int) (ht:smTb t) (hA:∀ a ∈ t.fAxes,smA a):zFb t limit=some (zPr t limit):=by
  unfold zFb zPr
  rw [zOc t ht,zHH _ hA]
  have hany:(List.range t.fEntries.length).any (fun i=>!okAt t i)=!(List.range t.fEntries.length).all (okAt t):=by
    rw [List.all_eq_not_any_not]; simp
  rw [hany]
  by_cases hl:limit<(t.fEntries.length:Int)
  · rw [decide_eq_true hl,zAC,zAA,zAC,decide_eq_false (by omega)]; rfl
  · rw [decide_eq_false hl,zAB,show decide ((t.fEntries.length:Int)≤limit)=true from decide_eq_true (by omega),Bool.true_and]
    cases hx:t.fAxes with
    | nil =>
      rw [show decide (0<((([]:List GAxis).length:Nat):Int))=false from rfl,zAB]
      cases (List.range t.fEntries.length).all (okAt t) <;> rfl
    | cons a l =>
      rw [← hx,show decide (0<(t.fAxes.length:Int))=true from decide_eq_true (by rw [hx]; simp),zAC,show t.fAxes.isEmpty=false from by rw [hx]; rfl]
      cases valB t.fAxes <;> cases (List.range t.fEntries.length).all (okAt t) <;> rfl
theorem zTH (t : GTable) (ht : smTb t) (n : Nat) (hn : n < t.fEntries.length) (hx : t.fAxes.isEmpty = false) :
    zAF (zSb t (n:Int)) 0=some (if (t.fEntries.take n).any (fun x=>replB t.fAxes t.fEntries[n] x) then .inr (.inr (.inr false)) else .inl ()):=by
  obtain ⟨ht1,ht2,ht3,ht4⟩:=ht
  have hpos:decide (0<(t.fAxes.length:Int))=true:=by
    cases hq:t.fAxes with
    | nil=>rw [hq] at hx; cases hx
    | cons a l=>exact decide_eq_true (by simp)
  obtain ⟨he,hk⟩:=ht4 _ (List.getElem_mem hn)
  have hlen:(t.fEntries.take n).length=n:=by rw [List.length_take]; omega
  refine zDe (zSb t (n:Int)) (t.fEntries.take n) (fun x=>replB t.fAxes t.fEntries[n] x) (.inr (.inr (.inr false))) (.inl ()) ?_ ?_
  · intro m hm
    have hmn:m<n:=by omega
    have hml:m<t.fEntries.length:=by omega
    have hg:(t.fEntries.take n)[m]=t.fEntries[m]:=List.getElem_take
    rw [hg]
    simp only [zSb]
    rw [zAK hmn,hpos,Bool.and_self,zAC,zAG hn,zAA,zAG hml,zAA,zTJ t.fAxes _ _ ht1 hk (ht4 _ (List.getElem_mem hml)).2 (by have:=he.2.2.1; omega) (by have:=he.2.2.2.1; omega),zAA,wrs (show m≤4*1073741824 by omega)]
    cases replB t.fAxes t.fEntries[n] t.fEntries[m] <;> rfl
  · simp only [zSb]
    rw [hlen,zAH (Nat.le_refl _),Bool.false_and,zAB]
theorem zTG (t:GTable) (n:Nat) (hx:t.fAxes.isEmpty=true):zAF (zSb t (n:Int)) 0=some (.inl ()):=by
  refine zAE ?_
  simp only [zSb]
  rw [show decide (0<(t.fAxes.length:Int))=false from by rw [List.isEmpty_iff.1 hx]; rfl,Bool.and_false,zAB]
theorem zTC (t:GTable) (ht:smTb t):zAF (zSg t) 0=some (if (List.range t.fEntries.length).any (fun i=>!okAt t i) then .inr false else .inl ()):=by
  have ht':=ht
  obtain ⟨ht1,ht2,ht3,ht4⟩:=ht
  refine zDe (zSg t) (List.range t.fEntries.length) (fun i=>!okAt t i) (.inr false) (.inl ()) ?_ ?_
  · intro n hn
    have hlt:n<t.fEntries.length:=by simpa using hn
    obtain ⟨he,hk⟩:=ht4 _ (List.getElem_mem hlt)
    rw [List.getElem_range]
    unfold okAt
    rw [List.getElem?_eq_getElem hlt,Option.any_some]
    simp only [zSg]
    rw [zAK hlt,zAC,zAG hlt,zAA,zTA t.fAxes _ (by have:=ht1.1; omega) (fun a h=>by have:=ht2 a h; omega) (by have:=hk.1; omega) (by have:=he.2.2.1; omega) (by have:=he.2.2.2.1; omega),zAA]
    cases hx:t.fAxes.isEmpty with
    | true =>
      rw [zAC,zTG t n hx,zAA,wrs (show n≤4*1073741824 by omega)]
      cases zLS t.fEntries[n] <;> rfl
    | false =>
      rw [zAB,zTH t ht' n hlt hx,zAA,wrs (show n≤4*1073741824 by omega)]
      cases zKr t.fAxes t.fEntries[n] with
      | false=>rfl
      | true=>cases (t.fEntries.take n).any (fun x=>replB t.fAxes t.fEntries[n] x) <;> rfl
  · simp only [zSg]
    rw [List.length_range,zAH (Nat.le_refl _),zAB]
theorem zS9 (t:GTable) (limit:Int) (ht:smTb t) (hA:∀ a ∈ t.fAxes,smA a):zSt t limit=some (zPr t limit):=by
  unfold zSt zPr
  rw [zTC t ht,zPI _ hA]
  have hany:(List.range t.fEntries.length).any (fun i=>!okAt t i)=!(List.range t.fEntries.length).all (okAt t):=by
    rw [List.all_eq_not_any_not]; simp
  rw [hany]
  by_cases hl:limit<(t.fEntries.length:Int)
  · rw [decide_eq_true hl,zAC,zAA,zAC,decide_eq_false (by omega)]; rfl
  · rw [decide_eq_false hl,zAB,show decide ((t.fEntries.length:Int)≤limit)=true from decide_eq_true (by omega),Bool.true_and]
    cases hx:t.fAxes with
    | nil =>
      rw [show decide (0<((([]:List GAxis).length:Nat):Int))=false from rfl,zAB]
      cases (List.range t.fEntries.length).all (okAt t) <;> rfl
    | cons a l =>
      rw [← hx,show decide (0<(t.fAxes.length:Int))=true from decide_eq_true (by rw [hx]; simp),zAC,show t.fAxes.isEmpty=false from by rw [hx]; rfl]
      cases valB t.fAxes <;> cases (List.range t.fEntries.length).all (okAt t) <;> rfl
end Go.Eng.Pure
namespace Go.Eng.Pure
open Go Go.Eng
def dv (c:UInt8):Int:=((c - 48).toNat:Int)
def dg (c:UInt8):Bool:=!(decide (c<48))&&!(decide (57<c))
theorem dv_lt (c:UInt8) (h:dg c=true):0≤dv c∧dv c≤9:=by
  unfold dv dg at *
  simp only [Bool.and_eq_true,Bool.not_eq_true',decide_eq_false_iff_not,UInt8.lt_iff_toNat_lt,UInt8.toNat_sub] at *
  have h48:(48:UInt8).toNat=48:=rfl
  have h57:(57:UInt8).toNat=57:=rfl
  have:=c.toNat_lt
  omega
def sumQ:List Int→List UInt8→Int→Option Int
  | w :: ws,c :: cs,q=>if dg c then sumQ ws cs (q+w*dv c) else none
  | _,_,q=>some q
def finQ:Option Int→Int×Bool
  | some q=>if 1000<q then (0,false) else (q,true)
  | none=>(0,false)
def zDW:Str→Int×Bool
  | []=>(0,false)
  | [a]=>if a=48∨a=49 then finQ (some (1000*dv a)) else (0,false)
  | a :: b :: r=>if (a=48∨a=49)∧b=46∧r.length≤3 then finQ (sumQ [100,10,1] r (1000*dv a)) else (0,false)
theorem zLh (c:UInt8):(bif decide (c<48) then some true else some (decide (57<c)))=some (!dg c):=by
  simp only [dg]
  cases decide (c<48) <;> cases decide (57<c) <;> rfl
def outQ:Option Int→Int ⊕ (Int×Bool)
  | some q=>.inl q
  | none=>.inr (0,false)
theorem zM3 (s : Str) (l : List Int) (q : Int) (i : Nat) (hi : 2 ≤ i) (hs : i < s.length) (hl : i < l.length) (hb : s.length ≤ 5) (hw : 0 ≤ l[i] ∧ l[i] ≤ 1000) (hq : 0 ≤ q ∧ q ≤ 1000000) :
    zAo s l (q,(i:Int))=some (if dg s[i] then .inl (q+l[i]*dv s[i],((i+1:Nat):Int)) else .inr (.inr (0,false))):=by
  have e0:decide ((i:Int)<(l.length:Int))=true:=by simp; omega
  have e1:((i:Int)==1)=false:=by simp; omega
  have e2:xnth l (i:Int)=some l[i]:=by rw [zFn,List.getElem?_eq_getElem hl]
  have e3:xnth s (i:Int)=some s[i]:=by rw [zFn,List.getElem?_eq_getElem hs]
  simp only [zAo,e0,e1,e2,e3,zAC,zAB,zAA,zLh]
  cases hd:dg s[i] with
  | false=>rfl
  | true =>
    have hv:=dv_lt _ hd
    have hv':((s[i] - 48).toNat:Int)=dv s[i]:=rfl
    have hm:0≤l[i]*dv s[i]∧l[i]*dv s[i]≤9000:=by
      refine ⟨Int.mul_nonneg hw.1 hv.1,?_⟩
      have:=Int.mul_le_mul hw.2 hv.2 hv.1 (by omega:(0:Int)≤1000)
      omega
    rw [hv',zDZ (n:=l[i]*dv s[i]) (by omega) (by omega),zDZ (by omega) (by omega),zDZ (by omega) (by omega)]
    simp
theorem zOR (s : Str) (l : List Int) (hsl : s.length = l.length) (hb : s.length ≤ 5) (hw : ∀ (i : Nat) (h : i < l.length), 0 ≤ l[i] ∧ l[i] ≤ 1000) :
    ∀ (k i:Nat) (q:Int),2≤i→i+k=s.length→0≤q∧q≤900000 - 9000*(k:Int)→zAF (zAo s l) (q,(i:Int))=some (outQ (sumQ (l.drop i) (s.drop i) q)):=by
  intro k
  induction k with
  | zero =>
    intro i q hi hk hq
    have e0:decide ((i:Int)<(l.length:Int))=false:=by simp; omega
    rw [zAE (r:=.inl q)]
    · rw [List.drop_eq_nil_of_le (by omega)]; rfl
    · simp only [zAo,e0,zAB]
  | succ k ih =>
    intro i q hi hk hq
    have hs:i<s.length:=by omega
    have hl:i<l.length:=by omega
    have hr:=zM3 s l q i hi hs hl hb (hw i hl) ⟨hq.1,by omega⟩
    rw [List.drop_eq_getElem_cons hs,List.drop_eq_getElem_cons hl]
    cases hd:dg s[i] with
    | false =>
      rw [hd] at hr
      rw [zAE (by simpa using hr)]
      simp [sumQ,hd,outQ]
    | true =>
      rw [hd] at hr
      have hv:=dv_lt _ hd
      have hm:0≤l[i]*dv s[i]∧l[i]*dv s[i]≤9000:=by
        refine ⟨Int.mul_nonneg (hw i hl).1 hv.1,?_⟩
        have:=Int.mul_le_mul (hw i hl).2 hv.2 hv.1 (by omega:(0:Int)≤1000)
        omega
      rw [zAI (by simpa using hr),← Int.natCast_one,← Int.natCast_add,ih (i+1) _ (by omega) (by omega) ⟨by omega,by omega⟩]
      simp [sumQ,hd]
theorem zLI (a:UInt8):(bif a !=48 then some (a !=49) else some false)=some (!(decide (a=48∨a=49))):=by
  by_cases h:a=48
  · subst h; rfl
  · have:(a !=48)=true:=by simp [h]
    rw [this,zAC]
    by_cases h2:a=49
    · subst h2; rfl
    · have:(a !=49)=true:=by simp [h2]
      simp [this,h,h2]
theorem zLY {a:UInt8} (h:a=48∨a=49):dg a=true∧0≤dv a∧dv a≤1:=by
  rcases h with rfl | rfl <;> decide
theorem zQT (s:Str) (hb:s.length≤5):zB3 s=some (zDW s):=by
  match s,hb with
  | [],_=>simp [zB3,zDW]
  | [a],_ =>
    have e:((([a]:Str)==[])||decide (5<(([a]:Str).length:Int)))=false:=rfl
    have e1:decide (1<(([a]:Str).length:Int))=false:=rfl
    have e2:xsub ([1000,0,100,10,1]:List Int) 0 (([a]:Str).length:Int)=some [1000]:=rfl
    simp only [zB3,e,e1,e2,zAB,zBF,zAA,zLI]
    by_cases h:a=48∨a=49
    · obtain ⟨hd,hv⟩:=zLY h
      simp only [h,decide_true,Bool.not_true,zAB,zAA]
      have r1:zAo [a] [1000] (0,0)=some (.inl (1000*dv a,1)):=by
        have e3:decide ((0:Int)<(([1000]:List Int).length:Int))=true:=rfl
        have e4:xnth ([1000]:List Int) 0=some 1000:=rfl
        have e5:((0:Int)==1)=false:=rfl
        have hv':((a - 48).toNat:Int)=dv a:=rfl
        simp only [zAo,e3,e4,e5,zAC,zAB,zAA,zBF,zLh,hd,Bool.not_true,hv']
        rw [zDZ (n:=1000*dv a) (by omega) (by omega),zDZ (by omega) (by omega),zDZ (by omega) (by omega)]
        simp
      have r2:zAo [a] [1000] (1000*dv a,1)=some (.inr (.inl (1000*dv a))):=rfl
      rw [zAI r1,zAE r2]
      simp only [zAA,zDW,h,if_true,finQ]
      by_cases hq:1000<1000*dv a
      · simp [hq]
      · simp [hq]
    · simp [h,zDW]
  | a :: b :: r,hb =>
    have hr3:r.length≤3:=by simp at hb; omega
    have e:(((a :: b :: r:Str)==[])||decide (5<((a :: b :: r:Str).length:Int)))=false:=by
      have:((a :: b :: r:Str)==[])=false:=rfl
      rw [this]; simp; omega
    have e1:decide (1<((a :: b :: r:Str).length:Int))=true:=by simp; omega
    have e2:xsub ([1000,0,100,10,1]:List Int) 0 ((a :: b :: r:Str).length:Int)=some (1000 :: 0 :: [100,10,1].take r.length):=by
      rw [zJ1 ⟨by omega,by omega,by simp; omega⟩]
      have:(((a :: b :: r:Str).length:Int)).toNat=r.length+2:=by simp; omega
      rw [this]; rfl
    have e3:xnth (a :: b :: r) 1=some b:=rfl
    simp only [zB3,e,e1,e2,e3,zAB,zAC,zBF,zAA,zLI]
    by_cases h:a=48∨a=49
    · by_cases hb2:b=46
      · obtain ⟨hd,hv⟩:=zLY h
        have e4:(b !=46)=false:=by simp [hb2]
        simp only [h,e4,decide_true,Bool.not_true,zAB,zAA]
        have hsl:(a :: b :: r).length=(1000 :: 0 :: [100,10,1].take r.length:List Int).length:=by simp; omega
        have hws:∀ (i:Nat) (h:i<(1000 :: 0 :: [100,10,1].take r.length:List Int).length),0≤(1000 :: 0 :: [100,10,1].take r.length:List Int)[i]∧(1000 :: 0 :: [100,10,1].take r.length:List Int)[i]≤1000:=by
          intro i hi
          have hm:(1000 :: 0 :: [100,10,1].take r.length:List Int)[i] ∈ ([1000,0,100,10,1]:List Int):=by
            have h1:=List.getElem_mem hi
            simp only [List.mem_cons] at h1 ⊢
            rcases h1 with h1 | h1 | h1
            · exact .inl h1
            · exact .inr (.inl h1)
            · have:=List.mem_of_mem_take h1
              simp only [List.mem_cons] at this
              exact .inr (.inr this)
          simp only [List.mem_cons,List.mem_nil_iff,or_false] at hm
          omega
        generalize hL:(1000 :: 0 :: [100,10,1].take r.length:List Int)=l at hsl hws ⊢
        have r1:zAo (a :: b :: r) l (0,0)=some (.inl (1000*dv a,1)):=by
          have e3:decide ((0:Int)<(l.length:Int))=true:=by rw [← hL]; simp; omega
          have e4:xnth l 0=some 1000:=by rw [← hL]; rfl
          have e5:((0:Int)==1)=false:=rfl
          have hv':((a - 48).toNat:Int)=dv a:=rfl
          simp only [zAo,e3,e4,e5,zAC,zAB,zAA,zBF,zLh,hd,Bool.not_true,hv']
          rw [zDZ (n:=1000*dv a) (by omega) (by omega),zDZ (by omega) (by omega),zDZ (by omega) (by omega)]
          simp
        have r2:zAo (a :: b :: r) l (1000*dv a,1)=some (.inl (1000*dv a,((2:Nat):Int))):=by
          have e3:decide ((1:Int)<(l.length:Int))=true:=by rw [← hL]; simp; omega
          have e4:xnth l 1=some 0:=by rw [← hL]; rfl
          have e5:((1:Int)==1)=true:=rfl
          simp only [zAo,e3,e4,e5,zAC,zAA]
          rw [zDZ (by omega) (by omega)]
          rfl
        rw [zAI r1,zAI r2,zOR _ _ hsl hb hws r.length 2 _ (Nat.le_refl _) (by simp; omega) ⟨by omega,by omega⟩]
        have hsum:sumQ (l.drop 2) ((a :: b :: r).drop 2) (1000*dv a)=sumQ [100,10,1] r (1000*dv a):=by
          rw [← hL]
          match r,hr3 with
          | [],_=>rfl
          | [_],_=>simp [sumQ]
          | [_,_],_=>simp [sumQ]
          | [_,_,_],_=>simp [sumQ]
        rw [hsum]
        have hp:zDW (a :: b :: r)=finQ (sumQ [100,10,1] r (1000*dv a)):=by simp [zDW,h,hb2,hr3]
        rw [hp]
        cases sumQ [100,10,1] r (1000*dv a) with
        | none=>rfl
        | some q =>
          simp only [outQ,finQ,zAA]
          by_cases hq:1000<q
          · simp [hq]
          · simp [hq]
      · have e4:(b !=46)=true:=by simp [hb2]
        simp [h,hb2,e4,zDW]
    · simp [h,zDW]
theorem zOh (s:Str) (hb:5<s.length):zB3 s=some (0,false):=by
  have e:((s==[])||decide (5<(s.length:Int)))=true:=by simp; right; omega
  simp only [zB3,e,zAC,zAA]
theorem zJo (s:Str) (hb:5<s.length):zDW s=(0,false):=by
  match s,hb with
  | a :: b :: r,hb=>simp [zDW]; intro _ _ h; simp at hb; omega
theorem zPa (s:Str):zB3 s=some (zDW s):=by
  by_cases h:s.length≤5
  · exact zQT s h
  · rw [zOh s (by omega),zJo s (by omega)]
end Go.Eng.Pure
namespace Go.Eng.Pure
open Go Go.Eng
set_option linter.unusedVariables false
theorem zO0 (s:Str) (hs:s.length≤1073741824):zIO s=some (quote s):=zNn s hs
def parT (p:GParam):Str:=(([59]++p.fName)++[61])++(if tok p.fValue then p.fValue else quote p.fValue)
def wrtP (v:Str) (l:List GParam):Str:=v++l.flatMap parT
def smPs (l:List GParam):Prop:=l.length≤1000∧∀ p ∈ l,p.fName.length≤1000∧p.fValue.length≤1000
theorem zLX (v:Str):(if tok v then v else quote v).length≤2*v.length+2:=by
  have:=zLr v
  split <;> omega
theorem zNo {p:GParam} (h:p.fName.length≤1000∧p.fValue.length≤1000):(parT p).length≤4000:=by
  have:=zLX p.fValue
  unfold parT
  simp only [List.length_append,List.length_cons,List.length_nil]
  omega
theorem zOd (v:Str) (l:List GParam) (hv:v.length≤1000000) (h:smPs l):zF4 v l=some (wrtP v l):=by
  unfold zF4 zBK
  rw [WS_eq v [] (by omega) (by simp),zAA]
  have:=zBB (fun (st:Str) i=>(i,st)) l (fun st p=>st++parT p) id (zC3 l) (fun n st=>st.length≤1000000+4000*n) v (by omega) ?_ ?_
  · simp only [List.nil_append]
    rw [this,zAA,zAA]; unfold wrtP; rw [zGv]; rfl
  · intro n hn st hI
    have hp:=h.2 _ (List.getElem_mem hn)
    have hl:=h.1
    have htl:=zNo hp
    have hvl:=zLX l[n].fValue
    have hql:=zLr l[n].fValue
    refine ⟨?_,by rw [List.length_append]; omega⟩
    unfold zC3
    simp only []
    rw [zAK hn,zAC,zAG hn,zAA,
      zDR (by simp) (by omega),zAA,zDR (by simp only [List.length_append,List.length_cons,List.length_nil]; omega) (by simp),zAA,
      WS_eq _ st (by simp only [List.length_append,List.length_cons,List.length_nil]; omega) (by omega),zAA,zCk _ (by omega),zAA,wrs (by omega)]
    simp only []
    unfold parT
    cases ht:tok l[n].fValue with
    | true =>
      rw [zAC,WS_eq _ _ (by omega) (by simp only [List.length_append,List.length_cons,List.length_nil]; omega),zAA,if_pos rfl]
      simp only [List.append_assoc]
    | false =>
      rw [zAB,zO0 _ (by omega),zAA,WS_eq _ _ (by omega) (by simp only [List.length_append,List.length_cons,List.length_nil]; omega),zAA,if_neg (by decide)]
      simp only [List.append_assoc]
  · intro st hI
    unfold zC3
    simp only []
    rw [zAH (Nat.le_refl _),zAB]; rfl
def wrtT (t:GMediaType):Str:=wrtP ((t.fType++[47])++t.fSub) t.fParams
theorem zOB (t:GMediaType) (h1:t.fType.length≤1000) (h2:t.fSub.length≤1000) (h:smPs t.fParams):zDo t=some (wrtT t):=by
  unfold zDo wrtT
  rw [zDR (by omega) (by simp),zAA,zDR (by simp; omega) (by omega),zAA,zOd _ _ (by simp; omega) h,zAA]
end Go.Eng.Pure
namespace Go.Eng.Pure
open Go Go.Eng
set_option linter.unusedVariables false
theorem low45 (x:UInt8):(lowB x==45)=(x==45):=by
  have:=zMU (fun c=>(lowB c==45)==(c==45)) (by decide +kernel) x
  exact beq_iff_eq.1 this
def preL:List Str→List Str→Bool
  | [],_=>true
  | _ :: _,[]=>false
  | x :: xs,y :: ys=>fold x y&&preL xs ys
theorem zPs (x y:UInt8) (a b:Str):fold (x :: a) (y :: b)=((lowB x==lowB y)&&fold a b):=by
  unfold fold lower
  rw [Bool.eq_iff_iff]
  simp only [List.length_cons,List.map_cons,Bool.and_eq_true,beq_iff_eq,List.cons.injEq]
  constructor
  · rintro ⟨h1,h2,h3⟩; exact ⟨h2,by omega,h3⟩
  · rintro ⟨h1,h2,h3⟩; exact ⟨by omega,h1,h3⟩
theorem zGr (c:UInt8) (s:Str):∃ y ys,zAU c s=y :: ys:=by
  cases h:zAU c s with
  | nil=>exact absurd h (zEt c s)
  | cons y ys=>exact ⟨y,ys,rfl⟩
theorem zIf (c x:UInt8) (s:Str) {y:Str} {ys:List Str} (h:zAU c s=y :: ys):zAU c (x :: s)=if x=c then [] :: y :: ys else (x :: y) :: ys:=by
  rw [zAU,h]
theorem zMK:∀ r t:Str,(lower r++[45]).isPrefixOf (lower t++[45])=preL (zAU 45 r) (zAU 45 t)
  | [],[]=>rfl
  | [],c :: t=>by
    obtain ⟨y,ys,hy⟩:=zGr 45 t
    have h:=low45 c
    show ((45:UInt8)==lowB c&&List.isPrefixOf [] (lower t++[45]))=preL [[]] (zAU 45 (c :: t))
    rw [zIf 45 c t hy]
    by_cases hc:c=45
    · subst hc; rfl
    · rw [if_neg hc]
      have h1:(lowB c==45)=false:=by rw [h]; simpa using hc
      have h2:((45:UInt8)==lowB c)=false:=by
        rw [beq_eq_false_iff_ne] at h1 ⊢; exact fun e=>h1 e.symm
      rw [h2]; rfl
  | x :: r,[]=>by
    obtain ⟨y,ys,hy⟩:=zGr 45 r
    have h:=low45 x
    show ((lowB x==(45:UInt8))&&List.isPrefixOf (lower r++[45]) [])=preL (zAU 45 (x :: r)) [[]]
    have e:List.isPrefixOf (lower r++[45]) []=false:=by cases lower r <;> rfl
    rw [zIf 45 x r hy,e,Bool.and_false]
    by_cases hx:x=45
    · rw [if_pos hx]; rfl
    · rw [if_neg hx]; rfl
  | x :: r,c :: t=>by
    have ih:=zMK r t
    obtain ⟨y,ys,hy⟩:=zGr 45 r
    obtain ⟨z,zs,hz⟩:=zGr 45 t
    have hx:=low45 x
    have hc:=low45 c
    show (lowB x==lowB c&&List.isPrefixOf (lower r++[45]) (lower t++[45]))=preL (zAU 45 (x :: r)) (zAU 45 (c :: t))
    rw [ih,zIf 45 x r hy,zIf 45 c t hz,hy,hz]
    by_cases h1:x=45
    · by_cases h2:c=45
      · subst h1; subst h2
        rw [if_pos rfl,if_pos rfl]
        show _=(fold [] []&&preL (y :: ys) (z :: zs)); rfl
      · subst h1
        rw [if_pos rfl,if_neg h2]
        have:((lowB 45==lowB c):Bool)=false:=by
          rw [beq_eq_false_iff_ne] ; intro e
          have:(lowB c==45)=true:=by rw [← e]; rfl
          rw [hc] at this; exact h2 (beq_iff_eq.1 this)
        rw [this]; rfl
    · by_cases h2:c=45
      · subst h2
        rw [if_neg h1,if_pos rfl]
        have:((lowB x==lowB 45):Bool)=false:=by
          show (lowB x==45)=false
          rw [hx]; simpa using h1
        rw [this]; rfl
      · rw [if_neg h1,if_neg h2]
        show (lowB x==lowB c&&(fold y z&&preL ys zs))=(fold (x :: y) (c :: z)&&preL ys zs)
        rw [zPs,Bool.and_assoc]
def zMa (r t:Str):Int:=if !((r==[42])||langS r)||!langS t then -1 else if r=[42] then 0 else if preL (zAU 45 r) (zAU 45 t) then ((zAU 45 r).length:Int) else -1
theorem zMf (s:Str) (hs:s.length≤1000000):zDk s=some ((s==[42])||langS s):=by
  unfold zDk
  rw [zPy s hs]
  cases s==[42] <;> rfl
theorem zOp (r t:Str) (hr:r.length≤1000000) (ht:t.length≤1000000):zEl r t=some (zMa r t):=by
  have hc:r.count 45≤r.length:=List.count_le_length
  unfold zEl zMa
  rw [zMf r hr,zAA,zPy t ht]
  cases ((r==[42])||langS r) with
  | false=>rfl
  | true =>
    cases langS t with
    | false=>rfl
    | true =>
      simp only [Bool.not_true,zAB,zAA,Bool.or_self,Bool.false_eq_true,if_false]
      by_cases h:r=[42]
      · subst h; rfl
      · rw [show (r == [42]) = false by simpa using h, zAB, if_neg h, zBL _ (by omega), zAA, zDR (by rw [zCG]; omega) (by simp), zAA,
          zBL _ (by omega),zAA,zDR (by rw [zCG]; omega) (by simp),zAA]
        unfold zEb
        rw [Etag.HasPrefix_eq,zAA,zAA,zMK]
        cases preL (zAU 45 r) (zAU 45 t) with
        | false=>rfl
        | true =>
          rw [Bool.not_true,zAB,if_pos rfl]
          unfold zDK
          rw [show ((([45]:Str).length:Int)==0)=false from rfl,zAB,show ((([45]:Str).length:Int)==1)=true from rfl,zAC,zBF,zAA,zAA,wrs (by omega),zFS]
theorem seq (a b:Str):(a==b)=decide (a=b):=by rw [Bool.eq_iff_iff]; simp
def parIn (l:List GParam) (p:GParam):Bool:=l.any fun x=>x.fName==p.fName&&fold x.fValue p.fValue
def zML (r t:GMediaType):Int :=
  bif (r.fType==[42])&&(r.fSub==[42]) then 0 else bif r.fType==t.fType then (bif r.fSub==[42] then 1 else bif r.fSub==t.fSub then (bif r.fParams.all (parIn t.fParams) then 2+(r.fParams.length:Int) else -1) else -1) else -1
def smPv (l:List GParam):Prop:=l.length≤1000001∧∀ p ∈ l,p.fValue.length≤1000000
theorem zMi (l:List GParam) (p:GParam) (h:smPv l) (hp:p.fValue.length≤1000000):zCo l p=some (parIn l p):=by
  unfold zCo parIn
  rw [zDe (zBO l p) l (fun x=>x.fName==p.fName&&fold x.fValue p.fValue) (.inr true) (.inl ()),zAA]
  · cases l.any fun x=>x.fName==p.fName&&fold x.fValue p.fValue <;> rfl
  · intro n hn
    have hx:=h.2 _ (List.getElem_mem hn)
    have hl:=h.1
    unfold zBO
    rw [zAK hn,zAC,zAG hn,zAA,zI1 _ _ (by omega) (by omega),wrs (by omega)]
    cases l[n].fName==p.fName <;> cases fold l[n].fValue p.fValue <;> simp
  · unfold zBO
    rw [zAH (Nat.le_refl _),zAB]
theorem zNy (l : List GParam) (p : GParam → Bool) (body : Int → Option (Int ⊕ (Unit ⊕ Int))) (h : ∀ (n : Nat) (hn : n < l.length), body (n : Int) = some (if p l[n] then .inl ((n + 1 : Nat) : Int) else .inr (.inr (-1))))
    (h':body (l.length:Int)=some (.inr (.inl ()))):zAF body 0=some (if l.all p then .inl () else .inr (-1)):=by
  rw [zDe body l (fun x=>!p x) (.inr (-1)) (.inl ())]
  · have:l.any (fun x=>!p x)=!l.all p:=by rw [List.all_eq_not_any_not]; simp
    rw [this]
    cases l.all p <;> rfl
  · intro n hn
    rw [h n hn]
    cases p l[n] <;> simp
  · exact h'
theorem zOr (r t:GMediaType) (hr:smPv r.fParams) (ht:smPv t.fParams):zEJ r t=some (zML r t):=by
  have hl:=hr.1
  unfold zEJ zML
  rw [zNy r.fParams (parIn t.fParams) (zB0 r t)]
  · have hw:wr (2+(r.fParams.length:Int))=2+(r.fParams.length:Int):=wr_eq ⟨by omega,by omega⟩
    rw [hw,zAA]
    simp only [bne]
    cases r.fType==[42] <;> cases r.fSub==[42] <;> cases r.fType==t.fType <;> cases r.fSub==t.fSub <;> cases r.fParams.all (parIn t.fParams) <;> rfl
  · intro n hn
    have hp:=hr.2 _ (List.getElem_mem hn)
    unfold zB0
    rw [zAK hn,zAC,zAG hn,zAA,zMi _ _ ht hp,zAA,wrs (by omega)]
    cases parIn t.fParams r.fParams[n] <;> rfl
  · unfold zB0
    rw [zAH (Nat.le_refl _),zAB]
def zLq (k:Int) (r v:Str):Int:=bif r==[42] then 0 else bif canS k r==canS k v then 1 else -1
theorem zP5 (k:Int) (r v:Str) (hr:r.length≤1000000) (hv:v.length≤1000000):zFw k r v=some (zLq k r v):=by
  unfold zFw zLq
  rw [zMD k r (by omega),zAA,zMD k v (by omega),zAA]
  cases r==[42] <;> cases canS k r==canS k v <;> rfl
def zIP (k:Int) (r v:Str):Int :=
  if k=1 then (bif (zCB r).2&&(typeS v).2 then zML (zCB r).1 (typeS v).1 else -1) else if k=2 then zMa r v
  else if k=3∨k=4 then (bif (tok r&&tok v)&&(v !=[42]) then zLq k r v else -1) else -1
theorem zLM (s:Str):∀ p ∈ (parS s).2.1,p.fName.length≤s.length∧p.fValue.length≤s.length:=by
  obtain ⟨c1,c2⟩:=zI7 59 s
  have ho:∀ m:Str,m.length≤s.length→(oneS m).1.length≤s.length∧(oneS m).2.1.length≤s.length:=by
    intro m hm
    have hu:=zP8 (m.drop (m.idxOf 61+1))
    unfold oneS
    split
    · have h1:(lower (m.take (m.idxOf 61))).length≤s.length:=by rw [zCG,List.length_take]; omega
      have h2:(m.drop (m.idxOf 61+1)).length≤s.length:=by rw [List.length_drop]; omega
      split
      · exact ⟨h1,h2⟩
      · exact ⟨h1,by simp only []; omega⟩
    · simp
  have hp:∀ (l:List Str) (acc ps:List GParam),(∀ x ∈ l,x.length≤s.length)→(∀ p ∈ acc,p.fName.length≤s.length∧p.fValue.length≤s.length)→parL l acc=some ps→∀ p ∈ ps,p.fName.length≤s.length∧p.fValue.length≤s.length:=by
    intro l
    induction l with
    | nil=>intro acc ps _ ha h; unfold parL at h; injection h with h; subst h; exact ha
    | cons m l ih =>
      intro acc ps hm ha h
      have hl:∀ x ∈ l,x.length≤s.length:=fun x hx=>hm x (List.mem_cons_of_mem _ hx)
      unfold parL at h
      split at h
      · exact ih _ _ hl ha h
      · split at h
        · refine ih _ _ hl ?_ h
          intro p hp
          rcases List.mem_append.1 hp with hp | hp
          · exact ha p hp
          · rw [List.mem_singleton] at hp
            subst hp
            exact ho (trim m) (Nat.le_trans (zIe m) (hm m List.mem_cons_self))
        · cases h
  unfold parS
  cases hc:cutS 59 s with
  | nil=>simp
  | cons x l =>
    rw [hc] at c1 c2
    show ∀ p ∈ (parC x l).2.1,_
    unfold parC
    split
    · simp
    · split
      · rename_i ps h
        exact hp l [] ps (fun y hy=>c1 y (List.mem_cons_of_mem _ hy)) (by simp) h
      · simp
theorem zHJ (s:Str):(zCB s).1.fType.length≤s.length∧(zCB s).1.fSub.length≤s.length∧(zCB s).1.fParams.length≤s.length+1∧∀ p ∈ (zCB s).1.fParams,p.fName.length≤s.length∧p.fValue.length≤s.length:=by
  obtain ⟨l1,l2⟩:=zHw s
  have l3:=zLM s
  unfold zCB
  split
  · refine ⟨?_,?_,l2,l3⟩
    · rw [zCG,List.length_take]; omega
    · rw [zCG,List.length_drop]; omega
  · simp [noT]
theorem zQl (s:Str):(typeS s).1.fType.length≤s.length∧(typeS s).1.fSub.length≤s.length∧(typeS s).1.fParams.length≤s.length+1∧∀ p ∈ (typeS s).1.fParams,p.fName.length≤s.length∧p.fValue.length≤s.length:=by
  unfold typeS
  split
  · simp [noT]
  · exact zHJ s
theorem zPA {s:Str} (hs:s.length≤1000000):smPv (zCB s).1.fParams:=by
  obtain ⟨_,_,h3,h4⟩:=zHJ s
  exact ⟨by omega,fun p hp=>by have:=(h4 p hp).2; omega⟩
theorem zRR {s:Str} (hs:s.length≤1000000):smPv (typeS s).1.fParams:=by
  obtain ⟨_,_,h3,h4⟩:=zQl s
  exact ⟨by omega,fun p hp=>by have:=(h4 p hp).2; omega⟩
theorem zP3 (k:Int) (r v:Str) (hr:r.length≤1000000) (hv:v.length≤1000000):zF0 k r v=some (zIP k r v):=by
  unfold zF0 zIP
  rw [zJt r hr,zAA,zNw v hv,zAA,zOr _ _ (zPA hr) (zRR hv),zAA,zOp r v hr hv,zAA,zCk r (by omega),zAA,zCk v (by omega),zAA,zP5 k r v hr hv,zAA]
  by_cases h1:k=1
  · subst h1
    rw [if_pos rfl]
    cases (zCB r).2 <;> cases (typeS v).2 <;> rfl
  rw [if_neg h1,show (k==1)=false by simpa using h1,zAB]
  by_cases h2:k=2
  · subst h2; rfl
  rw [if_neg h2,show (k==2)=false by simpa using h2,zAB]
  by_cases h3:k=3
  · subst h3
    rw [if_pos (.inl rfl)]
    simp only [bne]
    cases tok r <;> cases tok v <;> cases v==[42] <;> rfl
  by_cases h4:k=4
  · subst h4
    rw [if_pos (.inr rfl)]
    simp only [bne]
    cases tok r <;> cases tok v <;> cases v==[42] <;> rfl
  rw [if_neg (by omega),show (k==3)=false by simpa using h3,show (k==4)=false by simpa using h4]
  rfl
end Go.Eng.Pure
namespace Go.Eng.Pure
open Go Go.Eng
set_option linter.unusedVariables false
def isQ (p:GParam):Bool:=p.fName==[113]
def qAt (l:List GParam):Nat:=l.findIdx isQ
theorem zRP (l:List GParam):qAt l≤l.length:=List.findIdx_le_length
theorem zSP (l:List GParam) (hl:l.length≤1073741824):zAT l zCN=some (if qAt l<l.length then (qAt l:Int) else -1):=by
  have key:∀ (k n:Nat),n+k=l.length→zAF (zAL l zCN) (n:Int)=some (if n+qAt (l.drop n)<l.length then .inr ((n+qAt (l.drop n):Nat):Int) else .inl ()):=by
    intro k
    induction k with
    | zero =>
      intro n hn
      obtain rfl:n=l.length:=by omega
      rw [zAE (r:=.inl ()),if_neg (by omega)]
      simp only [zAL,zAH (Nat.le_refl l.length),zAB]
    | succ k ih =>
      intro n hn
      have hlt:n<l.length:=by omega
      have hb:zAL l zCN (n:Int)=some (if isQ l[n] then .inr (.inr (n:Int)) else .inl ((n+1:Nat):Int)):=by
        simp only [zAL,zAK hlt,zAC,zAG hlt,zAA,wrs (show n≤4*1073741824 by omega)]
        unfold zCN
        rw [zAA]
        show (bif isQ l[n] then _ else _)=_
        cases isQ l[n] <;> rfl
      have hq:qAt (l.drop n)=if isQ l[n] then 0 else qAt (l.drop (n+1))+1:=by
        unfold qAt
        rw [List.drop_eq_getElem_cons hlt,List.findIdx_cons]
        cases isQ l[n] <;> rfl
      rw [hq]
      cases hp:isQ l[n] with
      | true =>
        rw [hp,if_pos rfl] at hb
        rw [zAE hb,if_pos rfl,if_pos (by omega)]; rfl
      | false =>
        rw [hp,if_neg (by decide)] at hb
        rw [zAI hb,ih (n+1) (by omega),if_neg (show ¬ (false=true) by decide)]
        have e:n+1+qAt (l.drop (n+1))=n+(qAt (l.drop (n+1))+1):=by omega
        rw [e]
  have:=key l.length 0 (by omega)
  rw [show ((0:Nat):Int)=0 from rfl,List.drop_zero,Nat.zero_add] at this
  unfold zAT
  rw [this,zAA]
  by_cases h:qAt l<l.length
  · rw [if_pos h,if_pos h]
  · rw [if_neg h,if_neg h]
def rngS (k:Int) (v:Str) (ps:List GParam):Str×Bool :=
  if k=1 then (wrtT ⟨(zCB v).1.fType,(zCB v).1.fSub,ps⟩,(zCB v).2)
  else if k=2 then (canS k v,((v==[42])||langS v)&&((ps.length:Int)==0))
  else (canS k v,tok v&&((ps.length:Int)==0))
def qOf (l:List GParam):Int×Bool:=match l[qAt l]? with | some p=>zDW p.fValue | none=>(1000,true)
def prefT (k:Int) (r:Str×List GParam×Bool):GPref×Bool :=
  if !r.2.2 then (⟨[],0⟩,false) else if !(qOf r.2.1).2 then (⟨[],0⟩,false)
  else (⟨(rngS k r.1 (r.2.1.take (qAt r.2.1))).1,(qOf r.2.1).1⟩,(rngS k r.1 (r.2.1.take (qAt r.2.1))).2)
def prefS (k:Int) (m:Str):GPref×Bool:=prefT k (parS m)
theorem zLy (k:Int) (v:Str) (ps:List GParam) (hv:v.length≤1000) (hp:smPs ps):zFI k v ps=some (rngS k v ps):=by
  obtain ⟨r1,r2,_,_⟩:=zHJ v
  unfold zFI rngS
  by_cases h1:k=1
  · rw [if_pos h1,decide_eq_true h1,zAC]
    unfold zFk
    rw [zJt v (by omega),zAA,zOB _ (by simp only []; omega) (by simp only []; omega) hp,zAA,zAA]
  rw [if_neg h1,decide_eq_false h1,zAB]
  by_cases h2:k=2
  · rw [if_pos h2,decide_eq_true h2,zAC]
    unfold zFi
    rw [zMD k v (by omega),zAA,zMf v (by omega),zAA,zAA]
  rw [if_neg h2,decide_eq_false h2,zAB,zMD k v (by omega),zAA,zCk v (by omega),zAA]
theorem zRU (l:List GParam) (h:smPs l):smPs (l.take (qAt l)) :=
  ⟨by rw [List.length_take]; have:=h.1; omega,fun p hp=>h.2 p (List.mem_of_mem_take hp)⟩
theorem zOo {m:Str} (h:m.length≤300):(parS m).1.length≤300∧smPs (parS m).2.1:=by
  obtain ⟨l1,l2⟩:=zHw m
  have l3:=zLM m
  exact ⟨by omega,by omega,fun p hp=>by have:=l3 p hp; omega⟩
theorem zRY (k:Int) (m:Str) (h:m.length≤300):zGf k m=some (prefS k m):=by
  obtain ⟨h1,h2⟩:=zOo h
  unfold zGf prefS
  rw [zMV m (by omega),zAA]
  generalize parS m=r at *
  obtain ⟨v,ps,ok⟩:=r
  unfold prefT
  simp only [] at h1 h2 ⊢
  cases ok with
  | false=>rfl
  | true =>
    have hl:=h2.1
    have hle:=zRP ps
    rw [Bool.not_true,zAB,if_neg (by decide),zSP ps (by omega),zAA]
    unfold qOf
    by_cases hq:qAt ps<ps.length
    · rw [if_pos hq,decide_eq_true (by omega),zAC,zAG hq,zAA,zPa,zAA,List.getElem?_eq_getElem hq]
      simp only []
      cases hb:(zDW ps[qAt ps].fValue).2 with
      | false=>rfl
      | true =>
        rw [Bool.not_true,zAB,zD9 (by omega),zAA,zAA]
        simp only []
        rw [zLy k v _ (by omega) (zRU ps h2),zAA]
        rfl
    · have hx:qAt ps=ps.length:=by omega
      rw [if_neg hq,List.getElem?_eq_none (by omega)]
      simp only []
      rw [show decide ((0:Int)≤-1)=false from rfl,zAB,zAA]
      simp only []
      rw [zLy k v _ (by omega) h2,zAA,hx,List.take_length]
      rfl
def nameF (k:Int):Str:=if k=1 then [65,99,99,101,112,116] else if k=2 then [65,99,99,101,112,116,45,76,97,110,103,117,97,103,101]
  else if k=3 then [65,99,99,101,112,116,45,67,104,97,114,115,101,116] else if k=4 then [65,99,99,101,112,116,45,69,110,99,111,100,105,110,103] else []
theorem zO1 (k:Int):zBV k=some (nameF k):=by
  unfold zBV nameF
  by_cases h1:k=1
  · subst h1; rfl
  by_cases h2:k=2
  · subst h2; rfl
  by_cases h3:k=3
  · subst h3; rfl
  by_cases h4:k=4
  · subst h4; rfl
  rw [show (k==1)=false by simpa using h1,show (k==2)=false by simpa using h2,show (k==3)=false by simpa using h3,show (k==4)=false by simpa using h4,if_neg h1,if_neg h2,if_neg h3,if_neg h4]
  rfl
theorem zLt (k:Int):(nameF k).length≤100:=by
  unfold nameF
  split
  · decide
  split
  · decide
  split
  · decide
  split <;> decide
def prefO (k:Int) (m:Str):Option GPref:=if (prefS k m).2 then some (prefS k m).1 else none
def zH3 (k:Int) (l:List GField):List GPref×Bool:=if nameF k=[] then ([],false) else if hasF l (nameF k) then ((allM l (nameF k)).filterMap (prefO k),true) else ([],false)
theorem zMF (k:Int) (ms:List Str) (acc:List GPref):ms.foldl (fun a x=>if (prefS k x).2 then a++[(prefS k x).1] else a) acc=acc++ms.filterMap (prefO k):=by
  rw [← zKD]
  congr 1
  funext a x
  unfold prefO
  cases (prefS k x).2 <;> rfl
theorem zLD {l:List GField} (h:smL l):l.length≤1073741824∧∀ f ∈ l,smF f:=⟨by have:=h.1; omega,fun f hf=>by have:=h.2 f hf; exact ⟨by omega,by omega⟩⟩
theorem zQM (k:Int) (l:List GField) (hl:smL l):zEw k l=some (zH3 k l):=by
  obtain ⟨b1,b2⟩:=zLD hl
  have hn:=zLt k
  have hm:=zHv l (nameF k)
  have hs:=zID l (nameF k) 300 fun f hf=>(hl.2 f hf).2
  unfold zEw zH3
  rw [zO1,zAA,zPV l _ b1 b2 (by omega),zAA,zKJ l _ b1 b2 (by omega),zAA]
  generalize allM l (nameF k)=ms at *
  have:=zBB (fun (st:List GPref) i=>(st,i)) ms (fun a x=>if (prefS k x).2 then a++[(prefS k x).1] else a) id (zCv k ms) (fun n st=>st.length≤n) [] (by simp) ?_ ?_
  · rw [this,zAA,zMF,List.nil_append]
    by_cases h1:nameF k=[]
    · rw [if_pos h1,h1]; rfl
    · rw [if_neg h1,show (nameF k==[])=false by simpa using h1,zAB,zAA]
      cases hasF l (nameF k) <;> rfl
  · intro n hn st hI
    have hx:=hs _ (List.getElem_mem hn)
    refine ⟨?_,?_⟩
    · unfold zCv
      simp only []
      rw [zAK hn,zAC,zAG hn,zAA,zRY k _ hx,zAA,wrs (by omega)]
      cases (prefS k ms[n]).2 with
      | true=>rw [zAC,zAc (by omega) (zA1 _),zAA]; rfl
      | false=>rfl
    · split
      · rw [List.length_append,List.length_singleton]; omega
      · omega
  · intro st hI
    unfold zCv
    simp only []
    rw [zAH (Nat.le_refl _),zAB]; rfl
theorem zRv (k:Int) (s:Str):(canS k s).length≤s.length+10:=by
  unfold canS
  split
  · simp
  split
  · simp
  · rw [zCG]; omega
theorem zL4 (B:Nat):∀ l:List GParam,(∀ p ∈ l,(parT p).length≤B)→(l.flatMap parT).length≤B*l.length
  | [],_=>by simp
  | p :: l,h=>by
    have h1:=h p List.mem_cons_self
    have h2:=zL4 B l fun q hq=>h q (List.mem_cons_of_mem _ hq)
    rw [List.flatMap_cons,List.length_append,List.length_cons,Nat.mul_succ]; omega
theorem zQ1 (k:Int) (m:Str) (h:m.length≤300):(prefS k m).1.fRange.length≤1000000:=by
  obtain ⟨h1,h2⟩:=zOo h
  obtain ⟨l1,l2⟩:=zHw m
  have l3:=zLM m
  unfold prefS
  generalize parS m=r at *
  obtain ⟨v,ps,ok⟩:=r
  unfold prefT
  simp only [] at h1 h2 l2 l3 ⊢
  have hr:(rngS k v (ps.take (qAt ps))).1.length≤1000000:=by
    obtain ⟨r1,r2,_,_⟩:=zHJ v
    have hc:=zRv k v
    unfold rngS
    split
    · have hb := zL4 910 (ps.take (qAt ps)) (fun p hp => by
        have h3:=l3 p (List.mem_of_mem_take hp)
        have h4:=zLX p.fValue
        unfold parT
        simp only [List.length_append,List.length_cons,List.length_nil]
        omega)
      have ht:(ps.take (qAt ps)).length≤301:=by rw [List.length_take]; omega
      simp only []
      unfold wrtT wrtP
      simp only [List.length_append,List.length_cons,List.length_nil]
      omega
    · split
      · simp only []; omega
      · simp only []; omega
  split
  · simp
  split
  · simp
  · exact hr
end Go.Eng.Pure
