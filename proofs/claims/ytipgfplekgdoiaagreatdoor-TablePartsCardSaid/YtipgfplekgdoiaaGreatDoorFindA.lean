/- A part. -/
import Derived.Test.YtipgfplekgdoiaaGreatDoorTabR
set_option linter.unusedVariables false
namespace Go.Eng.Pure
open Go Go.Eng
set_option linter.unusedVariables false
theorem zNA (a b:List GAxis) (ha:a.length≤1073741824) (hs:∀ x ∈ a,x.fValues.length≤1073741824):zEN a b=some (decide (a=b)):=by
  unfold zEN zAX
  by_cases hl:a.length=b.length
  · have e:((a.length:Int) !=(b.length:Int))=false:=by simp [hl]
    rw [e,zAB,zD3 a b _ hl]
    · by_cases h:a=b <;> simp [h]
    · intro n hn hb
      simp only [zAO,zDJ]
      rw [zAJ hn,zAC,zAE hn,zAA,zAE hb,zAA,wrs (show n≤4*1073741824 by omega)]
      have hd:(a[n]=b[n])↔(a[n].fName=b[n].fName∧a[n].fValues=b[n].fValues):=by
        constructor
        · intro h; rw [h]; exact ⟨rfl,rfl⟩
        · intro ⟨h1,h2⟩
          cases ha':a[n]; cases hb':b[n]
          rw [ha',hb'] at h1 h2
          simp at h1 h2
          rw [h1,h2]
      by_cases h1:a[n].fName=b[n].fName
      · rw [show (a[n].fName==b[n].fName)=true from by simp [h1],zAC,zHh _ _ (hs _ (List.getElem_mem hn)),zAA,zAA,zAA]
        by_cases h2:a[n].fValues=b[n].fValues
        · rw [if_pos (hd.2 ⟨h1,h2⟩)]; simp [h2]
        · rw [if_neg (fun h=>h2 (hd.1 h).2),show (a[n].fValues==b[n].fValues)=false from by simp [h2]]; rfl
      · rw [show (a[n].fName==b[n].fName)=false from by simp [h1],zAB,zAA,zAA,if_neg (fun h=>h1 (hd.1 h).1)]
        rfl
    · simp only [zAO]
      rw [zAI (Nat.le_refl _),zAB]
  · have e:((a.length:Int) !=(b.length:Int))=true:=by simp; omega
    have:a≠b:=fun h=>hl (by rw [h])
    rw [e,zAC]
    simp [this]
def limN (limit:Int):Nat:=(if limit<0 then 0 else limit).toNat
def putE (t:GTable) (e:GEntry) (axes:List GAxis):List GEntry:=(if t.fAxes=axes then t.fEntries.filter (fun x=>!replB axes e x) else [])++[e]
def putS (t:GTable) (e:GEntry) (axes:List GAxis) (limit:Int):GTable:=⟨axes,(putE t e axes).drop ((putE t e axes).length - limN limit)⟩
def smTb (t:GTable):Prop:=smAx t.fAxes∧(∀ a ∈ t.fAxes,a.fValues.length≤1000000)∧t.fEntries.length≤1000000∧∀ e ∈ t.fEntries,smEn e∧smKs e.fKeys
theorem zOl (t : GTable) (e : GEntry) (axes : List GAxis) (limit : Int) (ht : smTb t) (he : smEn e) (hk : smKs e.fKeys) (ha : smAx axes) (hav : ∀ a ∈ axes, a.fValues.length ≤ 1000000) (hlim : limit ≤ 9223372036854775807) :
    zE3 t e axes limit=some (putS t e axes limit):=by
  obtain ⟨ht1,ht2,ht3,ht4⟩:=ht
  have hj : ∀ m : List GEntry, m.length ≤ 1000000 → (∀ x ∈ m, smKs x.fKeys) → ((zAQ m fun x0 => zFI x0 axes e).bind fun l60 =>
      (zD6 e).bind fun r69=>(xapp l60 ([r69]:List GEntry)).bind fun l87 =>
      (xsub l87 (if (wr ((l87.length:Int) - (if limit<0 then 0 else limit)))<0 then 0 else (wr ((l87.length:Int) - (if limit<0 then 0 else limit)))) l87.length).bind fun l96 =>
      some (⟨axes,l96⟩:GTable))=some ⟨axes,((m.filter fun x=>!replB axes e x)++[e]).drop (((m.filter fun x=>!replB axes e x)++[e]).length - limN limit)⟩:=by
    intro m hm hks
    rw [zO1 m _ (fun x=>replB axes e x) (by omega) (fun x hx=>by
      unfold zFI
      rw [zL1 axes e x ha hk (hks x hx) (by have:=he.2.2.1; omega) (by have:=he.2.2.2.1; omega)]; rfl),zAA,zHr e he,zAA]
    have hfl:=List.length_filter_le (fun x=>!replB axes e x) m
    rw [zAm (by omega) (zBW _),zAA]
    generalize hM:(m.filter fun x=>!replB axes e x)++[e]=M
    have hMl:M.length≤1000001:=by rw [← hM,List.length_append,List.length_singleton]; omega
    have hw:(if (wr ((M.length:Int) - (if limit<0 then 0 else limit)))<0 then (0:Int) else (wr ((M.length:Int) - (if limit<0 then 0 else limit))))=((M.length - limN limit:Nat):Int):=by
      unfold limN
      by_cases h0:limit<0
      · rw [if_pos h0,wr_eq ⟨by omega,by omega⟩,if_neg (by omega)]; simp
      · rw [if_neg h0,wr_eq ⟨by omega,by omega⟩]
        split <;> omega
    rw [hw,zCf (by omega),zAA]
  unfold zE3 putS putE
  rw [zHs t (by have:=ht1.1; omega) (fun a h=>by have:=ht2 a h; omega) (by omega) (fun x h=>(ht4 x h).1),zAA,zNA _ _ (by have:=ht1.1; omega) (fun a h=>by have:=ht2 a h; omega),zAA]
  by_cases hx:t.fAxes=axes
  · rw [decide_eq_true hx,Bool.not_true,zAB,zAA,if_pos hx]
    simp only []
    rw [hx]
    exact hj t.fEntries ht3 fun x h=>(ht4 x h).2
  · rw [decide_eq_false hx,Bool.not_false,zAC,zIP axes (by have:=ha.1; omega) (fun a h=>by have:=hav a h; omega),zAA,zAA,if_neg hx]
    simp only []
    exact hj [] (by simp) (by simp)
end Go.Eng.Pure
namespace Go.Eng.Pure
open Go Go.Eng
set_option linter.unusedVariables false
theorem zOz (t:GTable) (h1:t.fAxes.length≤1073741824) (h2:∀ a ∈ t.fAxes,a.fValues.length≤1073741824) (h3:t.fEntries.length≤1073741824) (h4:∀ e ∈ t.fEntries,smEn e):zHu t=some t:=by
  unfold zHu
  have k0:=zFz (fun out n=>(n,out,([]:List GEntry))) (fun out=>(out,([]:List GEntry))) t.fAxes (zEU t) h1 ?_ ?_
  · rw [k0,zAA]
    simp only []
    have k1:=zFz (fun out n=>(n,t.fAxes,out)) (fun out=>(t.fAxes,out)) t.fEntries (zEZ t) h3 ?_ ?_
    · rw [k1,zAA]
    · intro n hn out ho
      simp only [zEZ]
      rw [zAJ hn,zAC,zAE hn,zAA,zK7 _ (h4 _ (List.getElem_mem hn)),zAA,zAm (by omega) (zBW _),zAA,wrs (by omega)]
    · intro out _
      simp only [zEZ]
      rw [zAI (Nat.le_refl _),zAB]
  · intro n hn out ho
    simp only [zEU]
    have hv:=h2 _ (List.getElem_mem hn)
    rw [zAJ hn,zAC,zAE hn,zAA,zAA,zAm (by simp) (by omega),zAA,zAm (by omega) (zBW _),zAA,wrs (by omega)]
    rfl
  · intro out _
    simp only [zEU]
    rw [zAI (Nat.le_refl _),zAB]
end Go.Eng.Pure
namespace Go.Eng.Pure
open Go Go.Eng
set_option linter.unusedVariables false
def lastI {α:Type} (l:List α) (p:α→Bool):Nat→Int
  | 0=>-1
  | n+1=>if (l[n]?).any p then (n:Int) else lastI l p n
theorem zK2 (l:List GEntry) (f:GEntry→Option Bool) (p:GEntry→Bool) (hl:l.length≤1073741824) (h:∀ x ∈ l,f x=some (p x)):zE0 l f=some (lastI l p l.length):=by
  have key:∀ n,n≤l.length→zAG (zCt l f) ((n:Int) - 1)=some (if lastI l p n=-1 then .inl () else .inr (lastI l p n)):=by
    intro n
    induction n with
    | zero =>
      intro _
      rw [zAF (r:=.inl ())]
      · rfl
      · simp only [zCt]; rfl
    | succ n ih =>
      intro hn
      have hlt:n<l.length:=by omega
      have e1:((n+1:Nat):Int) - 1=(n:Int):=by omega
      have hb:zCt l f (n:Int)=some (if p l[n] then .inr (.inr (n:Int)) else .inl ((n:Int) - 1)):=by
        simp only [zCt]
        rw [decide_eq_true (by omega),zAC,zAE hlt,zAA,h _ (List.getElem_mem hlt),zAA,wr_eq ⟨by omega,by omega⟩]
        cases p l[n] <;> rfl
      rw [e1]
      have hg:(l[n]?).any p=p l[n]:=by rw [List.getElem?_eq_getElem hlt]; rfl
      unfold lastI
      rw [hg]
      cases hp:p l[n] with
      | true =>
        rw [hp,if_pos rfl] at hb
        rw [zAF hb,if_pos rfl,if_neg (by omega)]
      | false =>
        rw [hp,if_neg (by simp)] at hb
        rw [zAL hb,ih (by omega)]
        simp only [Bool.false_eq_true,if_false]
  unfold zE0
  rw [wr_eq ⟨by omega,by omega⟩,key l.length (Nat.le_refl _),zAA]
  by_cases hx:lastI l p l.length=-1
  · rw [if_pos hx]; simp only []; rw [hx]
  · rw [if_neg hx]
theorem zKQ {α:Type} (l:List α) (p:α→Bool):∀ n,n≤l.length→decide (0≤lastI l p n)=(l.take n).any p
  | 0,_=>rfl
  | n+1,hn=>by
    have hlt:n<l.length:=by omega
    have hg:(l[n]?).any p=p l[n]:=by rw [List.getElem?_eq_getElem hlt]; rfl
    unfold lastI
    rw [hg,List.take_succ_eq_append_getElem hlt,List.any_append]
    cases hp:p l[n] with
    | true=>simp [hp]
    | false =>
      rw [if_neg (by simp),zKQ l p n (by omega)]; simp [hp]
end Go.Eng.Pure
namespace Go.Eng.Pure
open Go Go.Eng
set_option linter.unusedVariables false
def asc:List Str→Bool
  | a :: b :: l=>Op.bytesLess a b&&asc (b :: l)
  | _=>true
theorem zL2 (l : List Str) (body : Int → Option (Int ⊕ (Unit ⊕ Bool))) (hl : l.length ≤ 1073741824)
    (h:∀ n (h1:n+1<l.length),body ((n+1:Nat):Int)=some (if Op.bytesLess (l[n]'(by omega)) l[n+1] then .inl ((n+2:Nat):Int) else .inr (.inr false)))
    (h':∀ n,l.length≤n→body (n:Int)=some (.inr (.inl ()))):zAG body 1=some (if asc l then .inl () else .inr false):=by
  have key:∀ (k n:Nat),n+k=l.length→zAG body ((n+1:Nat):Int)=some (if asc (l.drop n) then .inl () else .inr false):=by
    intro k
    induction k with
    | zero =>
      intro n hn
      rw [zAF (h' (n+1) (by omega)),List.drop_of_length_le (by omega)]; rfl
    | succ k ih =>
      intro n hn
      by_cases h1:n+1<l.length
      · have hb:=h n h1
        rw [List.drop_eq_getElem_cons (show n<l.length by omega),List.drop_eq_getElem_cons h1,asc,← List.drop_eq_getElem_cons h1]
        cases hp:Op.bytesLess (l[n]'(by omega)) l[n+1] with
        | true =>
          rw [hp,if_pos rfl] at hb
          rw [zAL hb,ih (n+1) (by omega),Bool.true_and]
        | false =>
          rw [hp,if_neg (by simp)] at hb
          rw [zAF hb]; rfl
      · rw [zAF (h' (n+1) (by omega))]
        have:l.drop n=[l[n]'(by omega)]:=by
          rw [List.drop_eq_getElem_cons (show n<l.length by omega),List.drop_of_length_le (by omega)]
        rw [this]; rfl
  have:=key l.length 0 (by omega)
  rw [List.drop_zero] at this
  exact this
def zHQ (e:GEntry):Bool:=e.fKeys.isEmpty&&e.fVary.length==e.fSnapshot.length&&asc e.fVary
theorem zMS (e:GEntry) (hv:e.fVary.length≤1073741824):zFU e=some (zHQ e):=by
  unfold zFU zHQ
  rw [zL2 e.fVary (zCh e) hv]
  · cases hk:e.fKeys with
    | cons k l=>rw [show decide (0<(((k :: l).length:Nat):Int))=true from decide_eq_true (by simp),Bool.true_or,zAC]; rfl
    | nil =>
      rw [show decide (0<((([]:List (List Str)).length:Nat):Int))=false from rfl,Bool.false_or]
      by_cases h1:e.fVary.length=e.fSnapshot.length
      · rw [show ((e.fVary.length:Int) !=(e.fSnapshot.length:Int))=false from by simp [h1],zAB,zAA,show (e.fVary.length==e.fSnapshot.length)=true from by simp [h1]]
        cases asc e.fVary <;> rfl
      · rw [show ((e.fVary.length:Int) !=(e.fSnapshot.length:Int))=true from by simp; omega,zAC,show (e.fVary.length==e.fSnapshot.length)=false from by simp [h1]]; rfl
  · intro n h1
    simp only [zCh]
    rw [zAJ h1,zAC,show ((n+1:Nat):Int) - 1=(n:Int) by omega,wr_eq ⟨by omega,by omega⟩,zAE (show n<e.fVary.length by omega),zAA,zAE h1,zAA,wrs (by omega)]
    cases Op.bytesLess (e.fVary[n]'(by omega)) e.fVary[n+1] <;> rfl
  · intro n hn
    simp only [zCh]
    rw [zAI hn,zAB]
end Go.Eng.Pure
namespace Go.Eng.Pure
open Go Go.Eng
set_option linter.unusedVariables false
theorem zI5 (l:List Str) (v:Str) (hl:l.length≤1073741824):zAc l v=some (l.contains v):=by
  have key:∀ (k n:Nat),n+k=l.length→∃ r,zAG (zAb l v) (n:Int)=some r∧(match r with | .inr i=>decide (0≤i) | .inl _=>false)=(l.drop n).contains v:=by
    intro k
    induction k with
    | zero =>
      intro n hn
      have:n=l.length:=by omega
      subst this
      refine ⟨.inl (),zAF ?_,by simp⟩
      simp only [zAb]
      rw [zAI (Nat.le_refl _),zAB]
    | succ k ih =>
      intro n hn
      have hlt:n<l.length:=by omega
      have hb:zAb l v (n:Int)=some (if v==l[n] then .inr (.inr (n:Int)) else .inl ((n+1:Nat):Int)):=by
        simp only [zAb]
        rw [zAJ hlt,zAC,zAE hlt,zAA,wrs (show n≤4*1073741824 by omega)]
        cases v==l[n] <;> rfl
      rw [List.drop_eq_getElem_cons hlt,List.contains_cons]
      cases hp:v==l[n] with
      | true =>
        rw [hp,if_pos rfl] at hb
        exact ⟨_,zAF hb,by simp⟩
      | false =>
        rw [hp,if_neg (by simp)] at hb
        obtain ⟨r,h1,h2⟩:=ih (n+1) (by omega)
        exact ⟨r,by rw [zAL hb,h1],by rw [h2]; rfl⟩
  obtain ⟨r,h1,h2⟩:=key l.length 0 (by omega)
  unfold zAc zBZ
  rw [show (0:Int)=((0:Nat):Int) from rfl,h1,zAA]
  rw [List.drop_zero] at h2
  cases r with
  | inl u=>simp only [] at h2 ⊢; rw [← h2]; rfl
  | inr i=>simp only [] at h2 ⊢; rw [← h2]; rfl
def inAx:List GAxis→List Str→Bool
  | a :: l,x :: xs=>a.fValues.contains x&&inAx l xs
  | [],_=>true
  | _ :: _,[]=>false
def zD1 (axes:List GAxis) (k:List Str):Bool:=k.length==axes.length&&inAx axes k
def zJA (axes:List GAxis) (e:GEntry):Bool:=decide (1≤e.fKeys.length∧e.fKeys.length≤64∧e.fVary.length+e.fSnapshot.length=0)&&e.fKeys.all (zD1 axes)
theorem zOA (axes : List GAxis) (k : List Str) (hl : axes.length ≤ 1073741824) (hv : ∀ a ∈ axes, a.fValues.length ≤ 1073741824) (hk : k.length = axes.length) :
    zAG (zBq axes k) 0=some (if inAx axes k then .inl () else .inr (.inr (.inr false))):=by
  have key:∀ (j n:Nat),n+j=axes.length→zAG (zBq axes k) (n:Int)=some (if inAx (axes.drop n) (k.drop n) then .inl () else .inr (.inr (.inr false))):=by
    intro j
    induction j with
    | zero =>
      intro n hn
      have:n=axes.length:=by omega
      subst this
      rw [zAF (r:=.inl ())]
      · rw [List.drop_length]; rfl
      · simp only [zBq]
        rw [zAI (Nat.le_refl _),zAB]
    | succ j ih =>
      intro n hn
      have hlt:n<axes.length:=by omega
      have hb:zBq axes k (n:Int)=some (if axes[n].fValues.contains (k[n]'(by omega)) then .inl ((n+1:Nat):Int) else .inr (.inr (.inr (.inr false)))):=by
        simp only [zBq]
        rw [zAJ hlt,zAC,zAE hlt,zAA,zAE (show n<k.length by omega),zAA,zI5 _ _ (hv _ (List.getElem_mem hlt)),zAA,wrs (show n≤4*1073741824 by omega)]
        cases axes[n].fValues.contains (k[n]'(by omega)) <;> rfl
      rw [List.drop_eq_getElem_cons hlt,List.drop_eq_getElem_cons (show n<k.length by omega),inAx]
      cases hp:axes[n].fValues.contains (k[n]'(by omega)) with
      | true =>
        rw [hp,if_pos rfl] at hb
        rw [zAL hb,ih (n+1) (by omega),Bool.true_and]
      | false =>
        rw [hp,if_neg (by simp)] at hb
        rw [zAF hb]; rfl
  have:=key axes.length 0 (by omega)
  rw [List.drop_zero,List.drop_zero] at this
  exact this
theorem zNC (axes : List GAxis) (e : GEntry) (hl : axes.length ≤ 1073741824) (hv : ∀ a ∈ axes, a.fValues.length ≤ 1073741824) (hk : e.fKeys.length ≤ 1073741824) (h1 : e.fVary.length ≤ 1073741824) (h2 : e.fSnapshot.length ≤ 1073741824) :
    zGM axes e=some (zJA axes e):=by
  have hloop:zAG (zCO axes e) 0=some (if e.fKeys.any (fun k=>!zD1 axes k) then .inr false else .inl ()):=by
    refine zBX (zCO axes e) e.fKeys (fun k=>!zD1 axes k) (.inr false) (.inl ()) ?_ ?_
    · intro n hn
      simp only [zCO]
      rw [zAJ hn,zAC,zAE hn,zAA]
      unfold zD1
      by_cases hkl:e.fKeys[n].length=axes.length
      · rw [show ((e.fKeys[n].length:Int) !=(axes.length:Int))=false from by simp [hkl],zAB,zOA axes _ hl hv hkl,zAA,show (e.fKeys[n].length==axes.length)=true from by simp [hkl],Bool.true_and,wrs (show n≤4*1073741824 by omega)]
        cases inAx axes e.fKeys[n] <;> rfl
      · rw [show ((e.fKeys[n].length:Int) !=(axes.length:Int))=true from by simp; omega,zAC,show (e.fKeys[n].length==axes.length)=false from by simp [hkl]]; rfl
    · simp only [zCO]
      rw [zAI (Nat.le_refl _),zAB]
  have hany:e.fKeys.any (fun k=>!zD1 axes k)=!e.fKeys.all (zD1 axes):=by
    rw [List.all_eq_not_any_not]; simp
  unfold zGM zJA
  rw [hloop,wr_eq ⟨by omega,by omega⟩]
  by_cases hc:1≤e.fKeys.length∧e.fKeys.length≤64∧e.fVary.length+e.fSnapshot.length=0
  · rw [decide_eq_true hc,Bool.true_and]
    have e1:((decide ((e.fKeys.length:Int)<1)||decide (64<(e.fKeys.length:Int)))||decide (0<(e.fVary.length:Int)+(e.fSnapshot.length:Int)))=false:=by
      rw [decide_eq_false (by omega),decide_eq_false (by omega),decide_eq_false (by omega)]; rfl
    rw [e1,zAB,zAA,hany]
    cases e.fKeys.all (zD1 axes) <;> rfl
  · rw [decide_eq_false hc,Bool.false_and]
    have e1:((decide ((e.fKeys.length:Int)<1)||decide (64<(e.fKeys.length:Int)))||decide (0<(e.fVary.length:Int)+(e.fSnapshot.length:Int)))=true:=by
      simp only [Bool.or_eq_true,decide_eq_true_eq]; omega
    rw [e1,zAC]
end Go.Eng.Pure
namespace Go.Eng.Pure
open Go Go.Eng
set_option linter.unusedVariables false
theorem zPU (axes : List GAxis) (e : GEntry) (i j : Nat) (hi : i < e.fKeys.length) (hj : j < axes.length) (hk : j < e.fKeys[i].length) (hv : axes[j].fValues.length ≤ 1073741824) :
    zAG (zA5 axes e (i:Int) (j:Int)) (false,0)=some (axes[j].fValues.contains (e.fKeys[i][j])):=by
  have:=zDT (fun (st:Bool) n=>(st,n)) axes[j].fValues (fun st x=>st||x==e.fKeys[i][j]) id (zA5 axes e (i:Int) (j:Int)) (fun _ _=>True) false trivial ?_ ?_
  · rw [this]
    congr 1
    have key:∀ (l:List Str) (acc:Bool),l.foldl (fun st x=>st||x==e.fKeys[i][j]) acc=(acc||l.contains e.fKeys[i][j]):=by
      intro l
      induction l with
      | nil=>intro acc; simp
      | cons x l ih =>
        intro acc
        rw [List.foldl_cons,ih,List.contains_cons,Bool.or_assoc]
        congr 2
        exact Bool.beq_comm
    rw [key]; simp
  · intro n hn st _
    refine ⟨?_,trivial⟩
    simp only [zA5]
    rw [zAE hj,zAA,zAJ hn,zAC,zAA,zAE hn,zAA,zAE hi,zAA,zAE hk,zAA,wrs (show n≤4*1073741824 by omega)]
    cases st <;> rfl
  · intro st _
    simp only [zA5]
    rw [zAE hj,zAA,zAI (Nat.le_refl _),zAB]
    rfl
theorem zOW (axes : List GAxis) (e : GEntry) (i : Nat) (hi : i < e.fKeys.length) (hl : axes.length ≤ 1073741824) (hv : ∀ a ∈ axes, a.fValues.length ≤ 1073741824) (hk : e.fKeys[i].length = axes.length) :
    zAG (zAu axes e (i:Int)) 0=some (if inAx axes e.fKeys[i] then .inl () else .inr (.inr (.inr false))):=by
  have key:∀ (j n:Nat),n+j=axes.length→zAG (zAu axes e (i:Int)) (n:Int)=some (if inAx (axes.drop n) (e.fKeys[i].drop n) then .inl () else .inr (.inr (.inr false))):=by
    intro j
    induction j with
    | zero =>
      intro n hn
      have:n=axes.length:=by omega
      subst this
      rw [zAF (r:=.inl ())]
      · rw [List.drop_length]; rfl
      · simp only [zAu]
        rw [zAI (Nat.le_refl _),zAB]
    | succ j ih =>
      intro n hn
      have hlt:n<axes.length:=by omega
      have hb:zAu axes e (i:Int) (n:Int)=some (if axes[n].fValues.contains (e.fKeys[i][n]'(by omega)) then .inl ((n+1:Nat):Int) else .inr (.inr (.inr (.inr false)))):=by
        simp only [zAu]
        rw [zAJ hlt,zAC,zPU axes e i n hi hlt (by omega) (hv _ (List.getElem_mem hlt)),zAA,wrs (show n≤4*1073741824 by omega)]
        cases axes[n].fValues.contains (e.fKeys[i][n]'(by omega)) <;> rfl
      rw [List.drop_eq_getElem_cons hlt,List.drop_eq_getElem_cons (show n<e.fKeys[i].length by omega),inAx]
      cases hp:axes[n].fValues.contains (e.fKeys[i][n]'(by omega)) with
      | true =>
        rw [hp,if_pos rfl] at hb
        rw [zAL hb,ih (n+1) (by omega),Bool.true_and]
      | false =>
        rw [hp,if_neg (by simp)] at hb
        rw [zAF hb]; rfl
  have:=key axes.length 0 (by omega)
  rw [List.drop_zero,List.drop_zero] at this
  exact this
theorem zMM (axes : List GAxis) (e : GEntry) (hl : axes.length ≤ 1073741824) (hv : ∀ a ∈ axes, a.fValues.length ≤ 1073741824) (hk : e.fKeys.length ≤ 1073741824) (h1 : e.fVary.length ≤ 1073741824) (h2 : e.fSnapshot.length ≤ 1073741824) :
    zDD axes e=some (bif axes.isEmpty then zHQ e else zJA axes e):=by
  unfold zDD
  cases hx:axes with
  | nil =>
    rw [show ((([]:List GAxis).length:Int)==0)=true from rfl,zAC,show ([]:List GAxis).isEmpty=true from rfl,zAC]
    rw [zL2 e.fVary (zBU e) h1]
    · rw [zAA]
      unfold zHQ
      cases hA:asc e.fVary with
      | false=>simp
      | true =>
        simp only [if_true,Bool.and_true]
        congr 2
        · cases e.fKeys with
          | nil=>rfl
          | cons k ks=>simp; omega
        · by_cases hq:e.fVary.length=e.fSnapshot.length
          · simp [hq]
          · have:¬ ((e.fVary.length:Int)=(e.fSnapshot.length:Int)):=by omega
            rw [show (e.fVary.length==e.fSnapshot.length)=false from by simp [hq]]
            simp [this]
    · intro n hn
      simp only [zBU]
      rw [zAJ hn,zAC,show ((n+1:Nat):Int) - 1=(n:Int) by omega,wr_eq ⟨by omega,by omega⟩,zAE (show n<e.fVary.length by omega),zAA,zAE hn,zAA,wrs (by omega)]
      cases Op.bytesLess (e.fVary[n]'(by omega)) e.fVary[n+1] <;> rfl
    · intro n hn
      simp only [zBU]
      rw [zAI hn,zAB]
  | cons a l =>
    rw [← hx]
    have e0:((axes.length:Int)==0)=false:=by rw [hx]; simp; omega
    have e2:axes.isEmpty=false:=by rw [hx]; rfl
    have hloop:zAG (zA6 axes e) 0=some (if e.fKeys.any (fun k=>!zD1 axes k) then .inr false else .inl ()):=by
      refine zBX (zA6 axes e) e.fKeys (fun k=>!zD1 axes k) (.inr false) (.inl ()) ?_ ?_
      · intro n hn
        simp only [zA6]
        rw [zAJ hn,zAC,zAE hn,zAA]
        unfold zD1
        by_cases hkl:e.fKeys[n].length=axes.length
        · rw [show ((e.fKeys[n].length:Int) !=(axes.length:Int))=false from by simp [hkl],zAB,zOW axes e n hn hl hv hkl,zAA,show (e.fKeys[n].length==axes.length)=true from by simp [hkl],Bool.true_and,wrs (show n≤4*1073741824 by omega)]
          cases inAx axes e.fKeys[n] <;> rfl
        · rw [show ((e.fKeys[n].length:Int) !=(axes.length:Int))=true from by simp; omega,zAC,show (e.fKeys[n].length==axes.length)=false from by simp [hkl]]; rfl
      · simp only [zA6]
        rw [zAI (Nat.le_refl _),zAB]
    have hany:e.fKeys.any (fun k=>!zD1 axes k)=!e.fKeys.all (zD1 axes):=by
      rw [List.all_eq_not_any_not]; simp
    unfold zJA
    rw [e0,zAB,e2,zAB,hloop,wr_eq ⟨by omega,by omega⟩]
    by_cases hc:1≤e.fKeys.length∧e.fKeys.length≤64∧e.fVary.length+e.fSnapshot.length=0
    · rw [decide_eq_true hc,Bool.true_and]
      have e1:((decide ((e.fKeys.length:Int)<1)||decide (64<(e.fKeys.length:Int)))||decide (0<(e.fVary.length:Int)+(e.fSnapshot.length:Int)))=false:=by
        rw [decide_eq_false (by omega),decide_eq_false (by omega),decide_eq_false (by omega)]; rfl
      rw [e1,zAB,zAA,hany]
      cases e.fKeys.all (zD1 axes) <;> rfl
    · rw [decide_eq_false hc,Bool.false_and]
      have e1:((decide ((e.fKeys.length:Int)<1)||decide (64<(e.fKeys.length:Int)))||decide (0<(e.fVary.length:Int)+(e.fSnapshot.length:Int)))=true:=by
        simp only [Bool.or_eq_true,decide_eq_true_eq]; omega
      rw [e1,zAC]
end Go.Eng.Pure
namespace Go.Eng.Pure
open Go Go.Eng
set_option linter.unusedVariables false
def okAt (t:GTable) (i:Nat):Bool:=(t.fEntries[i]?).any fun e=>bif t.fAxes.isEmpty then zHQ e else zJA t.fAxes e&&!((t.fEntries.take i).any fun x=>replB t.fAxes e x)
def zKb (t:GTable) (limit:Int):Bool:=decide ((t.fEntries.length:Int)≤limit)&&(t.fAxes.isEmpty||valB t.fAxes)&&(List.range t.fEntries.length).all (okAt t)
theorem zMI (t:GTable) (ht:smTb t):zAG (zCN t) 0=some (if (List.range t.fEntries.length).any (fun i=>!okAt t i) then .inr false else .inl ()):=by
  obtain ⟨ht1,ht2,ht3,ht4⟩:=ht
  refine zBX (zCN t) (List.range t.fEntries.length) (fun i=>!okAt t i) (.inr false) (.inl ()) ?_ ?_
  · intro n hn
    have hlt:n<t.fEntries.length:=by simpa using hn
    obtain ⟨he,hk⟩:=ht4 _ (List.getElem_mem hlt)
    rw [List.getElem_range]
    unfold okAt
    rw [List.getElem?_eq_getElem hlt,Option.any_some]
    simp only [zCN]
    rw [zAJ hlt,zAC,zAE hlt,zAA]
    cases hx:t.fAxes with
    | nil =>
      rw [show ((([]:List GAxis).length:Int)==0)=true from rfl,zAC,zMS _ (by have:=he.2.2.1; omega),zAA,wrs (show n≤4*1073741824 by omega),show ([]:List GAxis).isEmpty=true from rfl,zAC]
      cases zHQ t.fEntries[n] <;> rfl
    | cons a l =>
      rw [← hx]
      have e0:((t.fAxes.length:Int)==0)=false:=by rw [hx]; simp; omega
      have e2:t.fAxes.isEmpty=false:=by rw [hx]; rfl
      rw [e0,zAB,e2,zAB,zNC t.fAxes _ (by have:=ht1.1; omega) (fun a h=>by have:=ht2 a h; omega) (by have:=hk.1; omega) (by have:=he.2.2.1; omega) (by have:=he.2.2.2.1; omega),zAA]
      cases zJA t.fAxes t.fEntries[n] with
      | false=>rfl
      | true =>
        rw [Bool.not_true,zAB,zE8 (show n≤t.fEntries.length by omega),zAA,zK2 (t.fEntries.take n) _ (fun x=>replB t.fAxes t.fEntries[n] x) (by rw [List.length_take]; omega) (fun x hx'=>by
          unfold zEz
          rw [zL1 t.fAxes _ x ht1 hk (ht4 x (List.mem_of_mem_take hx')).2 (by have:=he.2.2.1; omega) (by have:=he.2.2.2.1; omega)]; rfl),zAA,zAA,zKQ _ _ _ (Nat.le_refl _),List.take_length,wrs (show n≤4*1073741824 by omega)]
        cases (t.fEntries.take n).any fun x=>replB t.fAxes t.fEntries[n] x <;> rfl
  · simp only [zCN]
    rw [List.length_range,zAI (Nat.le_refl _),zAB]
theorem zJe (t:GTable) (limit:Int) (ht:smTb t) (hA:∀ a ∈ t.fAxes,smA a):zEA t limit=some (zKb t limit):=by
  unfold zEA zKb
  rw [zMI t ht,zIm _ hA]
  have hany:(List.range t.fEntries.length).any (fun i=>!okAt t i)=!(List.range t.fEntries.length).all (okAt t):=by
    rw [List.all_eq_not_any_not]; simp
  rw [hany]
  by_cases hl:limit<(t.fEntries.length:Int)
  · rw [decide_eq_true hl,zAC,zAA,zAC,decide_eq_false (by omega)]; rfl
  · rw [decide_eq_false hl,zAB,show decide ((t.fEntries.length:Int)≤limit)=true from decide_eq_true (by omega),Bool.true_and]
    cases hx:t.fAxes with
    | nil =>
      rw [show decide (0<((([]:List GAxis).length:Nat):Int))=false from rfl,zAB]
      cases (List.range t.fEntries.length).all (okAt t) <;> rfl
    | cons a l =>
      rw [← hx,show decide (0<(t.fAxes.length:Int))=true from decide_eq_true (by rw [hx]; simp),zAC,show t.fAxes.isEmpty=false from by rw [hx]; rfl]
      cases valB t.fAxes <;> cases (List.range t.fEntries.length).all (okAt t) <;> rfl
theorem zNv (t : GTable) (ht : smTb t) (n : Nat) (hn : n < t.fEntries.length) (hx : t.fAxes.isEmpty = false) :
    zAG (zBN t (n:Int)) 0=some (if (t.fEntries.take n).any (fun x=>replB t.fAxes t.fEntries[n] x) then .inr (.inr (.inr false)) else .inl ()):=by
  obtain ⟨ht1,ht2,ht3,ht4⟩:=ht
  have hpos:decide (0<(t.fAxes.length:Int))=true:=by
    cases hq:t.fAxes with
    | nil=>rw [hq] at hx; cases hx
    | cons a l=>exact decide_eq_true (by simp)
  obtain ⟨he,hk⟩:=ht4 _ (List.getElem_mem hn)
  have hlen:(t.fEntries.take n).length=n:=by rw [List.length_take]; omega
  refine zBX (zBN t (n:Int)) (t.fEntries.take n) (fun x=>replB t.fAxes t.fEntries[n] x) (.inr (.inr (.inr false))) (.inl ()) ?_ ?_
  · intro m hm
    have hmn:m<n:=by omega
    have hml:m<t.fEntries.length:=by omega
    have hg:(t.fEntries.take n)[m]=t.fEntries[m]:=List.getElem_take
    rw [hg]
    simp only [zBN]
    rw [zAJ hmn,hpos,Bool.and_self,zAC,zAE hn,zAA,zAE hml,zAA,zOQ t.fAxes _ _ ht1 hk (ht4 _ (List.getElem_mem hml)).2 (by have:=he.2.2.1; omega) (by have:=he.2.2.2.1; omega),zAA,wrs (show m≤4*1073741824 by omega)]
    cases replB t.fAxes t.fEntries[n] t.fEntries[m] <;> rfl
  · simp only [zBN]
    rw [hlen,zAI (Nat.le_refl _),Bool.false_and,zAB]
theorem zM5 (t:GTable) (n:Nat) (hx:t.fAxes.isEmpty=true):zAG (zBN t (n:Int)) 0=some (.inl ()):=by
  refine zAF ?_
  simp only [zBN]
  rw [show decide (0<(t.fAxes.length:Int))=false from by rw [List.isEmpty_iff.1 hx]; rfl,Bool.and_false,zAB]
theorem zMa (t:GTable) (ht:smTb t):zAG (zCJ t) 0=some (if (List.range t.fEntries.length).any (fun i=>!okAt t i) then .inr false else .inl ()):=by
  have ht':=ht
  obtain ⟨ht1,ht2,ht3,ht4⟩:=ht
  refine zBX (zCJ t) (List.range t.fEntries.length) (fun i=>!okAt t i) (.inr false) (.inl ()) ?_ ?_
  · intro n hn
    have hlt:n<t.fEntries.length:=by simpa using hn
    obtain ⟨he,hk⟩:=ht4 _ (List.getElem_mem hlt)
    rw [List.getElem_range]
    unfold okAt
    rw [List.getElem?_eq_getElem hlt,Option.any_some]
    simp only [zCJ]
    rw [zAJ hlt,zAC,zAE hlt,zAA,zMM t.fAxes _ (by have:=ht1.1; omega) (fun a h=>by have:=ht2 a h; omega) (by have:=hk.1; omega) (by have:=he.2.2.1; omega) (by have:=he.2.2.2.1; omega),zAA]
    cases hx:t.fAxes.isEmpty with
    | true =>
      rw [zAC,zM5 t n hx,zAA,wrs (show n≤4*1073741824 by omega)]
      cases zHQ t.fEntries[n] <;> rfl
    | false =>
      rw [zAB,zNv t ht' n hlt hx,zAA,wrs (show n≤4*1073741824 by omega)]
      cases zJA t.fAxes t.fEntries[n] with
      | false=>rfl
      | true=>cases (t.fEntries.take n).any (fun x=>replB t.fAxes t.fEntries[n] x) <;> rfl
  · simp only [zCJ]
    rw [List.length_range,zAI (Nat.le_refl _),zAB]
theorem zMP (t:GTable) (limit:Int) (ht:smTb t) (hA:∀ a ∈ t.fAxes,smA a):zGL t limit=some (zKb t limit):=by
  unfold zGL zKb
  rw [zMa t ht,zNh _ hA]
  have hany:(List.range t.fEntries.length).any (fun i=>!okAt t i)=!(List.range t.fEntries.length).all (okAt t):=by
    rw [List.all_eq_not_any_not]; simp
  rw [hany]
  by_cases hl:limit<(t.fEntries.length:Int)
  · rw [decide_eq_true hl,zAC,zAA,zAC,decide_eq_false (by omega)]; rfl
  · rw [decide_eq_false hl,zAB,show decide ((t.fEntries.length:Int)≤limit)=true from decide_eq_true (by omega),Bool.true_and]
    cases hx:t.fAxes with
    | nil =>
      rw [show decide (0<((([]:List GAxis).length:Nat):Int))=false from rfl,zAB]
      cases (List.range t.fEntries.length).all (okAt t) <;> rfl
    | cons a l =>
      rw [← hx,show decide (0<(t.fAxes.length:Int))=true from decide_eq_true (by rw [hx]; simp),zAC,show t.fAxes.isEmpty=false from by rw [hx]; rfl]
      cases valB t.fAxes <;> cases (List.range t.fEntries.length).all (okAt t) <;> rfl
end Go.Eng.Pure
namespace Go.Eng.Pure
open Go Go.Eng
set_option linter.unusedVariables false
theorem zMG (a b:GTable) (h1:a.fAxes.length≤1073741824) (h2:∀ x ∈ a.fAxes,x.fValues.length≤1073741824) (h3:a.fEntries.length≤1073741824) (h4:∀ e ∈ a.fEntries,smEn e):zDF a b=some (decide (a=b)):=by
  have hd:(a=b)↔(a.fAxes=b.fAxes∧a.fEntries=b.fEntries):=by
    constructor
    · intro h; rw [h]; exact ⟨rfl,rfl⟩
    · intro ⟨p,q⟩
      cases a; cases b
      simp at p q
      rw [p,q]
  unfold zDF
  rw [zK6 _ _ h1 h2,zAA]
  by_cases ha:a.fAxes=b.fAxes
  · rw [decide_eq_true ha,Bool.not_true,Bool.false_or]
    by_cases hl:a.fEntries.length=b.fEntries.length
    · have e:((a.fEntries.length:Int) !=(b.fEntries.length:Int))=false:=by simp [hl]
      rw [e,zAB,zD3 a.fEntries b.fEntries _ hl]
      · by_cases h:a.fEntries=b.fEntries
        · rw [if_pos h,zAA,decide_eq_true (hd.2 ⟨ha,h⟩)]
        · rw [if_neg h,zAA,decide_eq_false (fun q=>h (hd.1 q).2)]
      · intro n hn hb
        simp only [zB3]
        rw [zAJ hn,zAC,zAE hn,zAA,zAE hb,zAA,zNc _ _ (h4 _ (List.getElem_mem hn)),zAA,wrs (show n≤4*1073741824 by omega)]
        by_cases h:a.fEntries[n]=b.fEntries[n]
        · rw [decide_eq_true h,if_pos h]; rfl
        · rw [decide_eq_false h,if_neg h]; rfl
      · simp only [zB3]
        rw [zAI (Nat.le_refl _),zAB]
    · have e:((a.fEntries.length:Int) !=(b.fEntries.length:Int))=true:=by simp; omega
      rw [e,zAC,decide_eq_false (fun q=>hl (by rw [q]))]
  · rw [decide_eq_false ha,Bool.not_false,Bool.true_or,zAC,decide_eq_false (fun q=>ha (by rw [q]))]
def sizeT (t:GTable):Int:=t.fEntries.foldl (fun (st:Int) x=>wr (st+(sizeS x:Int))) 0
theorem zMs (t:GTable) (h3:t.fEntries.length≤1073741824) (h4:∀ e ∈ t.fEntries,smE e):zGw t=some (sizeT t):=by
  unfold zGw
  have:=zDT (fun (st:Int) n=>(st,n)) t.fEntries (fun (st:Int) x=>wr (st+(sizeS x:Int))) id (zDY t) (fun _ _=>True) 0 trivial ?_ ?_
  · rw [this]; rfl
  · intro n hn st _
    refine ⟨?_,trivial⟩
    simp only [zDY]
    rw [zAJ hn,zAC,zAE hn,zAA,zO9 _ (h4 _ (List.getElem_mem hn)),zAA,wrs (show n≤4*1073741824 by omega)]
  · intro st _
    simp only [zDY]
    rw [zAI (Nat.le_refl _),zAB]; rfl
theorem zNJ (t:GTable) (h3:t.fEntries.length≤1073741824) (h4:∀ e ∈ t.fEntries,smE e):zDu t=some (sizeT t):=by
  unfold zDu
  have:=zDT (fun (st:Int) n=>(st,n)) t.fEntries (fun (st:Int) x=>wr (st+(sizeS x:Int))) id (zBl t) (fun _ _=>True) 0 trivial ?_ ?_
  · rw [this]; rfl
  · intro n hn st _
    refine ⟨?_,trivial⟩
    simp only [zBl]
    rw [zAJ hn,zAC,zAE hn,zAA,zOR _ (h4 _ (List.getElem_mem hn)),zAA,wrs (show n≤4*1073741824 by omega)]
  · intro st _
    simp only [zBl]
    rw [zAI (Nat.le_refl _),zAB]; rfl
end Go.Eng.Pure
namespace Go.Eng.Pure
open Go Go.Eng
def dv (c:UInt8):Int:=((c - 48).toNat:Int)
def dg (c:UInt8):Bool:=!(decide (c<48))&&!(decide (57<c))
theorem dv_lt (c:UInt8) (h:dg c=true):0≤dv c∧dv c≤9:=by
  unfold dv dg at *
  simp only [Bool.and_eq_true,Bool.not_eq_true',decide_eq_false_iff_not,UInt8.lt_iff_toNat_lt,UInt8.toNat_sub] at *
  have h48:(48:UInt8).toNat=48:=rfl
  have h57:(57:UInt8).toNat=57:=rfl
  have:=c.toNat_lt
  omega
def sumQ:List Int→List UInt8→Int→Option Int
  | w :: ws,c :: cs,q=>if dg c then sumQ ws cs (q+w*dv c) else none
  | _,_,q=>some q
def finQ:Option Int→Int×Bool
  | some q=>if 1000<q then (0,false) else (q,true)
  | none=>(0,false)
def zFi:Str→Int×Bool
  | []=>(0,false)
  | [a]=>if a=48∨a=49 then finQ (some (1000*dv a)) else (0,false)
  | a :: b :: r=>if (a=48∨a=49)∧b=46∧r.length≤3 then finQ (sumQ [100,10,1] r (1000*dv a)) else (0,false)
theorem zJ7 (c:UInt8):(bif decide (c<48) then some true else some (decide (57<c)))=some (!dg c):=by
  simp only [dg]
  cases decide (c<48) <;> cases decide (57<c) <;> rfl
def outQ:Option Int→Int ⊕ (Int×Bool)
  | some q=>.inl q
  | none=>.inr (0,false)
theorem zLF (s : Str) (l : List Int) (q : Int) (i : Nat) (hi : 2 ≤ i) (hs : i < s.length) (hl : i < l.length) (hb : s.length ≤ 5) (hw : 0 ≤ l[i] ∧ l[i] ≤ 1000) (hq : 0 ≤ q ∧ q ≤ 1000000) :
    zAj s l (q,(i:Int))=some (if dg s[i] then .inl (q+l[i]*dv s[i],((i+1:Nat):Int)) else .inr (.inr (0,false))):=by
  have e0:decide ((i:Int)<(l.length:Int))=true:=by simp; omega
  have e1:((i:Int)==1)=false:=by simp; omega
  have e2:xnth l (i:Int)=some l[i]:=by rw [zGz,List.getElem?_eq_getElem hl]
  have e3:xnth s (i:Int)=some s[i]:=by rw [zGz,List.getElem?_eq_getElem hs]
  simp only [zAj,e0,e1,e2,e3,zAC,zAB,zAA,zJ7]
  cases hd:dg s[i] with
  | false=>rfl
  | true =>
    have hv:=dv_lt _ hd
    have hv':((s[i] - 48).toNat:Int)=dv s[i]:=rfl
    have hm:0≤l[i]*dv s[i]∧l[i]*dv s[i]≤9000:=by
      refine ⟨Int.mul_nonneg hw.1 hv.1,?_⟩
      have:=Int.mul_le_mul hw.2 hv.2 hv.1 (by omega:(0:Int)≤1000)
      omega
    rw [hv',zE7 (n:=l[i]*dv s[i]) (by omega) (by omega),zE7 (by omega) (by omega),zE7 (by omega) (by omega)]
    simp
theorem zMR (s : Str) (l : List Int) (hsl : s.length = l.length) (hb : s.length ≤ 5) (hw : ∀ (i : Nat) (h : i < l.length), 0 ≤ l[i] ∧ l[i] ≤ 1000) :
    ∀ (k i:Nat) (q:Int),2≤i→i+k=s.length→0≤q∧q≤900000 - 9000*(k:Int)→zAG (zAj s l) (q,(i:Int))=some (outQ (sumQ (l.drop i) (s.drop i) q)):=by
  intro k
  induction k with
  | zero =>
    intro i q hi hk hq
    have e0:decide ((i:Int)<(l.length:Int))=false:=by simp; omega
    rw [zAF (r:=.inl q)]
    · rw [List.drop_eq_nil_of_le (by omega)]; rfl
    · simp only [zAj,e0,zAB]
  | succ k ih =>
    intro i q hi hk hq
    have hs:i<s.length:=by omega
    have hl:i<l.length:=by omega
    have hr:=zLF s l q i hi hs hl hb (hw i hl) ⟨hq.1,by omega⟩
    rw [List.drop_eq_getElem_cons hs,List.drop_eq_getElem_cons hl]
    cases hd:dg s[i] with
    | false =>
      rw [hd] at hr
      rw [zAF (by simpa using hr)]
      simp [sumQ,hd,outQ]
    | true =>
      rw [hd] at hr
      have hv:=dv_lt _ hd
      have hm:0≤l[i]*dv s[i]∧l[i]*dv s[i]≤9000:=by
        refine ⟨Int.mul_nonneg (hw i hl).1 hv.1,?_⟩
        have:=Int.mul_le_mul (hw i hl).2 hv.2 hv.1 (by omega:(0:Int)≤1000)
        omega
      rw [zAL (by simpa using hr),← Int.natCast_one,← Int.natCast_add,ih (i+1) _ (by omega) (by omega) ⟨by omega,by omega⟩]
      simp [sumQ,hd]
theorem zND (a:UInt8):(bif a !=48 then some (a !=49) else some false)=some (!(decide (a=48∨a=49))):=by
  by_cases h:a=48
  · subst h; rfl
  · have:(a !=48)=true:=by simp [h]
    rw [this,zAC]
    by_cases h2:a=49
    · subst h2; rfl
    · have:(a !=49)=true:=by simp [h2]
      simp [this,h,h2]
theorem zNb {a:UInt8} (h:a=48∨a=49):dg a=true∧0≤dv a∧dv a≤1:=by
  rcases h with rfl | rfl <;> decide
theorem zNu (s:Str) (hb:s.length≤5):zBe s=some (zFi s):=by
  match s,hb with
  | [],_=>simp [zBe,zFi]
  | [a],_ =>
    have e:((([a]:Str)==[])||decide (5<(([a]:Str).length:Int)))=false:=rfl
    have e1:decide (1<(([a]:Str).length:Int))=false:=rfl
    have e2:xsub ([1000,0,100,10,1]:List Int) 0 (([a]:Str).length:Int)=some [1000]:=rfl
    simp only [zBe,e,e1,e2,zAB,zCG,zAA,zND]
    by_cases h:a=48∨a=49
    · obtain ⟨hd,hv⟩:=zNb h
      simp only [h,decide_true,Bool.not_true,zAB,zAA]
      have r1:zAj [a] [1000] (0,0)=some (.inl (1000*dv a,1)):=by
        have e3:decide ((0:Int)<(([1000]:List Int).length:Int))=true:=rfl
        have e4:xnth ([1000]:List Int) 0=some 1000:=rfl
        have e5:((0:Int)==1)=false:=rfl
        have hv':((a - 48).toNat:Int)=dv a:=rfl
        simp only [zAj,e3,e4,e5,zAC,zAB,zAA,zCG,zJ7,hd,Bool.not_true,hv']
        rw [zE7 (n:=1000*dv a) (by omega) (by omega),zE7 (by omega) (by omega),zE7 (by omega) (by omega)]
        simp
      have r2:zAj [a] [1000] (1000*dv a,1)=some (.inr (.inl (1000*dv a))):=rfl
      rw [zAL r1,zAF r2]
      simp only [zAA,zFi,h,if_true,finQ]
      by_cases hq:1000<1000*dv a
      · simp [hq]
      · simp [hq]
    · simp [h,zFi]
  | a :: b :: r,hb =>
    have hr3:r.length≤3:=by simp at hb; omega
    have e:(((a :: b :: r:Str)==[])||decide (5<((a :: b :: r:Str).length:Int)))=false:=by
      have:((a :: b :: r:Str)==[])=false:=rfl
      rw [this]; simp; omega
    have e1:decide (1<((a :: b :: r:Str).length:Int))=true:=by simp; omega
    have e2:xsub ([1000,0,100,10,1]:List Int) 0 ((a :: b :: r:Str).length:Int)=some (1000 :: 0 :: [100,10,1].take r.length):=by
      rw [zIt ⟨by omega,by omega,by simp; omega⟩]
      have:(((a :: b :: r:Str).length:Int)).toNat=r.length+2:=by simp; omega
      rw [this]; rfl
    have e3:xnth (a :: b :: r) 1=some b:=rfl
    simp only [zBe,e,e1,e2,e3,zAB,zAC,zCG,zAA,zND]
    by_cases h:a=48∨a=49
    · by_cases hb2:b=46
      · obtain ⟨hd,hv⟩:=zNb h
        have e4:(b !=46)=false:=by simp [hb2]
        simp only [h,e4,decide_true,Bool.not_true,zAB,zAA]
        have hsl:(a :: b :: r).length=(1000 :: 0 :: [100,10,1].take r.length:List Int).length:=by simp; omega
        have hws:∀ (i:Nat) (h:i<(1000 :: 0 :: [100,10,1].take r.length:List Int).length),0≤(1000 :: 0 :: [100,10,1].take r.length:List Int)[i]∧(1000 :: 0 :: [100,10,1].take r.length:List Int)[i]≤1000:=by
          intro i hi
          have hm:(1000 :: 0 :: [100,10,1].take r.length:List Int)[i] ∈ ([1000,0,100,10,1]:List Int):=by
            have h1:=List.getElem_mem hi
            simp only [List.mem_cons] at h1 ⊢
            rcases h1 with h1 | h1 | h1
            · exact .inl h1
            · exact .inr (.inl h1)
            · have:=List.mem_of_mem_take h1
              simp only [List.mem_cons] at this
              exact .inr (.inr this)
          simp only [List.mem_cons,List.mem_nil_iff,or_false] at hm
          omega
        generalize hL:(1000 :: 0 :: [100,10,1].take r.length:List Int)=l at hsl hws ⊢
        have r1:zAj (a :: b :: r) l (0,0)=some (.inl (1000*dv a,1)):=by
          have e3:decide ((0:Int)<(l.length:Int))=true:=by rw [← hL]; simp; omega
          have e4:xnth l 0=some 1000:=by rw [← hL]; rfl
          have e5:((0:Int)==1)=false:=rfl
          have hv':((a - 48).toNat:Int)=dv a:=rfl
          simp only [zAj,e3,e4,e5,zAC,zAB,zAA,zCG,zJ7,hd,Bool.not_true,hv']
          rw [zE7 (n:=1000*dv a) (by omega) (by omega),zE7 (by omega) (by omega),zE7 (by omega) (by omega)]
          simp
        have r2:zAj (a :: b :: r) l (1000*dv a,1)=some (.inl (1000*dv a,((2:Nat):Int))):=by
          have e3:decide ((1:Int)<(l.length:Int))=true:=by rw [← hL]; simp; omega
          have e4:xnth l 1=some 0:=by rw [← hL]; rfl
          have e5:((1:Int)==1)=true:=rfl
          simp only [zAj,e3,e4,e5,zAC,zAA]
          rw [zE7 (by omega) (by omega)]
          rfl
        rw [zAL r1,zAL r2,zMR _ _ hsl hb hws r.length 2 _ (Nat.le_refl _) (by simp; omega) ⟨by omega,by omega⟩]
        have hsum:sumQ (l.drop 2) ((a :: b :: r).drop 2) (1000*dv a)=sumQ [100,10,1] r (1000*dv a):=by
          rw [← hL]
          match r,hr3 with
          | [],_=>rfl
          | [_],_=>simp [sumQ]
          | [_,_],_=>simp [sumQ]
          | [_,_,_],_=>simp [sumQ]
        rw [hsum]
        have hp:zFi (a :: b :: r)=finQ (sumQ [100,10,1] r (1000*dv a)):=by simp [zFi,h,hb2,hr3]
        rw [hp]
        cases sumQ [100,10,1] r (1000*dv a) with
        | none=>rfl
        | some q =>
          simp only [outQ,finQ,zAA]
          by_cases hq:1000<q
          · simp [hq]
          · simp [hq]
      · have e4:(b !=46)=true:=by simp [hb2]
        simp [h,hb2,e4,zFi]
    · simp [h,zFi]
theorem zMO (s:Str) (hb:5<s.length):zBe s=some (0,false):=by
  have e:((s==[])||decide (5<(s.length:Int)))=true:=by simp; right; omega
  simp only [zBe,e,zAC,zAA]
theorem zLB (s:Str) (hb:5<s.length):zFi s=(0,false):=by
  match s,hb with
  | a :: b :: r,hb=>simp [zFi]; intro _ _ h; simp at hb; omega
theorem zMj (s:Str):zBe s=some (zFi s):=by
  by_cases h:s.length≤5
  · exact zNu s h
  · rw [zMO s (by omega),zLB s (by omega)]
end Go.Eng.Pure
namespace Go.Eng.Pure
open Go Go.Eng
set_option linter.unusedVariables false
theorem zMb (s:Str) (hs:s.length≤1073741824):zHY s=some (quote s):=zOE s hs
def parT (p:GParam):Str:=(([59]++p.fName)++[61])++(if tok p.fValue then p.fValue else quote p.fValue)
def wrtP (v:Str) (l:List GParam):Str:=v++l.flatMap parT
def smPs (l:List GParam):Prop:=l.length≤1000∧∀ p ∈ l,p.fName.length≤1000∧p.fValue.length≤1000
theorem zLO (v:Str):(if tok v then v else quote v).length≤2*v.length+2:=by
  have:=zKp v
  split <;> omega
theorem zOV {p:GParam} (h:p.fName.length≤1000∧p.fValue.length≤1000):(parT p).length≤4000:=by
  have:=zLO p.fValue
  unfold parT
  simp only [List.length_append,List.length_cons,List.length_nil]
  omega
theorem zMK (v:Str) (l:List GParam) (hv:v.length≤1000000) (h:smPs l):zFK v l=some (wrtP v l):=by
  unfold zFK zA9
  rw [WS_eq v [] (by omega) (by simp),zAA]
  have:=zDT (fun (st:Str) i=>(i,st)) l (fun st p=>st++parT p) id (zCa l) (fun n st=>st.length≤1000000+4000*n) v (by omega) ?_ ?_
  · simp only [List.nil_append]
    rw [this,zAA,zAA]; unfold wrtP; rw [zJ9]; rfl
  · intro n hn st hI
    have hp:=h.2 _ (List.getElem_mem hn)
    have hl:=h.1
    have htl:=zOV hp
    have hvl:=zLO l[n].fValue
    have hql:=zKp l[n].fValue
    refine ⟨?_,by rw [List.length_append]; omega⟩
    unfold zCa
    simp only []
    rw [zAJ hn,zAC,zAE hn,zAA,
      zHV (by simp) (by omega),zAA,zHV (by simp only [List.length_append,List.length_cons,List.length_nil]; omega) (by simp),zAA,
      WS_eq _ st (by simp only [List.length_append,List.length_cons,List.length_nil]; omega) (by omega),zAA,zDH _ (by omega),zAA,wrs (by omega)]
    simp only []
    unfold parT
    cases ht:tok l[n].fValue with
    | true =>
      rw [zAC,WS_eq _ _ (by omega) (by simp only [List.length_append,List.length_cons,List.length_nil]; omega),zAA,if_pos rfl]
      simp only [List.append_assoc]
    | false =>
      rw [zAB,zMb _ (by omega),zAA,WS_eq _ _ (by omega) (by simp only [List.length_append,List.length_cons,List.length_nil]; omega),zAA,if_neg (by decide)]
      simp only [List.append_assoc]
  · intro st hI
    unfold zCa
    simp only []
    rw [zAI (Nat.le_refl _),zAB]; rfl
def wrtT (t:GMediaType):Str:=wrtP ((t.fType++[47])++t.fSub) t.fParams
theorem zMH (t:GMediaType) (h1:t.fType.length≤1000) (h2:t.fSub.length≤1000) (h:smPs t.fParams):zDG t=some (wrtT t):=by
  unfold zDG wrtT
  rw [zHV (by omega) (by simp),zAA,zHV (by simp; omega) (by omega),zAA,zMK _ _ (by simp; omega) h,zAA]
end Go.Eng.Pure
