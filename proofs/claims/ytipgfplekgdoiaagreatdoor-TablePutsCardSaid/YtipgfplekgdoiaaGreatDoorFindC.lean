/- A part of the proof of laws of the seat. -/
import Derived.Test.YtipgfplekgdoiaaGreatDoorTabV
set_option linter.unusedVariables false
namespace Go.Eng.Pure
open Go Go.Eng
set_option linter.unusedVariables false
theorem zI7 (l:List Str) (v:Str) (hl:l.length≤1073741824):zAb l v=some (l.contains v):=by
  have key:∀ (k n:Nat),n+k=l.length→∃ r,zAF (zAc l v) (n:Int)=some r∧(match r with | .inr i=>decide (0≤i) | .inl _=>false)=(l.drop n).contains v:=by
    intro k
    induction k with
    | zero =>
      intro n hn
      have:n=l.length:=by omega
      subst this
      refine ⟨.inl (),zAE ?_,by simp⟩
      simp only [zAc]
      rw [zAI (Nat.le_refl _),zAB]
    | succ k ih =>
      intro n hn
      have hlt:n<l.length:=by omega
      have hb:zAc l v (n:Int)=some (if v==l[n] then .inr (.inr (n:Int)) else .inl ((n+1:Nat):Int)):=by
        simp only [zAc]
        rw [zAK hlt,zAC,zAG hlt,zAA,wrs (show n≤4*1073741824 by omega)]
        cases v==l[n] <;> rfl
      rw [List.drop_eq_getElem_cons hlt,List.contains_cons]
      cases hp:v==l[n] with
      | true =>
        rw [hp,if_pos rfl] at hb
        exact ⟨_,zAE hb,by simp⟩
      | false =>
        rw [hp,if_neg (by simp)] at hb
        obtain ⟨r,h1,h2⟩:=ih (n+1) (by omega)
        exact ⟨r,by rw [zAJ hb,h1],by rw [h2]; rfl⟩
  obtain ⟨r,h1,h2⟩:=key l.length 0 (by omega)
  unfold zAb zBg
  rw [show (0:Int)=((0:Nat):Int) from rfl,h1,zAA]
  rw [List.drop_zero] at h2
  cases r with
  | inl u=>simp only [] at h2 ⊢; rw [← h2]; rfl
  | inr i=>simp only [] at h2 ⊢; rw [← h2]; rfl
def inAx:List GAxis→List Str→Bool
  | a :: l,x :: xs=>a.fValues.contains x&&inAx l xs
  | [],_=>true
  | _ :: _,[]=>false
def zHc (axes:List GAxis) (k:List Str):Bool:=k.length==axes.length&&inAx axes k
def zMN (axes:List GAxis) (e:GEntry):Bool:=decide (1≤e.fKeys.length∧e.fKeys.length≤64∧e.fVary.length+e.fSnapshot.length=0)&&e.fKeys.all (zHc axes)
theorem zOU (axes : List GAxis) (k : List Str) (hl : axes.length ≤ 1073741824) (hv : ∀ a ∈ axes, a.fValues.length ≤ 1073741824) (hk : k.length = axes.length) :
    zAF (zBx axes k) 0=some (if inAx axes k then .inl () else .inr (.inr (.inr false))):=by
  have key:∀ (j n:Nat),n+j=axes.length→zAF (zBx axes k) (n:Int)=some (if inAx (axes.drop n) (k.drop n) then .inl () else .inr (.inr (.inr false))):=by
    intro j
    induction j with
    | zero =>
      intro n hn
      have:n=axes.length:=by omega
      subst this
      rw [zAE (r:=.inl ())]
      · rw [List.drop_length]; rfl
      · simp only [zBx]
        rw [zAI (Nat.le_refl _),zAB]
    | succ j ih =>
      intro n hn
      have hlt:n<axes.length:=by omega
      have hb:zBx axes k (n:Int)=some (if axes[n].fValues.contains (k[n]'(by omega)) then .inl ((n+1:Nat):Int) else .inr (.inr (.inr (.inr false)))):=by
        simp only [zBx]
        rw [zAK hlt,zAC,zAG hlt,zAA,zAG (show n<k.length by omega),zAA,zI7 _ _ (hv _ (List.getElem_mem hlt)),zAA,wrs (show n≤4*1073741824 by omega)]
        cases axes[n].fValues.contains (k[n]'(by omega)) <;> rfl
      rw [List.drop_eq_getElem_cons hlt,List.drop_eq_getElem_cons (show n<k.length by omega),inAx]
      cases hp:axes[n].fValues.contains (k[n]'(by omega)) with
      | true =>
        rw [hp,if_pos rfl] at hb
        rw [zAJ hb,ih (n+1) (by omega),Bool.true_and]
      | false =>
        rw [hp,if_neg (by simp)] at hb
        rw [zAE hb]; rfl
  have:=key axes.length 0 (by omega)
  rw [List.drop_zero,List.drop_zero] at this
  exact this
theorem zOF (axes : List GAxis) (e : GEntry) (hl : axes.length ≤ 1073741824) (hv : ∀ a ∈ axes, a.fValues.length ≤ 1073741824) (hk : e.fKeys.length ≤ 1073741824) (h1 : e.fVary.length ≤ 1073741824) (h2 : e.fSnapshot.length ≤ 1073741824) :
    zGE axes e=some (zMN axes e):=by
  have hloop:zAF (zCN axes e) 0=some (if e.fKeys.any (fun k=>!zHc axes k) then .inr false else .inl ()):=by
    refine zCY (zCN axes e) e.fKeys (fun k=>!zHc axes k) (.inr false) (.inl ()) ?_ ?_
    · intro n hn
      simp only [zCN]
      rw [zAK hn,zAC,zAG hn,zAA]
      unfold zHc
      by_cases hkl:e.fKeys[n].length=axes.length
      · rw [show ((e.fKeys[n].length:Int) !=(axes.length:Int))=false from by simp [hkl],zAB,zOU axes _ hl hv hkl,zAA,show (e.fKeys[n].length==axes.length)=true from by simp [hkl],Bool.true_and,wrs (show n≤4*1073741824 by omega)]
        cases inAx axes e.fKeys[n] <;> rfl
      · rw [show ((e.fKeys[n].length:Int) !=(axes.length:Int))=true from by simp; omega,zAC,show (e.fKeys[n].length==axes.length)=false from by simp [hkl]]; rfl
    · simp only [zCN]
      rw [zAI (Nat.le_refl _),zAB]
  have hany:e.fKeys.any (fun k=>!zHc axes k)=!e.fKeys.all (zHc axes):=by
    rw [List.all_eq_not_any_not]; simp
  unfold zGE zMN
  rw [hloop,wr_eq ⟨by omega,by omega⟩]
  by_cases hc:1≤e.fKeys.length∧e.fKeys.length≤64∧e.fVary.length+e.fSnapshot.length=0
  · rw [decide_eq_true hc,Bool.true_and]
    have e1:((decide ((e.fKeys.length:Int)<1)||decide (64<(e.fKeys.length:Int)))||decide (0<(e.fVary.length:Int)+(e.fSnapshot.length:Int)))=false:=by
      rw [decide_eq_false (by omega),decide_eq_false (by omega),decide_eq_false (by omega)]; rfl
    rw [e1,zAB,zAA,hany]
    cases e.fKeys.all (zHc axes) <;> rfl
  · rw [decide_eq_false hc,Bool.false_and]
    have e1:((decide ((e.fKeys.length:Int)<1)||decide (64<(e.fKeys.length:Int)))||decide (0<(e.fVary.length:Int)+(e.fSnapshot.length:Int)))=true:=by
      simp only [Bool.or_eq_true,decide_eq_true_eq]; omega
    rw [e1,zAC]
end Go.Eng.Pure
namespace Go.Eng.Pure
open Go Go.Eng
set_option linter.unusedVariables false
def okAt (t:GTable) (i:Nat):Bool:=(t.fEntries[i]?).any fun e=>bif t.fAxes.isEmpty then zKQ e else zMN t.fAxes e&&!((t.fEntries.take i).any fun x=>replB t.fAxes e x)
def zNX (t:GTable) (limit:Int):Bool:=decide ((t.fEntries.length:Int)≤limit)&&(t.fAxes.isEmpty||valB t.fAxes)&&(List.range t.fEntries.length).all (okAt t)
theorem zMu (t:GTable) (ht:smTb t):zAF (zCO t) 0=some (if (List.range t.fEntries.length).any (fun i=>!okAt t i) then .inr false else .inl ()):=by
  obtain ⟨ht1,ht2,ht3,ht4⟩:=ht
  refine zCY (zCO t) (List.range t.fEntries.length) (fun i=>!okAt t i) (.inr false) (.inl ()) ?_ ?_
  · intro n hn
    have hlt:n<t.fEntries.length:=by simpa using hn
    obtain ⟨he,hk⟩:=ht4 _ (List.getElem_mem hlt)
    rw [List.getElem_range]
    unfold okAt
    rw [List.getElem?_eq_getElem hlt,Option.any_some]
    simp only [zCO]
    rw [zAK hlt,zAC,zAG hlt,zAA]
    cases hx:t.fAxes with
    | nil =>
      rw [show ((([]:List GAxis).length:Int)==0)=true from rfl,zAC,zMw _ (by have:=he.2.2.1; omega),zAA,wrs (show n≤4*1073741824 by omega),show ([]:List GAxis).isEmpty=true from rfl,zAC]
      cases zKQ t.fEntries[n] <;> rfl
    | cons a l =>
      rw [← hx]
      have e0:((t.fAxes.length:Int)==0)=false:=by rw [hx]; simp; omega
      have e2:t.fAxes.isEmpty=false:=by rw [hx]; rfl
      rw [e0,zAB,e2,zAB,zOF t.fAxes _ (by have:=ht1.1; omega) (fun a h=>by have:=ht2 a h; omega) (by have:=hk.1; omega) (by have:=he.2.2.1; omega) (by have:=he.2.2.2.1; omega),zAA]
      cases zMN t.fAxes t.fEntries[n] with
      | false=>rfl
      | true =>
        rw [Bool.not_true,zAB,zD8 (show n≤t.fEntries.length by omega),zAA,zLs (t.fEntries.take n) _ (fun x=>replB t.fAxes t.fEntries[n] x) (by rw [List.length_take]; omega) (fun x hx'=>by
          unfold zEu
          rw [zL5 t.fAxes _ x ht1 hk (ht4 x (List.mem_of_mem_take hx')).2 (by have:=he.2.2.1; omega) (by have:=he.2.2.2.1; omega)]; rfl),zAA,zAA,zKu _ _ _ (Nat.le_refl _),List.take_length,wrs (show n≤4*1073741824 by omega)]
        cases (t.fEntries.take n).any fun x=>replB t.fAxes t.fEntries[n] x <;> rfl
  · simp only [zCO]
    rw [List.length_range,zAI (Nat.le_refl _),zAB]
theorem zMp (t:GTable) (limit:Int) (ht:smTb t) (hA:∀ a ∈ t.fAxes,smA a):zFQ t limit=some (zNX t limit):=by
  unfold zFQ zNX
  rw [zMu t ht,zJO _ hA]
  have hany:(List.range t.fEntries.length).any (fun i=>!okAt t i)=!(List.range t.fEntries.length).all (okAt t):=by
    rw [List.all_eq_not_any_not]; simp
  rw [hany]
  by_cases hl:limit<(t.fEntries.length:Int)
  · rw [decide_eq_true hl,zAC,zAA,zAC,decide_eq_false (by omega)]; rfl
  · rw [decide_eq_false hl,zAB,show decide ((t.fEntries.length:Int)≤limit)=true from decide_eq_true (by omega),Bool.true_and]
    cases hx:t.fAxes with
    | nil =>
      rw [show decide (0<((([]:List GAxis).length:Nat):Int))=false from rfl,zAB]
      cases (List.range t.fEntries.length).all (okAt t) <;> rfl
    | cons a l =>
      rw [← hx,show decide (0<(t.fAxes.length:Int))=true from decide_eq_true (by rw [hx]; simp),zAC,show t.fAxes.isEmpty=false from by rw [hx]; rfl]
      cases valB t.fAxes <;> cases (List.range t.fEntries.length).all (okAt t) <;> rfl
end Go.Eng.Pure
namespace Go.Eng.Pure
open Go Go.Eng
set_option linter.unusedVariables false
theorem zQu (a b:GTable) (h1:a.fAxes.length≤1073741824) (h2:∀ x ∈ a.fAxes,x.fValues.length≤1073741824) (h3:a.fEntries.length≤1073741824) (h4:∀ e ∈ a.fEntries,smEn e):zQQ a b=some (decide (a=b)):=by
  have hd:(a=b)↔(a.fAxes=b.fAxes∧a.fEntries=b.fEntries):=by
    constructor
    · intro h; rw [h]; exact ⟨rfl,rfl⟩
    · intro ⟨p,q⟩
      cases a; cases b
      simp at p q
      rw [p,q]
  unfold zQQ
  rw [zQl _ _ h1 h2,zAA]
  by_cases ha:a.fAxes=b.fAxes
  · rw [decide_eq_true ha,Bool.not_true,Bool.false_or]
    by_cases hl:a.fEntries.length=b.fEntries.length
    · have e:((a.fEntries.length:Int) !=(b.fEntries.length:Int))=false:=by simp [hl]
      rw [e,zAB,zIR a.fEntries b.fEntries _ hl]
      · by_cases h:a.fEntries=b.fEntries
        · rw [if_pos h,zAA,decide_eq_true (hd.2 ⟨ha,h⟩)]
        · rw [if_neg h,zAA,decide_eq_false (fun q=>h (hd.1 q).2)]
      · intro n hn hb
        simp only [zQL]
        rw [zAK hn,zAC,zAG hn,zAA,zAG hb,zAA,zQv _ _ (h4 _ (List.getElem_mem hn)),zAA,wrs (show n≤4*1073741824 by omega)]
        by_cases h:a.fEntries[n]=b.fEntries[n]
        · rw [decide_eq_true h,if_pos h]; rfl
        · rw [decide_eq_false h,if_neg h]; rfl
      · simp only [zQL]
        rw [zAI (Nat.le_refl _),zAB]
    · have e:((a.fEntries.length:Int) !=(b.fEntries.length:Int))=true:=by simp; omega
      rw [e,zAC,decide_eq_false (fun q=>hl (by rw [q]))]
  · rw [decide_eq_false ha,Bool.not_false,Bool.true_or,zAC,decide_eq_false (fun q=>ha (by rw [q]))]
end Go.Eng.Pure
namespace Go.Eng.Pure
open Go Go.Eng
def dv (c:UInt8):Int:=((c - 48).toNat:Int)
def dg (c:UInt8):Bool:=!(decide (c<48))&&!(decide (57<c))
theorem dv_lt (c:UInt8) (h:dg c=true):0≤dv c∧dv c≤9:=by
  unfold dv dg at *
  simp only [Bool.and_eq_true,Bool.not_eq_true',decide_eq_false_iff_not,UInt8.lt_iff_toNat_lt,UInt8.toNat_sub] at *
  have h48:(48:UInt8).toNat=48:=rfl
  have h57:(57:UInt8).toNat=57:=rfl
  have:=c.toNat_lt
  omega
def sumQ:List Int→List UInt8→Int→Option Int
  | w :: ws,c :: cs,q=>if dg c then sumQ ws cs (q+w*dv c) else none
  | _,_,q=>some q
def finQ:Option Int→Int×Bool
  | some q=>if 1000<q then (0,false) else (q,true)
  | none=>(0,false)
def zDP:Str→Int×Bool
  | []=>(0,false)
  | [a]=>if a=48∨a=49 then finQ (some (1000*dv a)) else (0,false)
  | a :: b :: r=>if (a=48∨a=49)∧b=46∧r.length≤3 then finQ (sumQ [100,10,1] r (1000*dv a)) else (0,false)
theorem zKO (c:UInt8):(bif decide (c<48) then some true else some (decide (57<c)))=some (!dg c):=by
  simp only [dg]
  cases decide (c<48) <;> cases decide (57<c) <;> rfl
def outQ:Option Int→Int ⊕ (Int×Bool)
  | some q=>.inl q
  | none=>.inr (0,false)
theorem zLq (s : Str) (l : List Int) (q : Int) (i : Nat) (hi : 2 ≤ i) (hs : i < s.length) (hl : i < l.length) (hb : s.length ≤ 5) (hw : 0 ≤ l[i] ∧ l[i] ≤ 1000) (hq : 0 ≤ q ∧ q ≤ 1000000) :
    zAk s l (q,(i:Int))=some (if dg s[i] then .inl (q+l[i]*dv s[i],((i+1:Nat):Int)) else .inr (.inr (0,false))):=by
  have e0:decide ((i:Int)<(l.length:Int))=true:=by simp; omega
  have e1:((i:Int)==1)=false:=by simp; omega
  have e2:xnth l (i:Int)=some l[i]:=by rw [zFU,List.getElem?_eq_getElem hl]
  have e3:xnth s (i:Int)=some s[i]:=by rw [zFU,List.getElem?_eq_getElem hs]
  simp only [zAk,e0,e1,e2,e3,zAC,zAB,zAA,zKO]
  cases hd:dg s[i] with
  | false=>rfl
  | true =>
    have hv:=dv_lt _ hd
    have hv':((s[i] - 48).toNat:Int)=dv s[i]:=rfl
    have hm:0≤l[i]*dv s[i]∧l[i]*dv s[i]≤9000:=by
      refine ⟨Int.mul_nonneg hw.1 hv.1,?_⟩
      have:=Int.mul_le_mul hw.2 hv.2 hv.1 (by omega:(0:Int)≤1000)
      omega
    rw [hv',zDf (n:=l[i]*dv s[i]) (by omega) (by omega),zDf (by omega) (by omega),zDf (by omega) (by omega)]
    simp
theorem zNC (s : Str) (l : List Int) (hsl : s.length = l.length) (hb : s.length ≤ 5) (hw : ∀ (i : Nat) (h : i < l.length), 0 ≤ l[i] ∧ l[i] ≤ 1000) :
    ∀ (k i:Nat) (q:Int),2≤i→i+k=s.length→0≤q∧q≤900000 - 9000*(k:Int)→zAF (zAk s l) (q,(i:Int))=some (outQ (sumQ (l.drop i) (s.drop i) q)):=by
  intro k
  induction k with
  | zero =>
    intro i q hi hk hq
    have e0:decide ((i:Int)<(l.length:Int))=false:=by simp; omega
    rw [zAE (r:=.inl q)]
    · rw [List.drop_eq_nil_of_le (by omega)]; rfl
    · simp only [zAk,e0,zAB]
  | succ k ih =>
    intro i q hi hk hq
    have hs:i<s.length:=by omega
    have hl:i<l.length:=by omega
    have hr:=zLq s l q i hi hs hl hb (hw i hl) ⟨hq.1,by omega⟩
    rw [List.drop_eq_getElem_cons hs,List.drop_eq_getElem_cons hl]
    cases hd:dg s[i] with
    | false =>
      rw [hd] at hr
      rw [zAE (by simpa using hr)]
      simp [sumQ,hd,outQ]
    | true =>
      rw [hd] at hr
      have hv:=dv_lt _ hd
      have hm:0≤l[i]*dv s[i]∧l[i]*dv s[i]≤9000:=by
        refine ⟨Int.mul_nonneg (hw i hl).1 hv.1,?_⟩
        have:=Int.mul_le_mul (hw i hl).2 hv.2 hv.1 (by omega:(0:Int)≤1000)
        omega
      rw [zAJ (by simpa using hr),← Int.natCast_one,← Int.natCast_add,ih (i+1) _ (by omega) (by omega) ⟨by omega,by omega⟩]
      simp [sumQ,hd]
theorem zKV (a:UInt8):(bif a !=48 then some (a !=49) else some false)=some (!(decide (a=48∨a=49))):=by
  by_cases h:a=48
  · subst h; rfl
  · have:(a !=48)=true:=by simp [h]
    rw [this,zAC]
    by_cases h2:a=49
    · subst h2; rfl
    · have:(a !=49)=true:=by simp [h2]
      simp [this,h,h2]
theorem zKH {a:UInt8} (h:a=48∨a=49):dg a=true∧0≤dv a∧dv a≤1:=by
  rcases h with rfl | rfl <;> decide
theorem zO5 (s:Str) (hb:s.length≤5):zBs s=some (zDP s):=by
  match s,hb with
  | [],_=>simp [zBs,zDP]
  | [a],_ =>
    have e:((([a]:Str)==[])||decide (5<(([a]:Str).length:Int)))=false:=rfl
    have e1:decide (1<(([a]:Str).length:Int))=false:=rfl
    have e2:xsub ([1000,0,100,10,1]:List Int) 0 (([a]:Str).length:Int)=some [1000]:=rfl
    simp only [zBs,e,e1,e2,zAB,zBZ,zAA,zKV]
    by_cases h:a=48∨a=49
    · obtain ⟨hd,hv⟩:=zKH h
      simp only [h,decide_true,Bool.not_true,zAB,zAA]
      have r1:zAk [a] [1000] (0,0)=some (.inl (1000*dv a,1)):=by
        have e3:decide ((0:Int)<(([1000]:List Int).length:Int))=true:=rfl
        have e4:xnth ([1000]:List Int) 0=some 1000:=rfl
        have e5:((0:Int)==1)=false:=rfl
        have hv':((a - 48).toNat:Int)=dv a:=rfl
        simp only [zAk,e3,e4,e5,zAC,zAB,zAA,zBZ,zKO,hd,Bool.not_true,hv']
        rw [zDf (n:=1000*dv a) (by omega) (by omega),zDf (by omega) (by omega),zDf (by omega) (by omega)]
        simp
      have r2:zAk [a] [1000] (1000*dv a,1)=some (.inr (.inl (1000*dv a))):=rfl
      rw [zAJ r1,zAE r2]
      simp only [zAA,zDP,h,if_true,finQ]
      by_cases hq:1000<1000*dv a
      · simp [hq]
      · simp [hq]
    · simp [h,zDP]
  | a :: b :: r,hb =>
    have hr3:r.length≤3:=by simp at hb; omega
    have e:(((a :: b :: r:Str)==[])||decide (5<((a :: b :: r:Str).length:Int)))=false:=by
      have:((a :: b :: r:Str)==[])=false:=rfl
      rw [this]; simp; omega
    have e1:decide (1<((a :: b :: r:Str).length:Int))=true:=by simp; omega
    have e2:xsub ([1000,0,100,10,1]:List Int) 0 ((a :: b :: r:Str).length:Int)=some (1000 :: 0 :: [100,10,1].take r.length):=by
      rw [zI2 ⟨by omega,by omega,by simp; omega⟩]
      have:(((a :: b :: r:Str).length:Int)).toNat=r.length+2:=by simp; omega
      rw [this]; rfl
    have e3:xnth (a :: b :: r) 1=some b:=rfl
    simp only [zBs,e,e1,e2,e3,zAB,zAC,zBZ,zAA,zKV]
    by_cases h:a=48∨a=49
    · by_cases hb2:b=46
      · obtain ⟨hd,hv⟩:=zKH h
        have e4:(b !=46)=false:=by simp [hb2]
        simp only [h,e4,decide_true,Bool.not_true,zAB,zAA]
        have hsl:(a :: b :: r).length=(1000 :: 0 :: [100,10,1].take r.length:List Int).length:=by simp; omega
        have hws:∀ (i:Nat) (h:i<(1000 :: 0 :: [100,10,1].take r.length:List Int).length),0≤(1000 :: 0 :: [100,10,1].take r.length:List Int)[i]∧(1000 :: 0 :: [100,10,1].take r.length:List Int)[i]≤1000:=by
          intro i hi
          have hm:(1000 :: 0 :: [100,10,1].take r.length:List Int)[i] ∈ ([1000,0,100,10,1]:List Int):=by
            have h1:=List.getElem_mem hi
            simp only [List.mem_cons] at h1 ⊢
            rcases h1 with h1 | h1 | h1
            · exact .inl h1
            · exact .inr (.inl h1)
            · have:=List.mem_of_mem_take h1
              simp only [List.mem_cons] at this
              exact .inr (.inr this)
          simp only [List.mem_cons,List.mem_nil_iff,or_false] at hm
          omega
        generalize hL:(1000 :: 0 :: [100,10,1].take r.length:List Int)=l at hsl hws ⊢
        have r1:zAk (a :: b :: r) l (0,0)=some (.inl (1000*dv a,1)):=by
          have e3:decide ((0:Int)<(l.length:Int))=true:=by rw [← hL]; simp; omega
          have e4:xnth l 0=some 1000:=by rw [← hL]; rfl
          have e5:((0:Int)==1)=false:=rfl
          have hv':((a - 48).toNat:Int)=dv a:=rfl
          simp only [zAk,e3,e4,e5,zAC,zAB,zAA,zBZ,zKO,hd,Bool.not_true,hv']
          rw [zDf (n:=1000*dv a) (by omega) (by omega),zDf (by omega) (by omega),zDf (by omega) (by omega)]
          simp
        have r2:zAk (a :: b :: r) l (1000*dv a,1)=some (.inl (1000*dv a,((2:Nat):Int))):=by
          have e3:decide ((1:Int)<(l.length:Int))=true:=by rw [← hL]; simp; omega
          have e4:xnth l 1=some 0:=by rw [← hL]; rfl
          have e5:((1:Int)==1)=true:=rfl
          simp only [zAk,e3,e4,e5,zAC,zAA]
          rw [zDf (by omega) (by omega)]
          rfl
        rw [zAJ r1,zAJ r2,zNC _ _ hsl hb hws r.length 2 _ (Nat.le_refl _) (by simp; omega) ⟨by omega,by omega⟩]
        have hsum:sumQ (l.drop 2) ((a :: b :: r).drop 2) (1000*dv a)=sumQ [100,10,1] r (1000*dv a):=by
          rw [← hL]
          match r,hr3 with
          | [],_=>rfl
          | [_],_=>simp [sumQ]
          | [_,_],_=>simp [sumQ]
          | [_,_,_],_=>simp [sumQ]
        rw [hsum]
        have hp:zDP (a :: b :: r)=finQ (sumQ [100,10,1] r (1000*dv a)):=by simp [zDP,h,hb2,hr3]
        rw [hp]
        cases sumQ [100,10,1] r (1000*dv a) with
        | none=>rfl
        | some q =>
          simp only [outQ,finQ,zAA]
          by_cases hq:1000<q
          · simp [hq]
          · simp [hq]
      · have e4:(b !=46)=true:=by simp [hb2]
        simp [h,hb2,e4,zDP]
    · simp [h,zDP]
theorem zMt (s:Str) (hb:5<s.length):zBs s=some (0,false):=by
  have e:((s==[])||decide (5<(s.length:Int)))=true:=by simp; right; omega
  simp only [zBs,e,zAC,zAA]
theorem zJQ (s:Str) (hb:5<s.length):zDP s=(0,false):=by
  match s,hb with
  | a :: b :: r,hb=>simp [zDP]; intro _ _ h; simp at hb; omega
theorem zOG (s:Str):zBs s=some (zDP s):=by
  by_cases h:s.length≤5
  · exact zO5 s h
  · rw [zMt s (by omega),zJQ s (by omega)]
end Go.Eng.Pure
namespace Go.Eng.Pure
open Go Go.Eng
set_option linter.unusedVariables false
theorem zOB (s:Str) (hs:s.length≤1073741824):zHU s=some (quote s):=zMf s hs
def parT (p:GParam):Str:=(([59]++p.fName)++[61])++(if tok p.fValue then p.fValue else quote p.fValue)
def wrtP (v:Str) (l:List GParam):Str:=v++l.flatMap parT
def smPs (l:List GParam):Prop:=l.length≤1000∧∀ p ∈ l,p.fName.length≤1000∧p.fValue.length≤1000
theorem zKS (v:Str):(if tok v then v else quote v).length≤2*v.length+2:=by
  have:=zKy v
  split <;> omega
theorem zMD {p:GParam} (h:p.fName.length≤1000∧p.fValue.length≤1000):(parT p).length≤4000:=by
  have:=zKS p.fValue
  unfold parT
  simp only [List.length_append,List.length_cons,List.length_nil]
  omega
theorem zM1 (v:Str) (l:List GParam) (hv:v.length≤1000000) (h:smPs l):zFV v l=some (wrtP v l):=by
  unfold zFV zA7
  rw [WS_eq v [] (by omega) (by simp),zAA]
  have:=zBI (fun (st:Str) i=>(i,st)) l (fun st p=>st++parT p) id (zCm l) (fun n st=>st.length≤1000000+4000*n) v (by omega) ?_ ?_
  · simp only [List.nil_append]
    rw [this,zAA,zAA]; unfold wrtP; rw [zGN]; rfl
  · intro n hn st hI
    have hp:=h.2 _ (List.getElem_mem hn)
    have hl:=h.1
    have htl:=zMD hp
    have hvl:=zKS l[n].fValue
    have hql:=zKy l[n].fValue
    refine ⟨?_,by rw [List.length_append]; omega⟩
    unfold zCm
    simp only []
    rw [zAK hn,zAC,zAG hn,zAA,
      zC9 (by simp) (by omega),zAA,zC9 (by simp only [List.length_append,List.length_cons,List.length_nil]; omega) (by simp),zAA,
      WS_eq _ st (by simp only [List.length_append,List.length_cons,List.length_nil]; omega) (by omega),zAA,zDS _ (by omega),zAA,wrs (by omega)]
    simp only []
    unfold parT
    cases ht:tok l[n].fValue with
    | true =>
      rw [zAC,WS_eq _ _ (by omega) (by simp only [List.length_append,List.length_cons,List.length_nil]; omega),zAA,if_pos rfl]
      simp only [List.append_assoc]
    | false =>
      rw [zAB,zOB _ (by omega),zAA,WS_eq _ _ (by omega) (by simp only [List.length_append,List.length_cons,List.length_nil]; omega),zAA,if_neg (by decide)]
      simp only [List.append_assoc]
  · intro st hI
    unfold zCm
    simp only []
    rw [zAI (Nat.le_refl _),zAB]; rfl
def wrtT (t:GMediaType):Str:=wrtP ((t.fType++[47])++t.fSub) t.fParams
theorem zMs (t:GMediaType) (h1:t.fType.length≤1000) (h2:t.fSub.length≤1000) (h:smPs t.fParams):zDR t=some (wrtT t):=by
  unfold zDR wrtT
  rw [zC9 (by omega) (by simp),zAA,zC9 (by simp; omega) (by omega),zAA,zM1 _ _ (by simp; omega) h,zAA]
end Go.Eng.Pure
namespace Go.Eng.Pure
open Go Go.Eng
set_option linter.unusedVariables false
theorem low45 (x:UInt8):(lowB x==45)=(x==45):=by
  have:=zLP (fun c=>(lowB c==45)==(c==45)) (by decide +kernel) x
  exact beq_iff_eq.1 this
def preL:List Str→List Str→Bool
  | [],_=>true
  | _ :: _,[]=>false
  | x :: xs,y :: ys=>fold x y&&preL xs ys
theorem zNY (x y:UInt8) (a b:Str):fold (x :: a) (y :: b)=((lowB x==lowB y)&&fold a b):=by
  unfold fold lower
  rw [Bool.eq_iff_iff]
  simp only [List.length_cons,List.map_cons,Bool.and_eq_true,beq_iff_eq,List.cons.injEq]
  constructor
  · rintro ⟨h1,h2,h3⟩; exact ⟨h2,by omega,h3⟩
  · rintro ⟨h1,h2,h3⟩; exact ⟨by omega,h1,h3⟩
theorem zGH (c:UInt8) (s:Str):∃ y ys,zAT c s=y :: ys:=by
  cases h:zAT c s with
  | nil=>exact absurd h (zEV c s)
  | cons y ys=>exact ⟨y,ys,rfl⟩
theorem zH8 (c x:UInt8) (s:Str) {y:Str} {ys:List Str} (h:zAT c s=y :: ys):zAT c (x :: s)=if x=c then [] :: y :: ys else (x :: y) :: ys:=by
  rw [zAT,h]
theorem zKm:∀ r t:Str,(lower r++[45]).isPrefixOf (lower t++[45])=preL (zAT 45 r) (zAT 45 t)
  | [],[]=>rfl
  | [],c :: t=>by
    obtain ⟨y,ys,hy⟩:=zGH 45 t
    have h:=low45 c
    show ((45:UInt8)==lowB c&&List.isPrefixOf [] (lower t++[45]))=preL [[]] (zAT 45 (c :: t))
    rw [zH8 45 c t hy]
    by_cases hc:c=45
    · subst hc; rfl
    · rw [if_neg hc]
      have h1:(lowB c==45)=false:=by rw [h]; simpa using hc
      have h2:((45:UInt8)==lowB c)=false:=by
        rw [beq_eq_false_iff_ne] at h1 ⊢; exact fun e=>h1 e.symm
      rw [h2]; rfl
  | x :: r,[]=>by
    obtain ⟨y,ys,hy⟩:=zGH 45 r
    have h:=low45 x
    show ((lowB x==(45:UInt8))&&List.isPrefixOf (lower r++[45]) [])=preL (zAT 45 (x :: r)) [[]]
    have e:List.isPrefixOf (lower r++[45]) []=false:=by cases lower r <;> rfl
    rw [zH8 45 x r hy,e,Bool.and_false]
    by_cases hx:x=45
    · rw [if_pos hx]; rfl
    · rw [if_neg hx]; rfl
  | x :: r,c :: t=>by
    have ih:=zKm r t
    obtain ⟨y,ys,hy⟩:=zGH 45 r
    obtain ⟨z,zs,hz⟩:=zGH 45 t
    have hx:=low45 x
    have hc:=low45 c
    show (lowB x==lowB c&&List.isPrefixOf (lower r++[45]) (lower t++[45]))=preL (zAT 45 (x :: r)) (zAT 45 (c :: t))
    rw [ih,zH8 45 x r hy,zH8 45 c t hz,hy,hz]
    by_cases h1:x=45
    · by_cases h2:c=45
      · subst h1; subst h2
        rw [if_pos rfl,if_pos rfl]
        show _=(fold [] []&&preL (y :: ys) (z :: zs)); rfl
      · subst h1
        rw [if_pos rfl,if_neg h2]
        have:((lowB 45==lowB c):Bool)=false:=by
          rw [beq_eq_false_iff_ne] ; intro e
          have:(lowB c==45)=true:=by rw [← e]; rfl
          rw [hc] at this; exact h2 (beq_iff_eq.1 this)
        rw [this]; rfl
    · by_cases h2:c=45
      · subst h2
        rw [if_neg h1,if_pos rfl]
        have:((lowB x==lowB 45):Bool)=false:=by
          show (lowB x==45)=false
          rw [hx]; simpa using h1
        rw [this]; rfl
      · rw [if_neg h1,if_neg h2]
        show (lowB x==lowB c&&(fold y z&&preL ys zs))=(fold (x :: y) (c :: z)&&preL ys zs)
        rw [zNY,Bool.and_assoc]
def zK6 (r t:Str):Int:=if !((r==[42])||langS r)||!langS t then -1 else if r=[42] then 0 else if preL (zAT 45 r) (zAT 45 t) then ((zAT 45 r).length:Int) else -1
theorem zLW (s:Str) (hs:s.length≤1000000):zDD s=some ((s==[42])||langS s):=by
  unfold zDD
  rw [zNv s hs]
  cases s==[42] <;> rfl
theorem zNh (r t:Str) (hr:r.length≤1000000) (ht:t.length≤1000000):zEH r t=some (zK6 r t):=by
  have hc:r.count 45≤r.length:=List.count_le_length
  unfold zEH zK6
  rw [zLW r hr,zAA,zNv t ht]
  cases ((r==[42])||langS r) with
  | false=>rfl
  | true =>
    cases langS t with
    | false=>rfl
    | true =>
      simp only [Bool.not_true,zAB,zAA,Bool.or_self,Bool.false_eq_true,if_false]
      by_cases h:r=[42]
      · subst h; rfl
      · rw [show (r == [42]) = false by simpa using h, zAB, if_neg h, zBt _ (by omega), zAA, zC9 (by rw [zCM]; omega) (by simp), zAA,
          zBt _ (by omega),zAA,zC9 (by rw [zCM]; omega) (by simp),zAA]
        unfold zEE
        rw [Etag.HasPrefix_eq,zAA,zAA,zKm]
        cases preL (zAT 45 r) (zAT 45 t) with
        | false=>rfl
        | true =>
          rw [Bool.not_true,zAB,if_pos rfl]
          unfold zCr
          rw [show ((([45]:Str).length:Int)==0)=false from rfl,zAB,show ((([45]:Str).length:Int)==1)=true from rfl,zAC,zBZ,zAA,zAA,wrs (by omega),zE5]
theorem seq (a b:Str):(a==b)=decide (a=b):=by rw [Bool.eq_iff_iff]; simp
def parIn (l:List GParam) (p:GParam):Bool:=l.any fun x=>x.fName==p.fName&&fold x.fValue p.fValue
def zKv (r t:GMediaType):Int :=
  bif (r.fType==[42])&&(r.fSub==[42]) then 0 else bif r.fType==t.fType then (bif r.fSub==[42] then 1 else bif r.fSub==t.fSub then (bif r.fParams.all (parIn t.fParams) then 2+(r.fParams.length:Int) else -1) else -1) else -1
def smPv (l:List GParam):Prop:=l.length≤1000001∧∀ p ∈ l,p.fValue.length≤1000000
theorem zKq (l:List GParam) (p:GParam) (h:smPv l) (hp:p.fValue.length≤1000000):zCU l p=some (parIn l p):=by
  unfold zCU parIn
  rw [zCY (zBD l p) l (fun x=>x.fName==p.fName&&fold x.fValue p.fValue) (.inr true) (.inl ()),zAA]
  · cases l.any fun x=>x.fName==p.fName&&fold x.fValue p.fValue <;> rfl
  · intro n hn
    have hx:=h.2 _ (List.getElem_mem hn)
    have hl:=h.1
    unfold zBD
    rw [zAK hn,zAC,zAG hn,zAA,zIK _ _ (by omega) (by omega),wrs (by omega)]
    cases l[n].fName==p.fName <;> cases fold l[n].fValue p.fValue <;> simp
  · unfold zBD
    rw [zAI (Nat.le_refl _),zAB]
theorem zMY (l : List GParam) (p : GParam → Bool) (body : Int → Option (Int ⊕ (Unit ⊕ Int))) (h : ∀ (n : Nat) (hn : n < l.length), body (n : Int) = some (if p l[n] then .inl ((n + 1 : Nat) : Int) else .inr (.inr (-1))))
    (h':body (l.length:Int)=some (.inr (.inl ()))):zAF body 0=some (if l.all p then .inl () else .inr (-1)):=by
  rw [zCY body l (fun x=>!p x) (.inr (-1)) (.inl ())]
  · have:l.any (fun x=>!p x)=!l.all p:=by rw [List.all_eq_not_any_not]; simp
    rw [this]
    cases l.all p <;> rfl
  · intro n hn
    rw [h n hn]
    cases p l[n] <;> simp
  · exact h'
theorem zNZ (r t:GMediaType) (hr:smPv r.fParams) (ht:smPv t.fParams):zDm r t=some (zKv r t):=by
  have hl:=hr.1
  unfold zDm zKv
  rw [zMY r.fParams (parIn t.fParams) (zBp r t)]
  · have hw:wr (2+(r.fParams.length:Int))=2+(r.fParams.length:Int):=wr_eq ⟨by omega,by omega⟩
    rw [hw,zAA]
    simp only [bne]
    cases r.fType==[42] <;> cases r.fSub==[42] <;> cases r.fType==t.fType <;> cases r.fSub==t.fSub <;> cases r.fParams.all (parIn t.fParams) <;> rfl
  · intro n hn
    have hp:=hr.2 _ (List.getElem_mem hn)
    unfold zBp
    rw [zAK hn,zAC,zAG hn,zAA,zKq _ _ ht hp,zAA,wrs (by omega)]
    cases parIn t.fParams r.fParams[n] <;> rfl
  · unfold zBp
    rw [zAI (Nat.le_refl _),zAB]
def zKp (k:Int) (r v:Str):Int:=bif r==[42] then 0 else bif canS k r==canS k v then 1 else -1
theorem zN3 (k:Int) (r v:Str) (hr:r.length≤1000000) (hv:v.length≤1000000):zFd k r v=some (zKp k r v):=by
  unfold zFd zKp
  rw [zKz k r (by omega),zAA,zKz k v (by omega),zAA]
  cases r==[42] <;> cases canS k r==canS k v <;> rfl
def zH4 (k:Int) (r v:Str):Int :=
  if k=1 then (bif (zBy r).2&&(typeS v).2 then zKv (zBy r).1 (typeS v).1 else -1) else if k=2 then zK6 r v
  else if k=3∨k=4 then (bif (tok r&&tok v)&&(v !=[42]) then zKp k r v else -1) else -1
theorem zKd (s:Str):∀ p ∈ (parS s).2.1,p.fName.length≤s.length∧p.fValue.length≤s.length:=by
  obtain ⟨c1,c2⟩:=zIT 59 s
  have ho:∀ m:Str,m.length≤s.length→(oneS m).1.length≤s.length∧(oneS m).2.1.length≤s.length:=by
    intro m hm
    have hu:=zPZ (m.drop (m.idxOf 61+1))
    unfold oneS
    split
    · have h1:(lower (m.take (m.idxOf 61))).length≤s.length:=by rw [zCM,List.length_take]; omega
      have h2:(m.drop (m.idxOf 61+1)).length≤s.length:=by rw [List.length_drop]; omega
      split
      · exact ⟨h1,h2⟩
      · exact ⟨h1,by simp only []; omega⟩
    · simp
  have hp:∀ (l:List Str) (acc ps:List GParam),(∀ x ∈ l,x.length≤s.length)→(∀ p ∈ acc,p.fName.length≤s.length∧p.fValue.length≤s.length)→parL l acc=some ps→∀ p ∈ ps,p.fName.length≤s.length∧p.fValue.length≤s.length:=by
    intro l
    induction l with
    | nil=>intro acc ps _ ha h; unfold parL at h; injection h with h; subst h; exact ha
    | cons m l ih =>
      intro acc ps hm ha h
      have hl:∀ x ∈ l,x.length≤s.length:=fun x hx=>hm x (List.mem_cons_of_mem _ hx)
      unfold parL at h
      split at h
      · exact ih _ _ hl ha h
      · split at h
        · refine ih _ _ hl ?_ h
          intro p hp
          rcases List.mem_append.1 hp with hp | hp
          · exact ha p hp
          · rw [List.mem_singleton] at hp
            subst hp
            exact ho (trim m) (Nat.le_trans (zHm m) (hm m List.mem_cons_self))
        · cases h
  unfold parS
  cases hc:cutS 59 s with
  | nil=>simp
  | cons x l =>
    rw [hc] at c1 c2
    show ∀ p ∈ (parC x l).2.1,_
    unfold parC
    split
    · simp
    · split
      · rename_i ps h
        exact hp l [] ps (fun y hy=>c1 y (List.mem_cons_of_mem _ hy)) (by simp) h
      · simp
theorem zGk (s:Str):(zBy s).1.fType.length≤s.length∧(zBy s).1.fSub.length≤s.length∧(zBy s).1.fParams.length≤s.length+1∧∀ p ∈ (zBy s).1.fParams,p.fName.length≤s.length∧p.fValue.length≤s.length:=by
  obtain ⟨l1,l2⟩:=zG6 s
  have l3:=zKd s
  unfold zBy
  split
  · refine ⟨?_,?_,l2,l3⟩
    · rw [zCM,List.length_take]; omega
    · rw [zCM,List.length_drop]; omega
  · simp [noT]
theorem zO3 (s:Str):(typeS s).1.fType.length≤s.length∧(typeS s).1.fSub.length≤s.length∧(typeS s).1.fParams.length≤s.length+1∧∀ p ∈ (typeS s).1.fParams,p.fName.length≤s.length∧p.fValue.length≤s.length:=by
  unfold typeS
  split
  · simp [noT]
  · exact zGk s
theorem zNT {s:Str} (hs:s.length≤1000000):smPv (zBy s).1.fParams:=by
  obtain ⟨_,_,h3,h4⟩:=zGk s
  exact ⟨by omega,fun p hp=>by have:=(h4 p hp).2; omega⟩
theorem zPE {s:Str} (hs:s.length≤1000000):smPv (typeS s).1.fParams:=by
  obtain ⟨_,_,h3,h4⟩:=zO3 s
  exact ⟨by omega,fun p hp=>by have:=(h4 p hp).2; omega⟩
theorem zN0 (k:Int) (r v:Str) (hr:r.length≤1000000) (hv:v.length≤1000000):zFW k r v=some (zH4 k r v):=by
  unfold zFW zH4
  rw [zI8 r hr,zAA,zMS v hv,zAA,zNZ _ _ (zNT hr) (zPE hv),zAA,zNh r v hr hv,zAA,zDS r (by omega),zAA,zDS v (by omega),zAA,zN3 k r v hr hv,zAA]
  by_cases h1:k=1
  · subst h1
    rw [if_pos rfl]
    cases (zBy r).2 <;> cases (typeS v).2 <;> rfl
  rw [if_neg h1,show (k==1)=false by simpa using h1,zAB]
  by_cases h2:k=2
  · subst h2; rfl
  rw [if_neg h2,show (k==2)=false by simpa using h2,zAB]
  by_cases h3:k=3
  · subst h3
    rw [if_pos (.inl rfl)]
    simp only [bne]
    cases tok r <;> cases tok v <;> cases v==[42] <;> rfl
  by_cases h4:k=4
  · subst h4
    rw [if_pos (.inr rfl)]
    simp only [bne]
    cases tok r <;> cases tok v <;> cases v==[42] <;> rfl
  rw [if_neg (by omega),show (k==3)=false by simpa using h3,show (k==4)=false by simpa using h4]
  rfl
end Go.Eng.Pure
namespace Go.Eng.Pure
open Go Go.Eng
set_option linter.unusedVariables false
def isQ (p:GParam):Bool:=p.fName==[113]
def qAt (l:List GParam):Nat:=l.findIdx isQ
theorem zPS (l:List GParam):qAt l≤l.length:=List.findIdx_le_length
theorem zP9 (l:List GParam) (hl:l.length≤1073741824):zAS l zCA=some (if qAt l<l.length then (qAt l:Int) else -1):=by
  have key:∀ (k n:Nat),n+k=l.length→zAF (zAL l zCA) (n:Int)=some (if n+qAt (l.drop n)<l.length then .inr ((n+qAt (l.drop n):Nat):Int) else .inl ()):=by
    intro k
    induction k with
    | zero =>
      intro n hn
      obtain rfl:n=l.length:=by omega
      rw [zAE (r:=.inl ()),if_neg (by omega)]
      simp only [zAL,zAI (Nat.le_refl l.length),zAB]
    | succ k ih =>
      intro n hn
      have hlt:n<l.length:=by omega
      have hb:zAL l zCA (n:Int)=some (if isQ l[n] then .inr (.inr (n:Int)) else .inl ((n+1:Nat):Int)):=by
        simp only [zAL,zAK hlt,zAC,zAG hlt,zAA,wrs (show n≤4*1073741824 by omega)]
        unfold zCA
        rw [zAA]
        show (bif isQ l[n] then _ else _)=_
        cases isQ l[n] <;> rfl
      have hq:qAt (l.drop n)=if isQ l[n] then 0 else qAt (l.drop (n+1))+1:=by
        unfold qAt
        rw [List.drop_eq_getElem_cons hlt,List.findIdx_cons]
        cases isQ l[n] <;> rfl
      rw [hq]
      cases hp:isQ l[n] with
      | true =>
        rw [hp,if_pos rfl] at hb
        rw [zAE hb,if_pos rfl,if_pos (by omega)]; rfl
      | false =>
        rw [hp,if_neg (by decide)] at hb
        rw [zAJ hb,ih (n+1) (by omega),if_neg (show ¬ (false=true) by decide)]
        have e:n+1+qAt (l.drop (n+1))=n+(qAt (l.drop (n+1))+1):=by omega
        rw [e]
  have:=key l.length 0 (by omega)
  rw [show ((0:Nat):Int)=0 from rfl,List.drop_zero,Nat.zero_add] at this
  unfold zAS
  rw [this,zAA]
  by_cases h:qAt l<l.length
  · rw [if_pos h,if_pos h]
  · rw [if_neg h,if_neg h]
def rngS (k:Int) (v:Str) (ps:List GParam):Str×Bool :=
  if k=1 then (wrtT ⟨(zBy v).1.fType,(zBy v).1.fSub,ps⟩,(zBy v).2)
  else if k=2 then (canS k v,((v==[42])||langS v)&&((ps.length:Int)==0))
  else (canS k v,tok v&&((ps.length:Int)==0))
def qOf (l:List GParam):Int×Bool:=match l[qAt l]? with | some p=>zDP p.fValue | none=>(1000,true)
def prefT (k:Int) (r:Str×List GParam×Bool):GPref×Bool :=
  if !r.2.2 then (⟨[],0⟩,false) else if !(qOf r.2.1).2 then (⟨[],0⟩,false)
  else (⟨(rngS k r.1 (r.2.1.take (qAt r.2.1))).1,(qOf r.2.1).1⟩,(rngS k r.1 (r.2.1.take (qAt r.2.1))).2)
def prefS (k:Int) (m:Str):GPref×Bool:=prefT k (parS m)
theorem zKw (k:Int) (v:Str) (ps:List GParam) (hv:v.length≤1000) (hp:smPs ps):zEp k v ps=some (rngS k v ps):=by
  obtain ⟨r1,r2,_,_⟩:=zGk v
  unfold zEp rngS
  by_cases h1:k=1
  · rw [if_pos h1,decide_eq_true h1,zAC]
    unfold zFP
    rw [zI8 v (by omega),zAA,zMs _ (by simp only []; omega) (by simp only []; omega) hp,zAA,zAA]
  rw [if_neg h1,decide_eq_false h1,zAB]
  by_cases h2:k=2
  · rw [if_pos h2,decide_eq_true h2,zAC]
    unfold zFJ
    rw [zKz k v (by omega),zAA,zLW v (by omega),zAA,zAA]
  rw [if_neg h2,decide_eq_false h2,zAB,zKz k v (by omega),zAA,zDS v (by omega),zAA]
theorem zPQ (l:List GParam) (h:smPs l):smPs (l.take (qAt l)) :=
  ⟨by rw [List.length_take]; have:=h.1; omega,fun p hp=>h.2 p (List.mem_of_mem_take hp)⟩
theorem zOH {m:Str} (h:m.length≤300):(parS m).1.length≤300∧smPs (parS m).2.1:=by
  obtain ⟨l1,l2⟩:=zG6 m
  have l3:=zKd m
  exact ⟨by omega,by omega,fun p hp=>by have:=l3 p hp; omega⟩
theorem zPh (k:Int) (m:Str) (h:m.length≤300):zGC k m=some (prefS k m):=by
  obtain ⟨h1,h2⟩:=zOH h
  unfold zGC prefS
  rw [zKg m (by omega),zAA]
  generalize parS m=r at *
  obtain ⟨v,ps,ok⟩:=r
  unfold prefT
  simp only [] at h1 h2 ⊢
  cases ok with
  | false=>rfl
  | true =>
    have hl:=h2.1
    have hle:=zPS ps
    rw [Bool.not_true,zAB,if_neg (by decide),zP9 ps (by omega),zAA]
    unfold qOf
    by_cases hq:qAt ps<ps.length
    · rw [if_pos hq,decide_eq_true (by omega),zAC,zAG hq,zAA,zOG,zAA,List.getElem?_eq_getElem hq]
      simp only []
      cases hb:(zDP ps[qAt ps].fValue).2 with
      | false=>rfl
      | true =>
        rw [Bool.not_true,zAB,zD8 (by omega),zAA,zAA]
        simp only []
        rw [zKw k v _ (by omega) (zPQ ps h2),zAA]
        rfl
    · have hx:qAt ps=ps.length:=by omega
      rw [if_neg hq,List.getElem?_eq_none (by omega)]
      simp only []
      rw [show decide ((0:Int)≤-1)=false from rfl,zAB,zAA]
      simp only []
      rw [zKw k v _ (by omega) h2,zAA,hx,List.take_length]
      rfl
def nameF (k:Int):Str:=if k=1 then [65,99,99,101,112,116] else if k=2 then [65,99,99,101,112,116,45,76,97,110,103,117,97,103,101]
  else if k=3 then [65,99,99,101,112,116,45,67,104,97,114,115,101,116] else if k=4 then [65,99,99,101,112,116,45,69,110,99,111,100,105,110,103] else []
theorem zNf (k:Int):zBM k=some (nameF k):=by
  unfold zBM nameF
  by_cases h1:k=1
  · subst h1; rfl
  by_cases h2:k=2
  · subst h2; rfl
  by_cases h3:k=3
  · subst h3; rfl
  by_cases h4:k=4
  · subst h4; rfl
  rw [show (k==1)=false by simpa using h1,show (k==2)=false by simpa using h2,show (k==3)=false by simpa using h3,show (k==4)=false by simpa using h4,if_neg h1,if_neg h2,if_neg h3,if_neg h4]
  rfl
theorem zLC (k:Int):(nameF k).length≤100:=by
  unfold nameF
  split
  · decide
  split
  · decide
  split
  · decide
  split <;> decide
def prefO (k:Int) (m:Str):Option GPref:=if (prefS k m).2 then some (prefS k m).1 else none
def zHJ (k:Int) (l:List GField):List GPref×Bool:=if nameF k=[] then ([],false) else if hasF l (nameF k) then ((allM l (nameF k)).filterMap (prefO k),true) else ([],false)
theorem zLD (k:Int) (ms:List Str) (acc:List GPref):ms.foldl (fun a x=>if (prefS k x).2 then a++[(prefS k x).1] else a) acc=acc++ms.filterMap (prefO k):=by
  rw [← zJH]
  congr 1
  funext a x
  unfold prefO
  cases (prefS k x).2 <;> rfl
theorem zKX {l:List GField} (h:smL l):l.length≤1073741824∧∀ f ∈ l,smF f:=⟨by have:=h.1; omega,fun f hf=>by have:=h.2 f hf; exact ⟨by omega,by omega⟩⟩
theorem zO0 (k:Int) (l:List GField) (hl:smL l):zER k l=some (zHJ k l):=by
  obtain ⟨b1,b2⟩:=zKX hl
  have hn:=zLC k
  have hm:=zIw l (nameF k)
  have hs:=zJc l (nameF k) 300 fun f hf=>(hl.2 f hf).2
  unfold zER zHJ
  rw [zNf,zAA,zPH l _ b1 b2 (by omega),zAA,zNk l _ b1 b2 (by omega),zAA]
  generalize allM l (nameF k)=ms at *
  have:=zBI (fun (st:List GPref) i=>(st,i)) ms (fun a x=>if (prefS k x).2 then a++[(prefS k x).1] else a) id (zCc k ms) (fun n st=>st.length≤n) [] (by simp) ?_ ?_
  · rw [this,zAA,zLD,List.nil_append]
    by_cases h1:nameF k=[]
    · rw [if_pos h1,h1]; rfl
    · rw [if_neg h1,show (nameF k==[])=false by simpa using h1,zAB,zAA]
      cases hasF l (nameF k) <;> rfl
  · intro n hn st hI
    have hx:=hs _ (List.getElem_mem hn)
    refine ⟨?_,?_⟩
    · unfold zCc
      simp only []
      rw [zAK hn,zAC,zAG hn,zAA,zPh k _ hx,zAA,wrs (by omega)]
      cases (prefS k ms[n]).2 with
      | true=>rw [zAC,zAj (by omega) (zA5 _),zAA]; rfl
      | false=>rfl
    · split
      · rw [List.length_append,List.length_singleton]; omega
      · omega
  · intro st hI
    unfold zCc
    simp only []
    rw [zAI (Nat.le_refl _),zAB]; rfl
theorem zPu (k:Int) (s:Str):(canS k s).length≤s.length+10:=by
  unfold canS
  split
  · simp
  split
  · simp
  · rw [zCM]; omega
theorem zLF (B:Nat):∀ l:List GParam,(∀ p ∈ l,(parT p).length≤B)→(l.flatMap parT).length≤B*l.length
  | [],_=>by simp
  | p :: l,h=>by
    have h1:=h p List.mem_cons_self
    have h2:=zLF B l fun q hq=>h q (List.mem_cons_of_mem _ hq)
    rw [List.flatMap_cons,List.length_append,List.length_cons,Nat.mul_succ]; omega
theorem zOa (k:Int) (m:Str) (h:m.length≤300):(prefS k m).1.fRange.length≤1000000:=by
  obtain ⟨h1,h2⟩:=zOH h
  obtain ⟨l1,l2⟩:=zG6 m
  have l3:=zKd m
  unfold prefS
  generalize parS m=r at *
  obtain ⟨v,ps,ok⟩:=r
  unfold prefT
  simp only [] at h1 h2 l2 l3 ⊢
  have hr:(rngS k v (ps.take (qAt ps))).1.length≤1000000:=by
    obtain ⟨r1,r2,_,_⟩:=zGk v
    have hc:=zPu k v
    unfold rngS
    split
    · have hb := zLF 910 (ps.take (qAt ps)) (fun p hp => by
        have h3:=l3 p (List.mem_of_mem_take hp)
        have h4:=zKS p.fValue
        unfold parT
        simp only [List.length_append,List.length_cons,List.length_nil]
        omega)
      have ht:(ps.take (qAt ps)).length≤301:=by rw [List.length_take]; omega
      simp only []
      unfold wrtT wrtP
      simp only [List.length_append,List.length_cons,List.length_nil]
      omega
    · split
      · simp only []; omega
      · simp only []; omega
  split
  · simp
  split
  · simp
  · exact hr
end Go.Eng.Pure
