/- A part. -/
import Derived.Test.YtipgfplekgdoiaaGreatDoorTabY
set_option linter.unusedVariables false
namespace Go.Eng.Pure
open Go Go.Eng
def dv (c:UInt8):Int:=((c - 48).toNat:Int)
def dg (c:UInt8):Bool:=!(decide (c<48))&&!(decide (57<c))
theorem dv_lt (c:UInt8) (h:dg c=true):0≤dv c∧dv c≤9:=by
  unfold dv dg at *
  simp only [Bool.and_eq_true,Bool.not_eq_true',decide_eq_false_iff_not,UInt8.lt_iff_toNat_lt,UInt8.toNat_sub] at *
  have h48:(48:UInt8).toNat=48:=rfl
  have h57:(57:UInt8).toNat=57:=rfl
  have:=c.toNat_lt
  omega
def sumQ:List Int→List UInt8→Int→Option Int
  | w :: ws,c :: cs,q=>if dg c then sumQ ws cs (q+w*dv c) else none
  | _,_,q=>some q
def finQ:Option Int→Int×Bool
  | some q=>if 1000<q then (0,false) else (q,true)
  | none=>(0,false)
def zDW:Str→Int×Bool
  | []=>(0,false)
  | [a]=>if a=48∨a=49 then finQ (some (1000*dv a)) else (0,false)
  | a :: b :: r=>if (a=48∨a=49)∧b=46∧r.length≤3 then finQ (sumQ [100,10,1] r (1000*dv a)) else (0,false)
theorem zPd (a b:UInt8):decide (a≤b)=!decide (b<a):=by
  by_cases h:b<a
  · have:¬ a≤b:=fun h'=>absurd (UInt8.lt_of_lt_of_le h h') (by simp)
    simp [h,this]
  · simp [h,UInt8.not_lt.1 h]
theorem zQp (c:UInt8):zEW c=some (dg c):=by
  simp only [zEW,dg,zPd]
theorem zLh (c:UInt8):(bif decide (c<48) then some true else some (decide (57<c)))=some (!dg c):=by
  simp only [dg]
  cases decide (c<48) <;> cases decide (57<c) <;> rfl
def outQ:Option Int→Int ⊕ (Int×Bool)
  | some q=>.inl q
  | none=>.inr (0,false)
theorem zM3 (s : Str) (l : List Int) (q : Int) (i : Nat) (hi : 2 ≤ i) (hs : i < s.length) (hl : i < l.length) (hb : s.length ≤ 5) (hw : 0 ≤ l[i] ∧ l[i] ≤ 1000) (hq : 0 ≤ q ∧ q ≤ 1000000) :
    zAo s l (q,(i:Int))=some (if dg s[i] then .inl (q+l[i]*dv s[i],((i+1:Nat):Int)) else .inr (.inr (0,false))):=by
  have e0:decide ((i:Int)<(l.length:Int))=true:=by simp; omega
  have e1:((i:Int)==1)=false:=by simp; omega
  have e2:xnth l (i:Int)=some l[i]:=by rw [zFn,List.getElem?_eq_getElem hl]
  have e3:xnth s (i:Int)=some s[i]:=by rw [zFn,List.getElem?_eq_getElem hs]
  simp only [zAo,e0,e1,e2,e3,zAC,zAB,zAA,zLh]
  cases hd:dg s[i] with
  | false=>rfl
  | true =>
    have hv:=dv_lt _ hd
    have hv':((s[i] - 48).toNat:Int)=dv s[i]:=rfl
    have hm:0≤l[i]*dv s[i]∧l[i]*dv s[i]≤9000:=by
      refine ⟨Int.mul_nonneg hw.1 hv.1,?_⟩
      have:=Int.mul_le_mul hw.2 hv.2 hv.1 (by omega:(0:Int)≤1000)
      omega
    rw [hv',zDZ (n:=l[i]*dv s[i]) (by omega) (by omega),zDZ (by omega) (by omega),zDZ (by omega) (by omega)]
    simp
theorem zOR (s : Str) (l : List Int) (hsl : s.length = l.length) (hb : s.length ≤ 5) (hw : ∀ (i : Nat) (h : i < l.length), 0 ≤ l[i] ∧ l[i] ≤ 1000) :
    ∀ (k i:Nat) (q:Int),2≤i→i+k=s.length→0≤q∧q≤900000 - 9000*(k:Int)→zAF (zAo s l) (q,(i:Int))=some (outQ (sumQ (l.drop i) (s.drop i) q)):=by
  intro k
  induction k with
  | zero =>
    intro i q hi hk hq
    have e0:decide ((i:Int)<(l.length:Int))=false:=by simp; omega
    rw [zAE (r:=.inl q)]
    · rw [List.drop_eq_nil_of_le (by omega)]; rfl
    · simp only [zAo,e0,zAB]
  | succ k ih =>
    intro i q hi hk hq
    have hs:i<s.length:=by omega
    have hl:i<l.length:=by omega
    have hr:=zM3 s l q i hi hs hl hb (hw i hl) ⟨hq.1,by omega⟩
    rw [List.drop_eq_getElem_cons hs,List.drop_eq_getElem_cons hl]
    cases hd:dg s[i] with
    | false =>
      rw [hd] at hr
      rw [zAE (by simpa using hr)]
      simp [sumQ,hd,outQ]
    | true =>
      rw [hd] at hr
      have hv:=dv_lt _ hd
      have hm:0≤l[i]*dv s[i]∧l[i]*dv s[i]≤9000:=by
        refine ⟨Int.mul_nonneg (hw i hl).1 hv.1,?_⟩
        have:=Int.mul_le_mul (hw i hl).2 hv.2 hv.1 (by omega:(0:Int)≤1000)
        omega
      rw [zAI (by simpa using hr),← Int.natCast_one,← Int.natCast_add,ih (i+1) _ (by omega) (by omega) ⟨by omega,by omega⟩]
      simp [sumQ,hd]
theorem zLI (a:UInt8):(bif a !=48 then some (a !=49) else some false)=some (!(decide (a=48∨a=49))):=by
  by_cases h:a=48
  · subst h; rfl
  · have:(a !=48)=true:=by simp [h]
    rw [this,zAC]
    by_cases h2:a=49
    · subst h2; rfl
    · have:(a !=49)=true:=by simp [h2]
      simp [this,h,h2]
theorem zLY {a:UInt8} (h:a=48∨a=49):dg a=true∧0≤dv a∧dv a≤1:=by
  rcases h with rfl | rfl <;> decide
theorem zQT (s:Str) (hb:s.length≤5):zB3 s=some (zDW s):=by
  match s,hb with
  | [],_=>simp [zB3,zDW]
  | [a],_ =>
    have e:((([a]:Str)==[])||decide (5<(([a]:Str).length:Int)))=false:=rfl
    have e1:decide (1<(([a]:Str).length:Int))=false:=rfl
    have e2:xsub ([1000,0,100,10,1]:List Int) 0 (([a]:Str).length:Int)=some [1000]:=rfl
    simp only [zB3,e,e1,e2,zAB,zBF,zAA,zLI]
    by_cases h:a=48∨a=49
    · obtain ⟨hd,hv⟩:=zLY h
      simp only [h,decide_true,Bool.not_true,zAB,zAA]
      have r1:zAo [a] [1000] (0,0)=some (.inl (1000*dv a,1)):=by
        have e3:decide ((0:Int)<(([1000]:List Int).length:Int))=true:=rfl
        have e4:xnth ([1000]:List Int) 0=some 1000:=rfl
        have e5:((0:Int)==1)=false:=rfl
        have hv':((a - 48).toNat:Int)=dv a:=rfl
        simp only [zAo,e3,e4,e5,zAC,zAB,zAA,zBF,zLh,hd,Bool.not_true,hv']
        rw [zDZ (n:=1000*dv a) (by omega) (by omega),zDZ (by omega) (by omega),zDZ (by omega) (by omega)]
        simp
      have r2:zAo [a] [1000] (1000*dv a,1)=some (.inr (.inl (1000*dv a))):=rfl
      rw [zAI r1,zAE r2]
      simp only [zAA,zDW,h,if_true,finQ]
      by_cases hq:1000<1000*dv a
      · simp [hq]
      · simp [hq]
    · simp [h,zDW]
  | a :: b :: r,hb =>
    have hr3:r.length≤3:=by simp at hb; omega
    have e:(((a :: b :: r:Str)==[])||decide (5<((a :: b :: r:Str).length:Int)))=false:=by
      have:((a :: b :: r:Str)==[])=false:=rfl
      rw [this]; simp; omega
    have e1:decide (1<((a :: b :: r:Str).length:Int))=true:=by simp; omega
    have e2:xsub ([1000,0,100,10,1]:List Int) 0 ((a :: b :: r:Str).length:Int)=some (1000 :: 0 :: [100,10,1].take r.length):=by
      rw [zJ1 ⟨by omega,by omega,by simp; omega⟩]
      have:(((a :: b :: r:Str).length:Int)).toNat=r.length+2:=by simp; omega
      rw [this]; rfl
    have e3:xnth (a :: b :: r) 1=some b:=rfl
    simp only [zB3,e,e1,e2,e3,zAB,zAC,zBF,zAA,zLI]
    by_cases h:a=48∨a=49
    · by_cases hb2:b=46
      · obtain ⟨hd,hv⟩:=zLY h
        have e4:(b !=46)=false:=by simp [hb2]
        simp only [h,e4,decide_true,Bool.not_true,zAB,zAA]
        have hsl:(a :: b :: r).length=(1000 :: 0 :: [100,10,1].take r.length:List Int).length:=by simp; omega
        have hws:∀ (i:Nat) (h:i<(1000 :: 0 :: [100,10,1].take r.length:List Int).length),0≤(1000 :: 0 :: [100,10,1].take r.length:List Int)[i]∧(1000 :: 0 :: [100,10,1].take r.length:List Int)[i]≤1000:=by
          intro i hi
          have hm:(1000 :: 0 :: [100,10,1].take r.length:List Int)[i] ∈ ([1000,0,100,10,1]:List Int):=by
            have h1:=List.getElem_mem hi
            simp only [List.mem_cons] at h1 ⊢
            rcases h1 with h1 | h1 | h1
            · exact .inl h1
            · exact .inr (.inl h1)
            · have:=List.mem_of_mem_take h1
              simp only [List.mem_cons] at this
              exact .inr (.inr this)
          simp only [List.mem_cons,List.mem_nil_iff,or_false] at hm
          omega
        generalize hL:(1000 :: 0 :: [100,10,1].take r.length:List Int)=l at hsl hws ⊢
        have r1:zAo (a :: b :: r) l (0,0)=some (.inl (1000*dv a,1)):=by
          have e3:decide ((0:Int)<(l.length:Int))=true:=by rw [← hL]; simp; omega
          have e4:xnth l 0=some 1000:=by rw [← hL]; rfl
          have e5:((0:Int)==1)=false:=rfl
          have hv':((a - 48).toNat:Int)=dv a:=rfl
          simp only [zAo,e3,e4,e5,zAC,zAB,zAA,zBF,zLh,hd,Bool.not_true,hv']
          rw [zDZ (n:=1000*dv a) (by omega) (by omega),zDZ (by omega) (by omega),zDZ (by omega) (by omega)]
          simp
        have r2:zAo (a :: b :: r) l (1000*dv a,1)=some (.inl (1000*dv a,((2:Nat):Int))):=by
          have e3:decide ((1:Int)<(l.length:Int))=true:=by rw [← hL]; simp; omega
          have e4:xnth l 1=some 0:=by rw [← hL]; rfl
          have e5:((1:Int)==1)=true:=rfl
          simp only [zAo,e3,e4,e5,zAC,zAA]
          rw [zDZ (by omega) (by omega)]
          rfl
        rw [zAI r1,zAI r2,zOR _ _ hsl hb hws r.length 2 _ (Nat.le_refl _) (by simp; omega) ⟨by omega,by omega⟩]
        have hsum:sumQ (l.drop 2) ((a :: b :: r).drop 2) (1000*dv a)=sumQ [100,10,1] r (1000*dv a):=by
          rw [← hL]
          match r,hr3 with
          | [],_=>rfl
          | [_],_=>simp [sumQ]
          | [_,_],_=>simp [sumQ]
          | [_,_,_],_=>simp [sumQ]
        rw [hsum]
        have hp:zDW (a :: b :: r)=finQ (sumQ [100,10,1] r (1000*dv a)):=by simp [zDW,h,hb2,hr3]
        rw [hp]
        cases sumQ [100,10,1] r (1000*dv a) with
        | none=>rfl
        | some q =>
          simp only [outQ,finQ,zAA]
          by_cases hq:1000<q
          · simp [hq]
          · simp [hq]
      · have e4:(b !=46)=true:=by simp [hb2]
        simp [h,hb2,e4,zDW]
    · simp [h,zDW]
theorem zOh (s:Str) (hb:5<s.length):zB3 s=some (0,false):=by
  have e:((s==[])||decide (5<(s.length:Int)))=true:=by simp; right; omega
  simp only [zB3,e,zAC,zAA]
theorem zJo (s:Str) (hb:5<s.length):zDW s=(0,false):=by
  match s,hb with
  | a :: b :: r,hb=>simp [zDW]; intro _ _ h; simp at hb; omega
theorem zPa (s:Str):zB3 s=some (zDW s):=by
  by_cases h:s.length≤5
  · exact zQT s h
  · rw [zOh s (by omega),zJo s (by omega)]
theorem zPS (s : Str) (q w : Int) (i : Nat) (hs : i < s.length) (hb : s.length ≤ 5) (hw : 0 ≤ w ∧ w ≤ 1000) (hq : 0 ≤ q ∧ q ≤ 1000000) :
    zBj s (q,w,(i:Int))=some (if dg s[i] then .inl (q+w*dv s[i],w.tdiv 10,((i+1:Nat):Int)) else .inr (.inr (0,false))):=by
  have e0:decide ((i:Int)<(s.length:Int))=true:=by simp; omega
  have e3:xnth s (i:Int)=some s[i]:=by rw [zFn,List.getElem?_eq_getElem hs]
  simp only [zBj,e0,e3,zAC,zAA,zQp]
  cases hd:dg s[i] with
  | false=>rfl
  | true =>
    have hv:=dv_lt _ hd
    have hv':((s[i] - 48).toNat:Int)=dv s[i]:=rfl
    have hm:0≤w*dv s[i]∧w*dv s[i]≤9000:=by
      refine ⟨Int.mul_nonneg hw.1 hv.1,?_⟩
      have:=Int.mul_le_mul hw.2 hv.2 hv.1 (by omega:(0:Int)≤1000)
      omega
    have ht:0≤w.tdiv 10∧w.tdiv 10≤1000:=by
      rw [Int.tdiv_eq_ediv_of_nonneg hw.1]
      omega
    have e4:xquo w 10=some (w.tdiv 10):=by
      unfold xquo
      rw [if_neg (by decide),zDZ (by omega) (by omega)]
    simp only [Bool.not_true,zAB,zAA,e4,hv']
    rw [Int.mul_comm (dv s[i]) w,zDZ (n:=w*dv s[i]) (by omega) (by omega),zDZ (by omega) (by omega),zDZ (by omega) (by omega)]
    simp
theorem zMo (s:Str) (q w:Int) (i:Nat) (hs:s.length≤i):zAF (zBj s) (q,w,(i:Int))=some (.inl q):=by
  refine zAE ?_
  have e0:decide ((i:Int)<(s.length:Int))=false:=by simp; omega
  simp only [zBj,e0,zAB]
def chain:List Int→Prop
  | []=>True
  | [_]=>True
  | a :: b :: r=>a.tdiv 10=b∧chain (b :: r)
theorem zQh (s : Str) (hb : s.length ≤ 5) : ∀ (ws : List Int) (i : Nat) (q : Int), chain ws → (∀ w ∈ ws, 0 ≤ w ∧ w ≤ 1000) → s.length ≤ i + ws.length → 0 ≤ q ∧ q ≤ 900000 - 9000 * (ws.length : Int) →
    ∀ w,(∀ x,ws.head?=some x→w=x)→zAF (zBj s) (q,w,(i:Int))=some (outQ (sumQ ws (s.drop i) q)):=by
  intro ws
  induction ws with
  | nil =>
    intro i q _ _ hl _ w _
    rw [zMo s q w i (by simpa using hl)]
    rfl
  | cons x ws ih =>
    intro i q hc hw hl hq w hx
    obtain rfl:w=x:=hx x rfl
    have hwx:=hw w List.mem_cons_self
    by_cases hs:i<s.length
    · have hr:=zPS s q w i hs hb hwx ⟨hq.1,by omega⟩
      rw [List.drop_eq_getElem_cons hs]
      cases hd:dg s[i] with
      | false =>
        rw [hd] at hr
        rw [zAE (by simpa using hr)]
        simp [sumQ,hd,outQ]
      | true =>
        rw [hd] at hr
        have hv:=dv_lt _ hd
        have hm:0≤w*dv s[i]∧w*dv s[i]≤9000:=by
          refine ⟨Int.mul_nonneg hwx.1 hv.1,?_⟩
          have:=Int.mul_le_mul hwx.2 hv.2 hv.1 (by omega:(0:Int)≤1000)
          omega
        have hlen:((w :: ws).length:Int)=(ws.length:Int)+1:=by simp
        rw [zAI (by simpa using hr),← Int.natCast_one,← Int.natCast_add]
        rw [ih (i+1) _ ?_ (fun y hy=>hw y (List.mem_cons_of_mem _ hy)) (by simp at hl; omega) ⟨by omega,by omega⟩ _ ?_]
        · simp [sumQ,hd]
        · cases ws with
          | nil=>trivial
          | cons y ws=>exact hc.2
        · intro y hy
          cases ws with
          | nil=>cases hy
          | cons z ws=>simp at hy; subst hy; exact hc.1
    · rw [zMo s q w i (by omega),List.drop_eq_nil_of_le (by omega)]
      rfl
theorem zLz (s:Str):zD3 s=some (zDW s):=by
  by_cases hb:s.length≤5
  · match s,hb with
    | [],_=>rfl
    | [a],hb =>
      have e:((decide ((([a]:Str).length:Int)<1))||decide (5<(([a]:Str).length:Int)))=false:=rfl
      have e1:decide (1<(([a]:Str).length:Int))=false:=rfl
      simp only [zD3,e,e1,zAB,zBF,zAA,zLI]
      by_cases h:a=48∨a=49
      · obtain ⟨hd,hv⟩:=zLY h
        have hv':((a - 48).toNat:Int)=dv a:=rfl
        simp only [h,decide_true,Bool.not_true,zAB,zAA,hv']
        rw [zDZ (n:=dv a*1000) (by omega) (by omega)]
        have:=zMo [a] (dv a*1000) 100 2 (by simp)
        rw [show (((2:Nat):Int))=2 from rfl] at this
        rw [this]
        simp only [zAA,zDW,h,if_true,finQ,Int.mul_comm (dv a) 1000]
        by_cases hq:1000<1000*dv a
        · simp [hq]
        · simp [hq]
      · simp [h,zDW]
    | a :: b :: r,hb =>
      have hr3:r.length≤3:=by simp at hb; omega
      have e:((decide (((a :: b :: r:Str).length:Int)<1))||decide (5<((a :: b :: r:Str).length:Int)))=false:=by
        simp; omega
      have e1:decide (1<((a :: b :: r:Str).length:Int))=true:=by simp; omega
      have e3:xnth (a :: b :: r) 1=some b:=rfl
      simp only [zD3,e,e1,e3,zAB,zAC,zBF,zAA,zLI]
      by_cases h:a=48∨a=49
      · by_cases hb2:b=46
        · obtain ⟨hd,hv⟩:=zLY h
          have e4:(b !=46)=false:=by simp [hb2]
          have hv':((a - 48).toNat:Int)=dv a:=rfl
          simp only [h,e4,decide_true,Bool.not_true,zAB,zAA,hv']
          rw [zDZ (n:=dv a*1000) (by omega) (by omega)]
          have hl:=zQh (a :: b :: r) hb [100,10,1] 2 (dv a*1000) ⟨rfl,rfl,trivial⟩ (by decide) (by simp; omega) ⟨by omega,by simp; omega⟩ 100 (by intro x hx; simpa using hx)
          rw [show (((2:Nat):Int))=2 from rfl] at hl
          rw [hl]
          have hp:zDW (a :: b :: r)=finQ (sumQ [100,10,1] r (1000*dv a)):=by simp [zDW,h,hb2,hr3]
          rw [hp,show (a :: b :: r).drop 2=r from rfl,Int.mul_comm (dv a) 1000]
          cases sumQ [100,10,1] r (1000*dv a) with
          | none=>rfl
          | some q =>
            simp only [outQ,finQ,zAA]
            by_cases hq:1000<q
            · simp [hq]
            · simp [hq]
        · have e4:(b !=46)=true:=by simp [hb2]
          simp [h,hb2,e4,zDW]
      · simp [h,zDW]
  · have e:((decide ((s.length:Int)<1))||decide (5<(s.length:Int)))=true:=by simp; right; omega
    rw [zJo s (by omega)]
    simp only [zD3,e,zAC,zAA]
end Go.Eng.Pure
namespace Go.Eng.Pure
open Go Go.Eng
set_option linter.unusedVariables false
theorem zO0 (s:Str) (hs:s.length≤1073741824):zIO s=some (quote s):=zNn s hs
def parT (p:GParam):Str:=(([59]++p.fName)++[61])++(if tok p.fValue then p.fValue else quote p.fValue)
def wrtP (v:Str) (l:List GParam):Str:=v++l.flatMap parT
def smPs (l:List GParam):Prop:=l.length≤1000∧∀ p ∈ l,p.fName.length≤1000∧p.fValue.length≤1000
theorem zLX (v:Str):(if tok v then v else quote v).length≤2*v.length+2:=by
  have:=zLr v
  split <;> omega
theorem zNo {p:GParam} (h:p.fName.length≤1000∧p.fValue.length≤1000):(parT p).length≤4000:=by
  have:=zLX p.fValue
  unfold parT
  simp only [List.length_append,List.length_cons,List.length_nil]
  omega
theorem zMw (v:Str) (l:List GParam) (hv:v.length≤1000000) (h:smPs l):zCm v l=some (wrtP v l):=by
  unfold zCm
  have:=zBB (fun (st:Str) i=>(st,i)) l (fun st p=>st++parT p) id (zBQ l) (fun n st=>st.length≤1000000+4000*n) v (by omega) ?_ ?_
  · rw [this,zAA]; unfold wrtP; rw [zGv]; rfl
  · intro n hn st hI
    have hp:=h.2 _ (List.getElem_mem hn)
    have hl:=h.1
    have htl:=zNo hp
    have hvl:=zLX l[n].fValue
    refine ⟨?_,by rw [List.length_append]; omega⟩
    have e:(bif !tok l[n].fValue then (zFj l[n].fValue).bind fun r34=>some r34 else some l[n].fValue)=some (if tok l[n].fValue then l[n].fValue else quote l[n].fValue):=by
      rw [zNn _ (by omega)]; cases tok l[n].fValue <;> rfl
    unfold zBQ
    simp only []
    rw [zAK hn,zAC,zAG hn,zAA,zCs _ (by omega),zAA,e,zAA,zAA,
      zDR (by simp) (by omega),zAA,zDR (by simp only [List.length_append,List.length_cons,List.length_nil]; omega) (by simp),zAA,
      zDR (by simp only [List.length_append,List.length_cons,List.length_nil]; omega) (by omega),zAA,
      zDR (by omega) (by simp only [List.length_append,List.length_cons,List.length_nil]; omega),zAA,wrs (by omega)]
    rfl
  · intro st hI
    unfold zBQ
    simp only []
    rw [zAH (Nat.le_refl _),zAB]; rfl
theorem zOd (v:Str) (l:List GParam) (hv:v.length≤1000000) (h:smPs l):zF4 v l=some (wrtP v l):=by
  unfold zF4 zBK
  rw [WS_eq v [] (by omega) (by simp),zAA]
  have:=zBB (fun (st:Str) i=>(i,st)) l (fun st p=>st++parT p) id (zC3 l) (fun n st=>st.length≤1000000+4000*n) v (by omega) ?_ ?_
  · simp only [List.nil_append]
    rw [this,zAA,zAA]; unfold wrtP; rw [zGv]; rfl
  · intro n hn st hI
    have hp:=h.2 _ (List.getElem_mem hn)
    have hl:=h.1
    have htl:=zNo hp
    have hvl:=zLX l[n].fValue
    have hql:=zLr l[n].fValue
    refine ⟨?_,by rw [List.length_append]; omega⟩
    unfold zC3
    simp only []
    rw [zAK hn,zAC,zAG hn,zAA,
      zDR (by simp) (by omega),zAA,zDR (by simp only [List.length_append,List.length_cons,List.length_nil]; omega) (by simp),zAA,
      WS_eq _ st (by simp only [List.length_append,List.length_cons,List.length_nil]; omega) (by omega),zAA,zCk _ (by omega),zAA,wrs (by omega)]
    simp only []
    unfold parT
    cases ht:tok l[n].fValue with
    | true =>
      rw [zAC,WS_eq _ _ (by omega) (by simp only [List.length_append,List.length_cons,List.length_nil]; omega),zAA,if_pos rfl]
      simp only [List.append_assoc]
    | false =>
      rw [zAB,zO0 _ (by omega),zAA,WS_eq _ _ (by omega) (by simp only [List.length_append,List.length_cons,List.length_nil]; omega),zAA,if_neg (by decide)]
      simp only [List.append_assoc]
  · intro st hI
    unfold zC3
    simp only []
    rw [zAH (Nat.le_refl _),zAB]; rfl
def wrtT (t:GMediaType):Str:=wrtP ((t.fType++[47])++t.fSub) t.fParams
theorem zOB (t:GMediaType) (h1:t.fType.length≤1000) (h2:t.fSub.length≤1000) (h:smPs t.fParams):zDo t=some (wrtT t):=by
  unfold zDo wrtT
  rw [zDR (by omega) (by simp),zAA,zDR (by simp; omega) (by omega),zAA,zOd _ _ (by simp; omega) h,zAA]
theorem zM1 (t:GMediaType) (h1:t.fType.length≤1000) (h2:t.fSub.length≤1000) (h:smPs t.fParams):zCa t=some (wrtT t):=by
  unfold zCa wrtT
  rw [zDR (by omega) (by simp),zAA,zDR (by simp; omega) (by omega),zAA,zMw _ _ (by simp; omega) h,zAA]
end Go.Eng.Pure
namespace Go.Eng.Pure
open Go Go.Eng
set_option linter.unusedVariables false
theorem low45 (x:UInt8):(lowB x==45)=(x==45):=by
  have:=zMU (fun c=>(lowB c==45)==(c==45)) (by decide +kernel) x
  exact beq_iff_eq.1 this
def preL:List Str→List Str→Bool
  | [],_=>true
  | _ :: _,[]=>false
  | x :: xs,y :: ys=>fold x y&&preL xs ys
theorem zPs (x y:UInt8) (a b:Str):fold (x :: a) (y :: b)=((lowB x==lowB y)&&fold a b):=by
  unfold fold lower
  rw [Bool.eq_iff_iff]
  simp only [List.length_cons,List.map_cons,Bool.and_eq_true,beq_iff_eq,List.cons.injEq]
  constructor
  · rintro ⟨h1,h2,h3⟩; exact ⟨h2,by omega,h3⟩
  · rintro ⟨h1,h2,h3⟩; exact ⟨by omega,h1,h3⟩
theorem zGr (c:UInt8) (s:Str):∃ y ys,zAU c s=y :: ys:=by
  cases h:zAU c s with
  | nil=>exact absurd h (zEt c s)
  | cons y ys=>exact ⟨y,ys,rfl⟩
theorem zIf (c x:UInt8) (s:Str) {y:Str} {ys:List Str} (h:zAU c s=y :: ys):zAU c (x :: s)=if x=c then [] :: y :: ys else (x :: y) :: ys:=by
  rw [zAU,h]
theorem zMK:∀ r t:Str,(lower r++[45]).isPrefixOf (lower t++[45])=preL (zAU 45 r) (zAU 45 t)
  | [],[]=>rfl
  | [],c :: t=>by
    obtain ⟨y,ys,hy⟩:=zGr 45 t
    have h:=low45 c
    show ((45:UInt8)==lowB c&&List.isPrefixOf [] (lower t++[45]))=preL [[]] (zAU 45 (c :: t))
    rw [zIf 45 c t hy]
    by_cases hc:c=45
    · subst hc; rfl
    · rw [if_neg hc]
      have h1:(lowB c==45)=false:=by rw [h]; simpa using hc
      have h2:((45:UInt8)==lowB c)=false:=by
        rw [beq_eq_false_iff_ne] at h1 ⊢; exact fun e=>h1 e.symm
      rw [h2]; rfl
  | x :: r,[]=>by
    obtain ⟨y,ys,hy⟩:=zGr 45 r
    have h:=low45 x
    show ((lowB x==(45:UInt8))&&List.isPrefixOf (lower r++[45]) [])=preL (zAU 45 (x :: r)) [[]]
    have e:List.isPrefixOf (lower r++[45]) []=false:=by cases lower r <;> rfl
    rw [zIf 45 x r hy,e,Bool.and_false]
    by_cases hx:x=45
    · rw [if_pos hx]; rfl
    · rw [if_neg hx]; rfl
  | x :: r,c :: t=>by
    have ih:=zMK r t
    obtain ⟨y,ys,hy⟩:=zGr 45 r
    obtain ⟨z,zs,hz⟩:=zGr 45 t
    have hx:=low45 x
    have hc:=low45 c
    show (lowB x==lowB c&&List.isPrefixOf (lower r++[45]) (lower t++[45]))=preL (zAU 45 (x :: r)) (zAU 45 (c :: t))
    rw [ih,zIf 45 x r hy,zIf 45 c t hz,hy,hz]
    by_cases h1:x=45
    · by_cases h2:c=45
      · subst h1; subst h2
        rw [if_pos rfl,if_pos rfl]
        show _=(fold [] []&&preL (y :: ys) (z :: zs)); rfl
      · subst h1
        rw [if_pos rfl,if_neg h2]
        have:((lowB 45==lowB c):Bool)=false:=by
          rw [beq_eq_false_iff_ne] ; intro e
          have:(lowB c==45)=true:=by rw [← e]; rfl
          rw [hc] at this; exact h2 (beq_iff_eq.1 this)
        rw [this]; rfl
    · by_cases h2:c=45
      · subst h2
        rw [if_neg h1,if_pos rfl]
        have:((lowB x==lowB 45):Bool)=false:=by
          show (lowB x==45)=false
          rw [hx]; simpa using h1
        rw [this]; rfl
      · rw [if_neg h1,if_neg h2]
        show (lowB x==lowB c&&(fold y z&&preL ys zs))=(fold (x :: y) (c :: z)&&preL ys zs)
        rw [zPs,Bool.and_assoc]
def zMa (r t:Str):Int:=if !((r==[42])||langS r)||!langS t then -1 else if r=[42] then 0 else if preL (zAU 45 r) (zAU 45 t) then ((zAU 45 r).length:Int) else -1
theorem zMf (s:Str) (hs:s.length≤1000000):zDk s=some ((s==[42])||langS s):=by
  unfold zDk
  rw [zPy s hs]
  cases s==[42] <;> rfl
theorem zKq (s:Str) (hs:s.length≤1000000):zEa s=some ((s==[42])||langS s):=by
  unfold zEa
  rw [zND s hs]
  cases s==[42] <;> rfl
theorem zOp (r t:Str) (hr:r.length≤1000000) (ht:t.length≤1000000):zEl r t=some (zMa r t):=by
  have hc:r.count 45≤r.length:=List.count_le_length
  unfold zEl zMa
  rw [zMf r hr,zAA,zPy t ht]
  cases ((r==[42])||langS r) with
  | false=>rfl
  | true =>
    cases langS t with
    | false=>rfl
    | true =>
      simp only [Bool.not_true,zAB,zAA,Bool.or_self,Bool.false_eq_true,if_false]
      by_cases h:r=[42]
      · subst h; rfl
      · rw [show (r == [42]) = false by simpa using h, zAB, if_neg h, zBL _ (by omega), zAA, zDR (by rw [zCG]; omega) (by simp), zAA,
          zBL _ (by omega),zAA,zDR (by rw [zCG]; omega) (by simp),zAA]
        unfold zEb
        rw [Etag.HasPrefix_eq,zAA,zAA,zMK]
        cases preL (zAU 45 r) (zAU 45 t) with
        | false=>rfl
        | true =>
          rw [Bool.not_true,zAB,if_pos rfl]
          unfold zDK
          rw [show ((([45]:Str).length:Int)==0)=false from rfl,zAB,show ((([45]:Str).length:Int)==1)=true from rfl,zAC,zBF,zAA,zAA,wrs (by omega),zFS]
theorem zOe (r t:Str) (hr:r.length≤1000000) (ht:t.length≤1000000):zEq r t=some (zMa r t):=by
  have hc:r.count 45≤r.length:=List.count_le_length
  have hlr:=zFS 45 r
  unfold zEq zMa
  rw [zKq r hr,zAA,zND t ht]
  cases ((r==[42])||langS r) with
  | false=>rfl
  | true =>
    cases langS t with
    | false=>rfl
    | true =>
      simp only [Bool.not_true,zAB,zAA,Bool.or_self,Bool.false_eq_true,if_false]
      by_cases h:r=[42]
      · subst h; rfl
      · rw [show (r==[42])=false by simpa using h,zAB,if_neg h,zIx r hr,zAA,zIx t ht,zAA]
        have hsr:=zHR 45 r
        have hst:=zHR 45 t
        have key:∀ (k n:Nat),n+k=(zAU 45 r).length→n≤(zAU 45 t).length→zAF (zBG (zAU 45 r) (zAU 45 t)) (n:Int)=some (if preL ((zAU 45 r).drop n) ((zAU 45 t).drop n) then .inl () else .inr (-1)):=by
          generalize zAU 45 r=R at *
          generalize zAU 45 t=T at *
          intro k
          induction k with
          | zero =>
            intro n hn hle
            have:n=R.length:=by omega
            subst this
            rw [zAE (r:=.inl ())]
            · rw [List.drop_length]; rfl
            · unfold zBG
              rw [zAH (Nat.le_refl _),zAB]
          | succ k ih =>
            intro n hn hle
            have hlt:n<R.length:=by omega
            rw [List.drop_eq_getElem_cons hlt]
            by_cases hT:n<T.length
            · have h1:=hsr _ (List.getElem_mem hlt)
              have h2:=hst _ (List.getElem_mem hT)
              have hne:=hT
              rw [List.drop_eq_getElem_cons hT,preL]
              have hb:zBG R T (n:Int)=some (if fold R[n] T[n] then .inl ((n+1:Nat):Int) else .inr (.inr (-1))):=by
                unfold zBG
                rw [zAK hlt,zAC,eqI,show (n==T.length)=false by rw [beq_eq_false_iff_ne]; omega,zAB,zAG hlt,zAA,zAG hT,zAA,zEj _ _ (by omega) (by omega),zAA,zAA,wrs (by omega)]
                cases fold R[n] T[n] <;> rfl
              cases hf:fold R[n] T[n] with
              | true=>rw [hf,if_pos rfl] at hb; rw [zAI hb,ih (n+1) (by omega) (by omega),Bool.true_and]
              | false=>rw [hf,if_neg (by decide)] at hb; rw [zAE hb]; rfl
            · by_cases hE:n=T.length
              · rw [zAE (r:=.inr (-1))]
                · rw [show T.drop n=[] from List.drop_of_length_le (by omega)]; rfl
                · unfold zBG
                  rw [zAK hlt,zAC,eqI,show (n==T.length)=true by simpa using hE]; rfl
              · exact absurd (by omega) hE
        have:=key (zAU 45 r).length 0 (by omega) (by omega)
        rw [show ((0:Nat):Int)=0 from rfl,List.drop_zero,List.drop_zero] at this
        rw [this,zAA]
        cases preL (zAU 45 r) (zAU 45 t) <;> rfl
theorem seq (a b:Str):(a==b)=decide (a=b):=by rw [Bool.eq_iff_iff]; simp
def parIn (l:List GParam) (p:GParam):Bool:=l.any fun x=>x.fName==p.fName&&fold x.fValue p.fValue
def zML (r t:GMediaType):Int :=
  bif (r.fType==[42])&&(r.fSub==[42]) then 0 else bif r.fType==t.fType then (bif r.fSub==[42] then 1 else bif r.fSub==t.fSub then (bif r.fParams.all (parIn t.fParams) then 2+(r.fParams.length:Int) else -1) else -1) else -1
def smPv (l:List GParam):Prop:=l.length≤1000001∧∀ p ∈ l,p.fValue.length≤1000000
theorem zMi (l:List GParam) (p:GParam) (h:smPv l) (hp:p.fValue.length≤1000000):zCo l p=some (parIn l p):=by
  unfold zCo parIn
  rw [zDe (zBO l p) l (fun x=>x.fName==p.fName&&fold x.fValue p.fValue) (.inr true) (.inl ()),zAA]
  · cases l.any fun x=>x.fName==p.fName&&fold x.fValue p.fValue <;> rfl
  · intro n hn
    have hx:=h.2 _ (List.getElem_mem hn)
    have hl:=h.1
    unfold zBO
    rw [zAK hn,zAC,zAG hn,zAA,zI1 _ _ (by omega) (by omega),wrs (by omega)]
    cases l[n].fName==p.fName <;> cases fold l[n].fValue p.fValue <;> simp
  · unfold zBO
    rw [zAH (Nat.le_refl _),zAB]
theorem zNy (l : List GParam) (p : GParam → Bool) (body : Int → Option (Int ⊕ (Unit ⊕ Int))) (h : ∀ (n : Nat) (hn : n < l.length), body (n : Int) = some (if p l[n] then .inl ((n + 1 : Nat) : Int) else .inr (.inr (-1))))
    (h':body (l.length:Int)=some (.inr (.inl ()))):zAF body 0=some (if l.all p then .inl () else .inr (-1)):=by
  rw [zDe body l (fun x=>!p x) (.inr (-1)) (.inl ())]
  · have:l.any (fun x=>!p x)=!l.all p:=by rw [List.all_eq_not_any_not]; simp
    rw [this]
    cases l.all p <;> rfl
  · intro n hn
    rw [h n hn]
    cases p l[n] <;> simp
  · exact h'
theorem zOr (r t:GMediaType) (hr:smPv r.fParams) (ht:smPv t.fParams):zEJ r t=some (zML r t):=by
  have hl:=hr.1
  unfold zEJ zML
  rw [zNy r.fParams (parIn t.fParams) (zB0 r t)]
  · have hw:wr (2+(r.fParams.length:Int))=2+(r.fParams.length:Int):=wr_eq ⟨by omega,by omega⟩
    rw [hw,zAA]
    simp only [bne]
    cases r.fType==[42] <;> cases r.fSub==[42] <;> cases r.fType==t.fType <;> cases r.fSub==t.fSub <;> cases r.fParams.all (parIn t.fParams) <;> rfl
  · intro n hn
    have hp:=hr.2 _ (List.getElem_mem hn)
    unfold zB0
    rw [zAK hn,zAC,zAG hn,zAA,zMi _ _ ht hp,zAA,wrs (by omega)]
    cases parIn t.fParams r.fParams[n] <;> rfl
  · unfold zB0
    rw [zAH (Nat.le_refl _),zAB]
theorem zOP (r t:GMediaType) (n:Nat) (hn:n<r.fParams.length) (hp:(r.fParams[n]).fValue.length≤1000000) (ht:smPv t.fParams):zAF (zA8 r t (n:Int)) (false,0)=some (parIn t.fParams r.fParams[n]):=by
  have hl:=ht.1
  have key:∀ (k j:Nat) (b:Bool),j+k=t.fParams.length→zAF (zA8 r t (n:Int)) (b,(j:Int))=some (b||parIn (t.fParams.drop j) r.fParams[n]):=by
    intro k
    induction k with
    | zero =>
      intro j b hj
      have:j=t.fParams.length:=by omega
      subst this
      rw [zAE (r:=b)]
      · rw [List.drop_length]; simp [parIn]
      · unfold zA8
        simp only []
        rw [zAH (Nat.le_refl _),zAB]
    | succ k ih =>
      intro j b hj
      have hlt:j<t.fParams.length:=by omega
      have hx:=ht.2 _ (List.getElem_mem hlt)
      have hb:zA8 r t (n:Int) (b,(j:Int))=some (.inl (b||(t.fParams[j].fName==r.fParams[n].fName&&fold t.fParams[j].fValue r.fParams[n].fValue),((j+1:Nat):Int))):=by
        unfold zA8
        simp only []
        rw [zAK hlt,zAC,zAG hn,zAA,zAG hlt,wrs (by omega)]
        simp only [zAA]
        rw [zEj _ _ (by omega) (by omega),zO3]
        have e:(r.fParams[n].fName==t.fParams[j].fName)=(t.fParams[j].fName==r.fParams[n].fName):=by
          rw [Bool.eq_iff_iff,beq_iff_eq,beq_iff_eq]; exact ⟨Eq.symm,Eq.symm⟩
        rw [e]
        cases b <;> cases t.fParams[j].fName==r.fParams[n].fName <;> rfl
      rw [zAI hb,ih (j+1) _ (by omega),List.drop_eq_getElem_cons hlt]
      unfold parIn
      rw [List.any_cons,Bool.or_assoc]
  have:=key t.fParams.length 0 false (by omega)
  rw [List.drop_zero,Bool.false_or] at this
  exact this
theorem zOD (r t:GMediaType) (hr:smPv r.fParams) (ht:smPv t.fParams):zEB r t=some (zML r t):=by
  have hl:=hr.1
  unfold zEB zML
  rw [zNy r.fParams (parIn t.fParams) (zBu r t)]
  · have hw:wr (2+(r.fParams.length:Int))=2+(r.fParams.length:Int):=wr_eq ⟨by omega,by omega⟩
    rw [hw,zAA]
    simp only [bne]
    cases r.fType==[42] <;> cases r.fSub==[42] <;> cases r.fType==t.fType <;> cases r.fSub==t.fSub <;> cases r.fParams.all (parIn t.fParams) <;> rfl
  · intro n hn
    have hp:=hr.2 _ (List.getElem_mem hn)
    unfold zBu
    rw [zAK hn,zAC,zOP r t n hn hp ht,zAA,wrs (by omega)]
    cases parIn t.fParams r.fParams[n] <;> rfl
  · unfold zBu
    rw [zAH (Nat.le_refl _),zAB]
def zLq (k:Int) (r v:Str):Int:=bif r==[42] then 0 else bif canS k r==canS k v then 1 else -1
theorem zP5 (k:Int) (r v:Str) (hr:r.length≤1000000) (hv:v.length≤1000000):zFw k r v=some (zLq k r v):=by
  unfold zFw zLq
  rw [zMD k r (by omega),zAA,zMD k v (by omega),zAA]
  cases r==[42] <;> cases canS k r==canS k v <;> rfl
theorem zOH (k:Int) (r v:Str) (hr:r.length≤1000000) (hv:v.length≤1000000):zDJ k r v=some (zLq k r v):=by
  unfold zDJ zLq
  rw [zHK k r (by omega),zAA,zHK k v (by omega),zAA]
  cases r==[42] <;> cases canS k r==canS k v <;> rfl
def zIP (k:Int) (r v:Str):Int :=
  if k=1 then (bif (zCB r).2&&(typeS v).2 then zML (zCB r).1 (typeS v).1 else -1) else if k=2 then zMa r v
  else if k=3∨k=4 then (bif (tok r&&tok v)&&(v !=[42]) then zLq k r v else -1) else -1
theorem zLM (s:Str):∀ p ∈ (parS s).2.1,p.fName.length≤s.length∧p.fValue.length≤s.length:=by
  obtain ⟨c1,c2⟩:=zI7 59 s
  have ho:∀ m:Str,m.length≤s.length→(oneS m).1.length≤s.length∧(oneS m).2.1.length≤s.length:=by
    intro m hm
    have hu:=zP8 (m.drop (m.idxOf 61+1))
    unfold oneS
    split
    · have h1:(lower (m.take (m.idxOf 61))).length≤s.length:=by rw [zCG,List.length_take]; omega
      have h2:(m.drop (m.idxOf 61+1)).length≤s.length:=by rw [List.length_drop]; omega
      split
      · exact ⟨h1,h2⟩
      · exact ⟨h1,by simp only []; omega⟩
    · simp
  have hp:∀ (l:List Str) (acc ps:List GParam),(∀ x ∈ l,x.length≤s.length)→(∀ p ∈ acc,p.fName.length≤s.length∧p.fValue.length≤s.length)→parL l acc=some ps→∀ p ∈ ps,p.fName.length≤s.length∧p.fValue.length≤s.length:=by
    intro l
    induction l with
    | nil=>intro acc ps _ ha h; unfold parL at h; injection h with h; subst h; exact ha
    | cons m l ih =>
      intro acc ps hm ha h
      have hl:∀ x ∈ l,x.length≤s.length:=fun x hx=>hm x (List.mem_cons_of_mem _ hx)
      unfold parL at h
      split at h
      · exact ih _ _ hl ha h
      · split at h
        · refine ih _ _ hl ?_ h
          intro p hp
          rcases List.mem_append.1 hp with hp | hp
          · exact ha p hp
          · rw [List.mem_singleton] at hp
            subst hp
            exact ho (trim m) (Nat.le_trans (zIe m) (hm m List.mem_cons_self))
        · cases h
  unfold parS
  cases hc:cutS 59 s with
  | nil=>simp
  | cons x l =>
    rw [hc] at c1 c2
    show ∀ p ∈ (parC x l).2.1,_
    unfold parC
    split
    · simp
    · split
      · rename_i ps h
        exact hp l [] ps (fun y hy=>c1 y (List.mem_cons_of_mem _ hy)) (by simp) h
      · simp
theorem zHJ (s:Str):(zCB s).1.fType.length≤s.length∧(zCB s).1.fSub.length≤s.length∧(zCB s).1.fParams.length≤s.length+1∧∀ p ∈ (zCB s).1.fParams,p.fName.length≤s.length∧p.fValue.length≤s.length:=by
  obtain ⟨l1,l2⟩:=zHw s
  have l3:=zLM s
  unfold zCB
  split
  · refine ⟨?_,?_,l2,l3⟩
    · rw [zCG,List.length_take]; omega
    · rw [zCG,List.length_drop]; omega
  · simp [noT]
theorem zQl (s:Str):(typeS s).1.fType.length≤s.length∧(typeS s).1.fSub.length≤s.length∧(typeS s).1.fParams.length≤s.length+1∧∀ p ∈ (typeS s).1.fParams,p.fName.length≤s.length∧p.fValue.length≤s.length:=by
  unfold typeS
  split
  · simp [noT]
  · exact zHJ s
theorem zPA {s:Str} (hs:s.length≤1000000):smPv (zCB s).1.fParams:=by
  obtain ⟨_,_,h3,h4⟩:=zHJ s
  exact ⟨by omega,fun p hp=>by have:=(h4 p hp).2; omega⟩
theorem zRR {s:Str} (hs:s.length≤1000000):smPv (typeS s).1.fParams:=by
  obtain ⟨_,_,h3,h4⟩:=zQl s
  exact ⟨by omega,fun p hp=>by have:=(h4 p hp).2; omega⟩
theorem zP3 (k:Int) (r v:Str) (hr:r.length≤1000000) (hv:v.length≤1000000):zF0 k r v=some (zIP k r v):=by
  unfold zF0 zIP
  rw [zJt r hr,zAA,zNw v hv,zAA,zOr _ _ (zPA hr) (zRR hv),zAA,zOp r v hr hv,zAA,zCk r (by omega),zAA,zCk v (by omega),zAA,zP5 k r v hr hv,zAA]
  by_cases h1:k=1
  · subst h1
    rw [if_pos rfl]
    cases (zCB r).2 <;> cases (typeS v).2 <;> rfl
  rw [if_neg h1,show (k==1)=false by simpa using h1,zAB]
  by_cases h2:k=2
  · subst h2; rfl
  rw [if_neg h2,show (k==2)=false by simpa using h2,zAB]
  by_cases h3:k=3
  · subst h3
    rw [if_pos (.inl rfl)]
    simp only [bne]
    cases tok r <;> cases tok v <;> cases v==[42] <;> rfl
  by_cases h4:k=4
  · subst h4
    rw [if_pos (.inr rfl)]
    simp only [bne]
    cases tok r <;> cases tok v <;> cases v==[42] <;> rfl
  rw [if_neg (by omega),show (k==3)=false by simpa using h3,show (k==4)=false by simpa using h4]
  rfl
theorem zN9 (k:Int) (r v:Str) (hr:r.length≤1000000) (hv:v.length≤1000000):zG1 k r v=some (zIP k r v):=by
  unfold zG1 zIP
  rw [zJy r hr,zAA,zN6 v hv,zAA,zOD _ _ (zPA hr) (zRR hv),zAA,zOe r v hr hv,zAA,zCs r (by omega),zAA,zCs v (by omega),zAA,zOH k r v hr hv,zAA]
  by_cases h1:k=1
  · subst h1
    rw [if_pos rfl]
    cases (zCB r).2 <;> cases (typeS v).2 <;> rfl
  rw [if_neg h1,show (k==1)=false by simpa using h1,zAB]
  by_cases h2:k=2
  · subst h2; rfl
  rw [if_neg h2,show (k==2)=false by simpa using h2,zAB]
  by_cases h3:k=3
  · subst h3
    rw [if_pos (.inl rfl)]
    simp only [bne]
    cases tok r <;> cases tok v <;> cases v==[42] <;> rfl
  by_cases h4:k=4
  · subst h4
    rw [if_pos (.inr rfl)]
    simp only [bne]
    cases tok r <;> cases tok v <;> cases v==[42] <;> rfl
  rw [if_neg (by omega),show (k==3)=false by simpa using h3,show (k==4)=false by simpa using h4]
  rfl
end Go.Eng.Pure
