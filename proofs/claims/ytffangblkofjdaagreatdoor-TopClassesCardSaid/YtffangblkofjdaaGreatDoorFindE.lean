/- A part. -/
import Derived.Test.YtffangblkofjdaaGreatDoorTabW
set_option linter.unusedVariables false
namespace Go.Eng.Pure
open Go Go.Eng
def dv (c:UInt8):Int:=((c - 48).toNat:Int)
def dg (c:UInt8):Bool:=!(decide (c<48))&&!(decide (57<c))
theorem dv_lt (c:UInt8) (h:dg c=true):0≤dv c∧dv c≤9:=by
  unfold dv dg at *
  simp only [Bool.and_eq_true,Bool.not_eq_true',decide_eq_false_iff_not,UInt8.lt_iff_toNat_lt,UInt8.toNat_sub] at *
  have h48:(48:UInt8).toNat=48:=rfl
  have h57:(57:UInt8).toNat=57:=rfl
  have:=c.toNat_lt
  omega
def sumQ:List Int→List UInt8→Int→Option Int
  | w :: ws,c :: cs,q=>if dg c then sumQ ws cs (q+w*dv c) else none
  | _,_,q=>some q
def finQ:Option Int→Int×Bool
  | some q=>if 1000<q then (0,false) else (q,true)
  | none=>(0,false)
def zE2:Str→Int×Bool
  | []=>(0,false)
  | [a]=>if a=48∨a=49 then finQ (some (1000*dv a)) else (0,false)
  | a :: b :: r=>if (a=48∨a=49)∧b=46∧r.length≤3 then finQ (sumQ [100,10,1] r (1000*dv a)) else (0,false)
theorem zKN (c:UInt8):(bif decide (c<48) then some true else some (decide (57<c)))=some (!dg c):=by
  simp only [dg]
  cases decide (c<48) <;> cases decide (57<c) <;> rfl
def outQ:Option Int→Int ⊕ (Int×Bool)
  | some q=>.inl q
  | none=>.inr (0,false)
theorem zL0 (s : Str) (l : List Int) (q : Int) (i : Nat) (hi : 2 ≤ i) (hs : i < s.length) (hl : i < l.length) (hb : s.length ≤ 5) (hw : 0 ≤ l[i] ∧ l[i] ≤ 1000) (hq : 0 ≤ q ∧ q ≤ 1000000) :
    zAf s l (q,(i:Int))=some (if dg s[i] then .inl (q+l[i]*dv s[i],((i+1:Nat):Int)) else .inr (.inr (0,false))):=by
  have e0:decide ((i:Int)<(l.length:Int))=true:=by simp; omega
  have e1:((i:Int)==1)=false:=by simp; omega
  have e2:xnth l (i:Int)=some l[i]:=by rw [zGP,List.getElem?_eq_getElem hl]
  have e3:xnth s (i:Int)=some s[i]:=by rw [zGP,List.getElem?_eq_getElem hs]
  simp only [zAf,e0,e1,e2,e3,zAC,zAB,zAA,zKN]
  cases hd:dg s[i] with
  | false=>rfl
  | true =>
    have hv:=dv_lt _ hd
    have hv':((s[i] - 48).toNat:Int)=dv s[i]:=rfl
    have hm:0≤l[i]*dv s[i]∧l[i]*dv s[i]≤9000:=by
      refine ⟨Int.mul_nonneg hw.1 hv.1,?_⟩
      have:=Int.mul_le_mul hw.2 hv.2 hv.1 (by omega:(0:Int)≤1000)
      omega
    rw [hv',zEn (n:=l[i]*dv s[i]) (by omega) (by omega),zEn (by omega) (by omega),zEn (by omega) (by omega)]
    simp
theorem zOB (s : Str) (l : List Int) (hsl : s.length = l.length) (hb : s.length ≤ 5) (hw : ∀ (i : Nat) (h : i < l.length), 0 ≤ l[i] ∧ l[i] ≤ 1000) :
    ∀ (k i:Nat) (q:Int),2≤i→i+k=s.length→0≤q∧q≤900000 - 9000*(k:Int)→zAE (zAf s l) (q,(i:Int))=some (outQ (sumQ (l.drop i) (s.drop i) q)):=by
  intro k
  induction k with
  | zero =>
    intro i q hi hk hq
    have e0:decide ((i:Int)<(l.length:Int))=false:=by simp; omega
    rw [zAF (r:=.inl q)]
    · rw [List.drop_eq_nil_of_le (by omega)]; rfl
    · simp only [zAf,e0,zAB]
  | succ k ih =>
    intro i q hi hk hq
    have hs:i<s.length:=by omega
    have hl:i<l.length:=by omega
    have hr:=zL0 s l q i hi hs hl hb (hw i hl) ⟨hq.1,by omega⟩
    rw [List.drop_eq_getElem_cons hs,List.drop_eq_getElem_cons hl]
    cases hd:dg s[i] with
    | false =>
      rw [hd] at hr
      rw [zAF (by simpa using hr)]
      simp [sumQ,hd,outQ]
    | true =>
      rw [hd] at hr
      have hv:=dv_lt _ hd
      have hm:0≤l[i]*dv s[i]∧l[i]*dv s[i]≤9000:=by
        refine ⟨Int.mul_nonneg (hw i hl).1 hv.1,?_⟩
        have:=Int.mul_le_mul (hw i hl).2 hv.2 hv.1 (by omega:(0:Int)≤1000)
        omega
      rw [zAI (by simpa using hr),← Int.natCast_one,← Int.natCast_add,ih (i+1) _ (by omega) (by omega) ⟨by omega,by omega⟩]
      simp [sumQ,hd]
theorem zPO (a:UInt8):(bif a !=48 then some (a !=49) else some false)=some (!(decide (a=48∨a=49))):=by
  by_cases h:a=48
  · subst h; rfl
  · have:(a !=48)=true:=by simp [h]
    rw [this,zAC]
    by_cases h2:a=49
    · subst h2; rfl
    · have:(a !=49)=true:=by simp [h2]
      simp [this,h,h2]
theorem zOV {a:UInt8} (h:a=48∨a=49):dg a=true∧0≤dv a∧dv a≤1:=by
  rcases h with rfl | rfl <;> decide
theorem zQc (s:Str) (hb:s.length≤5):zBW s=some (zE2 s):=by
  match s,hb with
  | [],_=>simp [zBW,zE2]
  | [a],_ =>
    have e:((([a]:Str)==[])||decide (5<(([a]:Str).length:Int)))=false:=rfl
    have e1:decide (1<(([a]:Str).length:Int))=false:=rfl
    have e2:xsub ([1000,0,100,10,1]:List Int) 0 (([a]:Str).length:Int)=some [1000]:=rfl
    simp only [zBW,e,e1,e2,zAB,zDD,zAA,zPO]
    by_cases h:a=48∨a=49
    · obtain ⟨hd,hv⟩:=zOV h
      simp only [h,decide_true,Bool.not_true,zAB,zAA]
      have r1:zAf [a] [1000] (0,0)=some (.inl (1000*dv a,1)):=by
        have e3:decide ((0:Int)<(([1000]:List Int).length:Int))=true:=rfl
        have e4:xnth ([1000]:List Int) 0=some 1000:=rfl
        have e5:((0:Int)==1)=false:=rfl
        have hv':((a - 48).toNat:Int)=dv a:=rfl
        simp only [zAf,e3,e4,e5,zAC,zAB,zAA,zDD,zKN,hd,Bool.not_true,hv']
        rw [zEn (n:=1000*dv a) (by omega) (by omega),zEn (by omega) (by omega),zEn (by omega) (by omega)]
        simp
      have r2:zAf [a] [1000] (1000*dv a,1)=some (.inr (.inl (1000*dv a))):=rfl
      rw [zAI r1,zAF r2]
      simp only [zAA,zE2,h,if_true,finQ]
      by_cases hq:1000<1000*dv a
      · simp [hq]
      · simp [hq]
    · simp [h,zE2]
  | a :: b :: r,hb =>
    have hr3:r.length≤3:=by simp at hb; omega
    have e:(((a :: b :: r:Str)==[])||decide (5<((a :: b :: r:Str).length:Int)))=false:=by
      have:((a :: b :: r:Str)==[])=false:=rfl
      rw [this]; simp; omega
    have e1:decide (1<((a :: b :: r:Str).length:Int))=true:=by simp; omega
    have e2:xsub ([1000,0,100,10,1]:List Int) 0 ((a :: b :: r:Str).length:Int)=some (1000 :: 0 :: [100,10,1].take r.length):=by
      rw [zJG ⟨by omega,by omega,by simp; omega⟩]
      have:(((a :: b :: r:Str).length:Int)).toNat=r.length+2:=by simp; omega
      rw [this]; rfl
    have e3:xnth (a :: b :: r) 1=some b:=rfl
    simp only [zBW,e,e1,e2,e3,zAB,zAC,zDD,zAA,zPO]
    by_cases h:a=48∨a=49
    · by_cases hb2:b=46
      · obtain ⟨hd,hv⟩:=zOV h
        have e4:(b !=46)=false:=by simp [hb2]
        simp only [h,e4,decide_true,Bool.not_true,zAB,zAA]
        have hsl:(a :: b :: r).length=(1000 :: 0 :: [100,10,1].take r.length:List Int).length:=by simp; omega
        have hws:∀ (i:Nat) (h:i<(1000 :: 0 :: [100,10,1].take r.length:List Int).length),0≤(1000 :: 0 :: [100,10,1].take r.length:List Int)[i]∧(1000 :: 0 :: [100,10,1].take r.length:List Int)[i]≤1000:=by
          intro i hi
          have hm:(1000 :: 0 :: [100,10,1].take r.length:List Int)[i] ∈ ([1000,0,100,10,1]:List Int):=by
            have h1:=List.getElem_mem hi
            simp only [List.mem_cons] at h1 ⊢
            rcases h1 with h1 | h1 | h1
            · exact .inl h1
            · exact .inr (.inl h1)
            · have:=List.mem_of_mem_take h1
              simp only [List.mem_cons] at this
              exact .inr (.inr this)
          simp only [List.mem_cons,List.mem_nil_iff,or_false] at hm
          omega
        generalize hL:(1000 :: 0 :: [100,10,1].take r.length:List Int)=l at hsl hws ⊢
        have r1:zAf (a :: b :: r) l (0,0)=some (.inl (1000*dv a,1)):=by
          have e3:decide ((0:Int)<(l.length:Int))=true:=by rw [← hL]; simp; omega
          have e4:xnth l 0=some 1000:=by rw [← hL]; rfl
          have e5:((0:Int)==1)=false:=rfl
          have hv':((a - 48).toNat:Int)=dv a:=rfl
          simp only [zAf,e3,e4,e5,zAC,zAB,zAA,zDD,zKN,hd,Bool.not_true,hv']
          rw [zEn (n:=1000*dv a) (by omega) (by omega),zEn (by omega) (by omega),zEn (by omega) (by omega)]
          simp
        have r2:zAf (a :: b :: r) l (1000*dv a,1)=some (.inl (1000*dv a,((2:Nat):Int))):=by
          have e3:decide ((1:Int)<(l.length:Int))=true:=by rw [← hL]; simp; omega
          have e4:xnth l 1=some 0:=by rw [← hL]; rfl
          have e5:((1:Int)==1)=true:=rfl
          simp only [zAf,e3,e4,e5,zAC,zAA]
          rw [zEn (by omega) (by omega)]
          rfl
        rw [zAI r1,zAI r2,zOB _ _ hsl hb hws r.length 2 _ (Nat.le_refl _) (by simp; omega) ⟨by omega,by omega⟩]
        have hsum:sumQ (l.drop 2) ((a :: b :: r).drop 2) (1000*dv a)=sumQ [100,10,1] r (1000*dv a):=by
          rw [← hL]
          match r,hr3 with
          | [],_=>rfl
          | [_],_=>simp [sumQ]
          | [_,_],_=>simp [sumQ]
          | [_,_,_],_=>simp [sumQ]
        rw [hsum]
        have hp:zE2 (a :: b :: r)=finQ (sumQ [100,10,1] r (1000*dv a)):=by simp [zE2,h,hb2,hr3]
        rw [hp]
        cases sumQ [100,10,1] r (1000*dv a) with
        | none=>rfl
        | some q =>
          simp only [outQ,finQ,zAA]
          by_cases hq:1000<q
          · simp [hq]
          · simp [hq]
      · have e4:(b !=46)=true:=by simp [hb2]
        simp [h,hb2,e4,zE2]
    · simp [h,zE2]
theorem zN8 (s:Str) (hb:5<s.length):zBW s=some (0,false):=by
  have e:((s==[])||decide (5<(s.length:Int)))=true:=by simp; right; omega
  simp only [zBW,e,zAC,zAA]
theorem zMM (s:Str) (hb:5<s.length):zE2 s=(0,false):=by
  match s,hb with
  | a :: b :: r,hb=>simp [zE2]; intro _ _ h; simp at hb; omega
theorem zOc (s:Str):zBW s=some (zE2 s):=by
  by_cases h:s.length≤5
  · exact zQc s h
  · rw [zN8 s (by omega),zMM s (by omega)]
end Go.Eng.Pure
namespace Go.Eng.Pure
open Go Go.Eng
set_option linter.unusedVariables false
theorem zLX (s:Str) (hs:s.length≤1073741824):zEP s=some (quote s):=zQB s hs
def parT (p:GParam):Str:=(([59]++p.fName)++[61])++(if tok p.fValue then p.fValue else quote p.fValue)
def wrtP (v:Str) (l:List GParam):Str:=v++l.flatMap parT
def smPs (l:List GParam):Prop:=l.length≤1000∧∀ p ∈ l,p.fName.length≤1000∧p.fValue.length≤1000
theorem zMV (v:Str):(if tok v then v else quote v).length≤2*v.length+2:=by
  have:=zK8 v
  split <;> omega
theorem zQl {p:GParam} (h:p.fName.length≤1000∧p.fValue.length≤1000):(parT p).length≤4000:=by
  have:=zMV p.fValue
  unfold parT
  simp only [List.length_append,List.length_cons,List.length_nil]
  omega
theorem zNp (v:Str) (l:List GParam) (hv:v.length≤1000000) (h:smPs l):zEi v l=some (wrtP v l):=by
  unfold zEi zAa
  rw [WS_eq v [] (by omega) (by simp),zAA]
  have:=zD8 (fun (st:Str) i=>(i,st)) l (fun st p=>st++parT p) id (zCD l) (fun n st=>st.length≤1000000+4000*n) v (by omega) ?_ ?_
  · simp only [List.nil_append]
    rw [this,zAA,zAA]; unfold wrtP; rw [zKT]; rfl
  · intro n hn st hI
    have hp:=h.2 _ (List.getElem_mem hn)
    have hl:=h.1
    have htl:=zQl hp
    have hvl:=zMV l[n].fValue
    have hql:=zK8 l[n].fValue
    refine ⟨?_,by rw [List.length_append]; omega⟩
    unfold zCD
    simp only []
    rw [zAN hn,zAC,zAK hn,zAA,
      zET (by simp) (by omega),zAA,zET (by simp only [List.length_append,List.length_cons,List.length_nil]; omega) (by simp),zAA,
      WS_eq _ st (by simp only [List.length_append,List.length_cons,List.length_nil]; omega) (by omega),zAA,zCi _ (by omega),zAA,wrs (by omega)]
    simp only []
    unfold parT
    cases ht:tok l[n].fValue with
    | true =>
      rw [zAC,WS_eq _ _ (by omega) (by simp only [List.length_append,List.length_cons,List.length_nil]; omega),zAA,if_pos rfl]
      simp only [List.append_assoc]
    | false =>
      rw [zAB,zLX _ (by omega),zAA,WS_eq _ _ (by omega) (by simp only [List.length_append,List.length_cons,List.length_nil]; omega),zAA,if_neg (by decide)]
      simp only [List.append_assoc]
  · intro st hI
    unfold zCD
    simp only []
    rw [zAM (Nat.le_refl _),zAB]; rfl
def wrtT (t:GMediaType):Str:=wrtP ((t.fType++[47])++t.fSub) t.fParams
theorem zOM (t:GMediaType) (h1:t.fType.length≤1000) (h2:t.fSub.length≤1000) (h:smPs t.fParams):zCh t=some (wrtT t):=by
  unfold zCh wrtT
  rw [zET (by omega) (by simp),zAA,zET (by simp; omega) (by omega),zAA,zNp _ _ (by simp; omega) h,zAA]
end Go.Eng.Pure
namespace Go.Eng.Pure
open Go Go.Eng
set_option linter.unusedVariables false
theorem low45 (x:UInt8):(lowB x==45)=(x==45):=by
  have:=zLU (fun c=>(lowB c==45)==(c==45)) (by decide +kernel) x
  exact beq_iff_eq.1 this
def preL:List Str→List Str→Bool
  | [],_=>true
  | _ :: _,[]=>false
  | x :: xs,y :: ys=>fold x y&&preL xs ys
theorem zPa (x y:UInt8) (a b:Str):fold (x :: a) (y :: b)=((lowB x==lowB y)&&fold a b):=by
  unfold fold lower
  rw [Bool.eq_iff_iff]
  simp only [List.length_cons,List.map_cons,Bool.and_eq_true,beq_iff_eq,List.cons.injEq]
  constructor
  · rintro ⟨h1,h2,h3⟩; exact ⟨h2,by omega,h3⟩
  · rintro ⟨h1,h2,h3⟩; exact ⟨by omega,h1,h3⟩
theorem zFa (c:UInt8) (s:Str):∃ y ys,zAZ c s=y :: ys:=by
  cases h:zAZ c s with
  | nil=>exact absurd h (zDk c s)
  | cons y ys=>exact ⟨y,ys,rfl⟩
theorem zHX (c x:UInt8) (s:Str) {y:Str} {ys:List Str} (h:zAZ c s=y :: ys):zAZ c (x :: s)=if x=c then [] :: y :: ys else (x :: y) :: ys:=by
  rw [zAZ,h]
theorem zLL:∀ r t:Str,(lower r++[45]).isPrefixOf (lower t++[45])=preL (zAZ 45 r) (zAZ 45 t)
  | [],[]=>rfl
  | [],c :: t=>by
    obtain ⟨y,ys,hy⟩:=zFa 45 t
    have h:=low45 c
    show ((45:UInt8)==lowB c&&List.isPrefixOf [] (lower t++[45]))=preL [[]] (zAZ 45 (c :: t))
    rw [zHX 45 c t hy]
    by_cases hc:c=45
    · subst hc; rfl
    · rw [if_neg hc]
      have h1:(lowB c==45)=false:=by rw [h]; simpa using hc
      have h2:((45:UInt8)==lowB c)=false:=by
        rw [beq_eq_false_iff_ne] at h1 ⊢; exact fun e=>h1 e.symm
      rw [h2]; rfl
  | x :: r,[]=>by
    obtain ⟨y,ys,hy⟩:=zFa 45 r
    have h:=low45 x
    show ((lowB x==(45:UInt8))&&List.isPrefixOf (lower r++[45]) [])=preL (zAZ 45 (x :: r)) [[]]
    have e:List.isPrefixOf (lower r++[45]) []=false:=by cases lower r <;> rfl
    rw [zHX 45 x r hy,e,Bool.and_false]
    by_cases hx:x=45
    · rw [if_pos hx]; rfl
    · rw [if_neg hx]; rfl
  | x :: r,c :: t=>by
    have ih:=zLL r t
    obtain ⟨y,ys,hy⟩:=zFa 45 r
    obtain ⟨z,zs,hz⟩:=zFa 45 t
    have hx:=low45 x
    have hc:=low45 c
    show (lowB x==lowB c&&List.isPrefixOf (lower r++[45]) (lower t++[45]))=preL (zAZ 45 (x :: r)) (zAZ 45 (c :: t))
    rw [ih,zHX 45 x r hy,zHX 45 c t hz,hy,hz]
    by_cases h1:x=45
    · by_cases h2:c=45
      · subst h1; subst h2
        rw [if_pos rfl,if_pos rfl]
        show _=(fold [] []&&preL (y :: ys) (z :: zs)); rfl
      · subst h1
        rw [if_pos rfl,if_neg h2]
        have:((lowB 45==lowB c):Bool)=false:=by
          rw [beq_eq_false_iff_ne] ; intro e
          have:(lowB c==45)=true:=by rw [← e]; rfl
          rw [hc] at this; exact h2 (beq_iff_eq.1 this)
        rw [this]; rfl
    · by_cases h2:c=45
      · subst h2
        rw [if_neg h1,if_pos rfl]
        have:((lowB x==lowB 45):Bool)=false:=by
          show (lowB x==45)=false
          rw [hx]; simpa using h1
        rw [this]; rfl
      · rw [if_neg h1,if_neg h2]
        show (lowB x==lowB c&&(fold y z&&preL ys zs))=(fold (x :: y) (c :: z)&&preL ys zs)
        rw [zPa,Bool.and_assoc]
def zPD (r t:Str):Int:=if !((r==[42])||langS r)||!langS t then -1 else if r=[42] then 0 else if preL (zAZ 45 r) (zAZ 45 t) then ((zAZ 45 r).length:Int) else -1
theorem zLA (s:Str) (hs:s.length≤1000000):zB3 s=some ((s==[42])||langS s):=by
  unfold zB3
  rw [zPI s hs]
  cases s==[42] <;> rfl
theorem zPP (r t:Str) (hr:r.length≤1000000) (ht:t.length≤1000000):zDb r t=some (zPD r t):=by
  have hc:r.count 45≤r.length:=List.count_le_length
  unfold zDb zPD
  rw [zLA r hr,zAA,zPI t ht]
  cases ((r==[42])||langS r) with
  | false=>rfl
  | true =>
    cases langS t with
    | false=>rfl
    | true =>
      simp only [Bool.not_true,zAB,zAA,Bool.or_self,Bool.false_eq_true,if_false]
      by_cases h:r=[42]
      · subst h; rfl
      · rw [show (r == [42]) = false by simpa using h, zAB, if_neg h, zBa _ (by omega), zAA, zET (by rw [zCz]; omega) (by simp), zAA,
          zBa _ (by omega),zAA,zET (by rw [zCz]; omega) (by simp),zAA]
        unfold zDP
        rw [Etag.HasPrefix_eq,zAA,zAA,zLL]
        cases preL (zAZ 45 r) (zAZ 45 t) with
        | false=>rfl
        | true =>
          rw [Bool.not_true,zAB,if_pos rfl]
          unfold zBw
          rw [show ((([45]:Str).length:Int)==0)=false from rfl,zAB,show ((([45]:Str).length:Int)==1)=true from rfl,zAC,zDD,zAA,zAA,wrs (by omega),zGS]
theorem seq (a b:Str):(a==b)=decide (a=b):=by rw [Bool.eq_iff_iff]; simp
def parIn (l:List GParam) (p:GParam):Bool:=l.any fun x=>x.fName==p.fName&&fold x.fValue p.fValue
def zPc (r t:GMediaType):Int :=
  bif (r.fType==[42])&&(r.fSub==[42]) then 0 else bif r.fType==t.fType then (bif r.fSub==[42] then 1 else bif r.fSub==t.fSub then (bif r.fParams.all (parIn t.fParams) then 2+(r.fParams.length:Int) else -1) else -1) else -1
def smPv (l:List GParam):Prop:=l.length≤1000001∧∀ p ∈ l,p.fValue.length≤1000000
theorem zLe (l:List GParam) (p:GParam) (h:smPv l) (hp:p.fValue.length≤1000000):zCA l p=some (parIn l p):=by
  unfold zCA parIn
  rw [zF1 (zBb l p) l (fun x=>x.fName==p.fName&&fold x.fValue p.fValue) (.inr true) (.inl ()),zAA]
  · cases l.any fun x=>x.fName==p.fName&&fold x.fValue p.fValue <;> rfl
  · intro n hn
    have hx:=h.2 _ (List.getElem_mem hn)
    have hl:=h.1
    unfold zBb
    rw [zAN hn,zAC,zAK hn,zAA,zHq _ _ (by omega) (by omega),wrs (by omega)]
    cases l[n].fName==p.fName <;> cases fold l[n].fValue p.fValue <;> simp
  · unfold zBb
    rw [zAM (Nat.le_refl _),zAB]
theorem zQa (l : List GParam) (p : GParam → Bool) (body : Int → Option (Int ⊕ (Unit ⊕ Int))) (h : ∀ (n : Nat) (hn : n < l.length), body (n : Int) = some (if p l[n] then .inl ((n + 1 : Nat) : Int) else .inr (.inr (-1))))
    (h':body (l.length:Int)=some (.inr (.inl ()))):zAE body 0=some (if l.all p then .inl () else .inr (-1)):=by
  rw [zF1 body l (fun x=>!p x) (.inr (-1)) (.inl ())]
  · have:l.any (fun x=>!p x)=!l.all p:=by rw [List.all_eq_not_any_not]; simp
    rw [this]
    cases l.all p <;> rfl
  · intro n hn
    rw [h n hn]
    cases p l[n] <;> simp
  · exact h'
theorem zO6 (r t:GMediaType) (hr:smPv r.fParams) (ht:smPv t.fParams):zC2 r t=some (zPc r t):=by
  have hl:=hr.1
  unfold zC2 zPc
  rw [zQa r.fParams (parIn t.fParams) (zB9 r t)]
  · have hw:wr (2+(r.fParams.length:Int))=2+(r.fParams.length:Int):=wr_eq ⟨by omega,by omega⟩
    rw [hw,zAA]
    simp only [bne]
    cases r.fType==[42] <;> cases r.fSub==[42] <;> cases r.fType==t.fType <;> cases r.fSub==t.fSub <;> cases r.fParams.all (parIn t.fParams) <;> rfl
  · intro n hn
    have hp:=hr.2 _ (List.getElem_mem hn)
    unfold zB9
    rw [zAN hn,zAC,zAK hn,zAA,zLe _ _ ht hp,zAA,wrs (by omega)]
    cases parIn t.fParams r.fParams[n] <;> rfl
  · unfold zB9
    rw [zAM (Nat.le_refl _),zAB]
def zOs (k:Int) (r v:Str):Int:=bif r==[42] then 0 else bif canS k r==canS k v then 1 else -1
theorem zOa (k:Int) (r v:Str) (hr:r.length≤1000000) (hv:v.length≤1000000):zEe k r v=some (zOs k r v):=by
  unfold zEe zOs
  rw [zK1 k r (by omega),zAA,zK1 k v (by omega),zAA]
  cases r==[42] <;> cases canS k r==canS k v <;> rfl
def zJ6 (k:Int) (r v:Str):Int :=
  if k=1 then (bif (zCX r).2&&(typeS v).2 then zPc (zCX r).1 (typeS v).1 else -1) else if k=2 then zPD r v
  else if k=3∨k=4 then (bif (tok r&&tok v)&&(v !=[42]) then zOs k r v else -1) else -1
theorem zKj (s:Str):∀ p ∈ (parS s).2.1,p.fName.length≤s.length∧p.fValue.length≤s.length:=by
  obtain ⟨c1,c2⟩:=zKP 59 s
  have ho:∀ m:Str,m.length≤s.length→(oneS m).1.length≤s.length∧(oneS m).2.1.length≤s.length:=by
    intro m hm
    have hu:=zRW (m.drop (m.idxOf 61+1))
    unfold oneS
    split
    · have h1:(lower (m.take (m.idxOf 61))).length≤s.length:=by rw [zCz,List.length_take]; omega
      have h2:(m.drop (m.idxOf 61+1)).length≤s.length:=by rw [List.length_drop]; omega
      split
      · exact ⟨h1,h2⟩
      · exact ⟨h1,by simp only []; omega⟩
    · simp
  have hp:∀ (l:List Str) (acc ps:List GParam),(∀ x ∈ l,x.length≤s.length)→(∀ p ∈ acc,p.fName.length≤s.length∧p.fValue.length≤s.length)→parL l acc=some ps→∀ p ∈ ps,p.fName.length≤s.length∧p.fValue.length≤s.length:=by
    intro l
    induction l with
    | nil=>intro acc ps _ ha h; unfold parL at h; injection h with h; subst h; exact ha
    | cons m l ih =>
      intro acc ps hm ha h
      have hl:∀ x ∈ l,x.length≤s.length:=fun x hx=>hm x (List.mem_cons_of_mem _ hx)
      unfold parL at h
      split at h
      · exact ih _ _ hl ha h
      · split at h
        · refine ih _ _ hl ?_ h
          intro p hp
          rcases List.mem_append.1 hp with hp | hp
          · exact ha p hp
          · rw [List.mem_singleton] at hp
            subst hp
            exact ho (trim m) (Nat.le_trans (zIV m) (hm m List.mem_cons_self))
        · cases h
  unfold parS
  cases hc:cutS 59 s with
  | nil=>simp
  | cons x l =>
    rw [hc] at c1 c2
    show ∀ p ∈ (parC x l).2.1,_
    unfold parC
    split
    · simp
    · split
      · rename_i ps h
        exact hp l [] ps (fun y hy=>c1 y (List.mem_cons_of_mem _ hy)) (by simp) h
      · simp
theorem zG7 (s:Str):(zCX s).1.fType.length≤s.length∧(zCX s).1.fSub.length≤s.length∧(zCX s).1.fParams.length≤s.length+1∧∀ p ∈ (zCX s).1.fParams,p.fName.length≤s.length∧p.fValue.length≤s.length:=by
  obtain ⟨l1,l2⟩:=zHf s
  have l3:=zKj s
  unfold zCX
  split
  · refine ⟨?_,?_,l2,l3⟩
    · rw [zCz,List.length_take]; omega
    · rw [zCz,List.length_drop]; omega
  · simp [noT]
theorem zP5 (s:Str):(typeS s).1.fType.length≤s.length∧(typeS s).1.fSub.length≤s.length∧(typeS s).1.fParams.length≤s.length+1∧∀ p ∈ (typeS s).1.fParams,p.fName.length≤s.length∧p.fValue.length≤s.length:=by
  unfold typeS
  split
  · simp [noT]
  · exact zG7 s
theorem zRV {s:Str} (hs:s.length≤1000000):smPv (zCX s).1.fParams:=by
  obtain ⟨_,_,h3,h4⟩:=zG7 s
  exact ⟨by omega,fun p hp=>by have:=(h4 p hp).2; omega⟩
theorem zSR {s:Str} (hs:s.length≤1000000):smPv (typeS s).1.fParams:=by
  obtain ⟨_,_,h3,h4⟩:=zP5 s
  exact ⟨by omega,fun p hp=>by have:=(h4 p hp).2; omega⟩
theorem zPh (k:Int) (r v:Str) (hr:r.length≤1000000) (hv:v.length≤1000000):zEZ k r v=some (zJ6 k r v):=by
  unfold zEZ zJ6
  rw [zJR r hr,zAA,zMr v hv,zAA,zO6 _ _ (zRV hr) (zSR hv),zAA,zPP r v hr hv,zAA,zCi r (by omega),zAA,zCi v (by omega),zAA,zOa k r v hr hv,zAA]
  by_cases h1:k=1
  · subst h1
    rw [if_pos rfl]
    cases (zCX r).2 <;> cases (typeS v).2 <;> rfl
  rw [if_neg h1,show (k==1)=false by simpa using h1,zAB]
  by_cases h2:k=2
  · subst h2; rfl
  rw [if_neg h2,show (k==2)=false by simpa using h2,zAB]
  by_cases h3:k=3
  · subst h3
    rw [if_pos (.inl rfl)]
    simp only [bne]
    cases tok r <;> cases tok v <;> cases v==[42] <;> rfl
  by_cases h4:k=4
  · subst h4
    rw [if_pos (.inr rfl)]
    simp only [bne]
    cases tok r <;> cases tok v <;> cases v==[42] <;> rfl
  rw [if_neg (by omega),show (k==3)=false by simpa using h3,show (k==4)=false by simpa using h4]
  rfl
end Go.Eng.Pure
namespace Go.Eng.Pure
open Go Go.Eng
set_option linter.unusedVariables false
def isQ (p:GParam):Bool:=p.fName==[113]
def qAt (l:List GParam):Nat:=l.findIdx isQ
theorem zR8 (l:List GParam):qAt l≤l.length:=List.findIdx_le_length
theorem zSC (l:List GParam) (hl:l.length≤1073741824):zAP l zCV=some (if qAt l<l.length then (qAt l:Int) else -1):=by
  have key:∀ (k n:Nat),n+k=l.length→zAE (zAG l zCV) (n:Int)=some (if n+qAt (l.drop n)<l.length then .inr ((n+qAt (l.drop n):Nat):Int) else .inl ()):=by
    intro k
    induction k with
    | zero =>
      intro n hn
      obtain rfl:n=l.length:=by omega
      rw [zAF (r:=.inl ()),if_neg (by omega)]
      simp only [zAG,zAM (Nat.le_refl l.length),zAB]
    | succ k ih =>
      intro n hn
      have hlt:n<l.length:=by omega
      have hb:zAG l zCV (n:Int)=some (if isQ l[n] then .inr (.inr (n:Int)) else .inl ((n+1:Nat):Int)):=by
        simp only [zAG,zAN hlt,zAC,zAK hlt,zAA,wrs (show n≤4*1073741824 by omega)]
        unfold zCV
        rw [zAA]
        show (bif isQ l[n] then _ else _)=_
        cases isQ l[n] <;> rfl
      have hq:qAt (l.drop n)=if isQ l[n] then 0 else qAt (l.drop (n+1))+1:=by
        unfold qAt
        rw [List.drop_eq_getElem_cons hlt,List.findIdx_cons]
        cases isQ l[n] <;> rfl
      rw [hq]
      cases hp:isQ l[n] with
      | true =>
        rw [hp,if_pos rfl] at hb
        rw [zAF hb,if_pos rfl,if_pos (by omega)]; rfl
      | false =>
        rw [hp,if_neg (by decide)] at hb
        rw [zAI hb,ih (n+1) (by omega),if_neg (show ¬ (false=true) by decide)]
        have e:n+1+qAt (l.drop (n+1))=n+(qAt (l.drop (n+1))+1):=by omega
        rw [e]
  have:=key l.length 0 (by omega)
  rw [show ((0:Nat):Int)=0 from rfl,List.drop_zero,Nat.zero_add] at this
  unfold zAP
  rw [this,zAA]
  by_cases h:qAt l<l.length
  · rw [if_pos h,if_pos h]
  · rw [if_neg h,if_neg h]
def rngS (k:Int) (v:Str) (ps:List GParam):Str×Bool :=
  if k=1 then (wrtT ⟨(zCX v).1.fType,(zCX v).1.fSub,ps⟩,(zCX v).2)
  else if k=2 then (canS k v,((v==[42])||langS v)&&((ps.length:Int)==0))
  else (canS k v,tok v&&((ps.length:Int)==0))
def qOf (l:List GParam):Int×Bool:=match l[qAt l]? with | some p=>zE2 p.fValue | none=>(1000,true)
def prefT (k:Int) (r:Str×List GParam×Bool):GPref×Bool :=
  if !r.2.2 then (⟨[],0⟩,false) else if !(qOf r.2.1).2 then (⟨[],0⟩,false)
  else (⟨(rngS k r.1 (r.2.1.take (qAt r.2.1))).1,(qOf r.2.1).1⟩,(rngS k r.1 (r.2.1.take (qAt r.2.1))).2)
def prefS (k:Int) (m:Str):GPref×Bool:=prefT k (parS m)
theorem zLl (k:Int) (v:Str) (ps:List GParam) (hv:v.length≤1000) (hp:smPs ps):zDC k v ps=some (rngS k v ps):=by
  obtain ⟨r1,r2,_,_⟩:=zG7 v
  unfold zDC rngS
  by_cases h1:k=1
  · rw [if_pos h1,decide_eq_true h1,zAC]
    unfold zEF
    rw [zJR v (by omega),zAA,zOM _ (by simp only []; omega) (by simp only []; omega) hp,zAA,zAA]
  rw [if_neg h1,decide_eq_false h1,zAB]
  by_cases h2:k=2
  · rw [if_pos h2,decide_eq_true h2,zAC]
    unfold zEE
    rw [zK1 k v (by omega),zAA,zLA v (by omega),zAA,zAA]
  rw [if_neg h2,decide_eq_false h2,zAB,zK1 k v (by omega),zAA,zCi v (by omega),zAA]
theorem zR6 (l:List GParam) (h:smPs l):smPs (l.take (qAt l)) :=
  ⟨by rw [List.length_take]; have:=h.1; omega,fun p hp=>h.2 p (List.mem_of_mem_take hp)⟩
theorem zQ4 {m:Str} (h:m.length≤300):(parS m).1.length≤300∧smPs (parS m).2.1:=by
  obtain ⟨l1,l2⟩:=zHf m
  have l3:=zKj m
  exact ⟨by omega,by omega,fun p hp=>by have:=l3 p hp; omega⟩
theorem zRk (k:Int) (m:Str) (h:m.length≤300):zFW k m=some (prefS k m):=by
  obtain ⟨h1,h2⟩:=zQ4 h
  unfold zFW prefS
  rw [zKz m (by omega),zAA]
  generalize parS m=r at *
  obtain ⟨v,ps,ok⟩:=r
  unfold prefT
  simp only [] at h1 h2 ⊢
  cases ok with
  | false=>rfl
  | true =>
    have hl:=h2.1
    have hle:=zR8 ps
    rw [Bool.not_true,zAB,if_neg (by decide),zSC ps (by omega),zAA]
    unfold qOf
    by_cases hq:qAt ps<ps.length
    · rw [if_pos hq,decide_eq_true (by omega),zAC,zAK hq,zAA,zOc,zAA,List.getElem?_eq_getElem hq]
      simp only []
      cases hb:(zE2 ps[qAt ps].fValue).2 with
      | false=>rfl
      | true =>
        rw [Bool.not_true,zAB,zGp (by omega),zAA,zAA]
        simp only []
        rw [zLl k v _ (by omega) (zR6 ps h2),zAA]
        rfl
    · have hx:qAt ps=ps.length:=by omega
      rw [if_neg hq,List.getElem?_eq_none (by omega)]
      simp only []
      rw [show decide ((0:Int)≤-1)=false from rfl,zAB,zAA]
      simp only []
      rw [zLl k v _ (by omega) h2,zAA,hx,List.take_length]
      rfl
def nameF (k:Int):Str:=if k=1 then [65,99,99,101,112,116] else if k=2 then [65,99,99,101,112,116,45,76,97,110,103,117,97,103,101]
  else if k=3 then [65,99,99,101,112,116,45,67,104,97,114,115,101,116] else if k=4 then [65,99,99,101,112,116,45,69,110,99,111,100,105,110,103] else []
theorem zRt (k:Int):zBC k=some (nameF k):=by
  unfold zBC nameF
  by_cases h1:k=1
  · subst h1; rfl
  by_cases h2:k=2
  · subst h2; rfl
  by_cases h3:k=3
  · subst h3; rfl
  by_cases h4:k=4
  · subst h4; rfl
  rw [show (k==1)=false by simpa using h1,show (k==2)=false by simpa using h2,show (k==3)=false by simpa using h3,show (k==4)=false by simpa using h4,if_neg h1,if_neg h2,if_neg h3,if_neg h4]
  rfl
theorem zOw (k:Int):(nameF k).length≤100:=by
  unfold nameF
  split
  · decide
  split
  · decide
  split
  · decide
  split <;> decide
def prefO (k:Int) (m:Str):Option GPref:=if (prefS k m).2 then some (prefS k m).1 else none
def zIG (k:Int) (l:List GField):List GPref×Bool:=if nameF k=[] then ([],false) else if hasF l (nameF k) then ((allM l (nameF k)).filterMap (prefO k),true) else ([],false)
theorem zPX (k:Int) (ms:List Str) (acc:List GPref):ms.foldl (fun a x=>if (prefS k x).2 then a++[(prefS k x).1] else a) acc=acc++ms.filterMap (prefO k):=by
  rw [← zJE]
  congr 1
  funext a x
  unfold prefO
  cases (prefS k x).2 <;> rfl
theorem zPy {l:List GField} (h:smL l):l.length≤1073741824∧∀ f ∈ l,smF f:=⟨by have:=h.1; omega,fun f hf=>by have:=h.2 f hf; exact ⟨by omega,by omega⟩⟩
theorem zQn (k:Int) (l:List GField) (hl:smL l):zDg k l=some (zIG k l):=by
  obtain ⟨b1,b2⟩:=zPy hl
  have hn:=zOw k
  have hm:=zKD l (nameF k)
  have hs:=zKY l (nameF k) 300 fun f hf=>(hl.2 f hf).2
  unfold zDg zIG
  rw [zRt,zAA,zQy l _ b1 b2 (by omega),zAA,zPT l _ b1 b2 (by omega),zAA]
  generalize allM l (nameF k)=ms at *
  have:=zD8 (fun (st:List GPref) i=>(st,i)) ms (fun a x=>if (prefS k x).2 then a++[(prefS k x).1] else a) id (zDE k ms) (fun n st=>st.length≤n) [] (by simp) ?_ ?_
  · rw [this,zAA,zPX,List.nil_append]
    by_cases h1:nameF k=[]
    · rw [if_pos h1,h1]; rfl
    · rw [if_neg h1,show (nameF k==[])=false by simpa using h1,zAB,zAA]
      cases hasF l (nameF k) <;> rfl
  · intro n hn st hI
    have hx:=hs _ (List.getElem_mem hn)
    refine ⟨?_,?_⟩
    · unfold zDE
      simp only []
      rw [zAN hn,zAC,zAK hn,zAA,zRk k _ hx,zAA,wrs (by omega)]
      cases (prefS k ms[n]).2 with
      | true=>rw [zAC,zBd (by omega) (zCY _),zAA]; rfl
      | false=>rfl
    · split
      · rw [List.length_append,List.length_singleton]; omega
      · omega
  · intro st hI
    unfold zDE
    simp only []
    rw [zAM (Nat.le_refl _),zAB]; rfl
theorem zRM (k:Int) (s:Str):(canS k s).length≤s.length+10:=by
  unfold canS
  split
  · simp
  split
  · simp
  · rw [zCz]; omega
theorem zLP (B:Nat):∀ l:List GParam,(∀ p ∈ l,(parT p).length≤B)→(l.flatMap parT).length≤B*l.length
  | [],_=>by simp
  | p :: l,h=>by
    have h1:=h p List.mem_cons_self
    have h2:=zLP B l fun q hq=>h q (List.mem_cons_of_mem _ hq)
    rw [List.flatMap_cons,List.length_append,List.length_cons,Nat.mul_succ]; omega
theorem zQx (k:Int) (m:Str) (h:m.length≤300):(prefS k m).1.fRange.length≤1000000:=by
  obtain ⟨h1,h2⟩:=zQ4 h
  obtain ⟨l1,l2⟩:=zHf m
  have l3:=zKj m
  unfold prefS
  generalize parS m=r at *
  obtain ⟨v,ps,ok⟩:=r
  unfold prefT
  simp only [] at h1 h2 l2 l3 ⊢
  have hr:(rngS k v (ps.take (qAt ps))).1.length≤1000000:=by
    obtain ⟨r1,r2,_,_⟩:=zG7 v
    have hc:=zRM k v
    unfold rngS
    split
    · have hb := zLP 910 (ps.take (qAt ps)) (fun p hp => by
        have h3:=l3 p (List.mem_of_mem_take hp)
        have h4:=zMV p.fValue
        unfold parT
        simp only [List.length_append,List.length_cons,List.length_nil]
        omega)
      have ht:(ps.take (qAt ps)).length≤301:=by rw [List.length_take]; omega
      simp only []
      unfold wrtT wrtP
      simp only [List.length_append,List.length_cons,List.length_nil]
      omega
    · split
      · simp only []; omega
      · simp only []; omega
  split
  · simp
  split
  · simp
  · exact hr
end Go.Eng.Pure
namespace Go.Eng.Pure
open Go Go.Eng
set_option linter.unusedVariables false
def idN:Str:=[105,100,101,110,116,105,116,121]
def stepQ (k:Int) (v:Str) (st:Int×Int) (p:GPref):Int×Int:=if st.1<zJ6 k p.fRange v then (zJ6 k p.fRange v,p.fQ) else st
def bestQ (k:Int) (l:List GPref) (v:Str) (q:Int):Int×Int:=l.foldl (stepQ k v) (-1,q)
def qualS (k:Int) (l:List GPref) (pr:Bool) (v:Str):Int :=
  if !pr then 1000 else (bestQ k l v (if k=4∧fold v idN=true then 1 else 0)).2
theorem zKp (k : Int) (v : Str) (q q' : Int) : ∀ (l : List GPref) (st st' : Int × Int), st.1 = st'.1 → (st.1 = -1 → st.2 = q ∧ st'.2 = q') → (0 ≤ st.1 → st.2 = st'.2) → -1 ≤ st.1 →
    (l.foldl (stepQ k v) st).1=(l.foldl (stepQ k v) st').1∧((l.foldl (stepQ k v) st).1=-1→(l.foldl (stepQ k v) st).2=q∧(l.foldl (stepQ k v) st').2=q')∧(0≤(l.foldl (stepQ k v) st).1→(l.foldl (stepQ k v) st).2=(l.foldl (stepQ k v) st').2)∧-1≤(l.foldl (stepQ k v) st).1
  | [],st,st',h1,h2,h3,h4=>⟨h1,h2,h3,h4⟩
  | p :: l,st,st',h1,h2,h3,h4=>by
    rw [List.foldl_cons,List.foldl_cons]
    refine zKp k v q q' l _ _ ?_ ?_ ?_ ?_
    all_goals
      unfold stepQ
      try rw [← h1]
      by_cases h:st.1<zJ6 k p.fRange v
      · rw [if_pos h]; first | rw [if_pos h] | skip
        all_goals first | rfl | (intro h5; simp only [] at h5; omega) | (intro _; rfl) | (simp only []; omega)
      · rw [if_neg h]; first | rw [if_neg h] | skip
        all_goals assumption
def smPr (l:List GPref):Prop:=l.length≤1000000∧∀ p ∈ l,p.fRange.length≤1000000
theorem zOJ (k:Int) (l:List GPref) (pr:Bool) (v:Str) (h:smPr l) (hv:v.length≤1000000):zCt k l pr v=some (qualS k l pr v):=by
  unfold zCt qualS
  cases pr with
  | false=>rfl
  | true =>
    have hl:=h.1
    rw [Bool.not_true,zAB,if_neg (by decide)]
    have:=zD8 (fun (st:Int×Int) i=>(st.1,st.2,i)) l (stepQ k v) id (zDH k l v) (fun n st=>True) (-1,0) trivial ?_ ?_
    · rw [this,zAA]
      obtain ⟨e1,e2,e3,e4⟩:=zKp k v 0 (if k=4∧fold v idN=true then 1 else 0) l (-1,0) (-1,(if k=4∧fold v idN=true then 1 else 0)) rfl (fun _=>⟨rfl,rfl⟩) (fun h=>by simp only [] at h; omega) (by simp only []; omega)
      unfold bestQ
      generalize l.foldl (stepQ k v) (-1,0)=a at *
      generalize l.foldl (stepQ k v) (-1,(if k=4∧fold v idN=true then 1 else 0))=b at *
      obtain ⟨a1,a2⟩:=a
      simp only [id] at e1 e2 e3 e4 ⊢
      rw [zHq v _ (by omega) (by decide),zAA]
      by_cases h0:a1=-1
      · obtain ⟨f1,f2⟩:=e2 h0
        rw [f2,f1,decide_eq_true (show a1<0 by omega),Bool.true_and]
        by_cases hk:k=4
        · rw [show (k==4)=true by simpa using hk,zAC,zAA]
          show (bif fold v idN then _ else _)=_
          cases hf:fold v idN with
          | true=>rw [if_pos ⟨hk,rfl⟩]; rfl
          | false=>rw [if_neg (fun h=>by simp at h)]; rfl
        · rw [show (k==4)=false by simpa using hk,if_neg (fun h=>hk h.1)]; rfl
      · rw [decide_eq_false (show ¬ a1<0 by omega),Bool.false_and,zAB,zAA,zAB,e3 (by omega)]
    · intro n hn st _
      have hp:=h.2 _ (List.getElem_mem hn)
      refine ⟨?_,trivial⟩
      unfold zDH stepQ
      simp only []
      rw [zAN hn,zAC,zAK hn,zAA,zPh k _ v hp hv,zAA,wrs (by omega)]
      by_cases hc:st.1<zJ6 k l[n].fRange v
      · rw [decide_eq_true hc,zAC,if_pos hc]
      · rw [decide_eq_false hc,zAB,if_neg hc]
    · intro st _
      unfold zDH
      simp only []
      rw [zAM (Nat.le_refl _),zAB]; rfl
section
variable (Q:Str→Int)
def Dsc (l:List Str):Prop:=l.Pairwise fun a b=>Q b≤Q a
def cls (q:Int) (l:List Str):List Str:=l.filter fun v=>Q v==q
theorem zHi {Q:Str→Int} {q:Int} {l:List Str} {v:Str}:v ∈ cls Q q l↔v ∈ l∧Q v=q:=by
  unfold cls; rw [List.mem_filter,beq_iff_eq]
theorem zI4 (q:Int) (a b:List Str):cls Q q (a++b)=cls Q q a++cls Q q b:=List.filter_append ..
theorem zEk (q:Int) (v:Str) (l:List Str):cls Q q (v :: l)=if Q v=q then v :: cls Q q l else cls Q q l:=by
  unfold cls
  rw [List.filter_cons]
  by_cases h:Q v=q
  · rw [if_pos h,if_pos (by simpa using h)]
  · rw [if_neg h,if_neg (by simpa using h)]
theorem zQZ {q:Int} {l:List Str} (h:∀ v ∈ l,Q v≠q):cls Q q l=[]:=by
  unfold cls
  rw [List.filter_eq_nil_iff]
  intro v hv
  simpa using h v hv
theorem zNC:∀ l m:List Str,Dsc Q l→Dsc Q m→(∀ q,cls Q q l=cls Q q m)→l=m
  | [],[],_,_,_=>rfl
  | [],b :: m,_,_,h=>by
    have:=h (Q b)
    rw [zEk,if_pos rfl] at this
    cases this
  | a :: l,[],_,_,h=>by
    have:=h (Q a)
    rw [zEk,if_pos rfl] at this
    cases this
  | a :: l,b :: m,hl,hm,h=>by
    unfold Dsc at hl hm
    rw [List.pairwise_cons] at hl hm
    have h1:Q b≤Q a:=by
      have hb:b ∈ cls Q (Q b) (a :: l):=by rw [h (Q b)]; exact zHi.2 ⟨List.mem_cons_self,rfl⟩
      rcases List.mem_cons.1 (zHi.1 hb).1 with e | e
      · rw [e]; exact Int.le_refl _
      · exact hl.1 b e
    have h2:Q a≤Q b:=by
      have hb:a ∈ cls Q (Q a) (b :: m):=by rw [← h (Q a)]; exact zHi.2 ⟨List.mem_cons_self,rfl⟩
      rcases List.mem_cons.1 (zHi.1 hb).1 with e | e
      · rw [e]; exact Int.le_refl _
      · exact hm.1 a e
    have h3:Q a=Q b:=by omega
    have h4:=h (Q a)
    rw [zEk,if_pos rfl,zEk,if_pos h3.symm] at h4
    injection h4 with e1 e2
    have:l=m:=by
      refine zNC l m hl.2 hm.2 fun q=>?_
      have h5:=h q
      rw [zEk,zEk,← h3] at h5
      by_cases hq:Q a=q
      · rw [if_pos hq,if_pos hq] at h5; injection h5
      · rw [if_neg hq,if_neg hq] at h5; exact h5
    rw [e1,this]
def Ord (out vs:List Str):Prop:=Dsc Q out∧∀ q,cls Q q out=if 0<q then cls Q q vs else []
theorem zQK {vs a b:List Str} (ha:Ord Q a vs) (hb:Ord Q b vs):a=b:=zNC Q a b ha.1 hb.1 fun q=>by rw [ha.2,hb.2]
theorem zPG {out vs : List Str} (h : Ord Q out vs) (v : Str) (hv : 0 < Q v) (at_ : Nat) (hat : at_ ≤ out.length) (h1 : ∀ x ∈ out.take at_, Q v ≤ Q x) (h2 : ∀ x ∈ out.drop at_, Q x < Q v) :
    Ord Q (out.take at_++[v]++out.drop at_) (vs++[v]):=by
  refine ⟨?_,fun q=>?_⟩
  · have hd:=h.1
    unfold Dsc at hd ⊢
    rw [← List.take_append_drop at_ out,List.pairwise_append] at hd
    rw [List.append_assoc,List.pairwise_append]
    refine ⟨hd.1,?_,?_⟩
    · rw [List.singleton_append,List.pairwise_cons]
      exact ⟨fun b hb=>by have:=h2 b hb; omega,hd.2.1⟩
    · intro a ha b hb
      rcases List.mem_append.1 hb with hb | hb
      · rw [List.mem_singleton] at hb; subst hb; exact h1 a ha
      · exact hd.2.2 a ha b hb
  · have hq:=h.2 q
    rw [← List.take_append_drop at_ out,zI4] at hq
    rw [zI4,zI4,zI4,zEk]
    show cls Q q (out.take at_)++(if Q v=q then [v] else [])++cls Q q (out.drop at_)=_
    by_cases he:Q v=q
    · subst he
      rw [zQZ Q (l:=out.drop at_) (fun x hx=>by have:=h2 x hx; omega),List.append_nil] at hq ⊢
      rw [hq,if_pos hv,if_pos hv,if_pos rfl,if_pos rfl]; rfl
    · rw [if_neg he,List.append_nil,hq]
      split
      · rw [show cls Q q []=[] from rfl,List.append_nil]
      · rfl
theorem zMp {out vs:List Str} (h:Ord Q out vs) (v:Str) (hv:¬ 0<Q v):Ord Q out (vs++[v]):=by
  refine ⟨h.1,fun q=>?_⟩
  rw [h.2 q]
  split
  · rw [zI4,show cls Q q [v]=[] from by rw [zEk,if_neg (by omega)]; rfl,List.append_nil]
  · rfl
end
theorem zNj (Q : Str → Int) (out : List Str) (hl : out.length ≤ 1000000) (q : Int) (hd : Dsc Q out) : ∀ n, n ≤ out.length → (∀ x ∈ out.drop n, Q x < q) →
    ∃ m,m≤out.length∧zAE (zCq (out.map Q) q) (n:Int)=some ((m:Nat):Int)∧(∀ x ∈ out.take m,q≤Q x)∧∀ x ∈ out.drop m,Q x<q:=by
  intro n
  induction n with
  | zero =>
    intro hn h
    refine ⟨0,by omega,zAF ?_,by simp,h⟩
    unfold zCq
    rfl
  | succ n ih =>
    intro hn h
    have hlt:n<out.length:=by omega
    have hlm:n<(out.map Q).length:=by rw [List.length_map]; exact hlt
    have hb:zCq (out.map Q) q ((n+1:Nat):Int)=some (if Q out[n]<q then .inl (n:Int) else .inr ((n+1:Nat):Int)):=by
      unfold zCq
      have e:((n+1:Nat):Int) - 1=(n:Int):=by omega
      rw [decide_eq_true (by omega),zAC,e,wrn (by omega),zAK hlm,zAA,zAA,List.getElem_map]
      by_cases hc:Q out[n]<q
      · rw [decide_eq_true hc,zAC,if_pos hc]
      · rw [decide_eq_false hc,zAB,if_neg hc]
    by_cases hc:Q out[n]<q
    · rw [if_pos hc] at hb
      obtain ⟨m,h1,h2,h3,h4⟩:=ih (by omega) (by
        intro x hx
        rw [List.drop_eq_getElem_cons hlt] at hx
        rcases List.mem_cons.1 hx with rfl | hx
        · exact hc
        · exact h x hx)
      exact ⟨m,h1,by rw [zAI hb]; exact h2,h3,h4⟩
    · rw [if_neg hc] at hb
      refine ⟨n+1,hn,zAF hb,?_,h⟩
      intro x hx
      rw [List.take_succ_eq_append_getElem hlt] at hx
      rcases List.mem_append.1 hx with hx | hx
      · unfold Dsc at hd
        rw [← List.take_append_drop n out,List.pairwise_append] at hd
        have:=hd.2.2 x hx out[n] (by rw [List.drop_eq_getElem_cons hlt]; exact List.mem_cons_self)
        omega
      · rw [List.mem_singleton] at hx; subst hx; omega
theorem zNY {α:Type} (l:List α) (n:Nat) (x:α) (h:n≤l.length) (hl:l.length≤1000000):insS l (n:Int) [x]=some (l.take n++[x]++l.drop n):=by
  unfold insS
  rw [if_pos ⟨by omega,by omega,rfl,by simp only [big]; omega⟩]
  rfl
theorem zP7 (k:Int) (l:List GPref) (pr:Bool) (vs:List Str) (Q:Str→Int) (hv:vs.length≤100000) (hQ:∀ v ∈ vs,zCt k l pr v=some (Q v)):∃ out,zEG k l pr vs=some out∧Ord Q out vs:=by
  have key:∀ (j n:Nat) (out:List Str),n+j=vs.length→out.length≤n→Ord Q out (vs.take n)→∃ r,zAE (zBp k l pr vs) (out,out.map Q,(n:Int))=some r∧Ord Q r vs:=by
    intro j
    induction j with
    | zero =>
      intro n out hn ho h
      have:n=vs.length:=by omega
      subst this
      rw [List.take_length] at h
      refine ⟨out,zAF ?_,h⟩
      unfold zBp
      simp only []
      rw [zAM (Nat.le_refl _),zAB]
    | succ j ih =>
      intro n out hn ho h
      have hlt:n<vs.length:=by omega
      have hx:=hQ _ (List.getElem_mem hlt)
      have ht:=zAj hlt
      by_cases hq:0<Q vs[n]
      · obtain ⟨m,h1,h2,h3,h4⟩:=zNj Q out (by omega) (Q vs[n]) h.1 out.length (Nat.le_refl _) (by simp)
        have hb:zBp k l pr vs (out,out.map Q,(n:Int))=some (.inl (out.take m++[vs[n]]++out.drop m,(out.take m++[vs[n]]++out.drop m).map Q,((n+1:Nat):Int))):=by
          unfold zBp
          simp only []
          rw [zAN hlt,zAC,zAK hlt,zAA,hx,zAA,decide_eq_false (by omega),zAB,List.length_map,h2,zAA,zNY out m _ h1 (by omega),zAA,
            zNY (out.map Q) m _ (by rw [List.length_map]; exact h1) (by rw [List.length_map]; omega),zAA,wrs (by omega)]
          simp only [List.map_append,List.map_take,List.map_drop,List.map_cons,List.map_nil]
        rw [zAI hb]
        refine ih (n+1) _ (by omega) ?_ ?_
        · simp only [List.length_append,List.length_take,List.length_drop,List.length_singleton]; omega
        · rw [ht]; exact zPG Q h _ hq m h1 h3 h4
      · have hb : zBp k l pr vs (out, out.map Q, (n : Int)) = some (.inl (out, out.map Q, ((n + 1 : Nat) : Int))) := by
          unfold zBp
          simp only []
          rw [zAN hlt,zAC,zAK hlt,zAA,hx,zAA,decide_eq_true (by omega),zAC,wrs (by omega)]
        rw [zAI hb]
        refine ih (n+1) _ (by omega) (by omega) ?_
        rw [ht]; exact zMp Q h _ hq
  obtain ⟨r,h1,h2⟩:=key vs.length 0 [] (by omega) (by simp) ⟨List.Pairwise.nil,fun q=>by split <;> rfl⟩
  refine ⟨r,?_,h2⟩
  unfold zEG
  rw [show ((0:Nat):Int)=0 from rfl] at h1
  rw [show (([]:List Str),([]:List Int),(0:Int))=([],List.map Q [],0) from rfl,h1,zAA]
structure RInv (Q:Str→Int) (vs out:List Str) (T:Int):Prop where
  dsc:Dsc Q out
  ge:∀ v ∈ out,T≤Q v∧0<Q v
  cl:∀ q,T≤q→0<q→cls Q q out=cls Q q vs
  nil:out=[]→∀ v ∈ vs,Q v<T
  lst:∀ x,out.getLast?=some x→Q x=T
theorem zR1 {Q:Str→Int} {out vs:List Str} (h:Ord Q out vs):∀ v ∈ out,v ∈ vs:=by
  intro v hv
  have h1:v ∈ cls Q (Q v) out:=zHi.2 ⟨hv,rfl⟩
  rw [h.2] at h1
  split at h1
  · exact (zHi.1 h1).1
  · cases h1
theorem zRT {Q:Str→Int} {out vs:List Str} (h:Ord Q out vs):out.length≤vs.length:=by
  have:out.Perm (vs.filter fun v=>decide (0<Q v)):=by
    refine List.perm_iff_count.2 fun a=>?_
    have hc:∀ l:List Str,(cls Q (Q a) l).count a=l.count a:=fun l=>List.count_filter (by simp)
    rw [← hc out,h.2]
    by_cases ha:0<Q a
    · rw [if_pos ha,hc,List.count_filter (by simpa using ha)]
    · rw [if_neg ha,List.count_nil,List.count_eq_zero.2 (fun hm=>ha (by simpa using (List.mem_filter.1 hm).2))]
  rw [this.length_eq]
  exact List.length_filter_le _ _
end Go.Eng.Pure
namespace Go.Eng.Pure
open Go Go.Eng
set_option linter.unusedVariables false
def insQ (Q:Str→Int) (out:List Str) (v:Str):List Str:=if 0<Q v then out.takeWhile (fun x=>decide (Q v≤Q x))++[v]++out.dropWhile (fun x=>decide (Q v≤Q x)) else out
def rankS (Q:Str→Int) (vs:List Str):List Str:=vs.foldl (insQ Q) []
theorem zNL (Q:Str→Int) (q:Int):∀ out:List Str,Dsc Q out→∀ x ∈ out.dropWhile (fun x=>decide (q≤Q x)),Q x<q
  | [],_,x,hx=>by cases hx
  | a :: out,h,x,hx=>by
    unfold Dsc at h
    rw [List.pairwise_cons] at h
    rw [List.dropWhile_cons] at hx
    by_cases ha:q≤Q a
    · rw [if_pos (by simpa using ha)] at hx
      exact zNL Q q out h.2 x hx
    · rw [if_neg (by simpa using ha)] at hx
      rcases List.mem_cons.1 hx with rfl | hx
      · omega
      · have:=h.1 x hx; omega
theorem zLo (Q:Str→Int) (q:Int):∀ (out:List Str),∀ x ∈ out.takeWhile (fun x=>decide (q≤Q x)),q≤Q x
  | [],x,hx=>by cases hx
  | a :: out,x,hx=>by
    rw [List.takeWhile_cons] at hx
    split at hx
    · rename_i ha
      rcases List.mem_cons.1 hx with rfl | hx
      · simpa using ha
      · exact zLo Q q out x hx
    · cases hx
theorem zMz (Q:Str→Int):∀ (vs done out:List Str),Ord Q out done→Ord Q (vs.foldl (insQ Q) out) (done++vs)
  | [],done,out,h=>by rw [List.append_nil]; exact h
  | v :: vs,done,out,h=>by
    rw [List.foldl_cons,show done++v :: vs=(done++[v])++vs by simp]
    refine zMz Q vs _ _ ?_
    unfold insQ
    by_cases hv:0<Q v
    · rw [if_pos hv]
      have h2:Ord Q (out.takeWhile (fun x=>decide (Q v≤Q x))++out.dropWhile (fun x=>decide (Q v≤Q x))) done:=by rw [List.takeWhile_append_dropWhile]; exact h
      have:=zPG Q h2 v hv (out.takeWhile (fun x=>decide (Q v≤Q x))).length (by rw [List.length_append]; omega) (by rw [List.take_left]; exact zLo Q _ out) (by rw [List.drop_left]; exact zNL Q _ out h.1)
      rw [List.take_left,List.drop_left] at this
      exact this
    · rw [if_neg hv]; exact zMp Q h v hv
theorem zLS (Q:Str→Int) (vs:List Str):Ord Q (rankS Q vs) vs:=by
  have:=zMz Q vs [] [] ⟨List.Pairwise.nil,fun q=>by split <;> rfl⟩
  rwa [List.nil_append] at this
theorem zRD (k:Int) (l:List GPref) (pr:Bool) (vs:List Str) (h:smPr l) (hv:vs.length≤100000) (hs:∀ v ∈ vs,v.length≤1000000):zEG k l pr vs=some (rankS (qualS k l pr) vs):=by
  obtain ⟨r,h1,h2⟩:=zP7 k l pr vs (qualS k l pr) hv fun v hm=>zOJ k l pr v h (hs v hm)
  rw [h1,zQK _ h2 (zLS _ vs)]
theorem zQX (k:Int) (l:List GField) (hl:smL l):smPr (zIG k l).1:=by
  have hm:=zKD l (nameF k)
  have hs:=zKY l (nameF k) 300 fun f hf=>(hl.2 f hf).2
  unfold zIG
  split
  · exact ⟨by simp,by simp⟩
  split
  · refine ⟨Nat.le_trans (List.length_filterMap_le _ _) (by omega),fun p hp=>?_⟩
    rw [List.mem_filterMap] at hp
    obtain ⟨m,h1,h2⟩:=hp
    unfold prefO at h2
    split at h2
    · injection h2 with h2; subst h2
      exact zQx k m (hs m h1)
    · cases h2
  · exact ⟨by simp,by simp⟩
def rk0 (a:GAxis) (l:List GField):List Str :=
  if kindF a.fName≠0 then rankS (qualS (kindF a.fName) (zIG (kindF a.fName) l).1 (zIG (kindF a.fName) l).2) a.fValues
  else if a.fValues.contains (join (allM l a.fName)) then [join (allM l a.fName)] else []
def rkS (l:List GField) (strict:Bool) (a:GAxis):List Str:=if !axN a then [] else if (rk0 a l).isEmpty&&!strict then a.fValues.take 1 else rk0 a l
theorem zRZ (a:GAxis):valB [a]=axN a:=by
  unfold valB chk okA
  simp [chk]
theorem zNe {a:GAxis} (h:axN a=true):1≤a.fValues.length∧a.fValues.length≤16∧chk (okV (domF a.fName)) [] a.fValues=true:=by
  unfold axN axV at h
  simp only [Bool.and_eq_true,decide_eq_true_eq] at h
  exact ⟨h.2.1.1,h.2.1.2,h.2.2⟩
theorem zJ2 (a:GAxis) (l:List GField) (strict:Bool) (ha:smA a) (hl:smL l):zBA a l strict=some (rkS l strict a):=by
  have hn:=ha.1
  obtain ⟨b1,b2⟩:=zPy hl
  obtain ⟨j1,j2⟩:=zNV hl a.fName
  unfold zBA rkS
  rw [zHO [a] (fun x hx=>by rw [List.mem_singleton] at hx; subst hx; exact ha),zAA,zRZ]
  cases hax:axN a with
  | false=>rfl
  | true =>
    obtain ⟨v1,v2,v3⟩:=zNe hax
    have h0:((bif kindF a.fName !=0 then
      (zDg (kindF a.fName) l).bind fun r29=>(zEG (kindF a.fName) r29.1 r29.2 a.fValues).bind fun r36=>some r36
    else
      (zB6 l a.fName).bind fun r42=>(zFG r42).bind fun r48=>(zAe a.fValues r48).bind fun r53=>(bif r53 then some ([r48]:List Str) else some ([]:List Str))))=some (rk0 a l):=by
      unfold rk0
      by_cases hk:kindF a.fName=0
      · rw [hk,if_neg (by simp),show ((0:Int) !=0)=false from rfl,zAB,zPT l _ b1 b2 (by omega),zAA,zPg _ (by omega) (by omega),zAA,zL5 _ _ (by omega),zAA]
        cases a.fValues.contains (join (allM l a.fName)) <;> rfl
      · rw [if_pos hk,show (kindF a.fName !=0)=true by simpa using hk,zAC,zQn _ l hl,zAA,zRD _ _ _ _ (zQX _ l hl) (by omega) ha.2,zAA]
    rw [Bool.not_true,zAB,zMj _ (by omega),zAA,h0,zAA,if_neg (by decide),show (((rk0 a l).length:Int)==0)=((rk0 a l).length==0) from eqI _ 0]
    have e:((rk0 a l).length==0)=(rk0 a l).isEmpty:=by cases rk0 a l <;> rfl
    rw [e]
    cases hc:(rk0 a l).isEmpty&&!strict with
    | true =>
      rw [zAC,if_pos rfl]
      cases hvs:a.fValues with
      | nil=>rw [hvs] at v1; simp at v1
      | cons x xs=>rfl
    | false=>rw [zAB,if_neg (by decide),zAA]
theorem zPw (a:GAxis) (l:List GField) (strict:Bool):(rkS l strict a).length≤16∧∀ v ∈ rkS l strict a,v ∈ a.fValues:=by
  unfold rkS
  cases hax:axN a with
  | false=>exact ⟨by simp,by simp⟩
  | true =>
    obtain ⟨v1,v2,v3⟩:=zNe hax
    rw [if_neg (by decide)]
    split
    · exact ⟨by rw [List.length_take]; omega,fun v hv=>List.mem_of_mem_take hv⟩
    · unfold rk0
      split
      · have:=zLS (qualS (kindF a.fName) (zIG (kindF a.fName) l).1 (zIG (kindF a.fName) l).2) a.fValues
        exact ⟨Nat.le_trans (zRT this) v2,zR1 this⟩
      · split
        · rename_i hc
          exact ⟨by simp,fun v hv=>by rw [List.mem_singleton] at hv; subst hv; simpa using hc⟩
        · exact ⟨by simp,by simp⟩
end Go.Eng.Pure
