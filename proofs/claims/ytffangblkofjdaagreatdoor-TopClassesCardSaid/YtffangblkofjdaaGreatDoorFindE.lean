/- A part. -/
import Derived.Test.YtffangblkofjdaaGreatDoorTabW
set_option linter.unusedVariables false
namespace Go.Eng.Pure
open Go Go.Eng
def dv (c:UInt8):Int:=((c - 48).toNat:Int)
def dg (c:UInt8):Bool:=!(decide (c<48))&&!(decide (57<c))
theorem dv_lt (c:UInt8) (h:dg c=true):0≤dv c∧dv c≤9:=by
  unfold dv dg at *
  simp only [Bool.and_eq_true,Bool.not_eq_true',decide_eq_false_iff_not,UInt8.lt_iff_toNat_lt,UInt8.toNat_sub] at *
  have h48:(48:UInt8).toNat=48:=rfl
  have h57:(57:UInt8).toNat=57:=rfl
  have:=c.toNat_lt
  omega
def sumQ:List Int→List UInt8→Int→Option Int
  | w :: ws,c :: cs,q=>if dg c then sumQ ws cs (q+w*dv c) else none
  | _,_,q=>some q
def finQ:Option Int→Int×Bool
  | some q=>if 1000<q then (0,false) else (q,true)
  | none=>(0,false)
def zE8:Str→Int×Bool
  | []=>(0,false)
  | [a]=>if a=48∨a=49 then finQ (some (1000*dv a)) else (0,false)
  | a :: b :: r=>if (a=48∨a=49)∧b=46∧r.length≤3 then finQ (sumQ [100,10,1] r (1000*dv a)) else (0,false)
theorem zKj (c:UInt8):(bif decide (c<48) then some true else some (decide (57<c)))=some (!dg c):=by
  simp only [dg]
  cases decide (c<48) <;> cases decide (57<c) <;> rfl
def outQ:Option Int→Int ⊕ (Int×Bool)
  | some q=>.inl q
  | none=>.inr (0,false)
theorem zMS (s : Str) (l : List Int) (q : Int) (i : Nat) (hi : 2 ≤ i) (hs : i < s.length) (hl : i < l.length) (hb : s.length ≤ 5) (hw : 0 ≤ l[i] ∧ l[i] ≤ 1000) (hq : 0 ≤ q ∧ q ≤ 1000000) :
    zAg s l (q,(i:Int))=some (if dg s[i] then .inl (q+l[i]*dv s[i],((i+1:Nat):Int)) else .inr (.inr (0,false))):=by
  have e0:decide ((i:Int)<(l.length:Int))=true:=by simp; omega
  have e1:((i:Int)==1)=false:=by simp; omega
  have e2:xnth l (i:Int)=some l[i]:=by rw [zGb,List.getElem?_eq_getElem hl]
  have e3:xnth s (i:Int)=some s[i]:=by rw [zGb,List.getElem?_eq_getElem hs]
  simp only [zAg,e0,e1,e2,e3,zAC,zAB,zAA,zKj]
  cases hd:dg s[i] with
  | false=>rfl
  | true =>
    have hv:=dv_lt _ hd
    have hv':((s[i] - 48).toNat:Int)=dv s[i]:=rfl
    have hm:0≤l[i]*dv s[i]∧l[i]*dv s[i]≤9000:=by
      refine ⟨Int.mul_nonneg hw.1 hv.1,?_⟩
      have:=Int.mul_le_mul hw.2 hv.2 hv.1 (by omega:(0:Int)≤1000)
      omega
    rw [hv',zEk (n:=l[i]*dv s[i]) (by omega) (by omega),zEk (by omega) (by omega),zEk (by omega) (by omega)]
    simp
theorem zOC (s : Str) (l : List Int) (hsl : s.length = l.length) (hb : s.length ≤ 5) (hw : ∀ (i : Nat) (h : i < l.length), 0 ≤ l[i] ∧ l[i] ≤ 1000) :
    ∀ (k i:Nat) (q:Int),2≤i→i+k=s.length→0≤q∧q≤900000 - 9000*(k:Int)→zAE (zAg s l) (q,(i:Int))=some (outQ (sumQ (l.drop i) (s.drop i) q)):=by
  intro k
  induction k with
  | zero =>
    intro i q hi hk hq
    have e0:decide ((i:Int)<(l.length:Int))=false:=by simp; omega
    rw [zAG (r:=.inl q)]
    · rw [List.drop_eq_nil_of_le (by omega)]; rfl
    · simp only [zAg,e0,zAB]
  | succ k ih =>
    intro i q hi hk hq
    have hs:i<s.length:=by omega
    have hl:i<l.length:=by omega
    have hr:=zMS s l q i hi hs hl hb (hw i hl) ⟨hq.1,by omega⟩
    rw [List.drop_eq_getElem_cons hs,List.drop_eq_getElem_cons hl]
    cases hd:dg s[i] with
    | false =>
      rw [hd] at hr
      rw [zAG (by simpa using hr)]
      simp [sumQ,hd,outQ]
    | true =>
      rw [hd] at hr
      have hv:=dv_lt _ hd
      have hm:0≤l[i]*dv s[i]∧l[i]*dv s[i]≤9000:=by
        refine ⟨Int.mul_nonneg (hw i hl).1 hv.1,?_⟩
        have:=Int.mul_le_mul (hw i hl).2 hv.2 hv.1 (by omega:(0:Int)≤1000)
        omega
      rw [zAI (by simpa using hr),← Int.natCast_one,← Int.natCast_add,ih (i+1) _ (by omega) (by omega) ⟨by omega,by omega⟩]
      simp [sumQ,hd]
theorem zPj (a:UInt8):(bif a !=48 then some (a !=49) else some false)=some (!(decide (a=48∨a=49))):=by
  by_cases h:a=48
  · subst h; rfl
  · have:(a !=48)=true:=by simp [h]
    rw [this,zAC]
    by_cases h2:a=49
    · subst h2; rfl
    · have:(a !=49)=true:=by simp [h2]
      simp [this,h,h2]
theorem zPb {a:UInt8} (h:a=48∨a=49):dg a=true∧0≤dv a∧dv a≤1:=by
  rcases h with rfl | rfl <;> decide
theorem zQt (s:Str) (hb:s.length≤5):zBX s=some (zE8 s):=by
  match s,hb with
  | [],_=>simp [zBX,zE8]
  | [a],_ =>
    have e:((([a]:Str)==[])||decide (5<(([a]:Str).length:Int)))=false:=rfl
    have e1:decide (1<(([a]:Str).length:Int))=false:=rfl
    have e2:xsub ([1000,0,100,10,1]:List Int) 0 (([a]:Str).length:Int)=some [1000]:=rfl
    simp only [zBX,e,e1,e2,zAB,zDL,zAA,zPj]
    by_cases h:a=48∨a=49
    · obtain ⟨hd,hv⟩:=zPb h
      simp only [h,decide_true,Bool.not_true,zAB,zAA]
      have r1:zAg [a] [1000] (0,0)=some (.inl (1000*dv a,1)):=by
        have e3:decide ((0:Int)<(([1000]:List Int).length:Int))=true:=rfl
        have e4:xnth ([1000]:List Int) 0=some 1000:=rfl
        have e5:((0:Int)==1)=false:=rfl
        have hv':((a - 48).toNat:Int)=dv a:=rfl
        simp only [zAg,e3,e4,e5,zAC,zAB,zAA,zDL,zKj,hd,Bool.not_true,hv']
        rw [zEk (n:=1000*dv a) (by omega) (by omega),zEk (by omega) (by omega),zEk (by omega) (by omega)]
        simp
      have r2:zAg [a] [1000] (1000*dv a,1)=some (.inr (.inl (1000*dv a))):=rfl
      rw [zAI r1,zAG r2]
      simp only [zAA,zE8,h,if_true,finQ]
      by_cases hq:1000<1000*dv a
      · simp [hq]
      · simp [hq]
    · simp [h,zE8]
  | a :: b :: r,hb =>
    have hr3:r.length≤3:=by simp at hb; omega
    have e:(((a :: b :: r:Str)==[])||decide (5<((a :: b :: r:Str).length:Int)))=false:=by
      have:((a :: b :: r:Str)==[])=false:=rfl
      rw [this]; simp; omega
    have e1:decide (1<((a :: b :: r:Str).length:Int))=true:=by simp; omega
    have e2:xsub ([1000,0,100,10,1]:List Int) 0 ((a :: b :: r:Str).length:Int)=some (1000 :: 0 :: [100,10,1].take r.length):=by
      rw [zI2 ⟨by omega,by omega,by simp; omega⟩]
      have:(((a :: b :: r:Str).length:Int)).toNat=r.length+2:=by simp; omega
      rw [this]; rfl
    have e3:xnth (a :: b :: r) 1=some b:=rfl
    simp only [zBX,e,e1,e2,e3,zAB,zAC,zDL,zAA,zPj]
    by_cases h:a=48∨a=49
    · by_cases hb2:b=46
      · obtain ⟨hd,hv⟩:=zPb h
        have e4:(b !=46)=false:=by simp [hb2]
        simp only [h,e4,decide_true,Bool.not_true,zAB,zAA]
        have hsl:(a :: b :: r).length=(1000 :: 0 :: [100,10,1].take r.length:List Int).length:=by simp; omega
        have hws:∀ (i:Nat) (h:i<(1000 :: 0 :: [100,10,1].take r.length:List Int).length),0≤(1000 :: 0 :: [100,10,1].take r.length:List Int)[i]∧(1000 :: 0 :: [100,10,1].take r.length:List Int)[i]≤1000:=by
          intro i hi
          have hm:(1000 :: 0 :: [100,10,1].take r.length:List Int)[i] ∈ ([1000,0,100,10,1]:List Int):=by
            have h1:=List.getElem_mem hi
            simp only [List.mem_cons] at h1 ⊢
            rcases h1 with h1 | h1 | h1
            · exact .inl h1
            · exact .inr (.inl h1)
            · have:=List.mem_of_mem_take h1
              simp only [List.mem_cons] at this
              exact .inr (.inr this)
          simp only [List.mem_cons,List.mem_nil_iff,or_false] at hm
          omega
        generalize hL:(1000 :: 0 :: [100,10,1].take r.length:List Int)=l at hsl hws ⊢
        have r1:zAg (a :: b :: r) l (0,0)=some (.inl (1000*dv a,1)):=by
          have e3:decide ((0:Int)<(l.length:Int))=true:=by rw [← hL]; simp; omega
          have e4:xnth l 0=some 1000:=by rw [← hL]; rfl
          have e5:((0:Int)==1)=false:=rfl
          have hv':((a - 48).toNat:Int)=dv a:=rfl
          simp only [zAg,e3,e4,e5,zAC,zAB,zAA,zDL,zKj,hd,Bool.not_true,hv']
          rw [zEk (n:=1000*dv a) (by omega) (by omega),zEk (by omega) (by omega),zEk (by omega) (by omega)]
          simp
        have r2:zAg (a :: b :: r) l (1000*dv a,1)=some (.inl (1000*dv a,((2:Nat):Int))):=by
          have e3:decide ((1:Int)<(l.length:Int))=true:=by rw [← hL]; simp; omega
          have e4:xnth l 1=some 0:=by rw [← hL]; rfl
          have e5:((1:Int)==1)=true:=rfl
          simp only [zAg,e3,e4,e5,zAC,zAA]
          rw [zEk (by omega) (by omega)]
          rfl
        rw [zAI r1,zAI r2,zOC _ _ hsl hb hws r.length 2 _ (Nat.le_refl _) (by simp; omega) ⟨by omega,by omega⟩]
        have hsum:sumQ (l.drop 2) ((a :: b :: r).drop 2) (1000*dv a)=sumQ [100,10,1] r (1000*dv a):=by
          rw [← hL]
          match r,hr3 with
          | [],_=>rfl
          | [_],_=>simp [sumQ]
          | [_,_],_=>simp [sumQ]
          | [_,_,_],_=>simp [sumQ]
        rw [hsum]
        have hp:zE8 (a :: b :: r)=finQ (sumQ [100,10,1] r (1000*dv a)):=by simp [zE8,h,hb2,hr3]
        rw [hp]
        cases sumQ [100,10,1] r (1000*dv a) with
        | none=>rfl
        | some q =>
          simp only [outQ,finQ,zAA]
          by_cases hq:1000<q
          · simp [hq]
          · simp [hq]
      · have e4:(b !=46)=true:=by simp [hb2]
        simp [h,hb2,e4,zE8]
    · simp [h,zE8]
theorem zOB (s:Str) (hb:5<s.length):zBX s=some (0,false):=by
  have e:((s==[])||decide (5<(s.length:Int)))=true:=by simp; right; omega
  simp only [zBX,e,zAC,zAA]
theorem zMI (s:Str) (hb:5<s.length):zE8 s=(0,false):=by
  match s,hb with
  | a :: b :: r,hb=>simp [zE8]; intro _ _ h; simp at hb; omega
theorem zPu (s:Str):zBX s=some (zE8 s):=by
  by_cases h:s.length≤5
  · exact zQt s h
  · rw [zOB s (by omega),zMI s (by omega)]
end Go.Eng.Pure
namespace Go.Eng.Pure
open Go Go.Eng
set_option linter.unusedVariables false
theorem zLr (s:Str) (hs:s.length≤1073741824):zEL s=some (quote s):=zQ4 s hs
def parT (p:GParam):Str:=(([59]++p.fName)++[61])++(if tok p.fValue then p.fValue else quote p.fValue)
def wrtP (v:Str) (l:List GParam):Str:=v++l.flatMap parT
def smPs (l:List GParam):Prop:=l.length≤1000∧∀ p ∈ l,p.fName.length≤1000∧p.fValue.length≤1000
theorem zMT (v:Str):(if tok v then v else quote v).length≤2*v.length+2:=by
  have:=zLA v
  split <;> omega
theorem zQu {p:GParam} (h:p.fName.length≤1000∧p.fValue.length≤1000):(parT p).length≤4000:=by
  have:=zMT p.fValue
  unfold parT
  simp only [List.length_append,List.length_cons,List.length_nil]
  omega
theorem zN9 (v:Str) (l:List GParam) (hv:v.length≤1000000) (h:smPs l):zEl v l=some (wrtP v l):=by
  unfold zEl zAa
  rw [WS_eq v [] (by omega) (by simp),zAA]
  have:=zEE (fun (st:Str) i=>(i,st)) l (fun st p=>st++parT p) id (zCF l) (fun n st=>st.length≤1000000+4000*n) v (by omega) ?_ ?_
  · simp only [List.nil_append]
    rw [this,zAA,zAA]; unfold wrtP; rw [zKk]; rfl
  · intro n hn st hI
    have hp:=h.2 _ (List.getElem_mem hn)
    have hl:=h.1
    have htl:=zQu hp
    have hvl:=zMT l[n].fValue
    have hql:=zLA l[n].fValue
    refine ⟨?_,by rw [List.length_append]; omega⟩
    unfold zCF
    simp only []
    rw [zAN hn,zAC,zAK hn,zAA,
      zEU (by simp) (by omega),zAA,zEU (by simp only [List.length_append,List.length_cons,List.length_nil]; omega) (by simp),zAA,
      WS_eq _ st (by simp only [List.length_append,List.length_cons,List.length_nil]; omega) (by omega),zAA,zCh _ (by omega),zAA,wrs (by omega)]
    simp only []
    unfold parT
    cases ht:tok l[n].fValue with
    | true =>
      rw [zAC,WS_eq _ _ (by omega) (by simp only [List.length_append,List.length_cons,List.length_nil]; omega),zAA,if_pos rfl]
      simp only [List.append_assoc]
    | false =>
      rw [zAB,zLr _ (by omega),zAA,WS_eq _ _ (by omega) (by simp only [List.length_append,List.length_cons,List.length_nil]; omega),zAA,if_neg (by decide)]
      simp only [List.append_assoc]
  · intro st hI
    unfold zCF
    simp only []
    rw [zAM (Nat.le_refl _),zAB]; rfl
def wrtT (t:GMediaType):Str:=wrtP ((t.fType++[47])++t.fSub) t.fParams
theorem zOL (t:GMediaType) (h1:t.fType.length≤1000) (h2:t.fSub.length≤1000) (h:smPs t.fParams):zCi t=some (wrtT t):=by
  unfold zCi wrtT
  rw [zEU (by omega) (by simp),zAA,zEU (by simp; omega) (by omega),zAA,zN9 _ _ (by simp; omega) h,zAA]
end Go.Eng.Pure
namespace Go.Eng.Pure
open Go Go.Eng
set_option linter.unusedVariables false
theorem low45 (x:UInt8):(lowB x==45)=(x==45):=by
  have:=zLF (fun c=>(lowB c==45)==(c==45)) (by decide +kernel) x
  exact beq_iff_eq.1 this
def preL:List Str→List Str→Bool
  | [],_=>true
  | _ :: _,[]=>false
  | x :: xs,y :: ys=>fold x y&&preL xs ys
theorem zPR (x y:UInt8) (a b:Str):fold (x :: a) (y :: b)=((lowB x==lowB y)&&fold a b):=by
  unfold fold lower
  rw [Bool.eq_iff_iff]
  simp only [List.length_cons,List.map_cons,Bool.and_eq_true,beq_iff_eq,List.cons.injEq]
  constructor
  · rintro ⟨h1,h2,h3⟩; exact ⟨h2,by omega,h3⟩
  · rintro ⟨h1,h2,h3⟩; exact ⟨by omega,h1,h3⟩
theorem zFR (c:UInt8) (s:Str):∃ y ys,zAZ c s=y :: ys:=by
  cases h:zAZ c s with
  | nil=>exact absurd h (zDn c s)
  | cons y ys=>exact ⟨y,ys,rfl⟩
theorem zHh (c x:UInt8) (s:Str) {y:Str} {ys:List Str} (h:zAZ c s=y :: ys):zAZ c (x :: s)=if x=c then [] :: y :: ys else (x :: y) :: ys:=by
  rw [zAZ,h]
theorem zLt:∀ r t:Str,(lower r++[45]).isPrefixOf (lower t++[45])=preL (zAZ 45 r) (zAZ 45 t)
  | [],[]=>rfl
  | [],c :: t=>by
    obtain ⟨y,ys,hy⟩:=zFR 45 t
    have h:=low45 c
    show ((45:UInt8)==lowB c&&List.isPrefixOf [] (lower t++[45]))=preL [[]] (zAZ 45 (c :: t))
    rw [zHh 45 c t hy]
    by_cases hc:c=45
    · subst hc; rfl
    · rw [if_neg hc]
      have h1:(lowB c==45)=false:=by rw [h]; simpa using hc
      have h2:((45:UInt8)==lowB c)=false:=by
        rw [beq_eq_false_iff_ne] at h1 ⊢; exact fun e=>h1 e.symm
      rw [h2]; rfl
  | x :: r,[]=>by
    obtain ⟨y,ys,hy⟩:=zFR 45 r
    have h:=low45 x
    show ((lowB x==(45:UInt8))&&List.isPrefixOf (lower r++[45]) [])=preL (zAZ 45 (x :: r)) [[]]
    have e:List.isPrefixOf (lower r++[45]) []=false:=by cases lower r <;> rfl
    rw [zHh 45 x r hy,e,Bool.and_false]
    by_cases hx:x=45
    · rw [if_pos hx]; rfl
    · rw [if_neg hx]; rfl
  | x :: r,c :: t=>by
    have ih:=zLt r t
    obtain ⟨y,ys,hy⟩:=zFR 45 r
    obtain ⟨z,zs,hz⟩:=zFR 45 t
    have hx:=low45 x
    have hc:=low45 c
    show (lowB x==lowB c&&List.isPrefixOf (lower r++[45]) (lower t++[45]))=preL (zAZ 45 (x :: r)) (zAZ 45 (c :: t))
    rw [ih,zHh 45 x r hy,zHh 45 c t hz,hy,hz]
    by_cases h1:x=45
    · by_cases h2:c=45
      · subst h1; subst h2
        rw [if_pos rfl,if_pos rfl]
        show _=(fold [] []&&preL (y :: ys) (z :: zs)); rfl
      · subst h1
        rw [if_pos rfl,if_neg h2]
        have:((lowB 45==lowB c):Bool)=false:=by
          rw [beq_eq_false_iff_ne] ; intro e
          have:(lowB c==45)=true:=by rw [← e]; rfl
          rw [hc] at this; exact h2 (beq_iff_eq.1 this)
        rw [this]; rfl
    · by_cases h2:c=45
      · subst h2
        rw [if_neg h1,if_pos rfl]
        have:((lowB x==lowB 45):Bool)=false:=by
          show (lowB x==45)=false
          rw [hx]; simpa using h1
        rw [this]; rfl
      · rw [if_neg h1,if_neg h2]
        show (lowB x==lowB c&&(fold y z&&preL ys zs))=(fold (x :: y) (c :: z)&&preL ys zs)
        rw [zPR,Bool.and_assoc]
def zOw (r t:Str):Int:=if !((r==[42])||langS r)||!langS t then -1 else if r=[42] then 0 else if preL (zAZ 45 r) (zAZ 45 t) then ((zAZ 45 r).length:Int) else -1
theorem zK4 (s:Str) (hs:s.length≤1000000):zB3 s=some ((s==[42])||langS s):=by
  unfold zB3
  rw [zO0 s hs]
  cases s==[42] <;> rfl
theorem zP2 (r t:Str) (hr:r.length≤1000000) (ht:t.length≤1000000):zDh r t=some (zOw r t):=by
  have hc:r.count 45≤r.length:=List.count_le_length
  unfold zDh zOw
  rw [zK4 r hr,zAA,zO0 t ht]
  cases ((r==[42])||langS r) with
  | false=>rfl
  | true =>
    cases langS t with
    | false=>rfl
    | true =>
      simp only [Bool.not_true,zAB,zAA,Bool.or_self,Bool.false_eq_true,if_false]
      by_cases h:r=[42]
      · subst h; rfl
      · rw [show (r == [42]) = false by simpa using h, zAB, if_neg h, zBZ _ (by omega), zAA, zEU (by rw [zDI]; omega) (by simp), zAA,
          zBZ _ (by omega),zAA,zEU (by rw [zDI]; omega) (by simp),zAA]
        unfold zDV
        rw [Etag.HasPrefix_eq,zAA,zAA,zLt]
        cases preL (zAZ 45 r) (zAZ 45 t) with
        | false=>rfl
        | true =>
          rw [Bool.not_true,zAB,if_pos rfl]
          unfold zBw
          rw [show ((([45]:Str).length:Int)==0)=false from rfl,zAB,show ((([45]:Str).length:Int)==1)=true from rfl,zAC,zDL,zAA,zAA,wrs (by omega),zGT]
theorem seq (a b:Str):(a==b)=decide (a=b):=by rw [Bool.eq_iff_iff]; simp
def parIn (l:List GParam) (p:GParam):Bool:=l.any fun x=>x.fName==p.fName&&fold x.fValue p.fValue
def zPE (r t:GMediaType):Int :=
  bif (r.fType==[42])&&(r.fSub==[42]) then 0 else bif r.fType==t.fType then (bif r.fSub==[42] then 1 else bif r.fSub==t.fSub then (bif r.fParams.all (parIn t.fParams) then 2+(r.fParams.length:Int) else -1) else -1) else -1
def smPv (l:List GParam):Prop:=l.length≤1000001∧∀ p ∈ l,p.fValue.length≤1000000
theorem zL0 (l:List GParam) (p:GParam) (h:smPv l) (hp:p.fValue.length≤1000000):zB9 l p=some (parIn l p):=by
  unfold zB9 parIn
  rw [zF7 (zBc l p) l (fun x=>x.fName==p.fName&&fold x.fValue p.fValue) (.inr true) (.inl ()),zAA]
  · cases l.any fun x=>x.fName==p.fName&&fold x.fValue p.fValue <;> rfl
  · intro n hn
    have hx:=h.2 _ (List.getElem_mem hn)
    have hl:=h.1
    unfold zBc
    rw [zAN hn,zAC,zAK hn,zAA,zH8 _ _ (by omega) (by omega),wrs (by omega)]
    cases l[n].fName==p.fName <;> cases fold l[n].fValue p.fValue <;> simp
  · unfold zBc
    rw [zAM (Nat.le_refl _),zAB]
theorem zQI (l : List GParam) (p : GParam → Bool) (body : Int → Option (Int ⊕ (Unit ⊕ Int))) (h : ∀ (n : Nat) (hn : n < l.length), body (n : Int) = some (if p l[n] then .inl ((n + 1 : Nat) : Int) else .inr (.inr (-1))))
    (h':body (l.length:Int)=some (.inr (.inl ()))):zAE body 0=some (if l.all p then .inl () else .inr (-1)):=by
  rw [zF7 body l (fun x=>!p x) (.inr (-1)) (.inl ())]
  · have:l.any (fun x=>!p x)=!l.all p:=by rw [List.all_eq_not_any_not]; simp
    rw [this]
    cases l.all p <;> rfl
  · intro n hn
    rw [h n hn]
    cases p l[n] <;> simp
  · exact h'
theorem zP4 (r t:GMediaType) (hr:smPv r.fParams) (ht:smPv t.fParams):zC2 r t=some (zPE r t):=by
  have hl:=hr.1
  unfold zC2 zPE
  rw [zQI r.fParams (parIn t.fParams) (zCB r t)]
  · have hw:wr (2+(r.fParams.length:Int))=2+(r.fParams.length:Int):=wr_eq ⟨by omega,by omega⟩
    rw [hw,zAA]
    simp only [bne]
    cases r.fType==[42] <;> cases r.fSub==[42] <;> cases r.fType==t.fType <;> cases r.fSub==t.fSub <;> cases r.fParams.all (parIn t.fParams) <;> rfl
  · intro n hn
    have hp:=hr.2 _ (List.getElem_mem hn)
    unfold zCB
    rw [zAN hn,zAC,zAK hn,zAA,zL0 _ _ ht hp,zAA,wrs (by omega)]
    cases parIn t.fParams r.fParams[n] <;> rfl
  · unfold zCB
    rw [zAM (Nat.le_refl _),zAB]
def zPL (k:Int) (r v:Str):Int:=bif r==[42] then 0 else bif canS k r==canS k v then 1 else -1
theorem zOr (k:Int) (r v:Str) (hr:r.length≤1000000) (hv:v.length≤1000000):zEd k r v=some (zPL k r v):=by
  unfold zEd zPL
  rw [zLN k r (by omega),zAA,zLN k v (by omega),zAA]
  cases r==[42] <;> cases canS k r==canS k v <;> rfl
def zKC (k:Int) (r v:Str):Int :=
  if k=1 then (bif (zCZ r).2&&(typeS v).2 then zPE (zCZ r).1 (typeS v).1 else -1) else if k=2 then zOw r v
  else if k=3∨k=4 then (bif (tok r&&tok v)&&(v !=[42]) then zPL k r v else -1) else -1
theorem zK0 (s:Str):∀ p ∈ (parS s).2.1,p.fName.length≤s.length∧p.fValue.length≤s.length:=by
  obtain ⟨c1,c2⟩:=zKb 59 s
  have ho:∀ m:Str,m.length≤s.length→(oneS m).1.length≤s.length∧(oneS m).2.1.length≤s.length:=by
    intro m hm
    have hu:=zSG (m.drop (m.idxOf 61+1))
    unfold oneS
    split
    · have h1:(lower (m.take (m.idxOf 61))).length≤s.length:=by rw [zDI,List.length_take]; omega
      have h2:(m.drop (m.idxOf 61+1)).length≤s.length:=by rw [List.length_drop]; omega
      split
      · exact ⟨h1,h2⟩
      · exact ⟨h1,by simp only []; omega⟩
    · simp
  have hp:∀ (l:List Str) (acc ps:List GParam),(∀ x ∈ l,x.length≤s.length)→(∀ p ∈ acc,p.fName.length≤s.length∧p.fValue.length≤s.length)→parL l acc=some ps→∀ p ∈ ps,p.fName.length≤s.length∧p.fValue.length≤s.length:=by
    intro l
    induction l with
    | nil=>intro acc ps _ ha h; unfold parL at h; injection h with h; subst h; exact ha
    | cons m l ih =>
      intro acc ps hm ha h
      have hl:∀ x ∈ l,x.length≤s.length:=fun x hx=>hm x (List.mem_cons_of_mem _ hx)
      unfold parL at h
      split at h
      · exact ih _ _ hl ha h
      · split at h
        · refine ih _ _ hl ?_ h
          intro p hp
          rcases List.mem_append.1 hp with hp | hp
          · exact ha p hp
          · rw [List.mem_singleton] at hp
            subst hp
            exact ho (trim m) (Nat.le_trans (zIk m) (hm m List.mem_cons_self))
        · cases h
  unfold parS
  cases hc:cutS 59 s with
  | nil=>simp
  | cons x l =>
    rw [hc] at c1 c2
    show ∀ p ∈ (parC x l).2.1,_
    unfold parC
    split
    · simp
    · split
      · rename_i ps h
        exact hp l [] ps (fun y hy=>c1 y (List.mem_cons_of_mem _ hy)) (by simp) h
      · simp
theorem zHL (s:Str):(zCZ s).1.fType.length≤s.length∧(zCZ s).1.fSub.length≤s.length∧(zCZ s).1.fParams.length≤s.length+1∧∀ p ∈ (zCZ s).1.fParams,p.fName.length≤s.length∧p.fValue.length≤s.length:=by
  obtain ⟨l1,l2⟩:=zHp s
  have l3:=zK0 s
  unfold zCZ
  split
  · refine ⟨?_,?_,l2,l3⟩
    · rw [zDI,List.length_take]; omega
    · rw [zDI,List.length_drop]; omega
  · simp [noT]
theorem zQb (s:Str):(typeS s).1.fType.length≤s.length∧(typeS s).1.fSub.length≤s.length∧(typeS s).1.fParams.length≤s.length+1∧∀ p ∈ (typeS s).1.fParams,p.fName.length≤s.length∧p.fValue.length≤s.length:=by
  unfold typeS
  split
  · simp [noT]
  · exact zHL s
theorem zRh {s:Str} (hs:s.length≤1000000):smPv (zCZ s).1.fParams:=by
  obtain ⟨_,_,h3,h4⟩:=zHL s
  exact ⟨by omega,fun p hp=>by have:=(h4 p hp).2; omega⟩
theorem zSR {s:Str} (hs:s.length≤1000000):smPv (typeS s).1.fParams:=by
  obtain ⟨_,_,h3,h4⟩:=zQb s
  exact ⟨by omega,fun p hp=>by have:=(h4 p hp).2; omega⟩
theorem zPe (k:Int) (r v:Str) (hr:r.length≤1000000) (hv:v.length≤1000000):zEb k r v=some (zKC k r v):=by
  unfold zEb zKC
  rw [zJS r hr,zAA,zNK v hv,zAA,zP4 _ _ (zRh hr) (zSR hv),zAA,zP2 r v hr hv,zAA,zCh r (by omega),zAA,zCh v (by omega),zAA,zOr k r v hr hv,zAA]
  by_cases h1:k=1
  · subst h1
    rw [if_pos rfl]
    cases (zCZ r).2 <;> cases (typeS v).2 <;> rfl
  rw [if_neg h1,show (k==1)=false by simpa using h1,zAB]
  by_cases h2:k=2
  · subst h2; rfl
  rw [if_neg h2,show (k==2)=false by simpa using h2,zAB]
  by_cases h3:k=3
  · subst h3
    rw [if_pos (.inl rfl)]
    simp only [bne]
    cases tok r <;> cases tok v <;> cases v==[42] <;> rfl
  by_cases h4:k=4
  · subst h4
    rw [if_pos (.inr rfl)]
    simp only [bne]
    cases tok r <;> cases tok v <;> cases v==[42] <;> rfl
  rw [if_neg (by omega),show (k==3)=false by simpa using h3,show (k==4)=false by simpa using h4]
  rfl
end Go.Eng.Pure
namespace Go.Eng.Pure
open Go Go.Eng
set_option linter.unusedVariables false
def isQ (p:GParam):Bool:=p.fName==[113]
def qAt (l:List GParam):Nat:=l.findIdx isQ
theorem zSQ (l:List GParam):qAt l≤l.length:=List.findIdx_le_length
theorem zSK (l:List GParam) (hl:l.length≤1073741824):zAP l zCT=some (if qAt l<l.length then (qAt l:Int) else -1):=by
  have key:∀ (k n:Nat),n+k=l.length→zAE (zAF l zCT) (n:Int)=some (if n+qAt (l.drop n)<l.length then .inr ((n+qAt (l.drop n):Nat):Int) else .inl ()):=by
    intro k
    induction k with
    | zero =>
      intro n hn
      obtain rfl:n=l.length:=by omega
      rw [zAG (r:=.inl ()),if_neg (by omega)]
      simp only [zAF,zAM (Nat.le_refl l.length),zAB]
    | succ k ih =>
      intro n hn
      have hlt:n<l.length:=by omega
      have hb:zAF l zCT (n:Int)=some (if isQ l[n] then .inr (.inr (n:Int)) else .inl ((n+1:Nat):Int)):=by
        simp only [zAF,zAN hlt,zAC,zAK hlt,zAA,wrs (show n≤4*1073741824 by omega)]
        unfold zCT
        rw [zAA]
        show (bif isQ l[n] then _ else _)=_
        cases isQ l[n] <;> rfl
      have hq:qAt (l.drop n)=if isQ l[n] then 0 else qAt (l.drop (n+1))+1:=by
        unfold qAt
        rw [List.drop_eq_getElem_cons hlt,List.findIdx_cons]
        cases isQ l[n] <;> rfl
      rw [hq]
      cases hp:isQ l[n] with
      | true =>
        rw [hp,if_pos rfl] at hb
        rw [zAG hb,if_pos rfl,if_pos (by omega)]; rfl
      | false =>
        rw [hp,if_neg (by decide)] at hb
        rw [zAI hb,ih (n+1) (by omega),if_neg (show ¬ (false=true) by decide)]
        have e:n+1+qAt (l.drop (n+1))=n+(qAt (l.drop (n+1))+1):=by omega
        rw [e]
  have:=key l.length 0 (by omega)
  rw [show ((0:Nat):Int)=0 from rfl,List.drop_zero,Nat.zero_add] at this
  unfold zAP
  rw [this,zAA]
  by_cases h:qAt l<l.length
  · rw [if_pos h,if_pos h]
  · rw [if_neg h,if_neg h]
def rngS (k:Int) (v:Str) (ps:List GParam):Str×Bool :=
  if k=1 then (wrtT ⟨(zCZ v).1.fType,(zCZ v).1.fSub,ps⟩,(zCZ v).2)
  else if k=2 then (canS k v,((v==[42])||langS v)&&((ps.length:Int)==0))
  else (canS k v,tok v&&((ps.length:Int)==0))
def qOf (l:List GParam):Int×Bool:=match l[qAt l]? with | some p=>zE8 p.fValue | none=>(1000,true)
def prefT (k:Int) (r:Str×List GParam×Bool):GPref×Bool :=
  if !r.2.2 then (⟨[],0⟩,false) else if !(qOf r.2.1).2 then (⟨[],0⟩,false)
  else (⟨(rngS k r.1 (r.2.1.take (qAt r.2.1))).1,(qOf r.2.1).1⟩,(rngS k r.1 (r.2.1.take (qAt r.2.1))).2)
def prefS (k:Int) (m:Str):GPref×Bool:=prefT k (parS m)
theorem zLB (k:Int) (v:Str) (ps:List GParam) (hv:v.length≤1000) (hp:smPs ps):zDA k v ps=some (rngS k v ps):=by
  obtain ⟨r1,r2,_,_⟩:=zHL v
  unfold zDA rngS
  by_cases h1:k=1
  · rw [if_pos h1,decide_eq_true h1,zAC]
    unfold zEY
    rw [zJS v (by omega),zAA,zOL _ (by simp only []; omega) (by simp only []; omega) hp,zAA,zAA]
  rw [if_neg h1,decide_eq_false h1,zAB]
  by_cases h2:k=2
  · rw [if_pos h2,decide_eq_true h2,zAC]
    unfold zEQ
    rw [zLN k v (by omega),zAA,zK4 v (by omega),zAA,zAA]
  rw [if_neg h2,decide_eq_false h2,zAB,zLN k v (by omega),zAA,zCh v (by omega),zAA]
theorem zSX (l:List GParam) (h:smPs l):smPs (l.take (qAt l)) :=
  ⟨by rw [List.length_take]; have:=h.1; omega,fun p hp=>h.2 p (List.mem_of_mem_take hp)⟩
theorem zRK {m:Str} (h:m.length≤300):(parS m).1.length≤300∧smPs (parS m).2.1:=by
  obtain ⟨l1,l2⟩:=zHp m
  have l3:=zK0 m
  exact ⟨by omega,by omega,fun p hp=>by have:=l3 p hp; omega⟩
theorem zRr (k:Int) (m:Str) (h:m.length≤300):zFW k m=some (prefS k m):=by
  obtain ⟨h1,h2⟩:=zRK h
  unfold zFW prefS
  rw [zK9 m (by omega),zAA]
  generalize parS m=r at *
  obtain ⟨v,ps,ok⟩:=r
  unfold prefT
  simp only [] at h1 h2 ⊢
  cases ok with
  | false=>rfl
  | true =>
    have hl:=h2.1
    have hle:=zSQ ps
    rw [Bool.not_true,zAB,if_neg (by decide),zSK ps (by omega),zAA]
    unfold qOf
    by_cases hq:qAt ps<ps.length
    · rw [if_pos hq,decide_eq_true (by omega),zAC,zAK hq,zAA,zPu,zAA,List.getElem?_eq_getElem hq]
      simp only []
      cases hb:(zE8 ps[qAt ps].fValue).2 with
      | false=>rfl
      | true =>
        rw [Bool.not_true,zAB,zG7 (by omega),zAA,zAA]
        simp only []
        rw [zLB k v _ (by omega) (zSX ps h2),zAA]
        rfl
    · have hx:qAt ps=ps.length:=by omega
      rw [if_neg hq,List.getElem?_eq_none (by omega)]
      simp only []
      rw [show decide ((0:Int)≤-1)=false from rfl,zAB,zAA]
      simp only []
      rw [zLB k v _ (by omega) h2,zAA,hx,List.take_length]
      rfl
def nameF (k:Int):Str:=if k=1 then [65,99,99,101,112,116] else if k=2 then [65,99,99,101,112,116,45,76,97,110,103,117,97,103,101]
  else if k=3 then [65,99,99,101,112,116,45,67,104,97,114,115,101,116] else if k=4 then [65,99,99,101,112,116,45,69,110,99,111,100,105,110,103] else []
theorem zRs (k:Int):zBC k=some (nameF k):=by
  unfold zBC nameF
  by_cases h1:k=1
  · subst h1; rfl
  by_cases h2:k=2
  · subst h2; rfl
  by_cases h3:k=3
  · subst h3; rfl
  by_cases h4:k=4
  · subst h4; rfl
  rw [show (k==1)=false by simpa using h1,show (k==2)=false by simpa using h2,show (k==3)=false by simpa using h3,show (k==4)=false by simpa using h4,if_neg h1,if_neg h2,if_neg h3,if_neg h4]
  rfl
theorem zO2 (k:Int):(nameF k).length≤100:=by
  unfold nameF
  split
  · decide
  split
  · decide
  split
  · decide
  split <;> decide
def prefO (k:Int) (m:Str):Option GPref:=if (prefS k m).2 then some (prefS k m).1 else none
def zIR (k:Int) (l:List GField):List GPref×Bool:=if nameF k=[] then ([],false) else if hasF l (nameF k) then ((allM l (nameF k)).filterMap (prefO k),true) else ([],false)
theorem zPk (k:Int) (ms:List Str) (acc:List GPref):ms.foldl (fun a x=>if (prefS k x).2 then a++[(prefS k x).1] else a) acc=acc++ms.filterMap (prefO k):=by
  rw [← zIw]
  congr 1
  funext a x
  unfold prefO
  cases (prefS k x).2 <;> rfl
theorem zP8 {l:List GField} (h:smL l):l.length≤1073741824∧∀ f ∈ l,smF f:=⟨by have:=h.1; omega,fun f hf=>by have:=h.2 f hf; exact ⟨by omega,by omega⟩⟩
theorem zQi (k:Int) (l:List GField) (hl:smL l):zDo k l=some (zIR k l):=by
  obtain ⟨b1,b2⟩:=zP8 hl
  have hn:=zO2 k
  have hm:=zKu l (nameF k)
  have hs:=zKa l (nameF k) 300 fun f hf=>(hl.2 f hf).2
  unfold zDo zIR
  rw [zRs,zAA,zRI l _ b1 b2 (by omega),zAA,zP7 l _ b1 b2 (by omega),zAA]
  generalize allM l (nameF k)=ms at *
  have:=zEE (fun (st:List GPref) i=>(st,i)) ms (fun a x=>if (prefS k x).2 then a++[(prefS k x).1] else a) id (zDJ k ms) (fun n st=>st.length≤n) [] (by simp) ?_ ?_
  · rw [this,zAA,zPk,List.nil_append]
    by_cases h1:nameF k=[]
    · rw [if_pos h1,h1]; rfl
    · rw [if_neg h1,show (nameF k==[])=false by simpa using h1,zAB,zAA]
      cases hasF l (nameF k) <;> rfl
  · intro n hn st hI
    have hx:=hs _ (List.getElem_mem hn)
    refine ⟨?_,?_⟩
    · unfold zDJ
      simp only []
      rw [zAN hn,zAC,zAK hn,zAA,zRr k _ hx,zAA,wrs (by omega)]
      cases (prefS k ms[n]).2 with
      | true=>rw [zAC,zBh (by omega) (zCY _),zAA]; rfl
      | false=>rfl
    · split
      · rw [List.length_append,List.length_singleton]; omega
      · omega
  · intro st hI
    unfold zDJ
    simp only []
    rw [zAM (Nat.le_refl _),zAB]; rfl
theorem zR0 (k:Int) (s:Str):(canS k s).length≤s.length+10:=by
  unfold canS
  split
  · simp
  split
  · simp
  · rw [zDI]; omega
theorem zK5 (B:Nat):∀ l:List GParam,(∀ p ∈ l,(parT p).length≤B)→(l.flatMap parT).length≤B*l.length
  | [],_=>by simp
  | p :: l,h=>by
    have h1:=h p List.mem_cons_self
    have h2:=zK5 B l fun q hq=>h q (List.mem_cons_of_mem _ hq)
    rw [List.flatMap_cons,List.length_append,List.length_cons,Nat.mul_succ]; omega
theorem zQJ (k:Int) (m:Str) (h:m.length≤300):(prefS k m).1.fRange.length≤1000000:=by
  obtain ⟨h1,h2⟩:=zRK h
  obtain ⟨l1,l2⟩:=zHp m
  have l3:=zK0 m
  unfold prefS
  generalize parS m=r at *
  obtain ⟨v,ps,ok⟩:=r
  unfold prefT
  simp only [] at h1 h2 l2 l3 ⊢
  have hr:(rngS k v (ps.take (qAt ps))).1.length≤1000000:=by
    obtain ⟨r1,r2,_,_⟩:=zHL v
    have hc:=zR0 k v
    unfold rngS
    split
    · have hb := zK5 910 (ps.take (qAt ps)) (fun p hp => by
        have h3:=l3 p (List.mem_of_mem_take hp)
        have h4:=zMT p.fValue
        unfold parT
        simp only [List.length_append,List.length_cons,List.length_nil]
        omega)
      have ht:(ps.take (qAt ps)).length≤301:=by rw [List.length_take]; omega
      simp only []
      unfold wrtT wrtP
      simp only [List.length_append,List.length_cons,List.length_nil]
      omega
    · split
      · simp only []; omega
      · simp only []; omega
  split
  · simp
  split
  · simp
  · exact hr
end Go.Eng.Pure
namespace Go.Eng.Pure
open Go Go.Eng
set_option linter.unusedVariables false
def idN:Str:=[105,100,101,110,116,105,116,121]
def stepQ (k:Int) (v:Str) (st:Int×Int) (p:GPref):Int×Int:=if st.1<zKC k p.fRange v then (zKC k p.fRange v,p.fQ) else st
def bestQ (k:Int) (l:List GPref) (v:Str) (q:Int):Int×Int:=l.foldl (stepQ k v) (-1,q)
def qualS (k:Int) (l:List GPref) (pr:Bool) (v:Str):Int :=
  if !pr then 1000 else (bestQ k l v (if k=4∧fold v idN=true then 1 else 0)).2
theorem zLj (k : Int) (v : Str) (q q' : Int) : ∀ (l : List GPref) (st st' : Int × Int), st.1 = st'.1 → (st.1 = -1 → st.2 = q ∧ st'.2 = q') → (0 ≤ st.1 → st.2 = st'.2) → -1 ≤ st.1 →
    (l.foldl (stepQ k v) st).1=(l.foldl (stepQ k v) st').1∧((l.foldl (stepQ k v) st).1=-1→(l.foldl (stepQ k v) st).2=q∧(l.foldl (stepQ k v) st').2=q')∧(0≤(l.foldl (stepQ k v) st).1→(l.foldl (stepQ k v) st).2=(l.foldl (stepQ k v) st').2)∧-1≤(l.foldl (stepQ k v) st).1
  | [],st,st',h1,h2,h3,h4=>⟨h1,h2,h3,h4⟩
  | p :: l,st,st',h1,h2,h3,h4=>by
    rw [List.foldl_cons,List.foldl_cons]
    refine zLj k v q q' l _ _ ?_ ?_ ?_ ?_
    all_goals
      unfold stepQ
      try rw [← h1]
      by_cases h:st.1<zKC k p.fRange v
      · rw [if_pos h]; first | rw [if_pos h] | skip
        all_goals first | rfl | (intro h5; simp only [] at h5; omega) | (intro _; rfl) | (simp only []; omega)
      · rw [if_neg h]; first | rw [if_neg h] | skip
        all_goals assumption
def smPr (l:List GPref):Prop:=l.length≤1000000∧∀ p ∈ l,p.fRange.length≤1000000
theorem zOM (k:Int) (l:List GPref) (pr:Bool) (v:Str) (h:smPr l) (hv:v.length≤1000000):zCu k l pr v=some (qualS k l pr v):=by
  unfold zCu qualS
  cases pr with
  | false=>rfl
  | true =>
    have hl:=h.1
    rw [Bool.not_true,zAB,if_neg (by decide)]
    have:=zEE (fun (st:Int×Int) i=>(st.1,st.2,i)) l (stepQ k v) id (zDK k l v) (fun n st=>True) (-1,0) trivial ?_ ?_
    · rw [this,zAA]
      obtain ⟨e1,e2,e3,e4⟩:=zLj k v 0 (if k=4∧fold v idN=true then 1 else 0) l (-1,0) (-1,(if k=4∧fold v idN=true then 1 else 0)) rfl (fun _=>⟨rfl,rfl⟩) (fun h=>by simp only [] at h; omega) (by simp only []; omega)
      unfold bestQ
      generalize l.foldl (stepQ k v) (-1,0)=a at *
      generalize l.foldl (stepQ k v) (-1,(if k=4∧fold v idN=true then 1 else 0))=b at *
      obtain ⟨a1,a2⟩:=a
      simp only [id] at e1 e2 e3 e4 ⊢
      rw [zH8 v _ (by omega) (by decide),zAA]
      by_cases h0:a1=-1
      · obtain ⟨f1,f2⟩:=e2 h0
        rw [f2,f1,decide_eq_true (show a1<0 by omega),Bool.true_and]
        by_cases hk:k=4
        · rw [show (k==4)=true by simpa using hk,zAC,zAA]
          show (bif fold v idN then _ else _)=_
          cases hf:fold v idN with
          | true=>rw [if_pos ⟨hk,rfl⟩]; rfl
          | false=>rw [if_neg (fun h=>by simp at h)]; rfl
        · rw [show (k==4)=false by simpa using hk,if_neg (fun h=>hk h.1)]; rfl
      · rw [decide_eq_false (show ¬ a1<0 by omega),Bool.false_and,zAB,zAA,zAB,e3 (by omega)]
    · intro n hn st _
      have hp:=h.2 _ (List.getElem_mem hn)
      refine ⟨?_,trivial⟩
      unfold zDK stepQ
      simp only []
      rw [zAN hn,zAC,zAK hn,zAA,zPe k _ v hp hv,zAA,wrs (by omega)]
      by_cases hc:st.1<zKC k l[n].fRange v
      · rw [decide_eq_true hc,zAC,if_pos hc]
      · rw [decide_eq_false hc,zAB,if_neg hc]
    · intro st _
      unfold zDK
      simp only []
      rw [zAM (Nat.le_refl _),zAB]; rfl
section
variable (Q:Str→Int)
def Dsc (l:List Str):Prop:=l.Pairwise fun a b=>Q b≤Q a
def cls (q:Int) (l:List Str):List Str:=l.filter fun v=>Q v==q
theorem zIB {Q:Str→Int} {q:Int} {l:List Str} {v:Str}:v ∈ cls Q q l↔v ∈ l∧Q v=q:=by
  unfold cls; rw [List.mem_filter,beq_iff_eq]
theorem zJb (q:Int) (a b:List Str):cls Q q (a++b)=cls Q q a++cls Q q b:=List.filter_append ..
theorem zEh (q:Int) (v:Str) (l:List Str):cls Q q (v :: l)=if Q v=q then v :: cls Q q l else cls Q q l:=by
  unfold cls
  rw [List.filter_cons]
  by_cases h:Q v=q
  · rw [if_pos h,if_pos (by simpa using h)]
  · rw [if_neg h,if_neg (by simpa using h)]
theorem zQN {q:Int} {l:List Str} (h:∀ v ∈ l,Q v≠q):cls Q q l=[]:=by
  unfold cls
  rw [List.filter_eq_nil_iff]
  intro v hv
  simpa using h v hv
theorem zNi:∀ l m:List Str,Dsc Q l→Dsc Q m→(∀ q,cls Q q l=cls Q q m)→l=m
  | [],[],_,_,_=>rfl
  | [],b :: m,_,_,h=>by
    have:=h (Q b)
    rw [zEh,if_pos rfl] at this
    cases this
  | a :: l,[],_,_,h=>by
    have:=h (Q a)
    rw [zEh,if_pos rfl] at this
    cases this
  | a :: l,b :: m,hl,hm,h=>by
    unfold Dsc at hl hm
    rw [List.pairwise_cons] at hl hm
    have h1:Q b≤Q a:=by
      have hb:b ∈ cls Q (Q b) (a :: l):=by rw [h (Q b)]; exact zIB.2 ⟨List.mem_cons_self,rfl⟩
      rcases List.mem_cons.1 (zIB.1 hb).1 with e | e
      · rw [e]; exact Int.le_refl _
      · exact hl.1 b e
    have h2:Q a≤Q b:=by
      have hb:a ∈ cls Q (Q a) (b :: m):=by rw [← h (Q a)]; exact zIB.2 ⟨List.mem_cons_self,rfl⟩
      rcases List.mem_cons.1 (zIB.1 hb).1 with e | e
      · rw [e]; exact Int.le_refl _
      · exact hm.1 a e
    have h3:Q a=Q b:=by omega
    have h4:=h (Q a)
    rw [zEh,if_pos rfl,zEh,if_pos h3.symm] at h4
    injection h4 with e1 e2
    have:l=m:=by
      refine zNi l m hl.2 hm.2 fun q=>?_
      have h5:=h q
      rw [zEh,zEh,← h3] at h5
      by_cases hq:Q a=q
      · rw [if_pos hq,if_pos hq] at h5; injection h5
      · rw [if_neg hq,if_neg hq] at h5; exact h5
    rw [e1,this]
def Ord (out vs:List Str):Prop:=Dsc Q out∧∀ q,cls Q q out=if 0<q then cls Q q vs else []
theorem zQD {vs a b:List Str} (ha:Ord Q a vs) (hb:Ord Q b vs):a=b:=zNi Q a b ha.1 hb.1 fun q=>by rw [ha.2,hb.2]
theorem zPd {out vs : List Str} (h : Ord Q out vs) (v : Str) (hv : 0 < Q v) (at_ : Nat) (hat : at_ ≤ out.length) (h1 : ∀ x ∈ out.take at_, Q v ≤ Q x) (h2 : ∀ x ∈ out.drop at_, Q x < Q v) :
    Ord Q (out.take at_++[v]++out.drop at_) (vs++[v]):=by
  refine ⟨?_,fun q=>?_⟩
  · have hd:=h.1
    unfold Dsc at hd ⊢
    rw [← List.take_append_drop at_ out,List.pairwise_append] at hd
    rw [List.append_assoc,List.pairwise_append]
    refine ⟨hd.1,?_,?_⟩
    · rw [List.singleton_append,List.pairwise_cons]
      exact ⟨fun b hb=>by have:=h2 b hb; omega,hd.2.1⟩
    · intro a ha b hb
      rcases List.mem_append.1 hb with hb | hb
      · rw [List.mem_singleton] at hb; subst hb; exact h1 a ha
      · exact hd.2.2 a ha b hb
  · have hq:=h.2 q
    rw [← List.take_append_drop at_ out,zJb] at hq
    rw [zJb,zJb,zJb,zEh]
    show cls Q q (out.take at_)++(if Q v=q then [v] else [])++cls Q q (out.drop at_)=_
    by_cases he:Q v=q
    · subst he
      rw [zQN Q (l:=out.drop at_) (fun x hx=>by have:=h2 x hx; omega),List.append_nil] at hq ⊢
      rw [hq,if_pos hv,if_pos hv,if_pos rfl,if_pos rfl]; rfl
    · rw [if_neg he,List.append_nil,hq]
      split
      · rw [show cls Q q []=[] from rfl,List.append_nil]
      · rfl
theorem zNn {out vs:List Str} (h:Ord Q out vs) (v:Str) (hv:¬ 0<Q v):Ord Q out (vs++[v]):=by
  refine ⟨h.1,fun q=>?_⟩
  rw [h.2 q]
  split
  · rw [zJb,show cls Q q [v]=[] from by rw [zEh,if_neg (by omega)]; rfl,List.append_nil]
  · rfl
end
theorem zOa (Q : Str → Int) (out : List Str) (hl : out.length ≤ 1000000) (q : Int) (hd : Dsc Q out) : ∀ n, n ≤ out.length → (∀ x ∈ out.drop n, Q x < q) →
    ∃ m,m≤out.length∧zAE (zCx (out.map Q) q) (n:Int)=some ((m:Nat):Int)∧(∀ x ∈ out.take m,q≤Q x)∧∀ x ∈ out.drop m,Q x<q:=by
  intro n
  induction n with
  | zero =>
    intro hn h
    refine ⟨0,by omega,zAG ?_,by simp,h⟩
    unfold zCx
    rfl
  | succ n ih =>
    intro hn h
    have hlt:n<out.length:=by omega
    have hlm:n<(out.map Q).length:=by rw [List.length_map]; exact hlt
    have hb:zCx (out.map Q) q ((n+1:Nat):Int)=some (if Q out[n]<q then .inl (n:Int) else .inr ((n+1:Nat):Int)):=by
      unfold zCx
      have e:((n+1:Nat):Int) - 1=(n:Int):=by omega
      rw [decide_eq_true (by omega),zAC,e,wrn (by omega),zAK hlm,zAA,zAA,List.getElem_map]
      by_cases hc:Q out[n]<q
      · rw [decide_eq_true hc,zAC,if_pos hc]
      · rw [decide_eq_false hc,zAB,if_neg hc]
    by_cases hc:Q out[n]<q
    · rw [if_pos hc] at hb
      obtain ⟨m,h1,h2,h3,h4⟩:=ih (by omega) (by
        intro x hx
        rw [List.drop_eq_getElem_cons hlt] at hx
        rcases List.mem_cons.1 hx with rfl | hx
        · exact hc
        · exact h x hx)
      exact ⟨m,h1,by rw [zAI hb]; exact h2,h3,h4⟩
    · rw [if_neg hc] at hb
      refine ⟨n+1,hn,zAG hb,?_,h⟩
      intro x hx
      rw [List.take_succ_eq_append_getElem hlt] at hx
      rcases List.mem_append.1 hx with hx | hx
      · unfold Dsc at hd
        rw [← List.take_append_drop n out,List.pairwise_append] at hd
        have:=hd.2.2 x hx out[n] (by rw [List.drop_eq_getElem_cons hlt]; exact List.mem_cons_self)
        omega
      · rw [List.mem_singleton] at hx; subst hx; omega
theorem zNN {α:Type} (l:List α) (n:Nat) (x:α) (h:n≤l.length) (hl:l.length≤1000000):insS l (n:Int) [x]=some (l.take n++[x]++l.drop n):=by
  unfold insS
  rw [if_pos ⟨by omega,by omega,rfl,by simp only [big]; omega⟩]
  rfl
theorem zQW (k:Int) (l:List GPref) (pr:Bool) (vs:List Str) (Q:Str→Int) (hv:vs.length≤100000) (hQ:∀ v ∈ vs,zCu k l pr v=some (Q v)):∃ out,zET k l pr vs=some out∧Ord Q out vs:=by
  have key:∀ (j n:Nat) (out:List Str),n+j=vs.length→out.length≤n→Ord Q out (vs.take n)→∃ r,zAE (zBr k l pr vs) (out,out.map Q,(n:Int))=some r∧Ord Q r vs:=by
    intro j
    induction j with
    | zero =>
      intro n out hn ho h
      have:n=vs.length:=by omega
      subst this
      rw [List.take_length] at h
      refine ⟨out,zAG ?_,h⟩
      unfold zBr
      simp only []
      rw [zAM (Nat.le_refl _),zAB]
    | succ j ih =>
      intro n out hn ho h
      have hlt:n<vs.length:=by omega
      have hx:=hQ _ (List.getElem_mem hlt)
      have ht:=zAl hlt
      by_cases hq:0<Q vs[n]
      · obtain ⟨m,h1,h2,h3,h4⟩:=zOa Q out (by omega) (Q vs[n]) h.1 out.length (Nat.le_refl _) (by simp)
        have hb:zBr k l pr vs (out,out.map Q,(n:Int))=some (.inl (out.take m++[vs[n]]++out.drop m,(out.take m++[vs[n]]++out.drop m).map Q,((n+1:Nat):Int))):=by
          unfold zBr
          simp only []
          rw [zAN hlt,zAC,zAK hlt,zAA,hx,zAA,decide_eq_false (by omega),zAB,List.length_map,h2,zAA,zNN out m _ h1 (by omega),zAA,
            zNN (out.map Q) m _ (by rw [List.length_map]; exact h1) (by rw [List.length_map]; omega),zAA,wrs (by omega)]
          simp only [List.map_append,List.map_take,List.map_drop,List.map_cons,List.map_nil]
        rw [zAI hb]
        refine ih (n+1) _ (by omega) ?_ ?_
        · simp only [List.length_append,List.length_take,List.length_drop,List.length_singleton]; omega
        · rw [ht]; exact zPd Q h _ hq m h1 h3 h4
      · have hb : zBr k l pr vs (out, out.map Q, (n : Int)) = some (.inl (out, out.map Q, ((n + 1 : Nat) : Int))) := by
          unfold zBr
          simp only []
          rw [zAN hlt,zAC,zAK hlt,zAA,hx,zAA,decide_eq_true (by omega),zAC,wrs (by omega)]
        rw [zAI hb]
        refine ih (n+1) _ (by omega) (by omega) ?_
        rw [ht]; exact zNn Q h _ hq
  obtain ⟨r,h1,h2⟩:=key vs.length 0 [] (by omega) (by simp) ⟨List.Pairwise.nil,fun q=>by split <;> rfl⟩
  refine ⟨r,?_,h2⟩
  unfold zET
  rw [show ((0:Nat):Int)=0 from rfl] at h1
  rw [show (([]:List Str),([]:List Int),(0:Int))=([],List.map Q [],0) from rfl,h1,zAA]
structure RInv (Q:Str→Int) (vs out:List Str) (T:Int):Prop where
  dsc:Dsc Q out
  ge:∀ v ∈ out,T≤Q v∧0<Q v
  cl:∀ q,T≤q→0<q→cls Q q out=cls Q q vs
  nil:out=[]→∀ v ∈ vs,Q v<T
  lst:∀ x,out.getLast?=some x→Q x=T
theorem zRX {Q:Str→Int} {out vs:List Str} (h:Ord Q out vs):∀ v ∈ out,v ∈ vs:=by
  intro v hv
  have h1:v ∈ cls Q (Q v) out:=zIB.2 ⟨hv,rfl⟩
  rw [h.2] at h1
  split at h1
  · exact (zIB.1 h1).1
  · cases h1
theorem zRv {Q:Str→Int} {out vs:List Str} (h:Ord Q out vs):out.length≤vs.length:=by
  have:out.Perm (vs.filter fun v=>decide (0<Q v)):=by
    refine List.perm_iff_count.2 fun a=>?_
    have hc:∀ l:List Str,(cls Q (Q a) l).count a=l.count a:=fun l=>List.count_filter (by simp)
    rw [← hc out,h.2]
    by_cases ha:0<Q a
    · rw [if_pos ha,hc,List.count_filter (by simpa using ha)]
    · rw [if_neg ha,List.count_nil,List.count_eq_zero.2 (fun hm=>ha (by simpa using (List.mem_filter.1 hm).2))]
  rw [this.length_eq]
  exact List.length_filter_le _ _
end Go.Eng.Pure
namespace Go.Eng.Pure
open Go Go.Eng
set_option linter.unusedVariables false
def insQ (Q:Str→Int) (out:List Str) (v:Str):List Str:=if 0<Q v then out.takeWhile (fun x=>decide (Q v≤Q x))++[v]++out.dropWhile (fun x=>decide (Q v≤Q x)) else out
def rankS (Q:Str→Int) (vs:List Str):List Str:=vs.foldl (insQ Q) []
theorem zNc (Q:Str→Int) (q:Int):∀ out:List Str,Dsc Q out→∀ x ∈ out.dropWhile (fun x=>decide (q≤Q x)),Q x<q
  | [],_,x,hx=>by cases hx
  | a :: out,h,x,hx=>by
    unfold Dsc at h
    rw [List.pairwise_cons] at h
    rw [List.dropWhile_cons] at hx
    by_cases ha:q≤Q a
    · rw [if_pos (by simpa using ha)] at hx
      exact zNc Q q out h.2 x hx
    · rw [if_neg (by simpa using ha)] at hx
      rcases List.mem_cons.1 hx with rfl | hx
      · omega
      · have:=h.1 x hx; omega
theorem zLU (Q:Str→Int) (q:Int):∀ (out:List Str),∀ x ∈ out.takeWhile (fun x=>decide (q≤Q x)),q≤Q x
  | [],x,hx=>by cases hx
  | a :: out,x,hx=>by
    rw [List.takeWhile_cons] at hx
    split at hx
    · rename_i ha
      rcases List.mem_cons.1 hx with rfl | hx
      · simpa using ha
      · exact zLU Q q out x hx
    · cases hx
theorem zM4 (Q:Str→Int):∀ (vs done out:List Str),Ord Q out done→Ord Q (vs.foldl (insQ Q) out) (done++vs)
  | [],done,out,h=>by rw [List.append_nil]; exact h
  | v :: vs,done,out,h=>by
    rw [List.foldl_cons,show done++v :: vs=(done++[v])++vs by simp]
    refine zM4 Q vs _ _ ?_
    unfold insQ
    by_cases hv:0<Q v
    · rw [if_pos hv]
      have h2:Ord Q (out.takeWhile (fun x=>decide (Q v≤Q x))++out.dropWhile (fun x=>decide (Q v≤Q x))) done:=by rw [List.takeWhile_append_dropWhile]; exact h
      have:=zPd Q h2 v hv (out.takeWhile (fun x=>decide (Q v≤Q x))).length (by rw [List.length_append]; omega) (by rw [List.take_left]; exact zLU Q _ out) (by rw [List.drop_left]; exact zNc Q _ out h.1)
      rw [List.take_left,List.drop_left] at this
      exact this
    · rw [if_neg hv]; exact zNn Q h v hv
theorem zK1 (Q:Str→Int) (vs:List Str):Ord Q (rankS Q vs) vs:=by
  have:=zM4 Q vs [] [] ⟨List.Pairwise.nil,fun q=>by split <;> rfl⟩
  rwa [List.nil_append] at this
theorem zRx (k:Int) (l:List GPref) (pr:Bool) (vs:List Str) (h:smPr l) (hv:vs.length≤100000) (hs:∀ v ∈ vs,v.length≤1000000):zET k l pr vs=some (rankS (qualS k l pr) vs):=by
  obtain ⟨r,h1,h2⟩:=zQW k l pr vs (qualS k l pr) hv fun v hm=>zOM k l pr v h (hs v hm)
  rw [h1,zQD _ h2 (zK1 _ vs)]
theorem zQH (k:Int) (l:List GField) (hl:smL l):smPr (zIR k l).1:=by
  have hm:=zKu l (nameF k)
  have hs:=zKa l (nameF k) 300 fun f hf=>(hl.2 f hf).2
  unfold zIR
  split
  · exact ⟨by simp,by simp⟩
  split
  · refine ⟨Nat.le_trans (List.length_filterMap_le _ _) (by omega),fun p hp=>?_⟩
    rw [List.mem_filterMap] at hp
    obtain ⟨m,h1,h2⟩:=hp
    unfold prefO at h2
    split at h2
    · injection h2 with h2; subst h2
      exact zQJ k m (hs m h1)
    · cases h2
  · exact ⟨by simp,by simp⟩
def rk0 (a:GAxis) (l:List GField):List Str :=
  if kindF a.fName≠0 then rankS (qualS (kindF a.fName) (zIR (kindF a.fName) l).1 (zIR (kindF a.fName) l).2) a.fValues
  else if a.fValues.contains (join (allM l a.fName)) then [join (allM l a.fName)] else []
def rkS (l:List GField) (strict:Bool) (a:GAxis):List Str:=if !axN a then [] else if (rk0 a l).isEmpty&&!strict then a.fValues.take 1 else rk0 a l
theorem zRq (a:GAxis):valB [a]=axN a:=by
  unfold valB chk okA
  simp [chk]
theorem zNJ {a:GAxis} (h:axN a=true):1≤a.fValues.length∧a.fValues.length≤16∧chk (okV (domF a.fName)) [] a.fValues=true:=by
  unfold axN axV at h
  simp only [Bool.and_eq_true,decide_eq_true_eq] at h
  exact ⟨h.2.1.1,h.2.1.2,h.2.2⟩
theorem zKA (a:GAxis) (l:List GField) (strict:Bool) (ha:smA a) (hl:smL l):zBD a l strict=some (rkS l strict a):=by
  have hn:=ha.1
  obtain ⟨b1,b2⟩:=zP8 hl
  obtain ⟨j1,j2⟩:=zND hl a.fName
  unfold zBD rkS
  rw [zHk [a] (fun x hx=>by rw [List.mem_singleton] at hx; subst hx; exact ha),zAA,zRq]
  cases hax:axN a with
  | false=>rfl
  | true =>
    obtain ⟨v1,v2,v3⟩:=zNJ hax
    have h0:((bif kindF a.fName !=0 then
      (zDo (kindF a.fName) l).bind fun r29=>(zET (kindF a.fName) r29.1 r29.2 a.fValues).bind fun r36=>some r36
    else
      (zB8 l a.fName).bind fun r42=>(zE5 r42).bind fun r48=>(zAd a.fValues r48).bind fun r53=>(bif r53 then some ([r48]:List Str) else some ([]:List Str))))=some (rk0 a l):=by
      unfold rk0
      by_cases hk:kindF a.fName=0
      · rw [hk,if_neg (by simp),show ((0:Int) !=0)=false from rfl,zAB,zP7 l _ b1 b2 (by omega),zAA,zO8 _ (by omega) (by omega),zAA,zMX _ _ (by omega),zAA]
        cases a.fValues.contains (join (allM l a.fName)) <;> rfl
      · rw [if_pos hk,show (kindF a.fName !=0)=true by simpa using hk,zAC,zQi _ l hl,zAA,zRx _ _ _ _ (zQH _ l hl) (by omega) ha.2,zAA]
    rw [Bool.not_true,zAB,zMm _ (by omega),zAA,h0,zAA,if_neg (by decide),show (((rk0 a l).length:Int)==0)=((rk0 a l).length==0) from eqI _ 0]
    have e:((rk0 a l).length==0)=(rk0 a l).isEmpty:=by cases rk0 a l <;> rfl
    rw [e]
    cases hc:(rk0 a l).isEmpty&&!strict with
    | true =>
      rw [zAC,if_pos rfl]
      cases hvs:a.fValues with
      | nil=>rw [hvs] at v1; simp at v1
      | cons x xs=>rfl
    | false=>rw [zAB,if_neg (by decide),zAA]
theorem zPa (a:GAxis) (l:List GField) (strict:Bool):(rkS l strict a).length≤16∧∀ v ∈ rkS l strict a,v ∈ a.fValues:=by
  unfold rkS
  cases hax:axN a with
  | false=>exact ⟨by simp,by simp⟩
  | true =>
    obtain ⟨v1,v2,v3⟩:=zNJ hax
    rw [if_neg (by decide)]
    split
    · exact ⟨by rw [List.length_take]; omega,fun v hv=>List.mem_of_mem_take hv⟩
    · unfold rk0
      split
      · have:=zK1 (qualS (kindF a.fName) (zIR (kindF a.fName) l).1 (zIR (kindF a.fName) l).2) a.fValues
        exact ⟨Nat.le_trans (zRv this) v2,zRX this⟩
      · split
        · rename_i hc
          exact ⟨by simp,fun v hv=>by rw [List.mem_singleton] at hv; subst hv; simpa using hc⟩
        · exact ⟨by simp,by simp⟩
end Go.Eng.Pure
