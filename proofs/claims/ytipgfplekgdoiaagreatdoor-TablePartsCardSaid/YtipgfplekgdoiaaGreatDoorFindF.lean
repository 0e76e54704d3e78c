/- A part. -/
import Derived.Test.YtipgfplekgdoiaaGreatDoorFindA
set_option linter.unusedVariables false
namespace Go.Eng.Pure
open Go Go.Eng
set_option linter.unusedVariables false
theorem low45 (x:UInt8):(lowB x==45)=(x==45):=by
  have:=zKw (fun c=>(lowB c==45)==(c==45)) (by decide +kernel) x
  exact beq_iff_eq.1 this
def preL:List Str→List Str→Bool
  | [],_=>true
  | _ :: _,[]=>false
  | x :: xs,y :: ys=>fold x y&&preL xs ys
theorem zNK (x y:UInt8) (a b:Str):fold (x :: a) (y :: b)=((lowB x==lowB y)&&fold a b):=by
  unfold fold lower
  rw [Bool.eq_iff_iff]
  simp only [List.length_cons,List.map_cons,Bool.and_eq_true,beq_iff_eq,List.cons.injEq]
  constructor
  · rintro ⟨h1,h2,h3⟩; exact ⟨h2,by omega,h3⟩
  · rintro ⟨h1,h2,h3⟩; exact ⟨by omega,h1,h3⟩
theorem zF3 (c:UInt8) (s:Str):∃ y ys,zAY c s=y :: ys:=by
  cases h:zAY c s with
  | nil=>exact absurd h (zEP c s)
  | cons y ys=>exact ⟨y,ys,rfl⟩
theorem zH0 (c x:UInt8) (s:Str) {y:Str} {ys:List Str} (h:zAY c s=y :: ys):zAY c (x :: s)=if x=c then [] :: y :: ys else (x :: y) :: ys:=by
  rw [zAY,h]
theorem zKc:∀ r t:Str,(lower r++[45]).isPrefixOf (lower t++[45])=preL (zAY 45 r) (zAY 45 t)
  | [],[]=>rfl
  | [],c :: t=>by
    obtain ⟨y,ys,hy⟩:=zF3 45 t
    have h:=low45 c
    show ((45:UInt8)==lowB c&&List.isPrefixOf [] (lower t++[45]))=preL [[]] (zAY 45 (c :: t))
    rw [zH0 45 c t hy]
    by_cases hc:c=45
    · subst hc; rfl
    · rw [if_neg hc]
      have h1:(lowB c==45)=false:=by rw [h]; simpa using hc
      have h2:((45:UInt8)==lowB c)=false:=by
        rw [beq_eq_false_iff_ne] at h1 ⊢; exact fun e=>h1 e.symm
      rw [h2]; rfl
  | x :: r,[]=>by
    obtain ⟨y,ys,hy⟩:=zF3 45 r
    have h:=low45 x
    show ((lowB x==(45:UInt8))&&List.isPrefixOf (lower r++[45]) [])=preL (zAY 45 (x :: r)) [[]]
    have e:List.isPrefixOf (lower r++[45]) []=false:=by cases lower r <;> rfl
    rw [zH0 45 x r hy,e,Bool.and_false]
    by_cases hx:x=45
    · rw [if_pos hx]; rfl
    · rw [if_neg hx]; rfl
  | x :: r,c :: t=>by
    have ih:=zKc r t
    obtain ⟨y,ys,hy⟩:=zF3 45 r
    obtain ⟨z,zs,hz⟩:=zF3 45 t
    have hx:=low45 x
    have hc:=low45 c
    show (lowB x==lowB c&&List.isPrefixOf (lower r++[45]) (lower t++[45]))=preL (zAY 45 (x :: r)) (zAY 45 (c :: t))
    rw [ih,zH0 45 x r hy,zH0 45 c t hz,hy,hz]
    by_cases h1:x=45
    · by_cases h2:c=45
      · subst h1; subst h2
        rw [if_pos rfl,if_pos rfl]
        show _=(fold [] []&&preL (y :: ys) (z :: zs)); rfl
      · subst h1
        rw [if_pos rfl,if_neg h2]
        have:((lowB 45==lowB c):Bool)=false:=by
          rw [beq_eq_false_iff_ne] ; intro e
          have:(lowB c==45)=true:=by rw [← e]; rfl
          rw [hc] at this; exact h2 (beq_iff_eq.1 this)
        rw [this]; rfl
    · by_cases h2:c=45
      · subst h2
        rw [if_neg h1,if_pos rfl]
        have:((lowB x==lowB 45):Bool)=false:=by
          show (lowB x==45)=false
          rw [hx]; simpa using h1
        rw [this]; rfl
      · rw [if_neg h1,if_neg h2]
        show (lowB x==lowB c&&(fold y z&&preL ys zs))=(fold (x :: y) (c :: z)&&preL ys zs)
        rw [zNK,Bool.and_assoc]
def zMm (r t:Str):Int:=if !((r==[42])||langS r)||!langS t then -1 else if r=[42] then 0 else if preL (zAY 45 r) (zAY 45 t) then ((zAY 45 r).length:Int) else -1
theorem zKE (s:Str) (hs:s.length≤1000000):zC7 s=some ((s==[42])||langS s):=by
  unfold zC7
  rw [zNa s hs]
  cases s==[42] <;> rfl
theorem zNO (r t:Str) (hr:r.length≤1000000) (ht:t.length≤1000000):zEM r t=some (zMm r t):=by
  have hc:r.count 45≤r.length:=List.count_le_length
  unfold zEM zMm
  rw [zKE r hr,zAA,zNa t ht]
  cases ((r==[42])||langS r) with
  | false=>rfl
  | true =>
    cases langS t with
    | false=>rfl
    | true =>
      simp only [Bool.not_true,zAB,zAA,Bool.or_self,Bool.false_eq_true,if_false]
      by_cases h:r=[42]
      · subst h; rfl
      · rw [show (r == [42]) = false by simpa using h, zAB, if_neg h, zBf _ (by omega), zAA, zHV (by rw [zCb]; omega) (by simp), zAA,
          zBf _ (by omega),zAA,zHV (by rw [zCb]; omega) (by simp),zAA]
        unfold zD2
        rw [Etag.HasPrefix_eq,zAA,zAA,zKc]
        cases preL (zAY 45 r) (zAY 45 t) with
        | false=>rfl
        | true =>
          rw [Bool.not_true,zAB,if_pos rfl]
          unfold zCm
          rw [show ((([45]:Str).length:Int)==0)=false from rfl,zAB,show ((([45]:Str).length:Int)==1)=true from rfl,zAC,zCG,zAA,zAA,wrs (by omega),zFs]
theorem seq (a b:Str):(a==b)=decide (a=b):=by rw [Bool.eq_iff_iff]; simp
def parIn (l:List GParam) (p:GParam):Bool:=l.any fun x=>x.fName==p.fName&&fold x.fValue p.fValue
def zNS (r t:GMediaType):Int :=
  bif (r.fType==[42])&&(r.fSub==[42]) then 0 else bif r.fType==t.fType then (bif r.fSub==[42] then 1 else bif r.fSub==t.fSub then (bif r.fParams.all (parIn t.fParams) then 2+(r.fParams.length:Int) else -1) else -1) else -1
def smPv (l:List GParam):Prop:=l.length≤1000001∧∀ p ∈ l,p.fValue.length≤1000000
theorem zKX (l:List GParam) (p:GParam) (h:smPv l) (hp:p.fValue.length≤1000000):zCS l p=some (parIn l p):=by
  unfold zCS parIn
  rw [zBX (zBD l p) l (fun x=>x.fName==p.fName&&fold x.fValue p.fValue) (.inr true) (.inl ()),zAA]
  · cases l.any fun x=>x.fName==p.fName&&fold x.fValue p.fValue <;> rfl
  · intro n hn
    have hx:=h.2 _ (List.getElem_mem hn)
    have hl:=h.1
    unfold zBD
    rw [zAJ hn,zAC,zAE hn,zAA,zIC _ _ (by omega) (by omega),wrs (by omega)]
    cases l[n].fName==p.fName <;> cases fold l[n].fValue p.fValue <;> simp
  · unfold zBD
    rw [zAI (Nat.le_refl _),zAB]
theorem zNl (l : List GParam) (p : GParam → Bool) (body : Int → Option (Int ⊕ (Unit ⊕ Int))) (h : ∀ (n : Nat) (hn : n < l.length), body (n : Int) = some (if p l[n] then .inl ((n + 1 : Nat) : Int) else .inr (.inr (-1))))
    (h':body (l.length:Int)=some (.inr (.inl ()))):zAG body 0=some (if l.all p then .inl () else .inr (-1)):=by
  rw [zBX body l (fun x=>!p x) (.inr (-1)) (.inl ())]
  · have:l.any (fun x=>!p x)=!l.all p:=by rw [List.all_eq_not_any_not]; simp
    rw [this]
    cases l.all p <;> rfl
  · intro n hn
    rw [h n hn]
    cases p l[n] <;> simp
  · exact h'
theorem zM2 (r t:GMediaType) (hr:smPv r.fParams) (ht:smPv t.fParams):zDn r t=some (zNS r t):=by
  have hl:=hr.1
  unfold zDn zNS
  rw [zNl r.fParams (parIn t.fParams) (zBg r t)]
  · have hw:wr (2+(r.fParams.length:Int))=2+(r.fParams.length:Int):=wr_eq ⟨by omega,by omega⟩
    rw [hw,zAA]
    simp only [bne]
    cases r.fType==[42] <;> cases r.fSub==[42] <;> cases r.fType==t.fType <;> cases r.fSub==t.fSub <;> cases r.fParams.all (parIn t.fParams) <;> rfl
  · intro n hn
    have hp:=hr.2 _ (List.getElem_mem hn)
    unfold zBg
    rw [zAJ hn,zAC,zAE hn,zAA,zKX _ _ ht hp,zAA,wrs (by omega)]
    cases parIn t.fParams r.fParams[n] <;> rfl
  · unfold zBg
    rw [zAI (Nat.le_refl _),zAB]
def zMz (k:Int) (r v:Str):Int:=bif r==[42] then 0 else bif canS k r==canS k v then 1 else -1
theorem zNN (k:Int) (r v:Str) (hr:r.length≤1000000) (hv:v.length≤1000000):zFV k r v=some (zMz k r v):=by
  unfold zFV zMz
  rw [zKI k r (by omega),zAA,zKI k v (by omega),zAA]
  cases r==[42] <;> cases canS k r==canS k v <;> rfl
def zJZ (k:Int) (r v:Str):Int :=
  if k=1 then (bif (zBv r).2&&(typeS v).2 then zNS (zBv r).1 (typeS v).1 else -1) else if k=2 then zMm r v
  else if k=3∨k=4 then (bif (tok r&&tok v)&&(v !=[42]) then zMz k r v else -1) else -1
theorem zJi (s:Str):∀ p ∈ (parS s).2.1,p.fName.length≤s.length∧p.fValue.length≤s.length:=by
  obtain ⟨c1,c2⟩:=zIz 59 s
  have ho:∀ m:Str,m.length≤s.length→(oneS m).1.length≤s.length∧(oneS m).2.1.length≤s.length:=by
    intro m hm
    have hu:=zOt (m.drop (m.idxOf 61+1))
    unfold oneS
    split
    · have h1:(lower (m.take (m.idxOf 61))).length≤s.length:=by rw [zCb,List.length_take]; omega
      have h2:(m.drop (m.idxOf 61+1)).length≤s.length:=by rw [List.length_drop]; omega
      split
      · exact ⟨h1,h2⟩
      · exact ⟨h1,by simp only []; omega⟩
    · simp
  have hp:∀ (l:List Str) (acc ps:List GParam),(∀ x ∈ l,x.length≤s.length)→(∀ p ∈ acc,p.fName.length≤s.length∧p.fValue.length≤s.length)→parL l acc=some ps→∀ p ∈ ps,p.fName.length≤s.length∧p.fValue.length≤s.length:=by
    intro l
    induction l with
    | nil=>intro acc ps _ ha h; unfold parL at h; injection h with h; subst h; exact ha
    | cons m l ih =>
      intro acc ps hm ha h
      have hl:∀ x ∈ l,x.length≤s.length:=fun x hx=>hm x (List.mem_cons_of_mem _ hx)
      unfold parL at h
      split at h
      · exact ih _ _ hl ha h
      · split at h
        · refine ih _ _ hl ?_ h
          intro p hp
          rcases List.mem_append.1 hp with hp | hp
          · exact ha p hp
          · rw [List.mem_singleton] at hp
            subst hp
            exact ho (trim m) (Nat.le_trans (zHf m) (hm m List.mem_cons_self))
        · cases h
  unfold parS
  cases hc:cutS 59 s with
  | nil=>simp
  | cons x l =>
    rw [hc] at c1 c2
    show ∀ p ∈ (parC x l).2.1,_
    unfold parC
    split
    · simp
    · split
      · rename_i ps h
        exact hp l [] ps (fun y hy=>c1 y (List.mem_cons_of_mem _ hy)) (by simp) h
      · simp
theorem zHn (s:Str):(zBv s).1.fType.length≤s.length∧(zBv s).1.fSub.length≤s.length∧(zBv s).1.fParams.length≤s.length+1∧∀ p ∈ (zBv s).1.fParams,p.fName.length≤s.length∧p.fValue.length≤s.length:=by
  obtain ⟨l1,l2⟩:=zG0 s
  have l3:=zJi s
  unfold zBv
  split
  · refine ⟨?_,?_,l2,l3⟩
    · rw [zCb,List.length_take]; omega
    · rw [zCb,List.length_drop]; omega
  · simp [noT]
theorem zNs (s:Str):(typeS s).1.fType.length≤s.length∧(typeS s).1.fSub.length≤s.length∧(typeS s).1.fParams.length≤s.length+1∧∀ p ∈ (typeS s).1.fParams,p.fName.length≤s.length∧p.fValue.length≤s.length:=by
  unfold typeS
  split
  · simp [noT]
  · exact zHn s
theorem zOv {s:Str} (hs:s.length≤1000000):smPv (zBv s).1.fParams:=by
  obtain ⟨_,_,h3,h4⟩:=zHn s
  exact ⟨by omega,fun p hp=>by have:=(h4 p hp).2; omega⟩
theorem zPV {s:Str} (hs:s.length≤1000000):smPv (typeS s).1.fParams:=by
  obtain ⟨_,_,h3,h4⟩:=zNs s
  exact ⟨by omega,fun p hp=>by have:=(h4 p hp).2; omega⟩
theorem zNH (k:Int) (r v:Str) (hr:r.length≤1000000) (hv:v.length≤1000000):zFS k r v=some (zJZ k r v):=by
  unfold zFS zJZ
  rw [zJF r hr,zAA,zLh v hv,zAA,zM2 _ _ (zOv hr) (zPV hv),zAA,zNO r v hr hv,zAA,zDH r (by omega),zAA,zDH v (by omega),zAA,zNN k r v hr hv,zAA]
  by_cases h1:k=1
  · subst h1
    rw [if_pos rfl]
    cases (zBv r).2 <;> cases (typeS v).2 <;> rfl
  rw [if_neg h1,show (k==1)=false by simpa using h1,zAB]
  by_cases h2:k=2
  · subst h2; rfl
  rw [if_neg h2,show (k==2)=false by simpa using h2,zAB]
  by_cases h3:k=3
  · subst h3
    rw [if_pos (.inl rfl)]
    simp only [bne]
    cases tok r <;> cases tok v <;> cases v==[42] <;> rfl
  by_cases h4:k=4
  · subst h4
    rw [if_pos (.inr rfl)]
    simp only [bne]
    cases tok r <;> cases tok v <;> cases v==[42] <;> rfl
  rw [if_neg (by omega),show (k==3)=false by simpa using h3,show (k==4)=false by simpa using h4]
  rfl
end Go.Eng.Pure
namespace Go.Eng.Pure
open Go Go.Eng
set_option linter.unusedVariables false
def isQ (p:GParam):Bool:=p.fName==[113]
def qAt (l:List GParam):Nat:=l.findIdx isQ
theorem zPa (l:List GParam):qAt l≤l.length:=List.findIdx_le_length
theorem zPj (l:List GParam) (hl:l.length≤1073741824):zAS l zB7=some (if qAt l<l.length then (qAt l:Int) else -1):=by
  have key:∀ (k n:Nat),n+k=l.length→zAG (zAK l zB7) (n:Int)=some (if n+qAt (l.drop n)<l.length then .inr ((n+qAt (l.drop n):Nat):Int) else .inl ()):=by
    intro k
    induction k with
    | zero =>
      intro n hn
      obtain rfl:n=l.length:=by omega
      rw [zAF (r:=.inl ()),if_neg (by omega)]
      simp only [zAK,zAI (Nat.le_refl l.length),zAB]
    | succ k ih =>
      intro n hn
      have hlt:n<l.length:=by omega
      have hb:zAK l zB7 (n:Int)=some (if isQ l[n] then .inr (.inr (n:Int)) else .inl ((n+1:Nat):Int)):=by
        simp only [zAK,zAJ hlt,zAC,zAE hlt,zAA,wrs (show n≤4*1073741824 by omega)]
        unfold zB7
        rw [zAA]
        show (bif isQ l[n] then _ else _)=_
        cases isQ l[n] <;> rfl
      have hq:qAt (l.drop n)=if isQ l[n] then 0 else qAt (l.drop (n+1))+1:=by
        unfold qAt
        rw [List.drop_eq_getElem_cons hlt,List.findIdx_cons]
        cases isQ l[n] <;> rfl
      rw [hq]
      cases hp:isQ l[n] with
      | true =>
        rw [hp,if_pos rfl] at hb
        rw [zAF hb,if_pos rfl,if_pos (by omega)]; rfl
      | false =>
        rw [hp,if_neg (by decide)] at hb
        rw [zAL hb,ih (n+1) (by omega),if_neg (show ¬ (false=true) by decide)]
        have e:n+1+qAt (l.drop (n+1))=n+(qAt (l.drop (n+1))+1):=by omega
        rw [e]
  have:=key l.length 0 (by omega)
  rw [show ((0:Nat):Int)=0 from rfl,List.drop_zero,Nat.zero_add] at this
  unfold zAS
  rw [this,zAA]
  by_cases h:qAt l<l.length
  · rw [if_pos h,if_pos h]
  · rw [if_neg h,if_neg h]
def rngS (k:Int) (v:Str) (ps:List GParam):Str×Bool :=
  if k=1 then (wrtT ⟨(zBv v).1.fType,(zBv v).1.fSub,ps⟩,(zBv v).2)
  else if k=2 then (canS k v,((v==[42])||langS v)&&((ps.length:Int)==0))
  else (canS k v,tok v&&((ps.length:Int)==0))
def qOf (l:List GParam):Int×Bool:=match l[qAt l]? with | some p=>zFi p.fValue | none=>(1000,true)
def prefT (k:Int) (r:Str×List GParam×Bool):GPref×Bool :=
  if !r.2.2 then (⟨[],0⟩,false) else if !(qOf r.2.1).2 then (⟨[],0⟩,false)
  else (⟨(rngS k r.1 (r.2.1.take (qAt r.2.1))).1,(qOf r.2.1).1⟩,(rngS k r.1 (r.2.1.take (qAt r.2.1))).2)
def prefS (k:Int) (m:Str):GPref×Bool:=prefT k (parS m)
theorem zKH (k:Int) (v:Str) (ps:List GParam) (hv:v.length≤1000) (hp:smPs ps):zEs k v ps=some (rngS k v ps):=by
  obtain ⟨r1,r2,_,_⟩:=zHn v
  unfold zEs rngS
  by_cases h1:k=1
  · rw [if_pos h1,decide_eq_true h1,zAC]
    unfold zE9
    rw [zJF v (by omega),zAA,zMH _ (by simp only []; omega) (by simp only []; omega) hp,zAA,zAA]
  rw [if_neg h1,decide_eq_false h1,zAB]
  by_cases h2:k=2
  · rw [if_pos h2,decide_eq_true h2,zAC]
    unfold zE2
    rw [zKI k v (by omega),zAA,zKE v (by omega),zAA,zAA]
  rw [if_neg h2,decide_eq_false h2,zAB,zKI k v (by omega),zAA,zDH v (by omega),zAA]
theorem zPY (l:List GParam) (h:smPs l):smPs (l.take (qAt l)) :=
  ⟨by rw [List.length_take]; have:=h.1; omega,fun p hp=>h.2 p (List.mem_of_mem_take hp)⟩
theorem zOk {m:Str} (h:m.length≤300):(parS m).1.length≤300∧smPs (parS m).2.1:=by
  obtain ⟨l1,l2⟩:=zG0 m
  have l3:=zJi m
  exact ⟨by omega,by omega,fun p hp=>by have:=l3 p hp; omega⟩
theorem zPF (k:Int) (m:Str) (h:m.length≤300):zGK k m=some (prefS k m):=by
  obtain ⟨h1,h2⟩:=zOk h
  unfold zGK prefS
  rw [zKq m (by omega),zAA]
  generalize parS m=r at *
  obtain ⟨v,ps,ok⟩:=r
  unfold prefT
  simp only [] at h1 h2 ⊢
  cases ok with
  | false=>rfl
  | true =>
    have hl:=h2.1
    have hle:=zPa ps
    rw [Bool.not_true,zAB,if_neg (by decide),zPj ps (by omega),zAA]
    unfold qOf
    by_cases hq:qAt ps<ps.length
    · rw [if_pos hq,decide_eq_true (by omega),zAC,zAE hq,zAA,zMj,zAA,List.getElem?_eq_getElem hq]
      simp only []
      cases hb:(zFi ps[qAt ps].fValue).2 with
      | false=>rfl
      | true =>
        rw [Bool.not_true,zAB,zE8 (by omega),zAA,zAA]
        simp only []
        rw [zKH k v _ (by omega) (zPY ps h2),zAA]
        rfl
    · have hx:qAt ps=ps.length:=by omega
      rw [if_neg hq,List.getElem?_eq_none (by omega)]
      simp only []
      rw [show decide ((0:Int)≤-1)=false from rfl,zAB,zAA]
      simp only []
      rw [zKH k v _ (by omega) h2,zAA,hx,List.take_length]
      rfl
def nameF (k:Int):Str:=if k=1 then [65,99,99,101,112,116] else if k=2 then [65,99,99,101,112,116,45,76,97,110,103,117,97,103,101]
  else if k=3 then [65,99,99,101,112,116,45,67,104,97,114,115,101,116] else if k=4 then [65,99,99,101,112,116,45,69,110,99,111,100,105,110,103] else []
theorem zO7 (k:Int):zBH k=some (nameF k):=by
  unfold zBH nameF
  by_cases h1:k=1
  · subst h1; rfl
  by_cases h2:k=2
  · subst h2; rfl
  by_cases h3:k=3
  · subst h3; rfl
  by_cases h4:k=4
  · subst h4; rfl
  rw [show (k==1)=false by simpa using h1,show (k==2)=false by simpa using h2,show (k==3)=false by simpa using h3,show (k==4)=false by simpa using h4,if_neg h1,if_neg h2,if_neg h3,if_neg h4]
  rfl
theorem zMi (k:Int):(nameF k).length≤100:=by
  unfold nameF
  split
  · decide
  split
  · decide
  split
  · decide
  split <;> decide
def prefO (k:Int) (m:Str):Option GPref:=if (prefS k m).2 then some (prefS k m).1 else none
def zIK (k:Int) (l:List GField):List GPref×Bool:=if nameF k=[] then ([],false) else if hasF l (nameF k) then ((allM l (nameF k)).filterMap (prefO k),true) else ([],false)
theorem zNf (k:Int) (ms:List Str) (acc:List GPref):ms.foldl (fun a x=>if (prefS k x).2 then a++[(prefS k x).1] else a) acc=acc++ms.filterMap (prefO k):=by
  rw [← zIq]
  congr 1
  funext a x
  unfold prefO
  cases (prefS k x).2 <;> rfl
theorem zM1 {l:List GField} (h:smL l):l.length≤1073741824∧∀ f ∈ l,smF f:=⟨by have:=h.1; omega,fun f hf=>by have:=h.2 f hf; exact ⟨by omega,by omega⟩⟩
theorem zOI (k:Int) (l:List GField) (hl:smL l):zEW k l=some (zIK k l):=by
  obtain ⟨b1,b2⟩:=zM1 hl
  have hn:=zMi k
  have hm:=zJr l (nameF k)
  have hs:=zJ2 l (nameF k) 300 fun f hf=>(hl.2 f hf).2
  unfold zEW zIK
  rw [zO7,zAA,zOn l _ b1 b2 (by omega),zAA,zMo l _ b1 b2 (by omega),zAA]
  generalize allM l (nameF k)=ms at *
  have:=zDT (fun (st:List GPref) i=>(st,i)) ms (fun a x=>if (prefS k x).2 then a++[(prefS k x).1] else a) id (zCW k ms) (fun n st=>st.length≤n) [] (by simp) ?_ ?_
  · rw [this,zAA,zNf,List.nil_append]
    by_cases h1:nameF k=[]
    · rw [if_pos h1,h1]; rfl
    · rw [if_neg h1,show (nameF k==[])=false by simpa using h1,zAB,zAA]
      cases hasF l (nameF k) <;> rfl
  · intro n hn st hI
    have hx:=hs _ (List.getElem_mem hn)
    refine ⟨?_,?_⟩
    · unfold zCW
      simp only []
      rw [zAJ hn,zAC,zAE hn,zAA,zPF k _ hx,zAA,wrs (by omega)]
      cases (prefS k ms[n]).2 with
      | true=>rw [zAC,zAm (by omega) (zBW _),zAA]; rfl
      | false=>rfl
    · split
      · rw [List.length_append,List.length_singleton]; omega
      · omega
  · intro st hI
    unfold zCW
    simp only []
    rw [zAI (Nat.le_refl _),zAB]; rfl
theorem zPI (k:Int) (s:Str):(canS k s).length≤s.length+10:=by
  unfold canS
  split
  · simp
  split
  · simp
  · rw [zCb]; omega
theorem zKj (B:Nat):∀ l:List GParam,(∀ p ∈ l,(parT p).length≤B)→(l.flatMap parT).length≤B*l.length
  | [],_=>by simp
  | p :: l,h=>by
    have h1:=h p List.mem_cons_self
    have h2:=zKj B l fun q hq=>h q (List.mem_cons_of_mem _ hq)
    rw [List.flatMap_cons,List.length_append,List.length_cons,Nat.mul_succ]; omega
theorem zOT (k:Int) (m:Str) (h:m.length≤300):(prefS k m).1.fRange.length≤1000000:=by
  obtain ⟨h1,h2⟩:=zOk h
  obtain ⟨l1,l2⟩:=zG0 m
  have l3:=zJi m
  unfold prefS
  generalize parS m=r at *
  obtain ⟨v,ps,ok⟩:=r
  unfold prefT
  simp only [] at h1 h2 l2 l3 ⊢
  have hr:(rngS k v (ps.take (qAt ps))).1.length≤1000000:=by
    obtain ⟨r1,r2,_,_⟩:=zHn v
    have hc:=zPI k v
    unfold rngS
    split
    · have hb := zKj 910 (ps.take (qAt ps)) (fun p hp => by
        have h3:=l3 p (List.mem_of_mem_take hp)
        have h4:=zLO p.fValue
        unfold parT
        simp only [List.length_append,List.length_cons,List.length_nil]
        omega)
      have ht:(ps.take (qAt ps)).length≤301:=by rw [List.length_take]; omega
      simp only []
      unfold wrtT wrtP
      simp only [List.length_append,List.length_cons,List.length_nil]
      omega
    · split
      · simp only []; omega
      · simp only []; omega
  split
  · simp
  split
  · simp
  · exact hr
end Go.Eng.Pure
namespace Go.Eng.Pure
open Go Go.Eng
set_option linter.unusedVariables false
def idN:Str:=[105,100,101,110,116,105,116,121]
def stepQ (k:Int) (v:Str) (st:Int×Int) (p:GPref):Int×Int:=if st.1<zJZ k p.fRange v then (zJZ k p.fRange v,p.fQ) else st
def bestQ (k:Int) (l:List GPref) (v:Str) (q:Int):Int×Int:=l.foldl (stepQ k v) (-1,q)
def qualS (k:Int) (l:List GPref) (pr:Bool) (v:Str):Int :=
  if !pr then 1000 else (bestQ k l v (if k=4∧fold v idN=true then 1 else 0)).2
theorem zKg (k : Int) (v : Str) (q q' : Int) : ∀ (l : List GPref) (st st' : Int × Int), st.1 = st'.1 → (st.1 = -1 → st.2 = q ∧ st'.2 = q') → (0 ≤ st.1 → st.2 = st'.2) → -1 ≤ st.1 →
    (l.foldl (stepQ k v) st).1=(l.foldl (stepQ k v) st').1∧((l.foldl (stepQ k v) st).1=-1→(l.foldl (stepQ k v) st).2=q∧(l.foldl (stepQ k v) st').2=q')∧(0≤(l.foldl (stepQ k v) st).1→(l.foldl (stepQ k v) st).2=(l.foldl (stepQ k v) st').2)∧-1≤(l.foldl (stepQ k v) st).1
  | [],st,st',h1,h2,h3,h4=>⟨h1,h2,h3,h4⟩
  | p :: l,st,st',h1,h2,h3,h4=>by
    rw [List.foldl_cons,List.foldl_cons]
    refine zKg k v q q' l _ _ ?_ ?_ ?_ ?_
    all_goals
      unfold stepQ
      try rw [← h1]
      by_cases h:st.1<zJZ k p.fRange v
      · rw [if_pos h]; first | rw [if_pos h] | skip
        all_goals first | rfl | (intro h5; simp only [] at h5; omega) | (intro _; rfl) | (simp only []; omega)
      · rw [if_neg h]; first | rw [if_neg h] | skip
        all_goals assumption
def smPr (l:List GPref):Prop:=l.length≤1000000∧∀ p ∈ l,p.fRange.length≤1000000
theorem zMT (k:Int) (l:List GPref) (pr:Bool) (v:Str) (h:smPr l) (hv:v.length≤1000000):zER k l pr v=some (qualS k l pr v):=by
  unfold zER qualS
  cases pr with
  | false=>rfl
  | true =>
    have hl:=h.1
    rw [Bool.not_true,zAB,if_neg (by decide)]
    have:=zDT (fun (st:Int×Int) i=>(st.1,st.2,i)) l (stepQ k v) id (zCZ k l v) (fun n st=>True) (-1,0) trivial ?_ ?_
    · rw [this,zAA]
      obtain ⟨e1,e2,e3,e4⟩:=zKg k v 0 (if k=4∧fold v idN=true then 1 else 0) l (-1,0) (-1,(if k=4∧fold v idN=true then 1 else 0)) rfl (fun _=>⟨rfl,rfl⟩) (fun h=>by simp only [] at h; omega) (by simp only []; omega)
      unfold bestQ
      generalize l.foldl (stepQ k v) (-1,0)=a at *
      generalize l.foldl (stepQ k v) (-1,(if k=4∧fold v idN=true then 1 else 0))=b at *
      obtain ⟨a1,a2⟩:=a
      simp only [id] at e1 e2 e3 e4 ⊢
      rw [zIC v _ (by omega) (by decide),zAA]
      by_cases h0:a1=-1
      · obtain ⟨f1,f2⟩:=e2 h0
        rw [f2,f1,decide_eq_true (show a1<0 by omega),Bool.true_and]
        by_cases hk:k=4
        · rw [show (k==4)=true by simpa using hk,zAC,zAA]
          show (bif fold v idN then _ else _)=_
          cases hf:fold v idN with
          | true=>rw [if_pos ⟨hk,rfl⟩]; rfl
          | false=>rw [if_neg (fun h=>by simp at h)]; rfl
        · rw [show (k==4)=false by simpa using hk,if_neg (fun h=>hk h.1)]; rfl
      · rw [decide_eq_false (show ¬ a1<0 by omega),Bool.false_and,zAB,zAA,zAB,e3 (by omega)]
    · intro n hn st _
      have hp:=h.2 _ (List.getElem_mem hn)
      refine ⟨?_,trivial⟩
      unfold zCZ stepQ
      simp only []
      rw [zAJ hn,zAC,zAE hn,zAA,zNH k _ v hp hv,zAA,wrs (by omega)]
      by_cases hc:st.1<zJZ k l[n].fRange v
      · rw [decide_eq_true hc,zAC,if_pos hc]
      · rw [decide_eq_false hc,zAB,if_neg hc]
    · intro st _
      unfold zCZ
      simp only []
      rw [zAI (Nat.le_refl _),zAB]; rfl
section
variable (Q:Str→Int)
def Dsc (l:List Str):Prop:=l.Pairwise fun a b=>Q b≤Q a
def cls (q:Int) (l:List Str):List Str:=l.filter fun v=>Q v==q
theorem zIG {Q:Str→Int} {q:Int} {l:List Str} {v:Str}:v ∈ cls Q q l↔v ∈ l∧Q v=q:=by
  unfold cls; rw [List.mem_filter,beq_iff_eq]
theorem zI8 (q:Int) (a b:List Str):cls Q q (a++b)=cls Q q a++cls Q q b:=List.filter_append ..
theorem zFX (q:Int) (v:Str) (l:List Str):cls Q q (v :: l)=if Q v=q then v :: cls Q q l else cls Q q l:=by
  unfold cls
  rw [List.filter_cons]
  by_cases h:Q v=q
  · rw [if_pos h,if_pos (by simpa using h)]
  · rw [if_neg h,if_neg (by simpa using h)]
theorem zNk {q:Int} {l:List Str} (h:∀ v ∈ l,Q v≠q):cls Q q l=[]:=by
  unfold cls
  rw [List.filter_eq_nil_iff]
  intro v hv
  simpa using h v hv
theorem zLs:∀ l m:List Str,Dsc Q l→Dsc Q m→(∀ q,cls Q q l=cls Q q m)→l=m
  | [],[],_,_,_=>rfl
  | [],b :: m,_,_,h=>by
    have:=h (Q b)
    rw [zFX,if_pos rfl] at this
    cases this
  | a :: l,[],_,_,h=>by
    have:=h (Q a)
    rw [zFX,if_pos rfl] at this
    cases this
  | a :: l,b :: m,hl,hm,h=>by
    unfold Dsc at hl hm
    rw [List.pairwise_cons] at hl hm
    have h1:Q b≤Q a:=by
      have hb:b ∈ cls Q (Q b) (a :: l):=by rw [h (Q b)]; exact zIG.2 ⟨List.mem_cons_self,rfl⟩
      rcases List.mem_cons.1 (zIG.1 hb).1 with e | e
      · rw [e]; exact Int.le_refl _
      · exact hl.1 b e
    have h2:Q a≤Q b:=by
      have hb:a ∈ cls Q (Q a) (b :: m):=by rw [← h (Q a)]; exact zIG.2 ⟨List.mem_cons_self,rfl⟩
      rcases List.mem_cons.1 (zIG.1 hb).1 with e | e
      · rw [e]; exact Int.le_refl _
      · exact hm.1 a e
    have h3:Q a=Q b:=by omega
    have h4:=h (Q a)
    rw [zFX,if_pos rfl,zFX,if_pos h3.symm] at h4
    injection h4 with e1 e2
    have:l=m:=by
      refine zLs l m hl.2 hm.2 fun q=>?_
      have h5:=h q
      rw [zFX,zFX,← h3] at h5
      by_cases hq:Q a=q
      · rw [if_pos hq,if_pos hq] at h5; injection h5
      · rw [if_neg hq,if_neg hq] at h5; exact h5
    rw [e1,this]
def Ord (out vs:List Str):Prop:=Dsc Q out∧∀ q,cls Q q out=if 0<q then cls Q q vs else []
theorem zOM {vs a b:List Str} (ha:Ord Q a vs) (hb:Ord Q b vs):a=b:=zLs Q a b ha.1 hb.1 fun q=>by rw [ha.2,hb.2]
theorem zM9 {out vs : List Str} (h : Ord Q out vs) (v : Str) (hv : 0 < Q v) (at_ : Nat) (hat : at_ ≤ out.length) (h1 : ∀ x ∈ out.take at_, Q v ≤ Q x) (h2 : ∀ x ∈ out.drop at_, Q x < Q v) :
    Ord Q (out.take at_++[v]++out.drop at_) (vs++[v]):=by
  refine ⟨?_,fun q=>?_⟩
  · have hd:=h.1
    unfold Dsc at hd ⊢
    rw [← List.take_append_drop at_ out,List.pairwise_append] at hd
    rw [List.append_assoc,List.pairwise_append]
    refine ⟨hd.1,?_,?_⟩
    · rw [List.singleton_append,List.pairwise_cons]
      exact ⟨fun b hb=>by have:=h2 b hb; omega,hd.2.1⟩
    · intro a ha b hb
      rcases List.mem_append.1 hb with hb | hb
      · rw [List.mem_singleton] at hb; subst hb; exact h1 a ha
      · exact hd.2.2 a ha b hb
  · have hq:=h.2 q
    rw [← List.take_append_drop at_ out,zI8] at hq
    rw [zI8,zI8,zI8,zFX]
    show cls Q q (out.take at_)++(if Q v=q then [v] else [])++cls Q q (out.drop at_)=_
    by_cases he:Q v=q
    · subst he
      rw [zNk Q (l:=out.drop at_) (fun x hx=>by have:=h2 x hx; omega),List.append_nil] at hq ⊢
      rw [hq,if_pos hv,if_pos hv,if_pos rfl,if_pos rfl]; rfl
    · rw [if_neg he,List.append_nil,hq]
      split
      · rw [show cls Q q []=[] from rfl,List.append_nil]
      · rfl
theorem zLq {out vs:List Str} (h:Ord Q out vs) (v:Str) (hv:¬ 0<Q v):Ord Q out (vs++[v]):=by
  refine ⟨h.1,fun q=>?_⟩
  rw [h.2 q]
  split
  · rw [zI8,show cls Q q [v]=[] from by rw [zFX,if_neg (by omega)]; rfl,List.append_nil]
  · rfl
end
theorem zL9 (Q : Str → Int) (out : List Str) (hl : out.length ≤ 1000000) (q : Int) (hd : Dsc Q out) : ∀ n, n ≤ out.length → (∀ x ∈ out.drop n, Q x < q) →
    ∃ m,m≤out.length∧zAG (zDO (out.map Q) q) (n:Int)=some ((m:Nat):Int)∧(∀ x ∈ out.take m,q≤Q x)∧∀ x ∈ out.drop m,Q x<q:=by
  intro n
  induction n with
  | zero =>
    intro hn h
    refine ⟨0,by omega,zAF ?_,by simp,h⟩
    unfold zDO
    rfl
  | succ n ih =>
    intro hn h
    have hlt:n<out.length:=by omega
    have hlm:n<(out.map Q).length:=by rw [List.length_map]; exact hlt
    have hb:zDO (out.map Q) q ((n+1:Nat):Int)=some (if Q out[n]<q then .inl (n:Int) else .inr ((n+1:Nat):Int)):=by
      unfold zDO
      have e:((n+1:Nat):Int) - 1=(n:Int):=by omega
      rw [decide_eq_true (by omega),zAC,e,wrn (by omega),zAE hlm,zAA,zAA,List.getElem_map]
      by_cases hc:Q out[n]<q
      · rw [decide_eq_true hc,zAC,if_pos hc]
      · rw [decide_eq_false hc,zAB,if_neg hc]
    by_cases hc:Q out[n]<q
    · rw [if_pos hc] at hb
      obtain ⟨m,h1,h2,h3,h4⟩:=ih (by omega) (by
        intro x hx
        rw [List.drop_eq_getElem_cons hlt] at hx
        rcases List.mem_cons.1 hx with rfl | hx
        · exact hc
        · exact h x hx)
      exact ⟨m,h1,by rw [zAL hb]; exact h2,h3,h4⟩
    · rw [if_neg hc] at hb
      refine ⟨n+1,hn,zAF hb,?_,h⟩
      intro x hx
      rw [List.take_succ_eq_append_getElem hlt] at hx
      rcases List.mem_append.1 hx with hx | hx
      · unfold Dsc at hd
        rw [← List.take_append_drop n out,List.pairwise_append] at hd
        have:=hd.2.2 x hx out[n] (by rw [List.drop_eq_getElem_cons hlt]; exact List.mem_cons_self)
        omega
      · rw [List.mem_singleton] at hx; subst hx; omega
theorem zLZ {α:Type} (l:List α) (n:Nat) (x:α) (h:n≤l.length) (hl:l.length≤1000000):insS l (n:Int) [x]=some (l.take n++[x]++l.drop n):=by
  unfold insS
  rw [if_pos ⟨by omega,by omega,rfl,by simp only [big]; omega⟩]
  rfl
theorem zNr (k:Int) (l:List GPref) (pr:Bool) (vs:List Str) (Q:Str→Int) (hv:vs.length≤100000) (hQ:∀ v ∈ vs,zER k l pr v=some (Q v)):∃ out,zFp k l pr vs=some out∧Ord Q out vs:=by
  have key:∀ (j n:Nat) (out:List Str),n+j=vs.length→out.length≤n→Ord Q out (vs.take n)→∃ r,zAG (zB0 k l pr vs) (out,out.map Q,(n:Int))=some r∧Ord Q r vs:=by
    intro j
    induction j with
    | zero =>
      intro n out hn ho h
      have:n=vs.length:=by omega
      subst this
      rw [List.take_length] at h
      refine ⟨out,zAF ?_,h⟩
      unfold zB0
      simp only []
      rw [zAI (Nat.le_refl _),zAB]
    | succ j ih =>
      intro n out hn ho h
      have hlt:n<vs.length:=by omega
      have hx:=hQ _ (List.getElem_mem hlt)
      have ht:=zAg hlt
      by_cases hq:0<Q vs[n]
      · obtain ⟨m,h1,h2,h3,h4⟩:=zL9 Q out (by omega) (Q vs[n]) h.1 out.length (Nat.le_refl _) (by simp)
        have hb:zB0 k l pr vs (out,out.map Q,(n:Int))=some (.inl (out.take m++[vs[n]]++out.drop m,(out.take m++[vs[n]]++out.drop m).map Q,((n+1:Nat):Int))):=by
          unfold zB0
          simp only []
          rw [zAJ hlt,zAC,zAE hlt,zAA,hx,zAA,decide_eq_false (by omega),zAB,List.length_map,h2,zAA,zLZ out m _ h1 (by omega),zAA,
            zLZ (out.map Q) m _ (by rw [List.length_map]; exact h1) (by rw [List.length_map]; omega),zAA,wrs (by omega)]
          simp only [List.map_append,List.map_take,List.map_drop,List.map_cons,List.map_nil]
        rw [zAL hb]
        refine ih (n+1) _ (by omega) ?_ ?_
        · simp only [List.length_append,List.length_take,List.length_drop,List.length_singleton]; omega
        · rw [ht]; exact zM9 Q h _ hq m h1 h3 h4
      · have hb : zB0 k l pr vs (out, out.map Q, (n : Int)) = some (.inl (out, out.map Q, ((n + 1 : Nat) : Int))) := by
          unfold zB0
          simp only []
          rw [zAJ hlt,zAC,zAE hlt,zAA,hx,zAA,decide_eq_true (by omega),zAC,wrs (by omega)]
        rw [zAL hb]
        refine ih (n+1) _ (by omega) (by omega) ?_
        rw [ht]; exact zLq Q h _ hq
  obtain ⟨r,h1,h2⟩:=key vs.length 0 [] (by omega) (by simp) ⟨List.Pairwise.nil,fun q=>by split <;> rfl⟩
  refine ⟨r,?_,h2⟩
  unfold zFp
  rw [show ((0:Nat):Int)=0 from rfl] at h1
  rw [show (([]:List Str),([]:List Int),(0:Int))=([],List.map Q [],0) from rfl,h1,zAA]
structure RInv (Q:Str→Int) (vs out:List Str) (T:Int):Prop where
  dsc:Dsc Q out
  ge:∀ v ∈ out,T≤Q v∧0<Q v
  cl:∀ q,T≤q→0<q→cls Q q out=cls Q q vs
  nil:out=[]→∀ v ∈ vs,Q v<T
  lst:∀ x,out.getLast?=some x→Q x=T
theorem zOy {Q:Str→Int} {out vs:List Str} (h:Ord Q out vs):∀ v ∈ out,v ∈ vs:=by
  intro v hv
  have h1:v ∈ cls Q (Q v) out:=zIG.2 ⟨hv,rfl⟩
  rw [h.2] at h1
  split at h1
  · exact (zIG.1 h1).1
  · cases h1
theorem zOx {Q:Str→Int} {out vs:List Str} (h:Ord Q out vs):out.length≤vs.length:=by
  have:out.Perm (vs.filter fun v=>decide (0<Q v)):=by
    refine List.perm_iff_count.2 fun a=>?_
    have hc:∀ l:List Str,(cls Q (Q a) l).count a=l.count a:=fun l=>List.count_filter (by simp)
    rw [← hc out,h.2]
    by_cases ha:0<Q a
    · rw [if_pos ha,hc,List.count_filter (by simpa using ha)]
    · rw [if_neg ha,List.count_nil,List.count_eq_zero.2 (fun hm=>ha (by simpa using (List.mem_filter.1 hm).2))]
  rw [this.length_eq]
  exact List.length_filter_le _ _
end Go.Eng.Pure
namespace Go.Eng.Pure
open Go Go.Eng
set_option linter.unusedVariables false
def insQ (Q:Str→Int) (out:List Str) (v:Str):List Str:=if 0<Q v then out.takeWhile (fun x=>decide (Q v≤Q x))++[v]++out.dropWhile (fun x=>decide (Q v≤Q x)) else out
def rankS (Q:Str→Int) (vs:List Str):List Str:=vs.foldl (insQ Q) []
theorem zLw (Q:Str→Int) (q:Int):∀ out:List Str,Dsc Q out→∀ x ∈ out.dropWhile (fun x=>decide (q≤Q x)),Q x<q
  | [],_,x,hx=>by cases hx
  | a :: out,h,x,hx=>by
    unfold Dsc at h
    rw [List.pairwise_cons] at h
    rw [List.dropWhile_cons] at hx
    by_cases ha:q≤Q a
    · rw [if_pos (by simpa using ha)] at hx
      exact zLw Q q out h.2 x hx
    · rw [if_neg (by simpa using ha)] at hx
      rcases List.mem_cons.1 hx with rfl | hx
      · omega
      · have:=h.1 x hx; omega
theorem zKo (Q:Str→Int) (q:Int):∀ (out:List Str),∀ x ∈ out.takeWhile (fun x=>decide (q≤Q x)),q≤Q x
  | [],x,hx=>by cases hx
  | a :: out,x,hx=>by
    rw [List.takeWhile_cons] at hx
    split at hx
    · rename_i ha
      rcases List.mem_cons.1 hx with rfl | hx
      · simpa using ha
      · exact zKo Q q out x hx
    · cases hx
theorem zLR (Q:Str→Int):∀ (vs done out:List Str),Ord Q out done→Ord Q (vs.foldl (insQ Q) out) (done++vs)
  | [],done,out,h=>by rw [List.append_nil]; exact h
  | v :: vs,done,out,h=>by
    rw [List.foldl_cons,show done++v :: vs=(done++[v])++vs by simp]
    refine zLR Q vs _ _ ?_
    unfold insQ
    by_cases hv:0<Q v
    · rw [if_pos hv]
      have h2:Ord Q (out.takeWhile (fun x=>decide (Q v≤Q x))++out.dropWhile (fun x=>decide (Q v≤Q x))) done:=by rw [List.takeWhile_append_dropWhile]; exact h
      have:=zM9 Q h2 v hv (out.takeWhile (fun x=>decide (Q v≤Q x))).length (by rw [List.length_append]; omega) (by rw [List.take_left]; exact zKo Q _ out) (by rw [List.drop_left]; exact zLw Q _ out h.1)
      rw [List.take_left,List.drop_left] at this
      exact this
    · rw [if_neg hv]; exact zLq Q h v hv
theorem zKT (Q:Str→Int) (vs:List Str):Ord Q (rankS Q vs) vs:=by
  have:=zLR Q vs [] [] ⟨List.Pairwise.nil,fun q=>by split <;> rfl⟩
  rwa [List.nil_append] at this
theorem zO0 (k:Int) (l:List GPref) (pr:Bool) (vs:List Str) (h:smPr l) (hv:vs.length≤100000) (hs:∀ v ∈ vs,v.length≤1000000):zFp k l pr vs=some (rankS (qualS k l pr) vs):=by
  obtain ⟨r,h1,h2⟩:=zNr k l pr vs (qualS k l pr) hv fun v hm=>zMT k l pr v h (hs v hm)
  rw [h1,zOM _ h2 (zKT _ vs)]
theorem zN6 (k:Int) (l:List GField) (hl:smL l):smPr (zIK k l).1:=by
  have hm:=zJr l (nameF k)
  have hs:=zJ2 l (nameF k) 300 fun f hf=>(hl.2 f hf).2
  unfold zIK
  split
  · exact ⟨by simp,by simp⟩
  split
  · refine ⟨Nat.le_trans (List.length_filterMap_le _ _) (by omega),fun p hp=>?_⟩
    rw [List.mem_filterMap] at hp
    obtain ⟨m,h1,h2⟩:=hp
    unfold prefO at h2
    split at h2
    · injection h2 with h2; subst h2
      exact zOT k m (hs m h1)
    · cases h2
  · exact ⟨by simp,by simp⟩
def rk0 (a:GAxis) (l:List GField):List Str :=
  if kindF a.fName≠0 then rankS (qualS (kindF a.fName) (zIK (kindF a.fName) l).1 (zIK (kindF a.fName) l).2) a.fValues
  else if a.fValues.contains (join (allM l a.fName)) then [join (allM l a.fName)] else []
def rkS (l:List GField) (strict:Bool) (a:GAxis):List Str:=if !axN a then [] else if (rk0 a l).isEmpty&&!strict then a.fValues.take 1 else rk0 a l
theorem zPH (a:GAxis):valB [a]=axN a:=by
  unfold valB chk okA
  simp [chk]
theorem zLX {a:GAxis} (h:axN a=true):1≤a.fValues.length∧a.fValues.length≤16∧chk (okV (domF a.fName)) [] a.fValues=true:=by
  unfold axN axV at h
  simp only [Bool.and_eq_true,decide_eq_true_eq] at h
  exact ⟨h.2.1.1,h.2.1.2,h.2.2⟩
theorem zMB (a:GAxis) (l:List GField) (strict:Bool) (ha:smA a) (hl:smL l):zDB a l strict=some (rkS l strict a):=by
  have hn:=ha.1
  obtain ⟨b1,b2⟩:=zM1 hl
  obtain ⟨j1,j2⟩:=zLr hl a.fName
  unfold zDB rkS
  rw [zIm [a] (fun x hx=>by rw [List.mem_singleton] at hx; subst hx; exact ha),zAA,zPH]
  cases hax:axN a with
  | false=>rfl
  | true =>
    obtain ⟨v1,v2,v3⟩:=zLX hax
    have h0:((bif kindF a.fName !=0 then
      (zEW (kindF a.fName) l).bind fun r29=>(zFp (kindF a.fName) r29.1 r29.2 a.fValues).bind fun r36=>some r36
    else
      (zF1 l a.fName).bind fun r42=>(zFf r42).bind fun r48=>(zAc a.fValues r48).bind fun r53=>(bif r53 then some ([r48]:List Str) else some ([]:List Str))))=some (rk0 a l):=by
      unfold rk0
      by_cases hk:kindF a.fName=0
      · rw [hk,if_neg (by simp),show ((0:Int) !=0)=false from rfl,zAB,zMo l _ b1 b2 (by omega),zAA,zMt _ (by omega) (by omega),zAA,zI5 _ _ (by omega),zAA]
        cases a.fValues.contains (join (allM l a.fName)) <;> rfl
      · rw [if_pos hk,show (kindF a.fName !=0)=true by simpa using hk,zAC,zOI _ l hl,zAA,zO0 _ _ _ _ (zN6 _ l hl) (by omega) ha.2,zAA]
    rw [Bool.not_true,zAB,zLD _ (by omega),zAA,h0,zAA,if_neg (by decide),show (((rk0 a l).length:Int)==0)=((rk0 a l).length==0) from eqI _ 0]
    have e:((rk0 a l).length==0)=(rk0 a l).isEmpty:=by cases rk0 a l <;> rfl
    rw [e]
    cases hc:(rk0 a l).isEmpty&&!strict with
    | true =>
      rw [zAC,if_pos rfl]
      cases hvs:a.fValues with
      | nil=>rw [hvs] at v1; simp at v1
      | cons x xs=>rfl
    | false=>rw [zAB,if_neg (by decide),zAA]
theorem zOZ (a:GAxis) (l:List GField) (strict:Bool):(rkS l strict a).length≤16∧∀ v ∈ rkS l strict a,v ∈ a.fValues:=by
  unfold rkS
  cases hax:axN a with
  | false=>exact ⟨by simp,by simp⟩
  | true =>
    obtain ⟨v1,v2,v3⟩:=zLX hax
    rw [if_neg (by decide)]
    split
    · exact ⟨by rw [List.length_take]; omega,fun v hv=>List.mem_of_mem_take hv⟩
    · unfold rk0
      split
      · have:=zKT (qualS (kindF a.fName) (zIK (kindF a.fName) l).1 (zIK (kindF a.fName) l).2) a.fValues
        exact ⟨Nat.le_trans (zOx this) v2,zOy this⟩
      · split
        · rename_i hc
          exact ⟨by simp,fun v hv=>by rw [List.mem_singleton] at hv; subst hv; simpa using hc⟩
        · exact ⟨by simp,by simp⟩
end Go.Eng.Pure
namespace Go.Eng.Pure
open Go Go.Eng
set_option linter.unusedVariables false
def zGc (R:List (List Str)):List Str:=R.map fun r=>r.headD []
def rowsS (axes:List GAxis) (l:List GField) (strict:Bool):List (List Str):=axes.map (rkS l strict)
def fullR (R:List (List Str)):Bool:=R.all fun r=>!r.isEmpty
def bestS (axes:List GAxis) (l:List GField) (strict:Bool):List Str×Bool:=if valB axes&&fullR (rowsS axes l strict) then (zGc (rowsS axes l strict),true) else ([],false)
theorem zN7 {axes:List GAxis} (h:valB axes=true):1≤axes.length∧axes.length≤4:=by
  unfold valB at h
  simp only [Bool.and_eq_true,decide_eq_true_eq] at h
  exact h.1
theorem zIi {α:Type} {l:List α} {n:Nat} (x:α) (h:n<l.length):xput l (n:Int) x=some (l.set n x):=by
  unfold xput
  rw [if_pos ⟨by omega,by omega⟩]; rfl
theorem zIv {α:Type} (n:Nat) (z:α) (h:n≤1000):xmake (n:Int) z=some (List.replicate n z):=by
  unfold xmake
  rw [if_pos ⟨by omega,by omega⟩]; rfl
theorem zNX {α:Type} (a:List α) (z x:α) (k:Nat):(a++List.replicate (k+1) z).set a.length x=(a++[x])++List.replicate k z:=by
  rw [List.set_append_right _ _ (Nat.le_refl _),Nat.sub_self,List.replicate_succ,List.set_cons_zero,List.append_assoc]; rfl
theorem zNL (axes : List GAxis) (l : List GField) (strict : Bool) (ha : ∀ a ∈ axes, smA a) (hl : smL l) (hn : axes.length ≤ 4) :
    zAG (zBO axes l strict) (0,List.replicate axes.length [])=some (if fullR (rowsS axes l strict) then .inl (rowsS axes l strict) else .inr []):=by
  have:=zG5 (fun (st:List (List Str)) i=>(i,st++List.replicate (axes.length - st.length) [])) axes (fun st a=>if (rkS l strict a).isEmpty then .inr (.inr []) else .inl (st++[rkS l strict a])) (fun st=>(.inl st:List (List Str) ⊕ List (List Str))) (zBO axes l strict) (fun n st=>st.length=n) [] rfl ?_ ?_
  · simp only [List.nil_append,List.length_nil,Nat.sub_zero] at this
    rw [this]
    have e:∀ (xs:List GAxis) (st:List (List Str)),run (fun st a=>if (rkS l strict a).isEmpty then .inr (.inr []) else .inl (st++[rkS l strict a])) (fun st=>(.inl st:List (List Str) ⊕ List (List Str))) xs st=if fullR (xs.map (rkS l strict)) then .inl (st++xs.map (rkS l strict)) else .inr []:=by
      intro xs
      induction xs with
      | nil=>intro st; simp [run,fullR]
      | cons x xs ih =>
        intro st
        unfold run
        cases hx:(rkS l strict x).isEmpty with
        | true=>simp [fullR,hx]
        | false =>
          rw [if_neg (by decide)]
          simp only []
          rw [ih]
          unfold fullR
          rw [List.map_cons,List.all_cons,hx,Bool.not_false,Bool.true_and,List.append_assoc]; rfl
    rw [e,List.nil_append]; rfl
  · intro n hlt st hI
    subst hI
    have hm:=ha _ (List.getElem_mem hlt)
    have hk:axes.length - st.length=(axes.length - (st.length+1))+1:=by omega
    refine ⟨?_,?_⟩
    · unfold zBO
      simp only []
      rw [zAJ hlt,zAC,zAE hlt,zAA,zMB _ l strict hm hl,zAA]
      generalize rkS l strict axes[st.length]=r
      rw [hk]
      have hln:st.length<(st++List.replicate (axes.length - (st.length+1)+1) ([]:List Str)).length:=by simp
      rw [zAE hln,zAA,zIi r hln,zAA,zNX]
      have hl2:st.length<((st++[r])++List.replicate (axes.length - (st.length+1)) ([]:List Str)).length:=by simp
      have hg:((st++[r])++List.replicate (axes.length - (st.length+1)) ([]:List Str))[st.length]=r:=by simp
      rw [zAE hl2,zAA,hg,show ((r.length:Int)==0)=r.isEmpty by rw [show ((r.length:Int)==0)=(r.length==0) from eqI _ 0]; cases r <;> rfl,wrs (by omega)]
      cases r.isEmpty with
      | true=>rfl
      | false =>
        rw [zAB,if_neg (by decide)]
        simp only [List.length_append,List.length_singleton]
    · intro st' h
      split at h
      · cases h
      · injection h with h; subst h; simp
  · intro st hI
    unfold zBO
    simp only []
    rw [zAI (Nat.le_refl _),zAB,hI,Nat.sub_self,List.replicate_zero,List.append_nil]
theorem zON (R:List (List Str)) (hf:fullR R=true) (hn:R.length≤4):zAG (zBP R (List.replicate R.length 0)) (0,List.replicate R.length [])=some (zGc R):=by
  have hz:(List.replicate R.length (0:Int)).length=R.length:=List.length_replicate
  have:=zDT (fun (st:List Str) i=>(i,st++List.replicate (R.length - st.length) [])) R (fun st r=>st++[r.headD []]) id (zBP R (List.replicate R.length 0)) (fun n st=>st.length=n) [] rfl ?_ ?_
  · simp only [List.nil_append,List.length_nil,Nat.sub_zero] at this
    rw [this]
    have e:∀ (xs:List (List Str)) (st:List Str),xs.foldl (fun st r=>st++[r.headD []]) st=st++zGc xs:=by
      intro xs
      induction xs with
      | nil=>intro st; simp [zGc]
      | cons x xs ih=>intro st; rw [List.foldl_cons,ih,List.append_assoc]; rfl
    rw [e]; rfl
  · intro n hlt st hI
    subst hI
    have hk:R.length - st.length=(R.length - (st.length+1))+1:=by omega
    refine ⟨?_,by simp⟩
    unfold zBP
    simp only []
    have hzl:st.length<(List.replicate R.length (0:Int)).length:=by rw [hz]; exact hlt
    have hr:∃ x xs,R[st.length]=x :: xs:=by
      unfold fullR at hf
      rw [List.all_eq_true] at hf
      have:=hf _ (List.getElem_mem hlt)
      cases hr:R[st.length] with
      | nil=>rw [hr] at this; simp at this
      | cons x xs=>exact ⟨x,xs,rfl⟩
    obtain ⟨x,xs,hr⟩:=hr
    rw [hz,zAJ hlt,zAC,zAE hzl,zAA,zAE hlt,zAA,List.getElem_replicate,hr,zCG,zAA,hk]
    have hln:st.length<(st++List.replicate (R.length - (st.length+1)+1) ([]:Str)).length:=by simp
    rw [zAE hln,zAA,zIi x hln,zAA,zNX,wrs (by omega)]
    simp only [List.length_append,List.length_singleton,List.headD_cons]
  · intro st hI
    unfold zBP
    simp only []
    rw [hz,zAI (Nat.le_refl _),zAB,hI,Nat.sub_self,List.replicate_zero,List.append_nil]; rfl
theorem zL8 (R:List (List Str)) (hn:R.length≤4) (hr:∀ r ∈ R,r.length≤16):∀ n,n≤R.length→∃ y:Int,y<R.length∧zAG (zBQ R) ((n:Int) - 1,List.replicate R.length 0)=some (y,List.replicate R.length 0):=by
  have hz:(List.replicate R.length (0:Int)).length=R.length:=List.length_replicate
  intro n
  induction n with
  | zero =>
    intro _
    refine ⟨-1,by omega,zAF ?_⟩
    unfold zBQ
    rfl
  | succ n ih =>
    intro hle
    have hlt:n<R.length:=by omega
    have hzl:n<(List.replicate R.length (0:Int)).length:=by rw [hz]; exact hlt
    have hrl:=hr _ (List.getElem_mem hlt)
    have e:((n+1:Nat):Int) - 1=(n:Int):=by omega
    have hb:zBQ R ((n:Int),List.replicate R.length 0)=some (if R[n].length=1 then .inl ((n:Int) - 1,List.replicate R.length 0) else .inr ((n:Int),List.replicate R.length 0)):=by
      unfold zBQ
      simp only []
      rw [decide_eq_true (by omega),zAC,zAE hzl,zAA,zAE hlt,zAA,List.getElem_replicate,zAA,wr_eq ⟨by omega,by omega⟩,wr_eq ⟨by omega,by omega⟩,zAA,zIi 0 hzl,zAA]
      have hs:(List.replicate R.length (0:Int)).set n 0=List.replicate R.length 0:=by
        apply List.ext_getElem (by simp)
        intro i h1 h2
        rw [List.getElem_set]
        simp
      rw [hs]
      by_cases h1:R[n].length=1
      · rw [if_pos h1,show ((0:Int)==(R[n].length:Int) - 1)=true by rw [beq_iff_eq]; omega,zAC]
      · rw [if_neg h1,show ((0:Int)==(R[n].length:Int) - 1)=false by rw [beq_eq_false_iff_ne]; omega,zAB]
    rw [e]
    by_cases h1:R[n].length=1
    · rw [if_pos h1] at hb
      obtain ⟨y,h2,h3⟩:=ih (by omega)
      exact ⟨y,h2,by rw [zAL hb]; exact h3⟩
    · rw [if_neg h1] at hb
      exact ⟨n,by omega,zAF hb⟩
theorem zOU (axes : List GAxis) (R : List (List Str)) (he : axes.length = R.length) (hf : fullR R = true) (hn : R.length ≤ 4) (hr : ∀ r ∈ R, r.length ≤ 16) :
    zAG (zA4 axes 1 R) (([]:List (List Str)),List.replicate R.length 0)=some [zGc R]:=by
  have hz:(List.replicate R.length (0:Int)).length=R.length:=List.length_replicate
  obtain ⟨y,h1,h2⟩:=zL8 R hn hr R.length (Nat.le_refl _)
  have hdone:∀ D:List Int,zAG (zA4 axes 1 R) ([zGc R],D)=some [zGc R]:=by
    intro D
    refine zAF ?_
    unfold zA4
    rfl
  have hb:zA4 axes 1 R (([]:List (List Str)),List.replicate R.length 0)=some (if y<0 then .inr [zGc R] else .inl ([zGc R],(List.replicate R.length (0:Int)).set y.toNat 1)):=by
    unfold zA4
    simp only []
    rw [show decide ((([]:List (List Str)).length:Int)<1)=true from rfl,zAC,he,zIv _ _ (by omega),zAA,zON R hf hn,zAA,zAm (by simp) (zBW _),zAA,hz,wr_eq ⟨by omega,by omega⟩,h2,zAA]
    simp only [List.nil_append]
    by_cases hy:y<0
    · rw [decide_eq_true hy,zAC,if_pos hy]
    · have hyn:y=((y.toNat:Nat):Int):=by omega
      have hlt:y.toNat<(List.replicate R.length (0:Int)).length:=by rw [hz]; omega
      rw [decide_eq_false hy,zAB,if_neg hy]
      generalize y.toNat=m at *
      subst hyn
      rw [zAE hlt,zAA,zAA,List.getElem_replicate,zIi _ hlt,zAA]
      rfl
  by_cases hy:y<0
  · rw [if_pos hy] at hb; exact zAF hb
  · rw [if_neg hy] at hb; rw [zAL hb]; exact hdone _
theorem zPN (axes:List GAxis) (l:List GField) (strict:Bool):∀ r ∈ rowsS axes l strict,r.length≤16:=by
  intro r hr
  unfold rowsS at hr
  rw [List.mem_map] at hr
  obtain ⟨a,_,rfl⟩:=hr
  exact (zOZ a l strict).1
theorem zO6 (axes:List GAxis) (l:List GField) (strict:Bool) (ha:∀ a ∈ axes,smA a) (hl:smL l):zEG axes l strict=some (bestS axes l strict):=by
  unfold zEG zFY bestS
  rw [zIm axes ha,zAA]
  cases hv:valB axes with
  | false=>rfl
  | true =>
    obtain ⟨n1,n2⟩:=zN7 hv
    have he:axes.length=(rowsS axes l strict).length:=by unfold rowsS; rw [List.length_map]
    rw [Bool.not_true,zAB,zIv _ _ (by omega),zAA,zNL axes l strict ha hl n2,zAA,zIv _ _ (by omega),Bool.true_and]
    simp only [zAA]
    cases hf:fullR (rowsS axes l strict) with
    | false=>rfl
    | true =>
      rw [if_pos rfl,if_pos rfl]
      simp only []
      have:=zOU axes (rowsS axes l strict) he hf (by omega) (zPN axes l strict)
      rw [← he] at this
      rw [this,zAA,zAA]
      rfl
end Go.Eng.Pure
