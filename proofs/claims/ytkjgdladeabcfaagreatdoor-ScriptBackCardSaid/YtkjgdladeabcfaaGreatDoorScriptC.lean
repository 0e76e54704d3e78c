/- A part. -/
import Derived.Test.YtkjgdladeabcfaaGreatDoorEng20
import Derived.Test.YtkjgdladeabcfaaGreatDoorPure4
import Derived.KernelRfl
set_option linter.unusedVariables false
namespace Go.Eng
open Go
theorem zC1 {α:Type} (l:List α) (n:Nat):xnth l (n:Int)=l[n]?:=by
  unfold xnth; rw [if_pos (by omega)]; rfl
theorem zBZ {α:Type} (a:α) (l:List α):xnth (a :: l) 0=some a:=rfl
theorem zCB {α:Type} {l:List α} {i j:Int} (h:0≤i∧i≤j∧j≤l.length):xsub l i j=some ((l.take j.toNat).drop i.toNat):=by
  unfold xsub; rw [if_pos h]
theorem zCY {α:Type} {l:List α} {i j:Nat} (h:i≤j∧j≤l.length):xsub l (i:Int) (j:Int)=some ((l.take j).drop i):=by
  rw [zCB ⟨by omega,by omega,by omega⟩]; rfl
theorem zBM {α:Type} {l k:List α} (h:l.length+k.length≤big):xapp l k=some (l++k):=by
  unfold xapp; rw [if_pos h]
theorem zCl {a b:Str} (h:a.length+b.length≤2*big):xcat a b=some (a++b):=by
  unfold xcat; rw [if_pos (by simp only [big] at h; omega)]
theorem zCE {n:Int} (h0:-1000000000000000000≤n) (h:n≤1000000000000000000):wr n=n:=wr_eq ⟨by omega,by omega⟩
theorem zAE {α:Type} (x y:α):(bif true then x else y)=x:=rfl
theorem zAA {α:Type} (x y:α):(bif false then x else y)=y:=rfl
theorem zAB {α β:Type} (a:α) (f:α→Option β):(some a).bind f=f a:=rfl
theorem zDk {α ρ : Type} (body : Int → Option (Int ⊕ ρ)) (l : List α) (bad : α → Bool) (stop done : ρ)
    (h:∀ (n:Nat) (hn:n<l.length),body (n:Int)=some (if bad l[n]=true then .inr stop else .inl ((n:Int)+1)))
    (h':body (l.length:Int)=some (.inr done)):zBy body 0=some (if l.any bad then stop else done):=by
  have key:∀ (k n:Nat),n+k=l.length→zBy body (n:Int)=some (if (l.drop n).any bad then stop else done):=by
    intro k
    induction k with
    | zero =>
      intro n hn
      have:n=l.length:=by omega
      subst this
      rw [zDh h']
      simp
    | succ k ih =>
      intro n hn
      have hlt:n<l.length:=by omega
      have hb:=h n hlt
      rw [List.drop_eq_getElem_cons hlt,List.any_cons]
      by_cases hbad:bad l[n]=true
      · rw [if_pos hbad] at hb
        rw [zDh hb,hbad]; simp
      · rw [if_neg hbad] at hb
        rw [zDj hb]
        have e:((n:Int)+1)=((n+1:Nat):Int):=by omega
        rw [e,ih (n+1) (by omega)]
        simp [hbad]
  simpa using key l.length 0 (by omega)
end Go.Eng
namespace Go.Eng
open Go
def run {α σ ρ:Type} (f:σ→α→σ ⊕ ρ) (fin:σ→ρ):List α→σ→ρ
  | [],st=>fin st
  | x :: l,st=>match f st x with | .inl st'=>run f fin l st' | .inr r=>r
theorem zB2 {n m:Nat} (h:n<m):decide ((n:Int)<(m:Int))=true:=decide_eq_true (by omega)
theorem zBt {n m:Nat} (h:m≤n):decide ((n:Int)<(m:Int))=false:=decide_eq_false (by omega)
theorem zBE {α:Type} {l:List α} {n:Nat} (h:n<l.length):xnth l (n:Int)=some l[n]:=by rw [zC1,List.getElem?_eq_getElem h]
end Go.Eng
namespace Go.Eng.Pure
open Go Go.Eng
theorem zBS {p:UInt8→Prop} (h:∀ n:Fin 256,p (UInt8.ofNat n.val)) (c:UInt8):p c:=by
  have:=h ⟨c.toNat,c.toNat_lt⟩
  simpa using this
theorem lf_of {σ ρ:Type} {body:σ→Option (σ ⊕ ρ)} {s:σ} {r:ρ} {n:Nat} (hn:n≤100000) (h:loopN body n s=some r):lf body s=some r:=zBh body n 100000 s r hn h
theorem zAl {σ ρ:Type} {body:σ→Option (σ ⊕ ρ)} {s t:σ} {n:Nat} (h:body s=some (.inl t)):loopN body (n+1) s=loopN body n t:=by
  rw [loopN,h]
theorem zAW {σ ρ:Type} {body:σ→Option (σ ⊕ ρ)} {s:σ} {r:ρ} {n:Nat} (h:body s=some (.inr r)):loopN body (n+1) s=some r:=by
  rw [loopN,h]
theorem wsc {n:Nat} (h:n≤1000000):wr ((n:Int)+1)=((n+1:Nat):Int):=zCE (by omega) (by omega)
def hexD:Str:=[48,49,50,51,52,53,54,55,56,57,97,98,99,100,101,102]
def hexX:Str:=[48,49,50,51,52,53,54,55,56,57,97,98,99,100,101,102,65,66,67,68,69,70]
def hx (n:Nat):UInt8:=if n<10 then UInt8.ofNat (48+n) else UInt8.ofNat (87+n)
def hexv (c:UInt8):Nat:=if 48≤c∧c≤57 then c.toNat - 48 else if 97≤c∧c≤102 then c.toNat - 87 else c.toNat - 55
def isHx (c:UInt8):Bool:=(decide (48≤c)&&decide (c≤57))||(decide (97≤c)&&decide (c≤102))||(decide (65≤c)&&decide (c≤70))
def vis (c:UInt8):Bool:=!(decide (c<32)||decide (126<c))
def escB (c:UInt8):Str :=
  bif c==92 then [92,92] else bif c==13 then [92,114] else bif c==10 then [92,110] else bif c==9 then [92,116] else
  bif decide (c<32)||decide (126<c) then [92,120,hx (c.toNat / 16),hx (c.toNat % 16)] else [c]
theorem zCT (c:UInt8):(escB c).length≤4:=by
  revert c; exact zBS (by decide +kernel)
theorem zDY (c:UInt8):xsub hexD (c / 16).toNat ((c / 16)+1).toNat=some [hx (c.toNat / 16)]:=by
  revert c; exact zBS (by decide +kernel)
theorem zDc (c:UInt8):xsub hexD (c % 16).toNat ((c % 16)+1).toNat=some [hx (c.toNat % 16)]:=by
  revert c; exact zBS (by decide +kernel)
theorem wrS (s m:Str) (h:m.length+s.length≤1000000):zAC s m=some ((s.length:Int),(),m++s):=by
  unfold zAC zAI
  rw [zAB,zBM (by simp only [big]; omega)]; rfl
theorem wrB (c:UInt8) (m:Str) (h:m.length≤1000000):zAK c m=some ((),m++[c]):=by
  unfold zAK zAI
  rw [zAB,zBM (by simp only [big,List.length_singleton]; omega)]; rfl
theorem cat (a b:Str) (h:a.length+b.length≤1000000):xcat a b=some (a++b):=zCl (by simp only [big]; omega)
theorem zC2 (s : Str) (n : Nat) (m : Str) (hn : n < s.length) (hs : s.length ≤ 2000) (hm : m.length ≤ 100000) :
    zAR s ((n:Int),m)=some (.inl (((n+1:Nat):Int),m++escB s[n])):=by
  unfold zAR
  dsimp only
  rw [zB2 hn,zAE,zBE hn,zAB,wsc (by omega)]
  generalize s[n]=c
  unfold escB
  cases h1:c==92 with
  | true=>rw [zAE,zAE,wrS _ _ (by simp only [List.length_cons,List.length_nil]; omega)]; rfl
  | false =>
    rw [zAA,zAA]
    cases h2:c==13 with
    | true=>rw [zAE,zAE,wrS _ _ (by simp only [List.length_cons,List.length_nil]; omega)]; rfl
    | false =>
      rw [zAA,zAA]
      cases h3:c==10 with
      | true=>rw [zAE,zAE,wrS _ _ (by simp only [List.length_cons,List.length_nil]; omega)]; rfl
      | false =>
        rw [zAA,zAA]
        cases h4:c==9 with
        | true=>rw [zAE,zAE,wrS _ _ (by simp only [List.length_cons,List.length_nil]; omega)]; rfl
        | false =>
          rw [zAA,zAA]
          cases h5:(decide (c<32)||decide (126<c)) with
          | true =>
            rw [zAE,zAE]
            have e1:=zDY c; have e2:=zDc c
            simp only [hexD] at e1 e2
            rw [e1,zAB,cat _ _ (by simp only [List.length_append,List.length_cons,List.length_nil]; omega),zAB,e2,zAB,cat _ _ (by simp only [List.length_append,List.length_cons,List.length_nil]; omega),zAB,wrS _ _ (by simp only [List.length_append,List.length_cons,List.length_nil]; omega)]
            rfl
          | false=>rw [zAA,zAA,wrB _ _ (by omega)]; rfl
theorem zDm (s:Str):(s.flatMap escB).length≤4*s.length:=by
  induction s with
  | nil=>simp
  | cons c s ih =>
    have:=zCT c
    simp only [List.flatMap_cons,List.length_append,List.length_cons]; omega
theorem zC4 (s:Str) (hs:s.length≤2000):∀ (k n:Nat) (m:Str),n+k=s.length→m.length≤4*n→loopN (zAR s) (k+1) ((n:Int),m)=some (m++(s.drop n).flatMap escB):=by
  intro k
  induction k with
  | zero =>
    intro n m hn hm
    refine (zAW (r:=m) ?_).trans ?_
    · unfold zAR
      dsimp only
      rw [zBt (by omega),zAA]
    · rw [List.drop_of_length_le (by omega)]; simp
  | succ k ih =>
    intro n m hn hm
    have hlt:n<s.length:=by omega
    have hb:=zCT s[n]
    rw [zAl (zC2 s n m hlt hs (by omega)),ih (n+1) _ (by omega) (by rw [List.length_append]; omega),List.drop_eq_getElem_cons hlt,List.flatMap_cons,List.append_assoc]
theorem zCu (s:Str) (hs:s.length≤2000):zAa s=some (s.flatMap escB):=by
  unfold zAa
  have:=zC4 s hs s.length 0 [] (by omega) (by simp)
  rw [show ((0:Nat):Int)=0 from rfl,List.nil_append,List.drop_zero] at this
  rw [lf_of (by omega) this]; rfl
end Go.Eng.Pure
namespace Go.Eng.Pure
open Go Go.Eng
def hv2 (a b:UInt8):UInt8:=UInt8.ofNat (16*hexv a+hexv b)
def escd:Str→UInt8×Nat
  | []=>(0,0)
  | c :: t=>bif c==92 then (92,1) else bif c==114 then (13,1) else bif c==110 then (10,1) else bif c==116 then (9,1) else
    bif c !=120 then (0,0) else match t with
      | a :: b :: _=>bif isHx a&&isHx b then (hv2 a b,3) else (0,0)
      | _=>(0,0)
def unes:Nat→Str→Option Str
  | 0,_=>none
  | _+1,[]=>some []
  | k + 1, c :: t => bif decide (c < 32) || decide (126 < c) then none else bif c == 92 then
      (bif (escd t).2==0 then none else (unes k (t.drop (escd t).2)).map ((escd t).1 :: ·))
    else (unes k t).map (c :: ·)
def unesR (s:Str):Str×Bool:=match unes (s.length+1) s with | some o=>(o,true) | none=>([],false)
theorem hx_in (c:UInt8):hexX.contains c=isHx c:=by
  revert c; exact zBS (by decide +kernel)
theorem zDW (c:UInt8) (h:(decide (48≤c)&&decide (c≤57))=true):isHx c=true∧decide (toU8 16≤c - 48)=false∧((c - 48).toNat:Int)=hexv c:=by
  revert h; revert c; exact zBS (by decide +kernel)
theorem zDd (c:UInt8) (h0:isHx c=true) (h:(decide (48≤c)&&decide (c≤57))=false):decide (97≤bor c 32)=true∧decide (bor c 32≤122)=true∧decide (toU8 16≤bor c 32 - 97+10)=false∧((bor c 32 - 97+10).toNat:Int)=hexv c:=by
  revert h; revert h0; revert c; exact zBS (by decide +kernel)
theorem zBY (c:UInt8) (h0:isHx c=true):hexv c<16:=by
  revert h0; revert c; exact zBS (by decide +kernel)
theorem wu_eq {z:Int} (h0:0≤z) (h:z<18446744073709551616):wu z=z:=by
  have:wu z=z % 18446744073709551616:=rfl
  rw [this]; omega
theorem trimR (p:Str) (a b:UInt8):zAS [a,b] p=some (bif p.contains b then (bif p.contains a then [] else [a]) else [a,b]):=by
  unfold zAS
  have s2:zAH p [a,b]=some (bif p.contains b then .inl [a] else .inr [a,b]):=by
    unfold zAH zAG
    rw [show decide (0<(([a,b]:Str).length:Int))=true from rfl,zAE,show xnth [a,b] (wr ((([a,b]:Str).length:Int) - 1))=some b from rfl,zAB,zAB]
    cases p.contains b <;> rfl
  have s1:zAH p [a]=some (bif p.contains a then .inl [] else .inr [a]):=by
    unfold zAH zAG
    rw [show decide (0<(([a]:Str).length:Int))=true from rfl,zAE,show xnth [a] (wr ((([a]:Str).length:Int) - 1))=some a from rfl,zAB,zAB]
    cases p.contains a <;> rfl
  have s0:zAH p []=some (.inr []):=rfl
  have:loopN (zAH p) 3 [a,b]=some (bif p.contains b then (bif p.contains a then [] else [a]) else [a,b]):=by
    cases hb:p.contains b with
    | false=>rw [hb] at s2; exact zAW s2
    | true =>
      rw [hb] at s2
      rw [zAl s2]
      cases ha:p.contains a with
      | false=>rw [ha] at s1; exact zAW s1
      | true=>rw [ha] at s1; rw [zAl s1]; exact zAW s0
  rw [lf_of (by omega) this]; rfl
theorem trimL (p:Str) (c:UInt8) (t:Str) (h:p.contains c=false):zAJ (c :: t) p=some (c :: t):=by
  unfold zAJ
  have:loopN (zAF p) 1 (c :: t)=some (c :: t):=by
    refine zAW ?_
    unfold zAF zAG
    rw [decide_eq_true (by simp only [List.length_cons]; omega),zAE,zBZ,zAB,zAB,h]; rfl
  rw [lf_of (by omega) this]; rfl
theorem zDV (p:Str) (c:UInt8) (b:UInt8) (hc:p.contains c=true) (h:p.contains b=false):zAJ [c,b] p=some [b]:=by
  unfold zAJ
  have s2:zAF p [c,b]=some (.inl [b]):=by
    unfold zAF zAG
    rw [decide_eq_true (by simp only [List.length_cons]; omega),zAE,zBZ,zAB,zAB,hc]; rfl
  have s1:zAF p [b]=some (.inr [b]):=by
    unfold zAF zAG
    rw [decide_eq_true (by simp only [List.length_cons]; omega),zAE,zBZ,zAB,zAB,h]; rfl
  have:loopN (zAF p) 2 [c,b]=some [b]:=by rw [zAl s2]; exact zAW s1
  rw [lf_of (by omega) this]; rfl
theorem zDU (p:Str):zAJ [] p=some []:=by
  unfold zAJ
  have:loopN (zAF p) 1 []=some []:=zAW rfl
  rw [lf_of (by omega) this]; rfl
theorem Trim2 (a b:UInt8):∃ r,zAu [a,b] hexX=some r∧(r !=[])=!(isHx a&&isHx b):=by
  unfold zAu
  have e1:(([a,b]:Str)==[])=false:=rfl
  have e2:(hexX==[])=false:=by decide
  have e3:((hexX.length:Int)==1)=false:=by decide
  have e4:strings_makeASCIISet hexX=some ():=by unfold strings_makeASCIISet; rw [show (hexX.all (fun c=>decide (c<128))&&decide (hexX.length≤big / 128))=true by decide]; rfl
  rw [e1,e2,Bool.or_false,zAA,e3,zAA,zAB,zAA,e4,zAB,trimR,zAB,← hx_in,← hx_in]
  cases hb:hexX.contains b with
  | true =>
    cases ha:hexX.contains a with
    | true=>exact ⟨[],by rw [zAE,zAE,zDU]; rfl,rfl⟩
    | false=>exact ⟨[a],by rw [zAE,zAA,trimL _ _ _ ha]; rfl,rfl⟩
  | false =>
    cases ha:hexX.contains a with
    | true=>exact ⟨[b],by rw [zAA,zDV _ _ _ ha hb]; rfl,rfl⟩
    | false=>exact ⟨[a,b],by rw [zAA,trimL _ _ _ ha]; rfl,rfl⟩
theorem zCk (s : Str) (i v : Nat) (c : UInt8) (hc : xnth s (i : Int) = some c) (hi : i < s.length) (h2 : i ≤ 1000) (hv : v ≤ 15) (hx : isHx c = true) :
    zAM s (false,(v:Int),(i:Int))=some (.inl (false,((16*v+hexv c:Nat):Int),((i+1:Nat):Int))):=by
  have hlt:=zBY c hx
  unfold zAM
  dsimp only
  have f1:decide ((1152921504606846976:Int)≤(v:Int))=false:=decide_eq_false (by omega)
  have f2:wu 16=16:=rfl
  have f3:wu ((v:Int)*16)=(v:Int)*16:=wu_eq (by omega) (by omega)
  have f4:wu ((hexv c:Nat):Int)=(hexv c:Int):=wu_eq (by omega) (by omega)
  have f5:wu ((v:Int)*16+(hexv c:Int))=(v:Int)*16+(hexv c:Int):=wu_eq (by omega) (by omega)
  have f6:wu (shlU 1 (wu 8) - 1)=255:=by decide +kernel
  have f7:decide ((v:Int)*16+(hexv c:Int)<(v:Int)*16)=false:=decide_eq_false (by omega)
  have f8:decide ((255:Int)<(v:Int)*16+(hexv c:Int))=false:=decide_eq_false (by omega)
  have f9:((16*v+hexv c:Nat):Int)=(v:Int)*16+(hexv c:Int):=by omega
  rw [zB2 hi,zAE,hc,zAB,zAB,Bool.and_false,zAA,wsc (by omega),f9]
  cases hd:(decide (48≤c)&&decide (c≤57)) with
  | true =>
    obtain ⟨_,d2,d3⟩:=zDW c hd
    rw [zAE,d2,zAA,f1,zAA,d3,f2,f3,f4,f5,f6,f7,f8]; rfl
  | false =>
    obtain ⟨d1,d2,d3,d4⟩:=zDd c hx hd
    unfold zAb
    rw [zAA,zAB,d1,zAE,zAB,zAB,d2,zAE,zAB,d3,zAA,f1,zAA,d4,f2,f3,f4,f5,f6,f7,f8]; rfl
theorem zDa (a b:UInt8) (ha:isHx a=true) (hb:isHx b=true):lf (zAM [a,b]) (false,0,0)=some (.inl (false,((16*hexv a+hexv b:Nat):Int))):=by
  have h1:=zBY a ha
  have h2:=zBY b hb
  have s1:=zCk [a,b] 0 0 a rfl (by simp only [List.length_cons]; omega) (by omega) (by omega) ha
  have s2:=zCk [a,b] 1 (16*0+hexv a) b rfl (by simp only [List.length_cons]; omega) (by omega) (by omega) hb
  have s3:zAM [a,b] (false,((16*(16*0+hexv a)+hexv b:Nat):Int),((1+1:Nat):Int))=some (.inr (.inl (false,((16*(16*0+hexv a)+hexv b:Nat):Int)))):=rfl
  have:loopN (zAM [a,b]) 3 (false,((0:Nat):Int),((0:Nat):Int))=some (.inl (false,((16*(16*0+hexv a)+hexv b:Nat):Int))):=by
    rw [zAl s1,zAl s2]; exact zAW s3
  rw [Nat.mul_zero,Nat.zero_add] at this
  exact lf_of (by omega) this
theorem zB4 (n:Nat) (h:n<256):toU8 (n:Int)=UInt8.ofNat n:=by
  unfold toU8
  rw [show ((n:Int) % 256).toNat=n by omega]
theorem zCh (s:Str) (hs:s.length≤100000):zAi s=some ((escd s).1,((escd s).2:Int)):=by
  unfold zAi escd
  cases s with
  | nil=>rfl
  | cons c t =>
    have e0:((c :: t:Str)==[])=false:=rfl
    rw [e0,zAA,zBZ,zAB]
    dsimp only
    cases h1:c==92 with
    | true=>rfl
    | false =>
      rw [zAA,zAA]
      cases h2:c==114 with
      | true=>rfl
      | false =>
        rw [zAA,zAA]
        cases h3:c==110 with
        | true=>rfl
        | false =>
          rw [zAA,zAA]
          cases h4:c==116 with
          | true=>rfl
          | false =>
            rw [zAA,zAA,zAB]
            cases h5:c !=120 with
            | true=>rfl
            | false =>
              rw [Bool.false_or,zAA]
              match t,hs with
              | [],_=>rfl
              | [a],_=>rfl
              | a :: b :: u,hs =>
                have hl:decide (((c :: a :: b :: u:Str).length:Int)<3)=false:=decide_eq_false (by simp only [List.length_cons]; omega)
                have hsub:xsub (c :: a :: b :: u) 1 3=some [a,b]:=by
                  rw [zCB (by simp only [List.length_cons]; omega)]; rfl
                obtain ⟨r,hr,hne⟩:=Trim2 a b
                simp only [hexX] at hr
                rw [hl,zAA,hsub,zAB,hr,zAB,zAB,hne]
                show _=some ((bif isHx a&&isHx b then (hv2 a b,3) else ((0:UInt8),(0:Nat))).1,(((bif isHx a&&isHx b then (hv2 a b,3) else ((0:UInt8),(0:Nat))).2:Nat):Int))
                cases hh:isHx a&&isHx b with
                | false=>rfl
                | true =>
                  have hh':=hh
                  rw [Bool.and_eq_true] at hh'
                  have l1:=zBY a hh'.1
                  have l2:=zBY b hh'.2
                  rw [Bool.not_true,zAA,zAB,show (([a,b]:Str)==[])=false from rfl,zAA,zDa a b hh'.1 hh'.2]
                  show some (toU8 ((16*hexv a+hexv b:Nat):Int),(3:Int))=some (UInt8.ofNat (16*hexv a+hexv b),((3:Nat):Int))
                  rw [zB4 _ (by omega)]; rfl
end Go.Eng.Pure
namespace Go.Eng.Pure
open Go Go.Eng
def stepU (out:List UInt8) (n:Nat) (c:UInt8) (t:Str):(List UInt8×Int) ⊕ ((List UInt8) ⊕ (Str×Bool)) :=
  bif decide (c<32)||decide (126<c) then .inr (.inr ([],false)) else bif c==92 then
    (bif (escd t).2==0 then .inr (.inr ([],false)) else .inl (out++[(escd t).1],((n+1+(escd t).2:Nat):Int)))
  else .inl (out++[c],((n+1:Nat):Int))
theorem zCn (s : Str) (body : (List UInt8 × Int) → Option ((List UInt8 × Int) ⊕ ((List UInt8) ⊕ (Str × Bool))))
    (h1:∀ n out c t,s.drop n=c :: t→out.length≤n→body (out,(n:Int))=some (stepU out n c t)) (h0:∀ n out,s.length≤n→body (out,(n:Int))=some (.inr (.inl out))) :
    ∀ k n out,s.length≤n+k→out.length≤n→loopN body (k+1) (out,(n:Int))=some (match unes (k+1) (s.drop n) with | some o=>.inl (out++o) | none=>.inr ([],false)):=by
  intro k
  induction k with
  | zero =>
    intro n out hn ho
    rw [zAW (h0 n out (by omega)),List.drop_of_length_le (by omega)]
    simp [unes]
  | succ k ih =>
    intro n out hn ho
    cases hd:s.drop n with
    | nil =>
      have:s.length≤n:=by
        have:=congrArg List.length hd
        simp only [List.length_drop,List.length_nil] at this; omega
      rw [zAW (h0 n out this)]
      simp [unes]
    | cons c t =>
      have hs:=h1 n out c t hd ho
      have ht:s.drop (n+1)=t:=by
        rw [← List.drop_drop,hd]; rfl
      unfold unes
      unfold stepU at hs
      cases hb:decide (c<32)||decide (126<c) with
      | true=>rw [hb,zAE] at hs; rw [zAW hs]; rfl
      | false =>
        rw [hb,zAA] at hs
        rw [zAA]
        cases h92:c==92 with
        | true =>
          rw [h92,zAE] at hs
          rw [zAE]
          cases hz:(escd t).2==0 with
          | true=>rw [hz,zAE] at hs; rw [zAW hs]; rfl
          | false =>
            rw [hz,zAA] at hs
            rw [zAl hs,zAA,ih _ _ (by omega) (by simp only [List.length_append,List.length_singleton]; omega),← List.drop_drop,ht]
            cases unes (k+1) (t.drop (escd t).2) with
            | none=>rfl
            | some o=>simp
        | false =>
          rw [h92,zAA] at hs
          rw [zAl hs,zAA,ih _ _ (by omega) (by simp only [List.length_append,List.length_singleton]; omega),ht]
          cases unes (k+1) t with
          | none=>rfl
          | some o=>simp
theorem castz (m:Nat):((m:Int)==0)=(m==0):=by
  cases m with
  | zero=>rfl
  | succ m=>rw [beq_eq_false_iff_ne.2 (by omega),beq_eq_false_iff_ne.2 (by omega)]
theorem zB1 {s:Str} {n:Nat} {c:UInt8} {t:Str} (h:s.drop n=c :: t):∃ hn:n<s.length,s[n]=c∧s.drop (n+1)=t:=by
  have hn:n<s.length:=by
    have:=congrArg List.length h
    simp only [List.length_drop,List.length_cons] at this; omega
  rw [List.drop_eq_getElem_cons hn] at h
  injection h with h1 h2
  exact ⟨hn,h1,h2⟩
theorem zAx {α:Type} {b:Bool} {x y:α×Nat} {n:Nat} (hx:x.2≤n) (hy:y.2≤n):(bif b then x else y).2≤n:=by cases b <;> assumption
theorem zDC (t:Str):(escd t).2≤t.length:=by
  unfold escd
  match t with
  | []=>exact Nat.le_refl _
  | [c]=>exact zAx (Nat.le_refl _) (zAx (Nat.le_refl _) (zAx (Nat.le_refl _) (zAx (Nat.le_refl _) (zAx (Nat.zero_le _) (Nat.zero_le _)))))
  | [c,a]=>exact zAx (show 1≤2 by omega) (zAx (show 1≤2 by omega) (zAx (show 1≤2 by omega) (zAx (show 1≤2 by omega) (zAx (Nat.zero_le _) (Nat.zero_le _)))))
  | c :: a :: b :: u =>
    have h1:1≤(c :: a :: b :: u).length:=by simp only [List.length_cons]; omega
    have h3:3≤(c :: a :: b :: u).length:=by simp only [List.length_cons]; omega
    exact zAx h1 (zAx h1 (zAx h1 (zAx h1 (zAx (Nat.zero_le _) (zAx h3 (Nat.zero_le _))))))
theorem zDZ (s : Str) (hs : s.length ≤ 10000) (n : Nat) (out : List UInt8) (c : UInt8) (t : Str) (h : s.drop n = c :: t) (ho : out.length ≤ n) :
    zAO s (out,(n:Int))=some (stepU out n c t):=by
  obtain ⟨hn,hc,ht⟩:=zB1 h
  have hle:t.length≤10000:=by rw [← ht,List.length_drop]; omega
  unfold zAO stepU
  dsimp only
  rw [zB2 hn,zAE,zBE hn,zAB,hc]
  cases hb:decide (c<32)||decide (126<c) with
  | true=>rfl
  | false =>
    rw [zAA,zAA]
    cases h92:c==92 with
    | true =>
      have hsub:xsub s ((n+1:Nat):Int) (s.length:Int)=some t:=by rw [zCY (by omega),List.take_length,ht]
      have hd:=zDC t
      rw [zAE,wsc (by omega),hsub,zAB,zCh t (by omega),zAB,zAE]
      dsimp only
      rw [castz]
      cases hz:(escd t).2==0 with
      | true=>rfl
      | false =>
        have hw:wr ((n:Int)+((escd t).2:Int))=((n+(escd t).2:Nat):Int):=by rw [zCE (by omega) (by omega)]; omega
        rw [zAA,zAA,hw,zAB]
        show (xapp out [(escd t).1]).bind _=_
        rw [zBM (by simp only [big,List.length_singleton]; omega),zAB,wsc (by omega)]
        have:n+(escd t).2+1=n+1+(escd t).2:=by omega
        rw [this]
    | false =>
      rw [zAA,zAA,zAB]
      show (xapp out [c]).bind _=_
      rw [zBM (by simp only [big,List.length_singleton]; omega),zAB,wsc (by omega)]
theorem zCS (s:Str) (hs:s.length≤10000):zAX s=some (unesR s):=by
  unfold zAX unesR
  have:=zCn s (zAO s) (fun n out c t h ho=>zDZ s hs n out c t h ho) (fun n out h=>by
    unfold zAO
    dsimp only
    rw [zBt h,zAA]) s.length 0 [] (by omega) (by simp)
  rw [show ((0:Nat):Int)=0 from rfl] at this
  rw [lf_of (by omega) this,zAB,List.drop_zero]
  cases unes (s.length+1) s <;> rfl
theorem zDM:zBD=some true:=by kernel_rfl
theorem zDl (c:UInt8):(escB c).all vis=true:=by
  revert c; exact zBS (by decide +kernel)
theorem zDn (c:UInt8):(isHx (hx (c.toNat / 16))&&isHx (hx (c.toNat % 16)))=true∧hv2 (hx (c.toNat / 16)) (hx (c.toNat % 16))=c:=by
  revert c; exact zBS (by decide +kernel)
theorem zDo:∀ (s:Str) (k:Nat),(s.flatMap escB).length≤k→unes (k+1) (s.flatMap escB)=some s:=by
  intro s
  induction s with
  | nil=>intro k _; rfl
  | cons c r ih =>
    intro k hk
    rw [List.flatMap_cons] at hk ⊢
    have ih:=fun j hj=>ih j hj
    generalize r.flatMap escB=R at *
    rw [List.length_append] at hk
    unfold escB at hk ⊢
    cases h1:c==92 with
    | true =>
      rw [h1,zAE] at hk
      simp only [List.length_cons,List.length_nil] at hk
      obtain ⟨j,rfl⟩:∃ j,k=j+1:=⟨k - 1,by omega⟩
      rw [zAE]
      show (unes (j+1) R).map _=_
      rw [ih j (by omega),eq_of_beq h1]; rfl
    | false =>
      rw [h1,zAA] at hk
      rw [zAA]
      cases h2:c==13 with
      | true =>
        rw [h2,zAE] at hk
        simp only [List.length_cons,List.length_nil] at hk
        obtain ⟨j,rfl⟩:∃ j,k=j+1:=⟨k - 1,by omega⟩
        rw [zAE]
        show (unes (j+1) R).map _=_
        rw [ih j (by omega),eq_of_beq h2]; rfl
      | false =>
        rw [h2,zAA] at hk
        rw [zAA]
        cases h3:c==10 with
        | true =>
          rw [h3,zAE] at hk
          simp only [List.length_cons,List.length_nil] at hk
          obtain ⟨j,rfl⟩:∃ j,k=j+1:=⟨k - 1,by omega⟩
          rw [zAE]
          show (unes (j+1) R).map _=_
          rw [ih j (by omega),eq_of_beq h3]; rfl
        | false =>
          rw [h3,zAA] at hk
          rw [zAA]
          cases h4:c==9 with
          | true =>
            rw [h4,zAE] at hk
            simp only [List.length_cons,List.length_nil] at hk
            obtain ⟨j,rfl⟩:∃ j,k=j+1:=⟨k - 1,by omega⟩
            rw [zAE]
            show (unes (j+1) R).map _=_
            rw [ih j (by omega),eq_of_beq h4]; rfl
          | false =>
            rw [h4,zAA] at hk
            rw [zAA]
            cases h5:decide (c<32)||decide (126<c) with
            | true =>
              rw [h5,zAE] at hk
              simp only [List.length_cons,List.length_nil] at hk
              obtain ⟨j,rfl⟩:∃ j,k=j+1:=⟨k - 1,by omega⟩
              rw [zAE]
              obtain ⟨g1,g2⟩:=zDn c
              generalize hx (c.toNat / 16)=a at *
              generalize hx (c.toNat % 16)=b at *
              have he:escd (120 :: a :: b :: R)=(c,3):=by
                show (bif isHx a&&isHx b then (hv2 a b,3) else (0,0))=_
                rw [g1,g2]; rfl
              show (bif (escd (120 :: a :: b :: R)).2==0 then none else (unes (j+1) ((120 :: a :: b :: R).drop (escd (120 :: a :: b :: R)).2)).map ((escd (120 :: a :: b :: R)).1 :: ·))=_
              rw [he]
              show (unes (j+1) R).map (c :: ·)=_
              rw [ih j (by omega)]; rfl
            | false =>
              rw [h5,zAA] at hk
              simp only [List.length_cons,List.length_nil] at hk
              obtain ⟨j,rfl⟩:∃ j,k=j+1:=⟨k - 1,by omega⟩
              rw [zAA]
              show (bif decide (c<32)||decide (126<c) then none else bif c==92 then _ else (unes (j+1) R).map (c :: ·))=_
              rw [h5,zAA,h1,zAA,ih j (by omega)]; rfl
theorem zDi (s:Str):zDf s=some true:=by
  unfold zDf
  by_cases h:(s.length:Int)≤2000
  · have hl:=zDm s
    have hv:∀ c ∈ s.flatMap escB,vis c=true:=fun c hc=>by
      obtain ⟨d,_,hd⟩:=List.mem_flatMap.1 hc
      exact List.all_eq_true.1 (zDl d) c hd
    have hu:unesR (s.flatMap escB)=(s,true):=by unfold unesR; rw [zDo s _ (Nat.le_refl _)]
    rw [decide_eq_false (by omega),zAA,zCu s (by omega),zAB]
    generalize s.flatMap escB=t at *
    have hw:zBy (zDe t) 0=some (.inl ()):=by
      rw [zDk (zDe t) t (fun c=>!vis c) (.inr false) (.inl ())]
      · have : t.any (fun c => !vis c) = false := by
          rw [List.any_eq_false]
          intro c hc
          rw [hv c hc]; simp
        rw [this]; rfl
      · intro n hn
        unfold zDe
        rw [zB2 hn,zAE,zBE hn,zAB,zAB,wsc (by omega)]
        unfold vis
        rw [Bool.not_not]
        cases decide (t[n]<32) <;> cases decide (126<t[n]) <;> rfl
      · unfold zDe
        rw [zBt (Nat.le_refl _),zAA]
    rw [hw,zAB]
    dsimp only
    rw [zCS t (by omega),zAB,hu]
    dsimp only
    rw [beq_self_eq_true,Bool.and_true,zAE,zDM]; rfl
  · rw [decide_eq_true (by omega)]; rfl
end Go.Eng.Pure
