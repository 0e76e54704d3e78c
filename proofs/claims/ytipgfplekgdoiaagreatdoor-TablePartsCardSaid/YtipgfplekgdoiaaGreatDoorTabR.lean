/- A part. -/
import Derived.Test.YtipgfplekgdoiaaGreatDoorMediaP
set_option linter.unusedVariables false
namespace Go.Eng.Pure
open Go Go.Eng
set_option linter.unusedVariables false
theorem zG0 (s:Str):(parS s).1.length≤s.length∧(parS s).2.1.length≤s.length+1:=by
  obtain ⟨c1,c2⟩:=zIz 59 s
  have hp:∀ (l:List Str) (acc ps:List GParam),parL l acc=some ps→ps.length≤acc.length+l.length:=by
    intro l
    induction l with
    | nil=>intro acc ps h; unfold parL at h; injection h with h; subst h; simp
    | cons m l ih =>
      intro acc ps h
      unfold parL at h
      split at h
      · have:=ih _ _ h; simp; omega
      · split at h
        · have:=ih _ _ h; simp at this ⊢; omega
        · cases h
  unfold parS
  cases hc:cutS 59 s with
  | nil=>simp
  | cons x l =>
    rw [hc] at c1 c2
    have hx:=c1 x List.mem_cons_self
    have ht:=zHf x
    show (parC x l).1.length≤_∧(parC x l).2.1.length≤_
    unfold parC
    split
    · simp
    · split
      · rename_i ps h
        have:=hp l [] ps h
        simp at this c2 ⊢
        omega
      · simp
def noT:GMediaType:=⟨[],[],[]⟩
def zBv (s:Str):GMediaType×Bool :=
  if (parS s).2.2 = true ∧ (47 : UInt8) ∈ (parS s).1 ∧ tok ((parS s).1.take ((parS s).1.idxOf 47)) = true ∧ tok ((parS s).1.drop ((parS s).1.idxOf 47 + 1)) = true ∧
      ¬ ((parS s).1.take ((parS s).1.idxOf 47)=[42]∧(parS s).1.drop ((parS s).1.idxOf 47+1)≠[42]) then
    (⟨lower ((parS s).1.take ((parS s).1.idxOf 47)),lower ((parS s).1.drop ((parS s).1.idxOf 47+1)),(parS s).2.1⟩,true)
  else (noT,false)
theorem zJF (s:Str) (hs:s.length≤1000000):zA0 s=some (zBv s):=by
  obtain ⟨l1,_⟩:=zG0 s
  unfold zA0 zBv
  rw [zKq s hs,zAA]
  generalize parS s=q at *
  obtain ⟨m,ps,ok⟩:=q
  simp only [] at l1 ⊢
  cases ok with
  | false=>rw [if_neg (by simp)]; rfl
  | true =>
    rw [Bool.not_true,zAB,zLQ m 47 (by omega),zAA]
    by_cases h:(47:UInt8) ∈ m
    · have h1:(m.take (m.idxOf 47)).length≤1073741824:=by rw [List.length_take]; omega
      have h2:(m.drop (m.idxOf 47+1)).length≤1073741824:=by rw [List.length_drop]; omega
      rw [if_pos h]
      simp only []
      generalize m.take (m.idxOf 47)=a at *
      generalize m.drop (m.idxOf 47+1)=b at *
      rw [zDH a h1,zAA,zDH b h2]
      cases ta:tok a with
      | false=>rw [if_neg (by simp)]; rfl
      | true =>
        cases tb:tok b with
        | false=>rw [if_neg (by simp)]; rfl
        | true =>
          rw [Bool.not_true,zAB,zAA,zAA,Bool.not_true,Bool.false_or]
          by_cases hab:a=[42]∧b≠[42]
          · rw [show ((a==[42])&&(b !=[42]))=true by rw [hab.1]; simpa using hab.2,zAC,if_neg (fun hh=>hh.2.2.2.2 hab)]; rfl
          · rw [show ((a == [42]) && (b != [42])) = false by
              rw [Bool.eq_false_iff]; intro hh; rw [Bool.and_eq_true,beq_iff_eq,bne_iff_ne] at hh; exact hab hh,zAB,zBf _ h1,zAA,zBf _ h2,zAA,if_pos (show _ from ⟨by trivial,h,by trivial,by trivial,hab⟩)]
    · rw [if_neg h,if_neg (fun hh=>h hh.2.1)]
      simp only []
      rw [zDH m (by omega),zAA]
      have:zAy []=some false:=by rw [zDH _ (by decide)]; rfl
      rw [this]
      cases tok m <;> rfl
theorem zMr (s:Str) (hs:s.length≤1000000):zDC s=some (zBv s):=by
  obtain ⟨l1,_⟩:=zG0 s
  unfold zDC zBv
  rw [zL6 s hs,zAA]
  generalize parS s=q at *
  obtain ⟨m,ps,ok⟩:=q
  simp only [] at l1 ⊢
  cases ok with
  | false=>rw [if_neg (by simp)]; rfl
  | true =>
    rw [Bool.not_true,zAB,zKN m 47 (by omega),zAA]
    by_cases h:(47:UInt8) ∈ m
    · have h1:(m.take (m.idxOf 47)).length≤1073741824:=by rw [List.length_take]; omega
      have h2:(m.drop (m.idxOf 47+1)).length≤1073741824:=by rw [List.length_drop]; omega
      have hlt:=zNP h
      rw [if_pos h,show decide ((m.idxOf 47:Int)<0)=false from decide_eq_false (by omega),zAB,zE8 (by omega),zAA,wrs (by omega),zCf (by omega)]
      generalize m.take (m.idxOf 47)=a at *
      generalize m.drop (m.idxOf 47+1)=b at *
      rw [zFG a h1,zAA,zAA,zAA,zFG b h2,zAA]
      cases ta:tok a with
      | false=>rw [if_neg (by simp)]; rfl
      | true =>
        cases tb:tok b with
        | false=>rw [if_neg (by simp)]; rfl
        | true =>
          rw [Bool.not_true,zAB,zAA,zAB]
          by_cases hab:a=[42]∧b≠[42]
          · rw [if_neg (fun hh=>hh.2.2.2.2 hab),zAA]
            have hk:(bif a==[42] then (some b).bind fun s46=>some (s46 !=[42]) else some false)=some true:=by
              rw [hab.1,show (([42]:Str)==[42])=true from rfl,zAC,zAA,show (b !=[42])=true by simpa using hab.2]
            rw [hk]; rfl
          · rw [if_pos (show _ from ⟨by trivial,h,by trivial,by trivial,hab⟩),zAA]
            have hk:(bif a==[42] then (some b).bind fun s46=>some (s46 !=[42]) else some false)=some false:=by
              by_cases ha:a=[42]
              · have hb : b = [42] := by
                  by_cases hb:b=[42]
                  · exact hb
                  · exact absurd ⟨ha,hb⟩ hab
                rw [ha,hb]; rfl
              · rw [show (a==[42])=false by simpa using ha]; rfl
            rw [hk,zAA,zAA,zAB,zAA,zEQ _ h1,zAA,zAA,zEQ _ h2,zAA]
    · rw [if_neg h,if_neg (fun hh=>h hh.2.1)]
      rfl
def typeS (s:Str):GMediaType×Bool:=if ((!(zBv s).2||(zBv s).1.fType==[42])||(zBv s).1.fSub==[42])=true then (noT,false) else ((zBv s).1,true)
theorem zLh (s:Str) (hs:s.length≤1000000):zCg s=some (typeS s):=by
  unfold zCg typeS
  rw [zJF s hs,zAA]
  cases ((!(zBv s).2||(zBv s).1.fType==[42])||(zBv s).1.fSub==[42]) <;> rfl
theorem zN8 (s:Str) (hs:s.length≤1000000):zDf s=some (typeS s):=by
  unfold zDf typeS
  rw [zMr s hs,zAA]
  cases ((!(zBv s).2||(zBv s).1.fType==[42])||(zBv s).1.fSub==[42]) <;> rfl
theorem zKl (s:Str):(typeS s).1.fParams.length≤s.length+1:=by
  have h:=(zG0 s).2
  unfold typeS
  split
  · simp [noT]
  · unfold zBv
    split
    · exact h
    · simp [noT]
def canS (k:Int) (s:Str):Str :=
  if k=4∧lower s=[120,45,103,122,105,112] then [103,122,105,112] else if k=4∧lower s=[120,45,99,111,109,112,114,101,115,115] then [99,111,109,112,114,101,115,115] else lower s
theorem zKI (k:Int) (s:Str) (hs:s.length≤1073741824):zA2 k s=some (canS k s):=by
  unfold zA2 canS
  rw [zBf _ hs,zAA]
  by_cases hk:k=4
  · subst hk
    rw [show ((4:Int) !=4)=false from rfl,zAB]
    generalize lower s=l
    by_cases h1:l=[103,122,105,112]
    · subst h1; rfl
    by_cases h2:l=[120,45,103,122,105,112]
    · subst h2; rfl
    by_cases h3:l=[99,111,109,112,114,101,115,115]
    · subst h3; rfl
    by_cases h4:l=[120,45,99,111,109,112,114,101,115,115]
    · subst h4; rfl
    have e1:(l==[103,122,105,112])=false:=by simpa using h1
    have e2:(l==[120,45,103,122,105,112])=false:=by simpa using h2
    have e3:(l==[99,111,109,112,114,101,115,115])=false:=by simpa using h3
    have e4:(l==[120,45,99,111,109,112,114,101,115,115])=false:=by simpa using h4
    rw [e1,e2,e3,e4,if_neg (fun h=>h2 h.2),if_neg (fun h=>h4 h.2)]
    rfl
  · rw [show (k !=4)=true by simpa using hk,zAC,if_neg (fun h=>hk h.1),if_neg (fun h=>hk h.1)]
theorem zJl (k:Int) (s:Str) (hs:s.length≤1073741824):zCi k s=some (canS k s):=by
  unfold zCi canS
  rw [zEQ _ hs,zAA]
  by_cases h1:k=4∧lower s=[120,45,103,122,105,112]
  · rw [if_pos h1,h1.1,h1.2]; rfl
  · rw [if_neg h1, show ((k == 4) && (lower s == [120, 45, 103, 122, 105, 112])) = false by
      rw [Bool.eq_false_iff]; intro h; rw [Bool.and_eq_true,beq_iff_eq,beq_iff_eq] at h; exact h1 h,zAB]
    by_cases h2:k=4∧lower s=[120,45,99,111,109,112,114,101,115,115]
    · rw [if_pos h2,h2.1,h2.2]; rfl
    · rw [if_neg h2, show ((k == 4) && (lower s == [120, 45, 99, 111, 109, 112, 114, 101, 115, 115])) = false by
        rw [Bool.eq_false_iff]; intro h; rw [Bool.and_eq_true,beq_iff_eq,beq_iff_eq] at h; exact h2 h,zAB]
end Go.Eng.Pure
namespace Go.Eng.Pure
open Go Go.Eng
set_option linter.unusedVariables false
def sameN (p x:GParam):Bool:=x.fName==p.fName
def zKt:List GParam→List GParam→Bool
  | _,[]=>true
  | prev,p :: l=>(p.fName !=[113]&&!(prev.any (sameN p)))&&zKt (prev++[p]) l
theorem zK0 (ms:List GParam) (f:GParam→Option Bool) (p:GParam→Bool) (hl:ms.length≤1073741824) (h:∀ m ∈ ms,f m=some (p m)):zAT ms f=some (ms.any p):=by
  have key:∀ (k n:Nat),n+k=ms.length→∃ r,zAG (zAK ms f) (n:Int)=some r∧(match r with | .inr i=>decide (0≤i) | .inl _=>false)=(ms.drop n).any p:=by
    intro k
    induction k with
    | zero =>
      intro n hn
      obtain rfl:n=ms.length:=by omega
      refine ⟨.inl (),zAF ?_,by simp⟩
      simp only [zAK,zAI (Nat.le_refl ms.length),zAB]
    | succ k ih =>
      intro n hn
      have hlt:n<ms.length:=by omega
      have hb:zAK ms f (n:Int)=some (if p ms[n] then .inr (.inr (n:Int)) else .inl ((n+1:Nat):Int)):=by
        simp only [zAK,zAJ hlt,zAC,zAE hlt,zAA,h _ (List.getElem_mem hlt),wrs (show n≤4*1073741824 by omega)]
        cases p ms[n] <;> rfl
      rw [List.drop_eq_getElem_cons hlt,List.any_cons]
      cases hp:p ms[n] with
      | true =>
        rw [hp,if_pos rfl] at hb
        exact ⟨_,zAF hb,by show decide ((0:Int)≤(n:Int))=_; rw [decide_eq_true (by omega)]; rfl⟩
      | false =>
        rw [hp,if_neg (by decide)] at hb
        obtain ⟨r,h1,h2⟩:=ih (n+1) (by omega)
        exact ⟨r,by rw [zAL hb,h1],by rw [h2]; rfl⟩
  obtain ⟨r,h1,h2⟩:=key ms.length 0 (by omega)
  have h1:zAG (zAK ms f) 0=some r:=h1
  unfold zAT zAS
  rw [h1,zAA]
  rw [List.drop_zero] at h2
  rw [← h2]
  cases r <;> rfl
theorem zKu (l : List GParam) (hl : l.length ≤ 1000001) (body : (Bool × Int) → Option ((Bool × Int) ⊕ Bool))
    (h:∀ (n:Nat) (hn:n<l.length) (b:Bool),body (b,(n:Int))=some (.inl (b&&(l[n].fName !=[113]&&!((l.take n).any (sameN l[n]))),((n+1:Nat):Int)))) (h':∀ b,body (b,(l.length:Int))=some (.inr b)) :
    ∀ (k n:Nat) (b:Bool),n+k=l.length→zAG body (b,(n:Int))=some (b&&zKt (l.take n) (l.drop n)):=by
  intro k
  induction k with
  | zero =>
    intro n b hn
    have:n=l.length:=by omega
    subst this
    rw [zAF (h' b),List.drop_length]; unfold zKt; rw [Bool.and_true]
  | succ k ih =>
    intro n b hn
    have hlt:n<l.length:=by omega
    rw [zAL (h n hlt b),ih (n+1) _ (by omega)]
    conv=>rhs; rw [List.drop_eq_getElem_cons hlt]
    conv=>rhs; unfold zKt
    rw [zAg hlt,Bool.and_assoc]
def zLt (s:Str):Bool:=(typeS s).2&&zKt [] (typeS s).1.fParams
theorem zOL (s:Str) (hs:s.length≤1000000):zB1 () s=some (lower s,zLt s):=by
  have hl:=zKl s
  unfold zB1 zLt
  rw [zLh s hs,zAA]
  have:=zKu (typeS s).1.fParams (by omega) (zA3 (typeS s)) ?_ ?_ (typeS s).1.fParams.length 0 (typeS s).2 (by omega)
  · rw [show ((0:Nat):Int)=0 from rfl,List.take_zero,List.drop_zero] at this
    rw [this,zAA,zBf _ (by omega),zAA]
  · intro n hn b
    unfold zA3
    simp only []
    rw [zAJ hn,zAC,zAE hn,zAA,wrs (by omega)]
    generalize hp:(typeS s).1.fParams[n]=p
    have hc:zAT ((typeS s).1.fParams.take n) (fun x0=>zBj x0 p)=some (((typeS s).1.fParams.take n).any (sameN p)) :=
      zK0 _ _ _ (by rw [List.length_take]; omega) (fun m _=>rfl)
    cases hb:b&&(p.fName !=[113]) with
    | true =>
      rw [zAC,zE8 (by omega),zAA,hc,zAA,zAA]
      rw [Bool.and_eq_true] at hb
      rw [hb.1,hb.2,Bool.true_and,Bool.true_and]
    | false =>
      rw [zAB,zAA]
      have:(b&&(p.fName !=[113]&&!(((typeS s).1.fParams.take n).any (sameN p))))=false:=by rw [← Bool.and_assoc,hb]; rfl
      rw [this]
  · intro b
    unfold zA3
    simp only []
    rw [zAI (Nat.le_refl _),zAB]
def txtOK (s:Str):Bool:=((decide (1≤s.length)&&decide (s.length≤100))&&txt s)&&(trim s==s)
def domF (n:Str):Gvariants_domain:=if kindF n=1 then .media else if kindF n=2 then .tags else if kindF n=3∨kindF n=4 then .words (kindF n) else .texts
def formD:Gvariants_domain→Str→Str×Bool
  | .media,s=>(lower s,zLt s)
  | .tags,s=>(lower s,langS s)
  | .words k,s=>(canS k s,tok s&&s !=[42])
  | .texts,s=>(s,txtOK s)
theorem zLo (n:Str) (hn:n.length≤1073741824):zBx n=some (domF n):=by
  unfold zBx domF
  rw [zLD n hn,zAA]
  generalize kindF n=k
  by_cases h1:k=1
  · subst h1; rfl
  by_cases h2:k=2
  · subst h2; rfl
  by_cases h3:k=3
  · subst h3; rfl
  by_cases h4:k=4
  · subst h4; rfl
  rw [show (k==1)=false by simpa using h1,show (k==2)=false by simpa using h2,show (k==3)=false by simpa using h3,show (k==4)=false by simpa using h4,if_neg h1,if_neg h2,if_neg (by omega)]
  rfl
theorem le1 (n:Nat):decide ((1:Int)≤(n:Int))=decide (1≤n):=zHA 1 n
theorem le100 (n:Nat):decide ((n:Int)≤100)=decide (n≤100):=zHA n 100
theorem zLJ (d:Gvariants_domain) (s:Str) (hs:s.length≤1000000):zBL d s=some (formD d s):=by
  cases d with
  | media=>exact zOL s hs
  | tags =>
    show zCQ () s=some (lower s,langS s)
    unfold zCQ
    rw [zBf _ (by omega),zAA,zNa s hs,zAA]
  | words k =>
    show zB8 k s=some (canS k s,tok s&&s !=[42])
    unfold zB8
    rw [zKI _ _ (by omega),zAA,zDH _ (by omega),zAA]
  | texts =>
    show zCA () s=some (s,txtOK s)
    unfold zCA txtOK
    rw [le1,le100,zMd _ (by omega),zJD _ (by omega)]
    cases decide (1≤s.length) <;> cases decide (s.length≤100) <;> cases txt s <;> rfl
theorem zOG (n a b:Str) (hn:n.length≤1073741824) (ha:a.length≤1000000) (hb:b.length≤1000000):zEw n a b=some ((formD (domF n) a).1==(formD (domF n) b).1):=by
  unfold zEw
  rw [zLo n hn,zAA,zLJ _ a ha,zAA,zLJ _ b hb,zAA]
end Go.Eng.Pure
namespace Go.Eng.Pure
open Go Go.Eng
set_option linter.unusedVariables false
theorem zLd (a b:Str):fold a b=(lower a==lower b):=by
  unfold fold
  cases h:lower a==lower b with
  | false=>rw [Bool.and_false]
  | true =>
    have h2:lower a=lower b:=by simpa using h
    have:a.length=b.length:=by rw [← zCb a,h2,zCb]
    rw [Bool.and_true,this]; simp
theorem zLz (n a b:Str) (hn:n.length≤1073741824) (ha:a.length≤1000000) (hb:b.length≤1000000):zFm n a b=some ((formD (domF n) a).1==(formD (domF n) b).1):=by
  unfold zFm domF
  rw [zLp n hn,zAA]
  generalize kindF n=k
  by_cases h1:k=1
  · subst h1; rw [zGx _ _ (by omega) (by omega),zLd]; rfl
  by_cases h2:k=2
  · subst h2; rw [zGx _ _ (by omega) (by omega),zLd]; rfl
  by_cases h3:k=3
  · subst h3; rw [zJl _ _ (by omega),zJl _ _ (by omega)]; rfl
  by_cases h4:k=4
  · subst h4; rw [zJl _ _ (by omega),zJl _ _ (by omega)]; rfl
  rw [show (k==1)=false by simpa using h1,show (k==2)=false by simpa using h2,show (k==3)=false by simpa using h3,show (k==4)=false by simpa using h4,if_neg h1,if_neg h2,if_neg (by omega)]
  rfl
theorem zOD (l : List GParam) (n : Nat) (hn : n < l.length) (hl : l.length ≤ 1000001) (r : GMediaType × Bool) (hr : r.1.fParams = l) : ∀ (k i : Nat) (b : Bool), i + k = n →
    zAG (zBp r (n:Int)) (b,(i:Int))=some (b&&!(((l.take n).drop i).any (sameN l[n]))):=by
  intro k
  induction k with
  | zero =>
    intro i b hi
    have:i=n:=by omega
    subst this
    have hb:zBp r (i:Int) (b,(i:Int))=some (.inr b):=by
      unfold zBp
      simp only []
      rw [zAI (Nat.le_refl _),zAB]
    rw [zAF hb,List.drop_eq_nil_of_le (by rw [List.length_take]; omega)]; simp
  | succ k ih =>
    intro i b hi
    have hlt:i<l.length:=by omega
    have hb:zBp r (n:Int) (b,(i:Int))=some (.inl (b&&(l[n].fName !=l[i].fName),((i+1:Nat):Int))):=by
      unfold zBp
      simp only []
      rw [hr,zAJ (show i<n by omega),zAC,zAE hn,zAA,zAE hlt,zAA,wrs (by omega)]
      cases b <;> rfl
    have hd:(l.take n).drop i=l[i] :: (l.take n).drop (i+1):=by
      rw [List.drop_eq_getElem_cons (by rw [List.length_take]; omega),List.getElem_take]
    rw [zAL hb,ih (i+1) _ (by omega),hd,List.any_cons]
    have e:sameN l[n] l[i]=!(l[n].fName !=l[i].fName):=by
      unfold sameN
      rw [bne,Bool.not_not,Bool.eq_iff_iff,beq_iff_eq,beq_iff_eq]
      exact ⟨Eq.symm,Eq.symm⟩
    rw [e]
    cases b <;> cases l[n].fName !=l[i].fName <;> simp
theorem zMJ (n s:Str) (hn:n.length≤1073741824) (hs:s.length≤1000000):zGO n s=some (formD (domF n) s).2:=by
  have hl:=zKl s
  have hm:zAG (zCM (typeS s)) ((typeS s).2,0)=some (zLt s):=by
    have:=zKu (typeS s).1.fParams (by omega) (zCM (typeS s)) ?_ ?_ (typeS s).1.fParams.length 0 (typeS s).2 (by omega)
    · rw [show ((0:Nat):Int)=0 from rfl,List.take_zero,List.drop_zero] at this
      exact this
    · intro k hk b
      have hin:=zOD _ k hk (by omega) (typeS s) rfl k 0 b (by omega)
      rw [show ((0:Nat):Int)=0 from rfl,List.drop_zero] at hin
      unfold zCM
      simp only []
      rw [zAJ hk,zAC,hin,zAA,zAE hk,wrs (by omega)]
      generalize ((typeS s).1.fParams.take k).any (sameN (typeS s).1.fParams[k])=y
      cases b <;> cases y <;> simp
    · intro b
      unfold zCM
      simp only []
      rw [zAI (Nat.le_refl _),zAB]
  unfold zGO domF
  rw [zLp n hn,zAA]
  generalize kindF n=k
  by_cases h1:k=1
  · subst h1; rw [zN8 s hs]; simp only [zAA]; rw [hm]; rfl
  by_cases h2:k=2
  · subst h2; rw [zPC s hs]; rfl
  by_cases h3:k=3
  · subst h3; rw [zFG s (by omega)]; rfl
  by_cases h4:k=4
  · subst h4; rw [zFG s (by omega)]; rfl
  rw [show (k==1)=false by simpa using h1,show (k==2)=false by simpa using h2,show (k==3)=false by simpa using h3,show (k==4)=false by simpa using h4,if_neg h1,if_neg h2,if_neg (by omega)]
  rw [le1,le100,zNq _ (by omega),zJq _ (by omega)]
  show _=some (txtOK s)
  unfold txtOK
  cases decide (1≤s.length) <;> cases decide (s.length≤100) <;> cases txt s <;> rfl
def chk {α:Type} (ok:List α→α→Bool):List α→List α→Bool
  | _,[]=>true
  | prev,x :: l=>ok prev x&&chk ok (prev++[x]) l
theorem zJk {α : Type} (l : List α) (ok : List α → α → Bool) (body : Int → Option (Int ⊕ (Unit ⊕ Bool)))
    (h:∀ (n:Nat) (hn:n<l.length),body (n:Int)=some (if ok (l.take n) l[n] then .inl ((n+1:Nat):Int) else .inr (.inr false))) (h':body (l.length:Int)=some (.inr (.inl ()))) :
    zAG body 0=some (if chk ok [] l then .inl () else .inr false):=by
  have key:∀ (k n:Nat),n+k=l.length→zAG body (n:Int)=some (if chk ok (l.take n) (l.drop n) then .inl () else .inr false):=by
    intro k
    induction k with
    | zero =>
      intro n hn
      have:n=l.length:=by omega
      subst this
      rw [zAF h',List.drop_length]; rfl
    | succ k ih =>
      intro n hn
      have hlt:n<l.length:=by omega
      have hb:=h n hlt
      conv=>rhs; rw [List.drop_eq_getElem_cons hlt]
      unfold chk
      cases hs:ok (l.take n) l[n] with
      | true=>rw [hs] at hb; rw [zAL hb,ih (n+1) (by omega),Bool.true_and,zAg hlt]
      | false=>rw [hs] at hb; rw [zAF hb]; rfl
  have:=key l.length 0 (by omega)
  rw [show ((0:Nat):Int)=0 from rfl,List.take_zero,List.drop_zero] at this
  exact this
end Go.Eng.Pure
namespace Go.Eng.Pure
open Go Go.Eng
set_option linter.unusedVariables false
def okV (d:Gvariants_domain) (prev:List Str) (v:Str):Bool:=(formD d v).2&&!(prev.any fun u=>(formD d u).1==(formD d v).1)
def axV (a:GAxis):Bool:=(decide (1≤a.fValues.length)&&decide (a.fValues.length≤16))&&chk (okV (domF a.fName)) [] a.fValues
def smA (a:GAxis):Prop:=a.fName.length≤1000000∧∀ v ∈ a.fValues,v.length≤1000000
theorem zNd {β:Type} (m:List (Str×β)) (k k':Str) (v z:β):(mget (mset m k v) k' z).1=if k'==k then v else (mget m k' z).1:=by
  unfold mget
  rw [zLL]
  cases k'==k <;> rfl
theorem zMY (a : GAxis) (h : smA a) (hl : a.fValues.length ≤ 16) : ∀ (k n : Nat) (m : List (Str × Bool)), n + k = a.fValues.length → (∀ q, (mget m q false).1 = (a.fValues.take n).any fun u => (formD (domF a.fName) u).1 == q) →
    zAG (zA7 a (domF a.fName)) ((n:Int),m)=some (if chk (okV (domF a.fName)) (a.fValues.take n) (a.fValues.drop n) then .inl () else .inr false):=by
  intro k
  induction k with
  | zero =>
    intro n m hn hI
    have:n=a.fValues.length:=by omega
    subst this
    have hb:zA7 a (domF a.fName) ((a.fValues.length:Int),m)=some (.inr (.inl ())):=by
      unfold zA7
      simp only []
      rw [zAI (Nat.le_refl _),zAB]
    rw [zAF hb,List.drop_length]; rfl
  | succ k ih =>
    intro n m hn hI
    have hlt:n<a.fValues.length:=by omega
    have hm:=h.2 _ (List.getElem_mem hlt)
    conv=>rhs; rw [List.drop_eq_getElem_cons hlt]
    unfold chk
    generalize hv:a.fValues[n]=v at *
    have hb:zA7 a (domF a.fName) ((n:Int),m)=some (if okV (domF a.fName) (a.fValues.take n) v then .inl (((n+1:Nat):Int),mset m (formD (domF a.fName) v).1 true) else .inr (.inr false)):=by
      unfold zA7 okV
      simp only []
      rw [zAJ hlt,zAC,zAE hlt,hv,zAA,zLJ _ v hm,zAA,zAA,hI,wrs (by omega)]
      cases (formD (domF a.fName) v).2 <;> cases (a.fValues.take n).any (fun u=>(formD (domF a.fName) u).1==(formD (domF a.fName) v).1) <;> rfl
    cases ho:okV (domF a.fName) (a.fValues.take n) v with
    | false=>rw [ho] at hb; rw [zAF hb]; rfl
    | true =>
      rw [ho] at hb
      rw [zAL hb,ih (n+1) _ (by omega) ?_,Bool.true_and,zAg hlt,hv]
      intro q
      rw [zNd,zAg hlt,hv,List.any_append,hI q]
      simp only [List.any_cons,List.any_nil,Bool.or_false]
      have e:(q==(formD (domF a.fName) v).1)=((formD (domF a.fName) v).1==q):=by
        rw [Bool.eq_iff_iff,beq_iff_eq,beq_iff_eq]; exact ⟨Eq.symm,Eq.symm⟩
      rw [e]
      cases (formD (domF a.fName) v).1==q <;> simp
theorem lt1 (n:Nat):decide ((n:Int)<1)=!decide (1≤n):=by
  rw [Bool.eq_iff_iff]; simp only [decide_eq_true_eq,Bool.not_eq_true',decide_eq_false_iff_not]; omega
theorem gt16 (n:Nat):decide ((16:Int)<(n:Int))=!decide (n≤16):=by
  rw [Bool.eq_iff_iff]; simp only [decide_eq_true_eq,Bool.not_eq_true',decide_eq_false_iff_not]; omega
theorem gt4 (n:Nat):decide ((4:Int)<(n:Int))=!decide (n≤4):=by
  rw [Bool.eq_iff_iff]; simp only [decide_eq_true_eq,Bool.not_eq_true',decide_eq_false_iff_not]; omega
theorem zMy (a:GAxis) (h:smA a):zED a=some (axV a):=by
  unfold zED axV
  rw [lt1,gt16]
  by_cases h1:1≤a.fValues.length
  · by_cases h2:a.fValues.length≤16
    · rw [decide_eq_true h1,decide_eq_true h2,zLo _ (by have:=h.1; omega)]
      simp only [Bool.not_true,Bool.or_self,zAB,zAA,Bool.and_self,Bool.true_and]
      have:=zMY a h h2 a.fValues.length 0 [] (by omega) (fun q=>rfl)
      rw [show ((0:Nat):Int)=0 from rfl,List.take_zero,List.drop_zero] at this
      rw [this,zAA]
      cases chk (okV (domF a.fName)) [] a.fValues <;> rfl
    · rw [decide_eq_false h2]; simp
  · rw [decide_eq_false h1]; simp
def axN (a:GAxis):Bool:=(tok a.fName&&(lower a.fName==a.fName))&&axV a
theorem zJ6 (a:GAxis) (h:smA a):zDo a=some (axN a):=by
  have hn:=h.1
  unfold zDo axN axV
  rw [zFG _ (by omega),zAA,lt1,gt16]
  have hlow:(bif !tok a.fName then some true else (zBR a.fName).bind fun r13=>some (r13 !=a.fName))=some (!(tok a.fName&&(lower a.fName==a.fName))):=by
    rw [zEQ _ (by omega),zAA]
    cases tok a.fName <;> rfl
  rw [hlow,zAA]
  cases (tok a.fName&&(lower a.fName==a.fName)) with
  | false=>rfl
  | true =>
    by_cases h1:1≤a.fValues.length
    · by_cases h2:a.fValues.length≤16
      · rw [decide_eq_true h1,decide_eq_true h2]
        simp only [Bool.not_true,Bool.or_self,zAB,Bool.and_self,Bool.true_and]
        have:=zJk a.fValues (okV (domF a.fName)) (zBk a) ?_ ?_
        · rw [this,zAA]
          cases chk (okV (domF a.fName)) [] a.fValues <;> rfl
        · intro n hlt
          have hm:=h.2 _ (List.getElem_mem hlt)
          unfold zBk okV
          rw [zAJ hlt,zAC,zAE hlt,zAA]
          generalize hv:a.fValues[n]=v at *
          rw [zMJ _ _ (by omega) hm,zAA]
          cases (formD (domF a.fName) v).2 with
          | false=>rfl
          | true =>
            rw [Bool.not_true,zAB]
            have hw:zAG (zBd a (n:Int)) 0=some (if (a.fValues.take n).any (fun u=>(formD (domF a.fName) u).1==(formD (domF a.fName) v).1) then .inr (.inr (.inr false)) else .inl ()):=by
              refine zBX (ρ:=Unit ⊕ (Int ⊕ (Unit ⊕ Bool))) _ (a.fValues.take n) _ (.inr (.inr (.inr false))) (.inl ()) ?_ ?_
              · intro i hi
                have hi2:i<n:=by rw [List.length_take] at hi; omega
                have hi3:i<a.fValues.length:=by omega
                have hmi:=h.2 _ (List.getElem_mem hi3)
                unfold zBd
                rw [zAJ hi2,zAC,zAE hlt,hv,zAA,zAE hi3,zAA,zLz _ _ _ (by omega) hm hmi,zAA,List.getElem_take,wrs (by omega)]
                have e:((formD (domF a.fName) v).1==(formD (domF a.fName) a.fValues[i]).1)=((formD (domF a.fName) a.fValues[i]).1==(formD (domF a.fName) v).1):=by
                  rw [Bool.eq_iff_iff,beq_iff_eq,beq_iff_eq]; exact ⟨Eq.symm,Eq.symm⟩
                rw [e]
                cases (formD (domF a.fName) a.fValues[i]).1==(formD (domF a.fName) v).1 <;> simp
              · unfold zBd
                have:(a.fValues.take n).length=n:=by rw [List.length_take]; omega
                rw [this,zAI (Nat.le_refl _),zAB]
            rw [hw,zAA,wrs (by omega)]
            cases (a.fValues.take n).any (fun u=>(formD (domF a.fName) u).1==(formD (domF a.fName) v).1) <;> rfl
        · unfold zBk
          rw [zAI (Nat.le_refl _),zAB]
      · rw [decide_eq_false h2]; simp
    · rw [decide_eq_false h1]; simp
def okA (prev:List GAxis) (a:GAxis):Bool:=axN a&&!(prev.any fun b=>a.fName==b.fName)
def valB (l:List GAxis):Bool:=(decide (1≤l.length)&&decide (l.length≤4))&&chk okA [] l
theorem zIm (l:List GAxis) (h:∀ a ∈ l,smA a):zCK l=some (valB l):=by
  unfold zCK valB
  rw [lt1,gt4]
  by_cases h1:1≤l.length
  · by_cases h2:l.length≤4
    · rw [decide_eq_true h1,decide_eq_true h2]
      simp only [Bool.not_true,Bool.or_self,zAB,Bool.and_self,Bool.true_and]
      have:=zJk l okA (zBu l) ?_ ?_
      · rw [this,zAA]
        cases chk okA [] l <;> rfl
      · intro n hlt
        have hm:=h _ (List.getElem_mem hlt)
        unfold zBu okA axN
        rw [zAJ hlt,zAC,zAE hlt,zAA]
        generalize hv:l[n]=a at *
        have hn:=hm.1
        rw [zDH _ (by omega),zAA,zBf _ (by omega),zAA,zMy a hm]
        have hw:zAG (zBs a (l.take n)) 0=some (if (l.take n).any (fun b=>a.fName==b.fName) then .inr (.inr (.inr false)) else .inl ()):=by
          refine zBX (ρ:=Unit ⊕ (Int ⊕ (Unit ⊕ Bool))) _ (l.take n) _ (.inr (.inr (.inr false))) (.inl ()) ?_ ?_
          · intro i hi
            have hi2:i<n:=by rw [List.length_take] at hi; omega
            unfold zBs
            rw [zAJ hi,zAC,zAE hi,zAA,wrs (by omega)]
            cases a.fName==(l.take n)[i].fName <;> simp
          · unfold zBs
            rw [zAI (Nat.le_refl _),zAB]
        rw [zE8 (by omega),wrs (by omega)]
        simp only [zAA]
        rw [hw]
        have e:(lower a.fName !=a.fName)=!(lower a.fName==a.fName):=rfl
        rw [e]
        cases tok a.fName <;> cases lower a.fName==a.fName <;> cases axV a <;> cases (l.take n).any (fun b=>a.fName==b.fName) <;> rfl
      · unfold zBu
        rw [zAI (Nat.le_refl _),zAB]
    · rw [decide_eq_false h2]; simp
  · rw [decide_eq_false h1]; simp
theorem zNh (l:List GAxis) (h:∀ a ∈ l,smA a):zGH l=some (valB l):=by
  unfold zGH valB
  rw [lt1,gt4]
  by_cases h1:1≤l.length
  · by_cases h2:l.length≤4
    · rw [decide_eq_true h1,decide_eq_true h2]
      simp only [Bool.not_true,Bool.or_self,zAB,Bool.and_self,Bool.true_and]
      have:=zJk l okA (zC6 l) ?_ ?_
      · rw [this,zAA]
        cases chk okA [] l <;> rfl
      · intro n hlt
        have hm:=h _ (List.getElem_mem hlt)
        have hx:=zAE hlt
        unfold zC6 okA
        rw [zAJ hlt,zAC,hx,zAA]
        generalize hv:l[n]=a at *
        rw [zJ6 a hm,zAA]
        have hw:zAG (zC1 l (n:Int)) 0=some (if (l.take n).any (fun b=>a.fName==b.fName) then .inr (.inr (.inr false)) else .inl ()):=by
          refine zBX (ρ:=Unit ⊕ (Int ⊕ (Unit ⊕ Bool))) _ (l.take n) _ (.inr (.inr (.inr false))) (.inl ()) ?_ ?_
          · intro i hi
            have hi2:i<n:=by rw [List.length_take] at hi; omega
            have hi3:i<l.length:=by omega
            unfold zC1
            rw [zAJ hi2,zAC,hx,zAA,zAE hi3,zAA,wrs (by omega),List.getElem_take]
            cases a.fName==l[i].fName <;> simp
          · unfold zC1
            have:(l.take n).length=n:=by rw [List.length_take]; omega
            rw [this,zAI (Nat.le_refl _),zAB]
        rw [hw,wrs (by omega)]
        cases axN a <;> cases (l.take n).any (fun b=>a.fName==b.fName) <;> rfl
      · unfold zC6
        rw [zAI (Nat.le_refl _),zAB]
    · rw [decide_eq_false h2]; simp
  · rw [decide_eq_false h1]; simp
end Go.Eng.Pure
namespace Go.Eng.Pure
open Go Go.Eng
set_option linter.unusedVariables false
theorem zNW (ms:List (List Str)) (f:List Str→Option Bool) (p:List Str→Bool) (hl:ms.length≤1073741824) (h:∀ m ∈ ms,f m=some (p m)):zAV ms f=some (ms.any p):=by
  have key:∀ (k n:Nat),n+k=ms.length→∃ r,zAG (zAR ms f) (n:Int)=some r∧(match r with | .inr e=>(0:Int)≤e∧(ms.drop n).any p=true | .inl _=>(ms.drop n).any p=false):=by
    intro k
    induction k with
    | zero =>
      intro n hn
      obtain rfl:n=ms.length:=by omega
      refine ⟨.inl (),zAF ?_,by rw [List.drop_length]; rfl⟩
      simp only [zAR,zAI (Nat.le_refl ms.length),zAB]
    | succ k ih =>
      intro n hn
      have hlt:n<ms.length:=by omega
      have hb:zAR ms f (n:Int)=some (if p ms[n] then .inr (.inr (n:Int)) else .inl ((n+1:Nat):Int)):=by
        simp only [zAR,zAJ hlt,zAC,zAE hlt,zAA,h _ (List.getElem_mem hlt),wrs (show n≤4*1073741824 by omega)]
        cases p ms[n] <;> rfl
      rw [List.drop_eq_getElem_cons hlt,List.any_cons]
      cases hp:p ms[n] with
      | true =>
        rw [hp,if_pos rfl] at hb
        exact ⟨_,zAF hb,by simp only []; exact ⟨by omega,rfl⟩⟩
      | false =>
        rw [hp,if_neg (by decide)] at hb
        obtain ⟨r,hr,hm⟩:=ih (n+1) (by omega)
        refine ⟨r,by rw [zAL hb]; exact hr,?_⟩
        cases r <;> simpa using hm
  obtain ⟨r,hr,hm⟩:=key ms.length 0 (by omega)
  rw [show ((0:Nat):Int)=0 from rfl] at hr
  rw [List.drop_zero] at hm
  unfold zAV zAz
  rw [hr,zAA]
  cases r with
  | inr e=>simp only [] at hm ⊢; rw [zAA,hm.2,decide_eq_true hm.1]
  | inl u=>simp only [] at hm ⊢; rw [zAA,hm]; rfl
end Go.Eng.Pure
namespace Go.Eng.Pure
open Go Go.Eng
set_option linter.unusedVariables false
theorem zK6 (a b:List GAxis) (ha:a.length≤1073741824) (hs:∀ x ∈ a,x.fValues.length≤1073741824):zGF a b=some (decide (a=b)):=by
  unfold zGF
  rw [neI]
  by_cases hl:a.length=b.length
  · have e:(a.length !=b.length)=false:=by simp [hl]
    rw [e,zAB,zD3 a b _ hl]
    · by_cases h:a=b <;> simp [h]
    · intro n hn hb
      have h1:=hs _ (List.getElem_mem hn)
      unfold zEC
      rw [zAJ hn,zAC,zAE hn,zAA,zAE hb,zAA,zAA,zAA,wrs (by omega)]
      generalize a[n]=x at *
      generalize b[n]=y at *
      obtain ⟨xn,xv⟩:=x
      obtain ⟨yn,yv⟩:=y
      simp only [] at h1 ⊢
      rw [zBa _ _ h1]
      by_cases h2:xn=yn
      · by_cases h3:xv=yv
        · subst h2; subst h3; simp
        · have:(xv==yv)=false:=by simpa using h3
          subst h2
          simp only [bne_self_eq_false,zAB,zAA,this,GAxis.mk.injEq,true_and,h3,if_false]; rfl
      · have:(xn !=yn)=true:=by simpa using h2
        simp only [this,zAC,zAA,GAxis.mk.injEq,h2,false_and,if_false]
    · unfold zEC
      rw [zAI (Nat.le_refl _),zAB]
  · have e:(a.length !=b.length)=true:=by simp [hl]
    rw [e,zAC,decide_eq_false (fun h=>hl (by rw [h]))]
end Go.Eng.Pure
namespace Go.Eng.Pure
open Go Go.Eng
set_option linter.unusedVariables false
theorem zHy (s:List Str) (h:s.length≤1073741824):zAU s=some s:=by
  unfold zAU
  rw [zAm (by simp) (by omega)]; rfl
theorem zNg (s:List GField) (h:s.length≤1073741824):zAf s=some s:=by
  unfold zAf
  rw [zAm (by simp) (by omega)]; rfl
theorem zFz {S α ρ : Type} (mk : List α → Int → S) (fin : List α → ρ) (l : List α) (body : S → Option (S ⊕ ρ)) (hl : l.length ≤ 1073741824)
    (h:∀ (n:Nat) (hn:n<l.length) (out:List α),out.length≤n→body (mk out n)=some (.inl (mk (out++[l[n]]) ((n+1:Nat):Int))))
    (h':∀ out,out.length≤l.length→body (mk out l.length)=some (.inr (fin out))):zAG body (mk [] 0)=some (fin l):=by
  have:=zDT mk l (fun out x=>out++[x]) fin body (fun n out=>out.length≤n) [] (by simp) (fun n hn st hI=>⟨h n hn st hI,by rw [List.length_append]; simp; exact hI⟩) h'
  rw [this]
  have e:∀ (l acc:List α),l.foldl (fun out x=>out++[x]) acc=acc++l:=by
    intro l
    induction l with
    | nil=>intro acc; simp
    | cons x l ih=>intro acc; rw [List.foldl_cons,ih]; simp
  rw [e]; rfl
theorem zIP (l:List GAxis) (hl:l.length≤1073741824) (hv:∀ a ∈ l,a.fValues.length≤1073741824):zFg l=some l:=by
  unfold zFg
  have:=zFz (fun out n=>(out,n)) id l (zDy l) hl ?_ ?_
  · rw [this]; rfl
  · intro n hn out ho
    simp only [zDy]
    rw [zAJ hn,zAC,zAE hn,zAA,zHy _ (hv _ (List.getElem_mem hn)),zAA,zAm (by omega) (zBW _),zAA,wrs (by omega)]
  · intro out _
    simp only [zDy]
    rw [zAI (Nat.le_refl _),zAB]; rfl
def smEn (e:GEntry):Prop:=e.fKeys.length≤1073741824∧(∀ k ∈ e.fKeys,k.length≤1073741824)∧e.fVary.length≤1073741824∧e.fSnapshot.length≤1073741824∧e.fFields.length≤1073741824
theorem zHr (e:GEntry) (h:smEn e):zD6 e=some e:=by
  obtain ⟨h1,h2,h3,h4,h5⟩:=h
  unfold zD6
  have:=zFz (fun out n=>(n,out,e.fVary,e.fSnapshot,e.fReason,e.fFields,e.fBody,e.fRequested,e.fReceived)) (fun out=>(out,e.fVary,e.fSnapshot,e.fReason,e.fFields,e.fBody,e.fRequested,e.fReceived)) e.fKeys (zCy e) h1 ?_ ?_
  · rw [this,zAA]
    simp only []
    rw [zHy _ h3,zAA,zHy _ h4,zAA,zNg _ h5]; rfl
  · intro n hn out ho
    simp only [zCy]
    rw [zAJ hn,zAC,zAE hn,zAA,zHy _ (h2 _ (List.getElem_mem hn)),zAA,zAm (by omega) (zBW _),zAA,wrs (by omega)]
  · intro out _
    simp only [zCy]
    rw [zAI (Nat.le_refl _),zAB]
theorem zHs (t:GTable) (h1:t.fAxes.length≤1073741824) (h2:∀ a ∈ t.fAxes,a.fValues.length≤1073741824) (h3:t.fEntries.length≤1073741824) (h4:∀ e ∈ t.fEntries,smEn e):zE6 t=some t:=by
  unfold zE6
  rw [zIP _ h1 h2,zAA]
  have:=zFz (fun out n=>(n,t.fAxes,out)) (fun out=>(t.fAxes,out)) t.fEntries (zC4 t) h3 ?_ ?_
  · rw [this,zAA]
  · intro n hn out ho
    simp only [zC4]
    rw [zAJ hn,zAC,zAE hn,zAA,zHr _ (h4 _ (List.getElem_mem hn)),zAA,zAm (by omega) (zBW _),zAA,wrs (by omega)]
  · intro out _
    simp only [zC4]
    rw [zAI (Nat.le_refl _),zAB]
theorem zPe (ms:List GEntry) (f:GEntry→Option Bool) (p:GEntry→Bool) (hl:ms.length≤1073741824) (h:∀ m ∈ ms,f m=some (p m)):zAk ms f=some (match ms.findIdx? p with | some i=>(i:Int) | none=>-1):=by
  have key:∀ (k n:Nat),n+k=ms.length→zAG (zAP ms f) (n:Int)=some (match (ms.drop n).findIdx? p with | some i=>.inr ((n+i:Nat):Int) | none=>.inl ()):=by
    intro k
    induction k with
    | zero =>
      intro n hn
      obtain rfl:n=ms.length:=by omega
      rw [zAF (r:=.inl ())]
      · rw [List.drop_length]; rfl
      · simp only [zAP,zAI (Nat.le_refl ms.length),zAB]
    | succ k ih =>
      intro n hn
      have hlt:n<ms.length:=by omega
      have hb:zAP ms f (n:Int)=some (if p ms[n] then .inr (.inr (n:Int)) else .inl ((n+1:Nat):Int)):=by
        simp only [zAP,zAJ hlt,zAC,zAE hlt,zAA,h _ (List.getElem_mem hlt),wrs (show n≤4*1073741824 by omega)]
        cases p ms[n] <;> rfl
      rw [List.drop_eq_getElem_cons hlt,List.findIdx?_cons]
      cases hp:p ms[n] with
      | true =>
        rw [hp,if_pos rfl] at hb
        rw [zAF hb]; rfl
      | false =>
        rw [hp,if_neg (by decide)] at hb
        rw [zAL hb,ih (n+1) (by omega)]
        cases hd:(ms.drop (n+1)).findIdx? p with
        | none=>rfl
        | some i=>simp; omega
  have:=key ms.length 0 (by omega)
  rw [show ((0:Nat):Int)=0 from rfl,List.drop_zero] at this
  unfold zAk
  rw [this,zAA]
  cases ms.findIdx? p with
  | none=>rfl
  | some i=>simp
theorem zNR {α:Type} (xs:List α) (f:α→Option Bool) (p:α→Bool) (h:∀ x ∈ xs,f x=some (p x)):∀ (k n:Nat) (K:List α),n+k=xs.length→zAG (delL xs f) (K,(n:Int))=some (K++(xs.drop n).filter fun x=>!p x)
  | 0,n,K,hn=>by
    have:n=xs.length:=by omega
    subst this
    have hb:delL xs f (K,(xs.length:Int))=some (.inr K):=by
      unfold delL
      rw [zAI (Nat.le_refl _),zAB]
    rw [zAF hb]; simp
  | k+1,n,K,hn=>by
    have hlt:n<xs.length:=by omega
    have hb:delL xs f (K,(n:Int))=some (.inl (bif p xs[n] then K else K++[xs[n]],((n+1:Nat):Int))):=by
      unfold delL
      rw [zAJ hlt,zAC,zAE hlt,zAA,h _ (List.getElem_mem hlt),zAA]; rfl
    rw [zAL hb,zNR xs f p h k (n+1) _ (by omega),List.drop_eq_getElem_cons hlt,List.filter_cons]
    cases p xs[n] <;> simp
theorem zIQ {α:Type} (p:α→Bool):∀ (xs:List α) (i:Nat),xs.findIdx? p=some i→i<xs.length∧xs.filter (fun x=>!p x)=xs.take i++(xs.drop (i+1)).filter fun x=>!p x
  | [],i,h=>by simp at h
  | x :: xs,i,h=>by
    rw [List.findIdx?_cons] at h
    cases hp:p x with
    | true =>
      rw [hp] at h
      simp at h; subst h
      simp [hp]
    | false =>
      rw [hp] at h
      simp only [Bool.false_eq_true,if_false,Option.map_eq_some_iff] at h
      obtain ⟨j,hj,rfl⟩:=h
      obtain ⟨h1,h2⟩:=zIQ p xs j hj
      refine ⟨by simp; omega,?_⟩
      rw [List.filter_cons,hp]
      simp [h2]
theorem zK3 {α:Type} (p:α→Bool) (xs:List α) (h:xs.findIdx? p=none):xs.filter (fun x=>!p x)=xs:=by
  rw [List.filter_eq_self]
  intro x hx
  have:=List.findIdx?_eq_none_iff.1 h x hx
  simp [this]
theorem zO1 (xs:List GEntry) (f:GEntry→Option Bool) (p:GEntry→Bool) (hl:xs.length≤1073741824) (h:∀ x ∈ xs,f x=some (p x)):zAQ xs f=some (xs.filter fun x=>!p x):=by
  unfold zAQ
  rw [zPe xs f p hl h,zAA]
  unfold delR
  cases hi:xs.findIdx? p with
  | none=>rw [zK3 p xs hi]; rfl
  | some i =>
    obtain ⟨h1,h2⟩:=zIQ p xs i hi
    have e1:((i:Int)==-1)=false:=by simp
    have e2:decide (0≤(i:Int)∧(i:Int)<(xs.length:Int))=true:=decide_eq_true ⟨by omega,by omega⟩
    simp only []
    rw [e1,zAB,e2,zAC,Int.toNat_natCast,show ((i:Int)+1)=((i+1:Nat):Int) from rfl,zNR xs f p h (xs.length - (i+1)) (i+1) _ (by omega),h2]
end Go.Eng.Pure
namespace Go.Eng.Pure
open Go Go.Eng
set_option linter.unusedVariables false
def sameV (a:GAxis) (x y:Str):Bool:=(formD (domF a.fName) x).1==(formD (domF a.fName) y).1
def sameL:List GAxis→List Str→List Str→Bool
  | a :: l,x :: xs,y :: ys=>sameV a x y&&sameL l xs ys
  | [],[],[]=>true
  | _,_,_=>false
theorem zGi:∀ {l:List GAxis} {xs ys:List Str},sameL l xs ys=true→xs.length=l.length∧ys.length=l.length
  | a :: l,x :: xs,y :: ys,h=>by
    simp only [sameL,Bool.and_eq_true] at h
    obtain ⟨h1,h2⟩:=zGi h.2
    simp [h1,h2]
  | [],[],[],_=>⟨rfl,rfl⟩
  | [],[],y :: ys,h=>by simp [sameL] at h
  | [],x :: xs,ys,h=>by simp [sameL] at h
  | a :: l,[],ys,h=>by simp [sameL] at h
  | a :: l,x :: xs,[],h=>by simp [sameL] at h
def smAx (l:List GAxis):Prop:=l.length≤1000000∧∀ a ∈ l,a.fName.length≤1000000
def smKy (k:List Str):Prop:=∀ v ∈ k,v.length≤1000000
theorem zLA (axes:List GAxis) (a b:List Str) (h:smAx axes) (ha:smKy a) (hb:smKy b) (hla:a.length≤1000000) (hlb:b.length≤1000000):zEy axes a b=some (sameL axes a b):=by
  have key : ∀ (k n : Nat), n + k = axes.length → a.length = axes.length → b.length = axes.length →
      zAG (zBb axes a b) (n:Int)=some (if sameL (axes.drop n) (a.drop n) (b.drop n) then .inl () else .inr false):=by
    intro k
    induction k with
    | zero =>
      intro n hn h1 h2
      have:n=axes.length:=by omega
      subst this
      rw [zAF (r:=.inl ())]
      · rw [List.drop_length,List.drop_of_length_le (by omega),List.drop_of_length_le (by omega)]; rfl
      · simp only [zBb,zAI (Nat.le_refl axes.length),zAB]
    | succ k ih =>
      intro n hn h1 h2
      have hlt:n<axes.length:=by omega
      have hb':zBb axes a b (n:Int)=some (if sameV axes[n] (a[n]'(by omega)) (b[n]'(by omega)) then .inl ((n+1:Nat):Int) else .inr (.inr false)):=by
        simp only [zBb,zAJ hlt,zAC,zAE hlt,zAA,zAE (show n<a.length by omega),zAE (show n<b.length by omega)]
        rw [zLz _ _ _ (by have:=h.2 _ (List.getElem_mem hlt); omega) (ha _ (List.getElem_mem _)) (hb _ (List.getElem_mem _)),zAA,wrs (show n≤4*1073741824 by have:=h.1; omega)]
        show (bif !(sameV _ _ _) then _ else _)=_
        cases sameV axes[n] (a[n]'(by omega)) (b[n]'(by omega)) <;> rfl
      rw [List.drop_eq_getElem_cons hlt,List.drop_eq_getElem_cons (show n<a.length by omega),List.drop_eq_getElem_cons (show n<b.length by omega),sameL]
      cases hs:sameV axes[n] (a[n]'(by omega)) (b[n]'(by omega)) with
      | true =>
        rw [hs,if_pos rfl] at hb'
        rw [zAL hb',ih (n+1) (by omega) h1 h2]; rfl
      | false =>
        rw [hs,if_neg (by simp)] at hb'
        rw [zAF hb']; rfl
  unfold zEy
  by_cases h1:a.length=axes.length
  · by_cases h2:b.length=axes.length
    · have e:(((a.length:Int) !=(axes.length:Int))||((b.length:Int) !=(axes.length:Int)))=false:=by simp [h1,h2]
      rw [e,zAB,show (0:Int)=((0:Nat):Int) from rfl,key axes.length 0 (by omega) h1 h2,zAA]
      simp only [List.drop_zero]
      cases sameL axes a b <;> rfl
    · have e:(((a.length:Int) !=(axes.length:Int))||((b.length:Int) !=(axes.length:Int)))=true:=by simp; right; omega
      have e2:sameL axes a b=false:=by
        cases hs:sameL axes a b with
        | false=>rfl
        | true=>exact absurd (zGi hs).2 h2
      rw [e,zAC,e2]
  · have e:(((a.length:Int) !=(axes.length:Int))||((b.length:Int) !=(axes.length:Int)))=true:=by simp; left; omega
    have e2:sameL axes a b=false:=by
      cases hs:sameL axes a b with
      | false=>rfl
      | true=>exact absurd (zGi hs).1 h1
    rw [e,zAC,e2]
theorem zN0 (axes:List GAxis) (a b:List Str) (h:smAx axes) (ha:smKy a) (hb:smKy b) (hla:a.length≤1000000) (hlb:b.length≤1000000):zDl axes a b=some (sameL axes a b):=by
  have key : ∀ (k n : Nat), n + k = axes.length → a.length = axes.length → b.length = axes.length →
      ∃ m,zAG (zAM a b axes) ((n:Int),(n:Int) - 1)=some (if sameL (axes.drop n) (a.drop n) (b.drop n) then .inl m else .inr (false,m)):=by
    intro k
    induction k with
    | zero =>
      intro n hn h1 h2
      have:n=axes.length:=by omega
      subst this
      refine ⟨(axes.length:Int) - 1,?_⟩
      rw [zAF (r:=.inl ((axes.length:Int) - 1))]
      · rw [List.drop_length,List.drop_of_length_le (by omega),List.drop_of_length_le (by omega)]; rfl
      · simp only [zAM]
        rw [← h1,zAI (Nat.le_refl a.length),zAB]
    | succ k ih =>
      intro n hn h1 h2
      have hlt:n<axes.length:=by omega
      have e1:wr ((n:Int) - 1+1)=(n:Int):=by rw [wr_eq ⟨by omega,by have:=h.1; omega⟩]; omega
      have hb':zAM a b axes ((n:Int),(n:Int) - 1)=some (if sameV axes[n] (a[n]'(by omega)) (b[n]'(by omega)) then .inl (((n+1:Nat):Int),((n+1:Nat):Int) - 1) else .inr (.inr (false,(n:Int)))):=by
        simp only [zAM,zCx]
        rw [zAJ (show n<a.length by omega),zAC,zAE (show n<a.length by omega),zAA,zAE (show n<b.length by omega),zAA,e1,zAE hlt,zAA,
          zOG _ _ _ (by have:=h.2 _ (List.getElem_mem hlt); omega) (ha _ (List.getElem_mem _)) (hb _ (List.getElem_mem _)),zAA,zAA,wrs (show n≤4*1073741824 by have:=h.1; omega)]
        show (bif !(sameV _ _ _) then _ else _)=_
        have e2:((n+1:Nat):Int) - 1=(n:Int):=by omega
        rw [e2]
        cases sameV axes[n] (a[n]'(by omega)) (b[n]'(by omega)) <;> rfl
      rw [List.drop_eq_getElem_cons hlt,List.drop_eq_getElem_cons (show n<a.length by omega),List.drop_eq_getElem_cons (show n<b.length by omega),sameL]
      cases hs:sameV axes[n] (a[n]'(by omega)) (b[n]'(by omega)) with
      | true =>
        rw [hs,if_pos rfl] at hb'
        rw [zAL hb']
        obtain ⟨m,hm⟩:=ih (n+1) (by omega) h1 h2
        exact ⟨m,by rw [hm]; rfl⟩
      | false =>
        rw [hs,if_neg (by simp)] at hb'
        exact ⟨(n:Int),by rw [zAF hb']; rfl⟩
  unfold zDl
  by_cases h1:a.length=axes.length
  · have e0:((a.length:Int) !=(axes.length:Int))=false:=by simp [h1]
    rw [e0,zAB]
    unfold zAl
    by_cases h2:b.length=axes.length
    · have e:((a.length:Int) !=(b.length:Int))=false:=by simp [h1,h2]
      obtain ⟨m,hm⟩:=key axes.length 0 (by omega) h1 h2
      rw [e,zAB,show ((0:Int),(-1:Int))=(((0:Nat):Int),((0:Nat):Int) - 1) from rfl,hm,zAA]
      simp only [List.drop_zero]
      cases sameL axes a b <;> rfl
    · have e:((a.length:Int) !=(b.length:Int))=true:=by simp; omega
      have e2:sameL axes a b=false:=by
        cases hs:sameL axes a b with
        | false=>rfl
        | true=>exact absurd (zGi hs).2 h2
      rw [e,zAC,e2]; rfl
  · have e:((a.length:Int) !=(axes.length:Int))=true:=by simp; omega
    have e2:sameL axes a b=false:=by
      cases hs:sameL axes a b with
      | false=>rfl
      | true=>exact absurd (zGi hs).1 h1
    rw [e,zAC,e2]
end Go.Eng.Pure
namespace Go.Eng.Pure
open Go Go.Eng
set_option linter.unusedVariables false
def smKs (l:List (List Str)):Prop:=l.length≤1000000∧∀ k ∈ l,k.length≤1000000∧smKy k
def hasB (axes:List GAxis) (e:GEntry) (key:List Str):Bool:=e.fKeys.any fun k=>sameL axes k key
theorem zMw (axes:List GAxis) (e:GEntry) (key:List Str) (h:smAx axes) (he:smKs e.fKeys) (hk:key.length≤1000000) (hk2:smKy key):zGY axes e key=some (hasB axes e key):=by
  unfold zGY
  rw [zNW e.fKeys (fun x0=>zFC x0 axes key) (fun k=>sameL axes k key) (by have:=he.1; omega) fun k hm=>by
    unfold zFC
    rw [zN0 axes k key h (he.2 k hm).2 hk2 (he.2 k hm).1 hk]; rfl]
  rfl
theorem zOF (axes:List GAxis) (e:GEntry) (key:List Str) (h:smAx axes) (he:smKs e.fKeys) (hk:key.length≤1000000) (hk2:smKy key):zH3 axes e key=some (hasB axes e key):=by
  unfold zH3 hasB
  rw [zBX (zES axes e key) e.fKeys (fun k=>sameL axes k key) (.inr true) (.inl ())]
  · rw [zAA]
    cases e.fKeys.any fun k=>sameL axes k key <;> rfl
  · intro n hn
    have hm:=List.getElem_mem hn
    simp only [zES]
    rw [zAJ hn,zAC,zAE hn,zAA,zLA axes _ key h (he.2 _ hm).2 hk2 (he.2 _ hm).1 hk,zAA,wrs (show n≤4*1073741824 by have:=he.1; omega)]
    cases sameL axes e.fKeys[n] key <;> rfl
  · simp only [zES]
    rw [zAI (Nat.le_refl _),zAB]
def replB (axes:List GAxis) (e old:GEntry):Bool:=bif axes.isEmpty then e.fVary==old.fVary&&e.fSnapshot==old.fSnapshot else e.fKeys.any fun k=>hasB axes old k
theorem zL1 (axes:List GAxis) (e old:GEntry) (h:smAx axes) (he:smKs e.fKeys) (ho:smKs old.fKeys) (hv:e.fVary.length≤1073741824) (hs:e.fSnapshot.length≤1073741824):zC3 axes e old=some (replB axes e old):=by
  unfold zC3 replB
  cases hx:axes with
  | nil =>
    rw [show ((([]:List GAxis).length:Int)==0)=true from rfl,zAC,zHh _ _ hv,zAA,show ([]:List GAxis).isEmpty=true from rfl,zAC]
    cases e.fVary==old.fVary with
    | true=>rw [zAC,zHh _ _ hs]; rfl
    | false=>rfl
  | cons a l =>
    rw [← hx]
    have e1:((axes.length:Int)==0)=false:=by rw [hx]; simp; omega
    have e2:axes.isEmpty=false:=by rw [hx]; rfl
    rw [e1,zAB,e2,zAB,zNW e.fKeys (fun x0=>zCE x0 axes old) (fun k=>hasB axes old k) (by have:=he.1; omega) fun k hm=>by
      unfold zCE
      rw [zMw axes old k h ho (he.2 k hm).1 (he.2 k hm).2]; rfl]
    rfl
theorem zOQ (axes:List GAxis) (e old:GEntry) (h:smAx axes) (he:smKs e.fKeys) (ho:smKs old.fKeys) (hv:e.fVary.length≤1073741824) (hs:e.fSnapshot.length≤1073741824):zEH axes e old=some (replB axes e old):=by
  unfold zEH replB
  cases hx:axes with
  | nil =>
    rw [show ((([]:List GAxis).length:Int)==0)=true from rfl,zAC,zBa _ _ hv,zAA,show ([]:List GAxis).isEmpty=true from rfl,zAC]
    cases e.fVary==old.fVary with
    | true=>rw [zAC,zBa _ _ hs]; rfl
    | false=>rfl
  | cons a l =>
    rw [← hx]
    have e1:((axes.length:Int)==0)=false:=by rw [hx]; simp; omega
    have e2:axes.isEmpty=false:=by rw [hx]; rfl
    rw [e1,zAB,e2,zAB,zBX (zBz axes e old) e.fKeys (fun k=>hasB axes old k) (.inr true) (.inl ())]
    · rw [zAA]
      cases e.fKeys.any fun k=>hasB axes old k <;> rfl
    · intro n hn
      have hm:=List.getElem_mem hn
      simp only [zBz]
      rw [zAJ hn,zAC,zAE hn,zAA,zOF axes old _ h ho (he.2 _ hm).1 (he.2 _ hm).2,zAA,wrs (show n≤4*1073741824 by have:=he.1; omega)]
      cases hasB axes old e.fKeys[n] <;> rfl
    · simp only [zBz]
      rw [zAI (Nat.le_refl _),zAB]
end Go.Eng.Pure
