/- A part. -/
import Derived.Test.YtipgfplekgdoiaaGreatDoorListP
import Derived.Sort.Walk0
import Derived.Lib.ItoaNum
set_option linter.unusedVariables false
namespace Go.Eng.Pure
open Go Go.Eng
set_option linter.unusedVariables false
theorem zKw (p:UInt8→Bool) (h:(List.range 256).all (fun n=>p (UInt8.ofNat n))=true) (c:UInt8):p c=true:=by
  have h1:=List.all_eq_true.1 h c.toNat (List.mem_range.2 c.toNat_lt)
  rwa [UInt8.ofNat_toNat] at h1
def signs:Str:=[33,35,36,37,38,39,42,43,45,46,94,95,96,124,126]
def tokB (c:UInt8):Bool:=(((decide (97≤c))&&(decide (c≤122)))||((decide (65≤c))&&(decide (c≤90))))||((decide (48≤c))&&(decide (c≤57)))||signs.contains c
def tok (s:Str):Bool:=s.all tokB&&s !=[]
def txtB (c:UInt8):Bool:=((c==9)||((decide (32≤c))&&(decide (c≤126))))||(decide (128≤c))
def txt (s:Str):Bool:=s.all txtB
theorem zPP (c:UInt8):zGp c=some (tokB c):=by
  have:=zKw (fun c=>decide (zGp c=some (tokB c))) (by decide +kernel) c
  simpa using this
theorem zFk (l : Str) (hl : l.length ≤ 1073741824) (bad : UInt8 → Bool) (body : Int → Option (Int ⊕ (Unit ⊕ Bool))) (r : Bool)
    (h:∀ (n:Nat) (hn:n<l.length),body (n:Int)=some (if bad l[n]=true then .inr (.inr r) else .inl (wr ((n:Int)+1)))) (h':body (l.length:Int)=some (.inr (.inl ()))) :
    zAG body 0=some (if l.any bad then .inr r else .inl ()):=by
  refine zBX body l bad (.inr r) (.inl ()) (fun n hn=>?_) h'
  have e2:wr ((n:Int)+1)=(n:Int)+1:=by rw [wrs (by omega)]; omega
  rw [h n hn,e2]
theorem zKe (c:UInt8):zDi c=some (tokB c):=by
  unfold zDi tokB
  rw [zFk signs (by decide) (fun x=>x==c) (zCR c) true]
  · have : signs.contains c = signs.any (fun x => x == c) := by
      rw [List.contains_eq_any_beq]
      congr 1; funext x
      rw [Bool.eq_iff_iff]; simp only [beq_iff_eq]; exact ⟨fun h=>h.symm,fun h=>h.symm⟩
    rw [this]
    cases ((((decide (97≤c))&&(decide (c≤122)))||((decide (65≤c))&&(decide (c≤90))))||((decide (48≤c))&&(decide (c≤57)))) with
    | true=>rfl
    | false=>cases signs.any (fun x=>x==c) <;> rfl
  · intro n hn
    have e1:decide ((n:Int)<15)=true:=zAJ hn
    have e2:xnth ([33,35,36,37,38,39,42,43,45,46,94,95,96,124,126]:Str) (n:Int)=some signs[n]:=zAE hn
    simp only [zCR,e1,zAC,e2,zAA]
    cases signs[n]==c <;> rfl
  · rfl
theorem zIE (l:Str) (p:UInt8→Bool):l.any (fun c=>!p c)=!l.all p:=by
  induction l with
  | nil=>rfl
  | cons a l ih=>rw [List.any_cons,List.all_cons,ih,Bool.not_and]
theorem zDH (s:Str) (hs:s.length≤1073741824):zAy s=some (tok s):=by
  unfold zAy tok
  rw [zFk s hs (fun c=>!tokB c) (zC9 s) false]
  · rw [zIE]; cases s.all tokB <;> rfl
  · intro n hn
    simp only [zC9,zAJ hn,zAC,zAE hn,zAA,zPP]
    cases tokB s[n] <;> rfl
  · simp only [zC9,zAI (Nat.le_refl s.length),zAB]
theorem zFG (s:Str) (hs:s.length≤1073741824):zB5 s=some (tok s):=by
  unfold zB5 tok
  rw [zFk s hs (fun c=>!tokB c) (zC5 s) false]
  · rw [zIE]; cases s.all tokB <;> rfl
  · intro n hn
    simp only [zC5,zAJ hn,zAC,zAE hn,zAA,zKe]
    cases tokB s[n] <;> rfl
  · simp only [zC5,zAI (Nat.le_refl s.length),zAB]
theorem zHW (c:UInt8):zEE c=some (txtB c):=rfl
theorem zOs (c:UInt8):((bif decide (c<32) then some (c !=9) else some false).bind fun b17=>(bif b17 then some true else some (c==127)))=some (!txtB c):=by
  have:=zKw (fun c=>decide (((bif decide (c<32) then some (c !=9) else some false).bind fun b17=>(bif b17 then some true else some (c==127)))=some (!txtB c))) (by decide +kernel) c
  simpa using this
theorem zMd (s:Str) (hs:s.length≤1073741824):zFr s=some (txt s):=by
  unfold zFr txt
  rw [zFk s hs (fun c=>!txtB c) (zDt s) false]
  · rw [zIE]; cases s.all txtB <;> rfl
  · intro n hn
    have e:=zOs s[n]
    have e':((bif decide (s[n]<32) then some (s[n] !=9) else some false).bind fun b17=>(bif b17 then some true else some (s[n]==127)).bind fun b21=>(bif b21 then some (.inr (.inr false)) else some (.inl (wr ((n:Int)+1))):Option (Int ⊕ (Unit ⊕ Bool))))=(some (!txtB s[n])).bind fun b21=>(bif b21 then some (.inr (.inr false)) else some (.inl (wr ((n:Int)+1)))):=by
      rw [← e,Option.bind_assoc]
    simp only [zDt,zAJ hn,zAC,zAE hn,zAA]
    rw [e',zAA]
    cases txtB s[n] <;> rfl
  · simp only [zDt,zAI (Nat.le_refl s.length),zAB]
theorem zNq (s:Str) (hs:s.length≤1073741824):zG4 s=some (txt s):=by
  unfold zG4 txt
  rw [zFk s hs (fun c=>!txtB c) (zDg s) false]
  · rw [zIE]; cases s.all txtB <;> rfl
  · intro n hn
    simp only [zDg,zAJ hn,zAC,zAE hn,zAA,zHW]
    cases txtB s[n] <;> rfl
  · simp only [zDg,zAI (Nat.le_refl s.length),zAB]
def isD (c:UInt8):Bool:=(decide (48≤c))&&(decide (c≤57))
def cap (n:Int):Int:=if 2147483647<n then 2147483647 else n
theorem zNV (c:UInt8):zHS c=some (isD c):=rfl
def unqL:Str→Str→Option Str
  | [],acc=>some acc
  | c :: r,acc=>if c=34 then none else if c=92 then (match r with | []=>none | d :: r'=>unqL r' (acc++[d])) else unqL r (acc++[c])
def unqIn (s:Str):Str×Bool:=if txt s then (match unqL s [] with | some x=>(x,true) | none=>([],false)) else ([],false)
def unq (s:Str):Str×Bool :=
  match s with
  | a :: r=>if a=34∧r≠[]∧r.getLast?=some 34 then unqIn r.dropLast else ([],false)
  | []=>([],false)
def unqO:Option Str→(List UInt8) ⊕ (Str×Bool) | some x=>.inl x | none=>.inr ([],false)
theorem zNt (s:Str) (hs:s.length≤1073741824):∀ (k i:Nat) (out:Str),s.length≤i+k→i≤s.length→out.length≤i→zAG (zAh s) (out,(i:Int))=some (unqO (unqL (s.drop i) out)):=by
  intro k
  induction k with
  | zero =>
    intro i out hk hi ho
    obtain rfl:i=s.length:=by omega
    rw [List.drop_length]
    refine zAF ?_
    simp only [zAh,zAI (Nat.le_refl s.length),zAB]; rfl
  | succ k ih =>
    intro i out hk hi ho
    by_cases hlt:i<s.length
    · have e2:wr ((i:Int)+1)=((i+1:Nat):Int):=wrs (by omega)
      rw [List.drop_eq_getElem_cons hlt]
      have ex:=zAE hlt
      generalize s[i]=c at ex
      unfold unqL
      by_cases h34:c=34
      · subst h34
        rw [if_pos rfl]
        refine zAF ?_
        simp only [zAh,zAJ hlt,zAC,ex,zAA]; rfl
      · have h34':(c==34)=false:=by simpa using h34
        rw [if_neg h34]
        by_cases h92:c=92
        · subst h92
          rw [if_pos rfl]
          by_cases hl2:i+1<s.length
          · rw [List.drop_eq_getElem_cons hl2]
            have e3:(((i+1:Nat):Int)==(s.length:Int))=false:=by rw [eqI]; simp; omega
            have e4:wr (((i+1:Nat):Int)+1)=((i+1+1:Nat):Int):=wrs (by omega)
            have hb:zAh s (out,(i:Int))=some (.inl (out++[s[i+1]],((i+1+1:Nat):Int))):=by
              simp only [zAh,zAJ hlt,zAC,ex,zAA,h34',zAB,beq_self_eq_true,e2,e3,zAE hl2]
              rw [zAm (by omega) (zBW _),zAA,e4]
            rw [zAL hb,ih (i+1+1) _ (by omega) (by omega) (by rw [List.length_append,List.length_singleton]; omega)]
          · have e3:(((i+1:Nat):Int)==(s.length:Int))=true:=by rw [eqI]; simp; omega
            rw [List.drop_eq_nil_of_le (by omega)]
            refine zAF ?_
            simp only [zAh,zAJ hlt,zAC,ex,zAA,h34',zAB,beq_self_eq_true,e2,e3]; rfl
        · have h92':(c==92)=false:=by simpa using h92
          rw [if_neg h92]
          have hb:zAh s (out,(i:Int))=some (.inl (out++[c],((i+1:Nat):Int))):=by
            simp only [zAh,zAJ hlt,zAC,ex,zAA,h34',zAB,h92',e2]
            rw [zAm (by omega) (zBW _),zAA]
          rw [zAL hb,ih (i+1) _ (by omega) (by omega) (by rw [List.length_append,List.length_singleton]; omega)]
    · obtain rfl:i=s.length:=by omega
      rw [List.drop_length]
      refine zAF ?_
      simp only [zAh,zAI (Nat.le_refl s.length),zAB]; rfl
def unqT:Str→Str→Option Str
  | [],acc=>some acc
  | c :: r,acc=>if c=34 then none else if c=92 then (match r with | []=>none | d :: r'=>if txtB d then unqT r' (acc++[d]) else none) else if txtB c then unqT r (acc++[c]) else none
theorem zPE:∀ (n:Nat) (s acc:Str),s.length≤n→unqT s acc=if txt s then unqL s acc else none:=by
  intro n
  induction n with
  | zero =>
    intro s acc h
    obtain rfl:=List.eq_nil_of_length_eq_zero (Nat.le_zero.1 h)
    rfl
  | succ n ih =>
    intro s acc h
    match s with
    | []=>rfl
    | c :: r =>
      unfold unqT unqL txt
      rw [List.all_cons]
      by_cases h34:c=34
      · rw [if_pos h34,if_pos h34]; split <;> rfl
      · rw [if_neg h34,if_neg h34]
        by_cases h92:c=92
        · subst h92
          rw [if_pos rfl,if_pos rfl,show txtB 92=true from rfl,Bool.true_and]
          match r with
          | []=>rfl
          | d :: r' =>
            rw [List.all_cons]
            show (if txtB d then unqT r' (acc++[d]) else none)=_
            have:=ih r' (acc++[d]) (by simp at h; omega)
            rw [this]
            cases txtB d
            · rfl
            · simp [txt]
        · rw [if_neg h92,if_neg h92]
          have:=ih r (acc++[c]) (by simp at h; omega)
          rw [this]
          cases txtB c
          · rfl
          · simp [txt]
theorem zM3 (s:Str) (hs:s.length≤1073741824):∀ (k i:Nat) (out:Str),s.length≤i+k→i≤s.length→out.length≤i→zAG (zAi s) (out,(i:Int))=some (unqO (unqT (s.drop i) out)):=by
  intro k
  induction k with
  | zero =>
    intro i out hk hi ho
    obtain rfl:i=s.length:=by omega
    rw [List.drop_length]
    refine zAF ?_
    simp only [zAi,zAI (Nat.le_refl s.length),zAB]; rfl
  | succ k ih =>
    intro i out hk hi ho
    by_cases hlt:i<s.length
    · have e2:wr ((i:Int)+1)=((i+1:Nat):Int):=wrs (by omega)
      rw [List.drop_eq_getElem_cons hlt]
      have ex:=zAE hlt
      generalize s[i]=c at ex
      unfold unqT
      by_cases h34:c=34
      · subst h34
        rw [if_pos rfl]
        refine zAF ?_
        simp only [zAi,zAJ hlt,zAC,ex,zAA]; rfl
      · have h34':(c==34)=false:=by simpa using h34
        rw [if_neg h34]
        by_cases h92:c=92
        · subst h92
          rw [if_pos rfl]
          by_cases hl2:i+1<s.length
          · rw [List.drop_eq_getElem_cons hl2]
            have e3:(((i+1:Nat):Int)==(s.length:Int))=false:=by rw [eqI]; simp; omega
            have e4:wr (((i+1:Nat):Int)+1)=((i+1+1:Nat):Int):=wrs (by omega)
            have hb:zAi s (out,(i:Int))=some (if txtB s[i+1] then .inl (out++[s[i+1]],((i+1+1:Nat):Int)) else .inr (.inr ([],false))):=by
              simp only [zAi,zAJ hlt,zAC,ex,zAA,h34',zAB,beq_self_eq_true,e2,e3,zAE hl2,zHW]
              rw [zAm (by omega) (zBW _),zAA,e4]
              cases txtB s[i+1] <;> rfl
            cases ht:txtB s[i+1] with
            | true =>
              rw [ht,if_pos rfl] at hb
              rw [zAL hb,ih (i+1+1) _ (by omega) (by omega) (by rw [List.length_append,List.length_singleton]; omega)]
              show _=some (unqO (if txtB s[i+1]=true then _ else _))
              rw [ht,if_pos rfl]
            | false =>
              rw [ht,if_neg (by decide)] at hb
              rw [zAF hb]
              show _=some (unqO (if txtB s[i+1]=true then _ else _))
              rw [ht,if_neg (by decide)]; rfl
          · have e3:(((i+1:Nat):Int)==(s.length:Int))=true:=by rw [eqI]; simp; omega
            rw [List.drop_eq_nil_of_le (by omega)]
            refine zAF ?_
            simp only [zAi,zAJ hlt,zAC,ex,zAA,h34',zAB,beq_self_eq_true,e2,e3]; rfl
        · have h92':(c==92)=false:=by simpa using h92
          rw [if_neg h92]
          have hb:zAi s (out,(i:Int))=some (if txtB c then .inl (out++[c],((i+1:Nat):Int)) else .inr (.inr ([],false))):=by
            simp only [zAi,zAJ hlt,zAC,ex,zAA,h34',zAB,h92',e2,zHW]
            rw [zAm (by omega) (zBW _),zAA]
            cases txtB c <;> rfl
          cases ht:txtB c with
          | true =>
            rw [ht,if_pos rfl] at hb
            rw [zAL hb,ih (i+1) _ (by omega) (by omega) (by rw [List.length_append,List.length_singleton]; omega),if_pos rfl]
          | false =>
            rw [ht,if_neg (by decide)] at hb
            rw [zAF hb,if_neg (by decide)]; rfl
    · obtain rfl:i=s.length:=by omega
      rw [List.drop_length]
      refine zAF ?_
      simp only [zAi,zAI (Nat.le_refl s.length),zAB]; rfl
theorem zGf (s:Str):(s.length<2∧unq s=([],false))∨∃ a m z,s=a :: (m++[z])∧unq s=if a=34∧z=34 then unqIn m else ([],false):=by
  match s with
  | []=>exact .inl ⟨by simp,rfl⟩
  | [a]=>exact .inl ⟨by simp,by simp [unq]⟩
  | a :: b :: r =>
    obtain ⟨m,z,hm⟩:∃ m z,b :: r=m++[z]:=⟨(b :: r).dropLast,(b :: r).getLast (by simp),(List.dropLast_concat_getLast (by simp)).symm⟩
    rw [hm]
    exact .inr ⟨a,m,z,rfl,by simp [unq]⟩
theorem zIL (a z : UInt8) (m : Str) (h : (a :: (m ++ [z])).length ≤ 1073741824) :
    decide ((((a :: (m++[z])).length:Nat):Int)<2)=false∧wr ((((a :: (m++[z])).length:Nat):Int) - 1)=((m.length+1:Nat):Int)∧xnth (a :: (m++[z])) ((m.length+1:Nat):Int)=some z∧xsub (a :: (m++[z])) 1 ((m.length+1:Nat):Int)=some m:=by
  have hlen:(a :: (m++[z])).length=m.length+2:=by simp
  rw [hlen] at h
  refine ⟨?_,?_,?_,?_⟩
  · rw [hlen]
    exact decide_eq_false (by omega)
  · rw [hlen,zE7 (by omega) (by omega)]; omega
  · rw [zGz]; simp
  · have:=zGr (l:=a :: (m++[z])) (i:=1) (j:=m.length+1) ⟨by omega,by simp⟩
    have e:xsub (a :: (m++[z])) 1 ((m.length+1:Nat):Int)=_:=this
    rw [e]; simp
theorem zMX (s:Str) (hs:s.length≤1073741824):zDa s=some (unq s):=by
  rcases zGf s with ⟨h,hu⟩ | ⟨a,m,z,rfl,hu⟩
  · have e:decide ((s.length:Int)<2)=true:=zAJ h
    rw [hu]; simp only [zDa,e,zAC,zAA]
  · obtain ⟨e1,e2,e3,e4⟩:=zIL a z m hs
    have hm:m.length≤1073741824:=by simp at hs; omega
    rw [hu]
    simp only [zDa,e1,e2,e3,e4,zAB,zCG,zAA,zMd m hm]
    by_cases ha:a=34
    · by_cases hz:z=34
      · subst ha; subst hz
        have hl:=zNt m hm m.length 0 [] (by omega) (by omega) (by simp)
        have hl:zAG (zAh m) ([],0)=_:=hl
        rw [hl]
        simp only [bne_self_eq_false,zAB,zAA,and_self,if_true,List.drop_zero]
        unfold unqIn
        cases txt m
        · rfl
        · cases unqL m [] <;> rfl
      · have hz':(z !=34)=true:=by simpa using hz
        simp [ha,hz,hz']
    · have ha':(a !=34)=true:=by simpa using ha
      simp [ha,ha']
theorem zLC (s:Str) (hs:s.length≤1073741824):zDm s=some (unq s):=by
  rcases zGf s with ⟨h,hu⟩ | ⟨a,m,z,rfl,hu⟩
  · have e:decide ((s.length:Int)<2)=true:=zAJ h
    rw [hu]; simp only [zDm,e,zAC,zAA]
  · obtain ⟨e1,e2,e3,e4⟩:=zIL a z m hs
    have hm:m.length≤1073741824:=by simp at hs; omega
    rw [hu]
    simp only [zDm,e1,e2,e3,e4,zAB,zCG,zAA]
    by_cases ha:a=34
    · by_cases hz:z=34
      · subst ha; subst hz
        have hl:=zM3 m hm m.length 0 [] (by omega) (by omega) (by simp)
        have hl:zAG (zAi m) ([],0)=_:=hl
        rw [hl]
        simp only [bne_self_eq_false,zAB,zAA,and_self,if_true,List.drop_zero]
        rw [zPE m.length m [] (Nat.le_refl _)]
        unfold unqIn
        cases txt m
        · rfl
        · cases unqL m [] <;> rfl
      · have hz':(z !=34)=true:=by simpa using hz
        simp [ha,hz,hz']
    · have ha':(a !=34)=true:=by simpa using ha
      simp [ha,ha']
theorem zIC (a b:Str) (ha:a.length≤1073741824) (hb:b.length≤1073741824):zCk a b=some (fold a b):=by
  simp only [zCk,zBf a ha,zBf b hb,zAA,eqI,fold]
  cases a.length==b.length <;> rfl
end Go.Eng.Pure
namespace Go.Eng
open Go
theorem zD3 {α : Type} [DecidableEq α] (a b : List α) (body : Int → Option (Int ⊕ (Unit ⊕ Bool))) (hlen : a.length = b.length)
    (h:∀ (n:Nat) (hn:n<a.length) (hb:n<b.length),body (n:Int)=some (if a[n]=b[n] then .inl ((n+1:Nat):Int) else .inr (.inr false))) (h':body (a.length:Int)=some (.inr (.inl ()))) :
    zAG body 0=some (if a=b then .inl () else .inr false):=by
  have key:∀ (k n:Nat),n+k=a.length→zAG body (n:Int)=some (if a.drop n=b.drop n then .inl () else .inr false):=by
    intro k
    induction k with
    | zero =>
      intro n hn
      obtain rfl:n=a.length:=by omega
      rw [zAF h',List.drop_length,if_pos]
      rw [hlen,List.drop_length]
    | succ k ih =>
      intro n hn
      have hlt:n<a.length:=by omega
      have hlb:n<b.length:=by omega
      have hb:=h n hlt hlb
      rw [List.drop_eq_getElem_cons hlt,List.drop_eq_getElem_cons hlb]
      by_cases he:a[n]=b[n]
      · rw [if_pos he] at hb
        have hi:(a[n] :: a.drop (n+1)=b[n] :: b.drop (n+1))↔(a.drop (n+1)=b.drop (n+1)):=by
          rw [he]; exact ⟨fun h=>(List.cons.inj h).2,fun h=>by rw [h]⟩
        rw [zAL hb,ih (n+1) (by omega)]
        simp only [hi]
      · rw [if_neg he] at hb
        rw [zAF hb,if_neg]
        intro hc
        exact he (List.cons.inj hc).1
  have:=key a.length 0 (by omega)
  simpa using this
end Go.Eng
namespace Go.Eng.Pure
open Go Go.Eng
set_option linter.unusedVariables false
theorem zBa (a b:List Str) (ha:a.length≤1073741824):zAs a b=some (a==b):=by
  unfold zAs
  rw [neI]
  by_cases hl:a.length=b.length
  · have e:(a.length !=b.length)=false:=by simp [hl]
    rw [e,zAB,zD3 a b (zBM a b) hl]
    · by_cases h:a=b
      · simp [h]
      · simp [h]
    · intro n hn hb
      simp only [zBM,zAJ hn,zAC,zAE hn,zAE hb,zAA,wrs (show n≤4*1073741824 by omega)]
      by_cases he:a[n]=b[n]
      · have:(a[n] !=b[n])=false:=by simp [he]
        rw [this,if_pos he]; rfl
      · have:(a[n] !=b[n])=true:=by simp [he]
        rw [this,if_neg he]; rfl
    · simp only [zBM,zAI (Nat.le_refl a.length),zAB]
  · have e:(a.length !=b.length)=true:=by simp [hl]
    have e2:(a==b)=false:=by
      rw [Bool.eq_false_iff]; intro h; exact hl (by rw [eq_of_beq h])
    rw [e,e2]; rfl
theorem zFt {α : Type} (l : List α) (m : Nat) (bad : α → Bool) (body : Int → Option (Int ⊕ (Unit ⊕ Bool)))
    (h:∀ (n:Nat) (hn:n<l.length),n<m→body (n:Int)=some (if bad l[n]=true then .inr (.inr false) else .inl ((n:Int)+1)))
    (h':∀ n:Nat,(l.length≤n∨m≤n)→body (n:Int)=some (.inr (.inl ()))) :
    zAG body 0=some (if (l.take m).any bad then .inr false else .inl ()):=by
  refine zBX body (l.take m) bad (.inr false) (.inl ()) (fun n hn=>?_) ?_
  · have h1:n<l.length:=by rw [List.length_take] at hn; omega
    have h2:n<m:=by rw [List.length_take] at hn; omega
    rw [h n h1 h2,List.getElem_take]
  · exact h' _ (by rw [List.length_take]; omega)
def badF (n:Nat) (f:GField):Bool:=decide (n<f.fName.length)||decide (n<f.fValue.length)
def keepF (l:List GField):Bool:=!((l.take 71).any (badF 300))&&decide (l.length≤70)
theorem zJH (l:List GField):zF8 l=some (keepF l):=by
  unfold zF8 keepF
  rw [zFt l 71 (badF 300)]
  · have e:decide ((l.length:Int)≤70)=decide (l.length≤70):=zHA l.length 70
    rw [e]
    cases (l.take 71).any (badF 300) <;> simp
  · intro n hn hm
    have e1:decide ((n:Int)<71)=true:=zAJ hm
    have e2:wr ((n:Int)+1)=(n:Int)+1:=by rw [wrs (by omega)]; omega
    simp only [zEJ,zAJ hn,e1,Bool.and_self,zAC,zAE hn,zAA,e2]
    have e3:decide (300<((l[n].fName.length:Nat):Int))=decide (300<l[n].fName.length):=zIs 300 _
    have e4:decide (300<((l[n].fValue.length:Nat):Int))=decide (300<l[n].fValue.length):=zIs 300 _
    rw [e3,e4]
    unfold badF
    cases decide (300<l[n].fName.length) <;> cases decide (300<l[n].fValue.length) <;> rfl
  · intro n hn
    have:(decide ((n:Int)<(l.length:Int))&&decide ((n:Int)<71))=false:=by
      rcases hn with hn | hn
      · rw [zAI hn]; rfl
      · rw [show decide ((n:Int)<71)=false from zAI hn,Bool.and_false]
    simp only [zEJ,this,zAB]
theorem zLm {l:List GField} (h:keepF l=true):l.length≤70∧∀ f ∈ l,f.fName.length≤300∧f.fValue.length≤300:=by
  unfold keepF at h
  simp only [Bool.and_eq_true,Bool.not_eq_true',decide_eq_true_eq] at h
  refine ⟨h.2,fun f hf=>?_⟩
  rw [List.take_of_length_le (by omega)] at h
  have:=List.any_eq_false.1 h.1 f hf
  simp only [badF,Bool.or_eq_true,decide_eq_true_eq] at this
  omega
def keepS (l:List Str):Bool:=!((l.take 21).any fun s=>decide (100<s.length))&&decide (l.length≤20)
theorem zDX (l:List Str):zCV l=some (keepS l):=by
  unfold zCV keepS
  rw [zFt l 21 (fun s=>decide (100<s.length))]
  · have e:decide ((l.length:Int)≤20)=decide (l.length≤20):=zHA l.length 20
    rw [e]
    cases (l.take 21).any (fun s=>decide (100<s.length)) <;> simp
  · intro n hn hm
    have e1:decide ((n:Int)<21)=true:=zAJ hm
    have e2:wr ((n:Int)+1)=(n:Int)+1:=by rw [wrs (by omega)]; omega
    simp only [zDe,zAJ hn,e1,Bool.and_self,zAC,zAE hn,zAA,e2]
    have e3:decide (100<((l[n].length:Nat):Int))=decide (100<l[n].length):=zIs 100 _
    rw [e3]
    cases decide (100<l[n].length) <;> rfl
  · intro n hn
    have:(decide ((n:Int)<(l.length:Int))&&decide ((n:Int)<21))=false:=by
      rcases hn with hn | hn
      · rw [zAI hn]; rfl
      · rw [show decide ((n:Int)<21)=false from zAI hn,Bool.and_false]
    simp only [zDe,this,zAB]
theorem zL0 {l:List Str} (h:keepS l=true):l.length≤20∧∀ s ∈ l,s.length≤100:=by
  unfold keepS at h
  simp only [Bool.and_eq_true,Bool.not_eq_true',decide_eq_true_eq] at h
  refine ⟨h.2,fun f hf=>?_⟩
  rw [List.take_of_length_le (by omega)] at h
  have:=List.any_eq_false.1 h.1 f hf
  simp only [decide_eq_true_eq] at this
  omega
end Go.Eng.Pure
namespace Go.Eng.Pure
open Go Go.Eng
set_option linter.unusedVariables false
def hasF (l:List GField) (name:Str):Bool:=decide (0<(getF l name).length)
theorem zOn (l:List GField) (name:Str) (hl:l.length≤1073741824) (hf:∀ f ∈ l,smF f) (hn:name.length≤1073741824):zDd l name=some (hasF l name):=by
  unfold zDd zCd
  rw [zBf _ hn]
  simp only [zAA]
  rw [zKn l _ (fun f=>fold f.fName name) hl (fun f h=>zLe name hn f (hf f h)),zAA]
  unfold hasF getF
  rw [List.length_map]
  exact congrArg some (zIs 0 _)
theorem zJr (l:List GField) (name:Str):(allM l name).length≤64:=by
  unfold allM; rw [List.length_take]; omega
theorem zJ2 (l:List GField) (name:Str) (B:Nat) (hf:∀ f ∈ l,f.fValue.length≤B):∀ x ∈ allM l name,x.length≤B:=by
  intro x hx
  have h1:=List.mem_of_mem_take hx
  rw [List.mem_flatMap] at h1
  obtain ⟨v,hv,hx⟩:=h1
  exact Nat.le_trans (zLl v x hx) (zKC l name B hf v hv)
def hd (m:Str):Str:=m.takeWhile tokB
def tl (m:Str):Str:=m.dropWhile tokB
theorem zNi:∀ (n:Nat) (s acc x:Str),s.length≤n→unqL s acc=some x→x.length≤acc.length+s.length:=by
  intro n
  induction n with
  | zero =>
    intro s acc x h hx
    obtain rfl:=List.eq_nil_of_length_eq_zero (Nat.le_zero.1 h)
    cases hx; simp
  | succ n ih =>
    intro s acc x h hx
    match s with
    | []=>cases hx; simp
    | c :: r =>
      unfold unqL at hx
      split at hx
      · cases hx
      · split at hx
        · match r with
          | []=>cases hx
          | d :: r' =>
            have:=ih r' (acc++[d]) x (by simp at h; omega) hx
            rw [List.length_append,List.length_singleton] at this
            simp only [List.length_cons]; omega
        · have:=ih r (acc++[c]) x (by simp at h; omega) hx
          rw [List.length_append,List.length_singleton] at this
          simp only [List.length_cons]; omega
theorem zOt (s:Str):(unq s).1.length≤s.length:=by
  rcases zGf s with ⟨h,hu⟩ | ⟨a,m,z,rfl,hu⟩
  · rw [hu]; exact Nat.zero_le _
  · rw [hu]
    split
    · unfold unqIn
      split
      · cases hx:unqL m [] with
        | none=>exact Nat.zero_le _
        | some x =>
          have:=zNi m.length m [] x (Nat.le_refl _) hx
          simp at this ⊢; omega
      · exact Nat.zero_le _
    · exact Nat.zero_le _
theorem zLL {β:Type} (m:List (Str×β)) (k k':Str) (v:β):(mset m k v).lookup k'=if k'==k then some v else m.lookup k':=by
  induction m with
  | nil =>
    simp only [mset,List.lookup]
    cases k'==k <;> rfl
  | cons p r ih =>
    unfold mset
    by_cases h:k=p.1
    · subst h
      rw [beq_self_eq_true,if_pos rfl]
      simp only [List.lookup]
      cases k'==p.1 <;> rfl
    · have h':(k==p.1)=false:=by simpa using h
      rw [h',if_neg (by decide)]
      simp only [List.lookup]
      cases hk:k'==p.1 with
      | true =>
        have e:k'=p.1:=by simpa using hk
        have:(k'==k)=false:=by rw [e]; simp [Ne.symm h]
        rw [this]; rfl
      | false=>exact ih
end Go.Eng.Pure
namespace Go.Eng.Pure
open Go Go.Eng
set_option linter.unusedVariables false
def join (l:List Str):Str:=Lib.join l [44,32]
theorem zMW (x:Str) (r:List Str):join (x :: r)=x++(r.map ([44,32]++·)).flatten:=Lib.join_cons x r [44,32]
theorem zLg (l:List Str) (B:Nat) (h:∀ s ∈ l,s.length≤B):(join l).length≤(B+2)*l.length:=by
  have:∀ r:List Str,(∀ s ∈ r,s.length≤B)→((r.map ([44,32]++·)).flatten).length≤(B+2)*r.length:=by
    intro r
    induction r with
    | nil=>intro _; simp
    | cons y r ih =>
      intro hr
      have h1:=ih fun s hs=>hr s (List.mem_cons_of_mem _ hs)
      have h2:=hr y List.mem_cons_self
      rw [List.map_cons,List.flatten_cons,List.length_append,List.length_cons,Nat.mul_succ]
      have:(([44,32]:Str)++y).length=y.length+2:=by simp
      omega
  cases l with
  | nil=>simp [join,Lib.join_nil]
  | cons x r =>
    have h1:=this r fun s hs=>h s (List.mem_cons_of_mem _ hs)
    have h2:=h x List.mem_cons_self
    rw [zMW,List.length_append,List.length_cons,Nat.mul_succ]
    omega
theorem zMt (l:List Str) (h1:l.length≤1073741824) (h2:(join l).length≤1073741824):zFf l=some (join l):=by
  unfold zFf strings_Join jo
  rw [if_pos ⟨by show (join l).length≤big; simp only [big]; omega,by simp only [big]; omega⟩]; rfl
end Go.Eng.Pure
namespace Go.Eng.Pure
open Go Go.Eng
set_option linter.unusedVariables false
theorem zOX (l:List Str) (h1:l.length≤1073741824) (h2:(join l).length≤1073741824):strings_Join l [44,32]=some (join l):=by
  unfold strings_Join jo
  rw [if_pos ⟨by show (join l).length≤big; simp only [big]; omega,by simp only [big]; omega⟩]; rfl
def kindF (n:Str):Int :=
  if fold n [65,99,99,101,112,116] then 1 else if fold n [65,99,99,101,112,116,45,76,97,110,103,117,97,103,101] then 2
  else if fold n [65,99,99,101,112,116,45,67,104,97,114,115,101,116] then 3 else if fold n [65,99,99,101,112,116,45,69,110,99,111,100,105,110,103] then 4 else 0
theorem zLD (n:Str) (hn:n.length≤1073741824):zD4 n=some (kindF n):=by
  unfold zD4 kindF
  simp only [show zBH 1=some [65,99,99,101,112,116] from rfl,show zBH 2=some [65,99,99,101,112,116,45,76,97,110,103,117,97,103,101] from rfl,
    show zBH 3=some [65,99,99,101,112,116,45,67,104,97,114,115,101,116] from rfl,show zBH 4=some [65,99,99,101,112,116,45,69,110,99,111,100,105,110,103] from rfl,zAA]
  rw [zIC _ _ hn (by decide),zIC _ _ hn (by decide),zIC _ _ hn (by decide),zIC _ _ hn (by decide)]
  simp only [zAA]
  generalize fold n [65,99,99,101,112,116]=a
  generalize fold n [65,99,99,101,112,116,45,76,97,110,103,117,97,103,101]=b
  generalize fold n [65,99,99,101,112,116,45,67,104,97,114,115,101,116]=c
  generalize fold n [65,99,99,101,112,116,45,69,110,99,111,100,105,110,103]=d
  cases a <;> cases b <;> cases c <;> cases d <;> rfl
theorem zLp (n:Str) (hn:n.length≤1073741824):zFy n=some (kindF n):=by
  unfold zFy kindF
  simp only [show zCr 1=some [65,99,99,101,112,116] from rfl,show zCr 2=some [65,99,99,101,112,116,45,76,97,110,103,117,97,103,101] from rfl,
    show zCr 3=some [65,99,99,101,112,116,45,67,104,97,114,115,101,116] from rfl,show zCr 4=some [65,99,99,101,112,116,45,69,110,99,111,100,105,110,103] from rfl,zAA]
  rw [zGx _ _ hn (by decide),zGx _ _ hn (by decide),zGx _ _ hn (by decide),zGx _ _ hn (by decide)]
  simp only [zAA]
  generalize fold n [65,99,99,101,112,116]=a
  generalize fold n [65,99,99,101,112,116,45,76,97,110,103,117,97,103,101]=b
  generalize fold n [65,99,99,101,112,116,45,67,104,97,114,115,101,116]=c
  generalize fold n [65,99,99,101,112,116,45,69,110,99,111,100,105,110,103]=d
  cases a <;> cases b <;> cases c <;> cases d <;> rfl
def varyV (l:List GField) (n:Str):Str :=
  if (getF l n).length=0 then [] else if (kindF n !=0)&&decide ((allM l n).length<64) then 61 :: lower (join (allM l n)) else 61 :: join (getF l n)
def smL (l:List GField):Prop:=l.length≤70∧∀ f ∈ l,f.fName.length≤300∧f.fValue.length≤300
theorem smL_F {l:List GField} (h:smL l):l.length≤1073741824∧∀ f ∈ l,smF f:=⟨by have:=h.1; omega,fun f hf=>by have:=h.2 f hf; exact ⟨by omega,by omega⟩⟩
theorem zN1 {l:List GField} (h:smL l) (n:Str):(getF l n).length≤70∧(join (getF l n)).length≤30000:=by
  have h1:=zLn l n
  have h2:=zLg (getF l n) 300 (zKC l n 300 fun f hf=>(h.2 f hf).2)
  have h3:=h.1
  exact ⟨by omega,by omega⟩
theorem zLr {l:List GField} (h:smL l) (n:Str):(allM l n).length≤64∧(join (allM l n)).length≤30000:=by
  have h1:=zJr l n
  have h2:=zLg (allM l n) 300 (zJ2 l n 300 fun f hf=>(h.2 f hf).2)
  exact ⟨h1,by omega⟩
theorem eq61 {s:Str} (h:s.length≤30000):xcat [61] s=some (61 :: s):=by
  rw [zHV (zBW _) (by omega)]; rfl
theorem zN2 (n:Str) (l:List GField) (hl:smL l) (hn:n.length≤1073741824):zG1 n l=some (varyV l n):=by
  obtain ⟨h1,h2⟩:=smL_F hl
  obtain ⟨g1,g2⟩:=zN1 hl n
  obtain ⟨a1,a2⟩:=zLr hl n
  unfold zG1 varyV
  rw [zOn l n h1 h2 hn,zMo l n h1 h2 hn,zLD n hn,zOd l n h1 h2 hn]
  simp only [zAA]
  rw [zMt _ (by omega) (by omega),zOX _ (by omega) (by omega)]
  simp only [zAA]
  rw [zBf _ (by omega)]
  simp only [zAA]
  rw [eq61 g2,eq61 (by rw [zCb]; exact a2)]
  simp only [zAA]
  rw [show decide (((allM l n).length:Int)<64)=decide ((allM l n).length<64) from zIs _ 64]
  unfold hasF
  by_cases hz:(getF l n).length=0
  · rw [if_pos hz,decide_eq_false (by omega)]; rfl
  · rw [if_neg hz,decide_eq_true (by omega)]
    cases (kindF n !=0)&&decide ((allM l n).length<64) <;> rfl
def snapF (l:List GField) (ns:List Str):List Str:=ns.map (varyV l)
theorem zLK (ns:List Str) (l:List GField) (hl:smL l) (hs:ns.length≤1000) (hn:∀ n ∈ ns,n.length≤1073741824):zEq ns l=some (snapF l ns):=by
  have:=zB2 (fun n=>((ns.take n).map (varyV l),(n:Int))) ns.length (ns.map (varyV l)) (zCF ns l) ?_ ?_
  · unfold zEq
    have e:(([]:List Str),(0:Int))=((ns.take 0).map (varyV l),((0:Nat):Int)):=by simp
    rw [e,this]; rfl
  · intro n hn'
    simp only [zCF,zAJ hn',zAC,zAE hn',zAA,zN2 _ l hl (hn _ (List.getElem_mem hn')),wrs (show n≤4*1073741824 by omega)]
    rw [zAm (by simp; omega) (zBW _),zAg hn',List.map_append]
    rfl
  · simp only [zCF,zAI (Nat.le_refl ns.length),zAB,List.take_length]
theorem zHh (a b:List Str) (ha:a.length≤1073741824):zAa a b=some (a==b):=by
  unfold zAa
  rw [neI]
  by_cases hl:a.length=b.length
  · have e:(a.length !=b.length)=false:=by simp [hl]
    rw [e,zAB,zD3 a b (zAo a b) hl]
    · by_cases h:a=b
      · simp [h]
      · simp [h]
    · intro n hn hb
      simp only [zAo,zAJ hn,zAC,zAE hn,zAE hb,zAA,wrs (show n≤4*1073741824 by omega)]
      by_cases he:a[n]=b[n]
      · have:(a[n] !=b[n])=false:=by simp [he]
        rw [this,if_pos he]; rfl
      · have:(a[n] !=b[n])=true:=by simp [he]
        rw [this,if_neg he]; rfl
    · simp only [zAo,zAI (Nat.le_refl a.length),zAB]
  · have e:(a.length !=b.length)=true:=by simp [hl]
    have e2:(a==b)=false:=by
      rw [Bool.eq_false_iff]; intro h; exact hl (by rw [eq_of_beq h])
    rw [e,e2]; rfl
theorem zLy (l:List GField) (ns:List Str):(snapF l ns).length=ns.length:=by simp [snapF]
theorem zN4 (ns s:List Str) (l:List GField) (hl:smL l) (hs:ns.length≤1000) (hn:∀ n ∈ ns,n.length≤1073741824):zGq ns s l=some (snapF l ns==s):=by
  unfold zGq
  rw [zLK ns l hl hs hn,eqI]
  simp only [zAA]
  rw [zHh _ _ (by rw [zLy]; omega)]
  simp only [zAA]
  by_cases h:ns.length=s.length
  · rw [beq_iff_eq.2 h]; rfl
  · rw [beq_eq_false_iff_ne.2 h]
    have:(snapF l ns==s)=false:=by
      rw [Bool.eq_false_iff]; intro hc; have:=eq_of_beq hc; rw [← this,zLy] at h; exact h rfl
    rw [this]; rfl
def zPk (l:List GField) (n:Str):List GField:=l.filter fun f=>!fold f.fName n
end Go.Eng.Pure
namespace Go.Eng.Pure
open Go Go.Eng
set_option linter.unusedVariables false
def fin (a:UInt8):Nat→Str→Str→List Str×Nat×Str
  | st,cur,[]=>([],st,cur)
  | st,cur,c :: r=>if st=0∧c=a then (cur :: (fin a 0 [] r).1,(fin a 0 [] r).2) else fin a (step st c) (cur++[c]) r
end Go.Eng.Pure
namespace Go.Eng.Pure
open Go Go.Eng
set_option linter.unusedVariables false
section
set_option linter.unusedSectionVars false
variable (s:Str) (hs:s.all isD=true) (hne:s≠[])
include hs hne
end
def quote (s:Str):Str:=34 :: (s.flatMap (fun c=>if c=34∨c=92 then [92,c] else [c])++[34])
theorem zMe (t:Str):(t.flatMap (fun c=>if c=34∨c=92 then [92,c] else [c])).length≤2*t.length:=by
  induction t with
  | nil=>exact Nat.le_refl _
  | cons c t ih =>
    have e:(if c=34∨c=92 then [92,c] else [c]).length≤2:=by split <;> simp
    rw [List.flatMap_cons,List.length_append,List.length_cons]
    omega
theorem zOE (s:Str) (hs:s.length≤1073741824):zIn s=some (quote s):=by
  have hfl:=zMe
  have:=zB2 (fun n=>(34 :: (s.take n).flatMap (fun c=>if c=34∨c=92 then [92,c] else [c]),(n:Int))) s.length (34 :: s.flatMap (fun c=>if c=34∨c=92 then [92,c] else [c])) (zEL s) ?_ ?_
  · unfold zIn quote
    have e:(([34]:Str),(0:Int))=(34 :: (s.take 0).flatMap (fun c=>if c=34∨c=92 then [92,c] else [c]),((0:Nat):Int)):=by simp
    have hl:=hfl s
    rw [e,this,zAA,zAm (by simp only [List.length_cons]; omega) (zBW _)]; rfl
  · intro n hn
    have hl:=hfl (s.take n)
    have ht:(s.take n).length≤n:=by rw [List.length_take]; omega
    have hcond:(bif s[n]==34 then some true else some (s[n]==92))=some (decide (s[n]=34∨s[n]=92)):=by
      by_cases h1:s[n]=34
      · simp [h1]
      · have h1':(s[n]==34)=false:=by simpa using h1
        by_cases h2:s[n]=92
        · simp [h2]
        · simp [h1,h2,h1']
    simp only [zEL,zAJ hn,zAC,zAE hn,zAA]
    rw [hcond,zAA,zAg hn,List.flatMap_append,wrs (by omega)]
    by_cases hc:s[n]=34∨s[n]=92
    · rw [decide_eq_true hc,zAC,zAm (by simp only [List.length_cons]; omega) (zBW _),zAA,zAA,zAm (by simp only [List.length_cons,List.length_append,List.length_nil]; omega) (zBW _),zAA]
      simp [hc]
    · rw [decide_eq_false hc,zAB,zAA,zAm (by simp only [List.length_cons]; omega) (zBW _),zAA]
      simp [hc]
  · simp only [zEL,zAI (Nat.le_refl s.length),zAB,List.take_length]
theorem zKp (s:Str):(quote s).length≤2*s.length+2:=by
  unfold quote
  rw [List.length_cons,List.length_append,List.length_singleton]
  have:=zMe s
  omega
end Go.Eng.Pure
namespace Go.Eng.Pure
open Go Go.Eng
set_option linter.unusedVariables false
def shape (s:Str):Bool:=s.length==29&&((s.take 5).drop 3==[44,32]&&(s.getD 7 0==32&&(s.getD 11 0==32&&(s.getD 16 0==32&&(s.getD 19 0==58&&(s.getD 22 0==58&&s.drop 25==[32,71,77,84]))))))
end Go.Eng.Pure
namespace Go.Eng.Pure.Etag
open Go Go.Eng Go.Eng.Pure
def zPT (c:UInt8):Bool:=(decide (c<33)||c==34)||c==127
def tagOK (s:Str):Bool:=!s.any zPT
def inner (t:Str):Option Str :=
  match t with
  | a :: r=>if a=34∧r≠[]∧r.getLast?=some 34∧tagOK r.dropLast then some r.dropLast else none
  | []=>none
def tagOf (weak:Bool) (t:Str):GETag×Bool:=match inner t with | some x=>(⟨weak,x⟩,true) | none=>(⟨false,[]⟩,false)
def pre:Str:=[87,47]
def zHi (s:Str):GETag×Bool:=if pre.isPrefixOf s then tagOf true (s.drop 2) else tagOf false s
theorem zIl (p s:Str):p.isPrefixOf s=(decide (p.length≤s.length)&&s.take p.length==p):=by
  induction p generalizing s with
  | nil=>simp
  | cons a p ih =>
    cases s with
    | nil=>simp
    | cons b s =>
      simp only [List.isPrefixOf,List.length_cons,List.take_succ_cons,Nat.add_le_add_iff_right]
      rw [ih]
      by_cases h:a=b
      · subst h; simp
      · have e1:(a==b)=false:=by simpa using h
        have e2:(b==a)=false:=by simpa using fun e=>h e.symm
        simp [e1,e2]
theorem HasPrefix_eq (s p:Str):zBh s p=some (p.isPrefixOf s):=by
  unfold zBh
  rw [zIl]
  by_cases h:p.length≤s.length
  · have h1:decide ((p.length:Int)≤(s.length:Int))=true:=by simpa using h
    rw [h1,zAC]
    have:=zGr (l:=s) (i:=0) (j:=p.length) ⟨by omega,h⟩
    rw [show ((0:Nat):Int)=0 from rfl] at this
    rw [this]
    simp [h]
  · have h1:decide ((p.length:Int)≤(s.length:Int))=false:=by simpa using h
    rw [h1,zAB]
    simp [h]
end Go.Eng.Pure.Etag
namespace Go.Eng.Pure.Etag
open Go Go.Eng Go.Eng.Pure
set_option linter.unusedVariables false
def zLN (out:List GETag) (m:Str):List GETag ⊕ (List GETag ⊕ (List GETag×Bool×Bool)):=if (zHi m).2 then .inl (out++[(zHi m).1]) else .inr (.inr ([],false,false))
def zPS (l:List Str):List GETag ⊕ (List GETag×Bool×Bool):=run zLN .inl l []
theorem zIx (m : List Str) (hm : m.length ≤ 64) (hs : ∀ x ∈ m, x.length ≤ 1073741824) (parse : Str → Option (GETag × Bool)) (hp : ∀ x : Str, x.length ≤ 1073741824 → parse x = some (zHi x)) (body : (List GETag × Int) → Option ((List GETag × Int) ⊕ (List GETag ⊕ (List GETag × Bool × Bool))))
    (hb:∀ o i,body (o,i)=(bif decide (i<(m.length:Int)) then (xnth m i).bind fun x=>(parse x).bind fun r=>(bif !r.2 then some (.inr (.inr (([]:List GETag),false,false))) else (xapp o ([r.1]:List GETag)).bind fun l=>some (.inl (l,wr (i+1)))) else some (.inr (.inl o)))) :
    zAG body ([],0)=some (zPS m):=by
  refine zG5 (fun (o:List GETag) (i:Int)=>(o,i)) m zLN .inl body (fun n o=>o.length≤n) [] (Nat.le_refl _) (fun n hn o ho=>?_) (fun o _=>?_)
  · have h1:=hs _ (List.getElem_mem hn)
    rw [hb,zAJ hn,zAC,zAE hn,zAA,hp _ h1,zAA,zAm (by omega) (zBW _),zAA,wrs (by omega)]
    unfold zLN
    cases hpp:(zHi m[n]).2 with
    | true=>exact ⟨rfl,fun st' h=>by simp at h; subst h; rw [List.length_append,List.length_singleton]; omega⟩
    | false=>exact ⟨rfl,fun st' h=>by simp at h⟩
  · rw [hb,zAI (Nat.le_refl m.length),zAB]
theorem zJ2 (l:List GField) (name:Str) (hf:∀ f ∈ l,smF f):∀ x ∈ allM l name,x.length≤1073741824:=by
  intro x hx
  have h1:=List.mem_of_mem_take hx
  rw [List.mem_flatMap] at h1
  obtain ⟨v,hv,hx⟩:=h1
  exact Nat.le_trans (zLl v x hx) (zKC l name 1073741824 (fun f h=>(hf f h).2) v hv)
theorem Index_eq (s:Str) (c:UInt8) (hs:s.length≤1073741824):∀ (k n:Nat),n+k=s.length→zDM s c (n:Int)=some (if c ∈ s.drop n then ((n+(s.drop n).idxOf c:Nat):Int) else -1):=by
  have key:∀ (k n:Nat),n+k=s.length→zAG (zBn s c) (n:Int)=some (if c ∈ s.drop n then .inr ((n+(s.drop n).idxOf c:Nat):Int) else .inl ()):=by
    intro k
    induction k with
    | zero =>
      intro n hn
      obtain rfl:n=s.length:=by omega
      rw [List.drop_length]
      refine (zAF (r:=.inl ()) ?_).trans (by simp)
      simp only [zBn,zAI (Nat.le_refl s.length),zAB]
    | succ k ih =>
      intro n hn
      have hlt:n<s.length:=by omega
      rw [List.drop_eq_getElem_cons hlt]
      by_cases hc:s[n]=c
      · rw [zAF (r:=.inr (n:Int))]
        · simp [hc]
        · simp only [zBn,zAJ hlt,zAC,zAE hlt,zAA,hc,beq_self_eq_true]
      · have hb : zBn s c (n : Int) = some (.inl ((n + 1 : Nat) : Int)) := by
          have:(s[n]==c)=false:=by simpa using hc
          simp only [zBn,zAJ hlt,zAE hlt,zAC,zAA,this,zAB,wrs (show n≤4*1073741824 by omega)]
        rw [zAL hb,ih (n+1) (by omega)]
        have e1:(c ∈ s[n] :: s.drop (n+1))↔c ∈ s.drop (n+1):=by
          rw [List.mem_cons]; exact ⟨fun h=>h.resolve_left (fun h=>hc h.symm),.inr⟩
        by_cases hm:c ∈ s.drop (n+1)
        · have e2:(s[n]==c)=false:=by simpa using hc
          rw [if_pos hm,if_pos (e1.2 hm),List.idxOf_cons,e2,zAB]
          congr 3; omega
        · rw [if_neg hm,if_neg (fun h=>hm (e1.1 h))]
  intro k n hn
  unfold zDM
  rw [key k n hn,zAA]
  by_cases hm:c ∈ s.drop n
  · rw [if_pos hm,if_pos hm]
  · rw [if_neg hm,if_neg hm]
end Go.Eng.Pure.Etag
namespace Go.Eng.Pure
end Go.Eng.Pure
