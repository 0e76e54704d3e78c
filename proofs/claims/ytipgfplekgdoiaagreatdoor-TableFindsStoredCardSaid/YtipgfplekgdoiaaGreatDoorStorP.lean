/- A part. -/
import Derived.Test.YtipgfplekgdoiaaGreatDoorListP
import Derived.Sort.Walk0
import Derived.Lib.ItoaNum
set_option linter.unusedVariables false
namespace Go.Eng.Pure
open Go Go.Eng
set_option linter.unusedVariables false
theorem zMU (p:UInt8→Bool) (h:(List.range 256).all (fun n=>p (UInt8.ofNat n))=true) (c:UInt8):p c=true:=by
  have h1:=List.all_eq_true.1 h c.toNat (List.mem_range.2 c.toNat_lt)
  rwa [UInt8.ofNat_toNat] at h1
def signs:Str:=[33,35,36,37,38,39,42,43,45,46,94,95,96,124,126]
def tokB (c:UInt8):Bool:=(((decide (97≤c))&&(decide (c≤122)))||((decide (65≤c))&&(decide (c≤90))))||((decide (48≤c))&&(decide (c≤57)))||signs.contains c
def tok (s:Str):Bool:=s.all tokB&&s !=[]
def txtB (c:UInt8):Bool:=((c==9)||((decide (32≤c))&&(decide (c≤126))))||(decide (128≤c))
def txt (s:Str):Bool:=s.all txtB
theorem zRn (c:UInt8):zHo c=some (tokB c):=by
  have:=zMU (fun c=>decide (zHo c=some (tokB c))) (by decide +kernel) c
  simpa using this
theorem zGK (l : Str) (hl : l.length ≤ 1073741824) (bad : UInt8 → Bool) (body : Int → Option (Int ⊕ (Unit ⊕ Bool))) (r : Bool)
    (h:∀ (n:Nat) (hn:n<l.length),body (n:Int)=some (if bad l[n]=true then .inr (.inr r) else .inl (wr ((n:Int)+1)))) (h':body (l.length:Int)=some (.inr (.inl ()))) :
    zAF body 0=some (if l.any bad then .inr r else .inl ()):=by
  refine zDe body l bad (.inr r) (.inl ()) (fun n hn=>?_) h'
  have e2:wr ((n:Int)+1)=(n:Int)+1:=by rw [wrs (by omega)]; omega
  rw [h n hn,e2]
theorem zMO (c:UInt8):zEM c=some (tokB c):=by
  unfold zEM tokB
  rw [zGK signs (by decide) (fun x=>x==c) (zCq c) true]
  · have : signs.contains c = signs.any (fun x => x == c) := by
      rw [List.contains_eq_any_beq]
      congr 1; funext x
      rw [Bool.eq_iff_iff]; simp only [beq_iff_eq]; exact ⟨fun h=>h.symm,fun h=>h.symm⟩
    rw [this]
    cases ((((decide (97≤c))&&(decide (c≤122)))||((decide (65≤c))&&(decide (c≤90))))||((decide (48≤c))&&(decide (c≤57)))) with
    | true=>rfl
    | false=>cases signs.any (fun x=>x==c) <;> rfl
  · intro n hn
    have e1:decide ((n:Int)<15)=true:=zAK hn
    have e2:xnth ([33,35,36,37,38,39,42,43,45,46,94,95,96,124,126]:Str) (n:Int)=some signs[n]:=zAG hn
    simp only [zCq,e1,zAC,e2,zAA]
    cases signs[n]==c <;> rfl
  · rfl
theorem zJG (l:Str) (p:UInt8→Bool):l.any (fun c=>!p c)=!l.all p:=by
  induction l with
  | nil=>rfl
  | cons a l ih=>rw [List.any_cons,List.all_cons,ih,Bool.not_and]
theorem zCk (s:Str) (hs:s.length≤1073741824):zA0 s=some (tok s):=by
  unfold zA0 tok
  rw [zGK s hs (fun c=>!tokB c) (zDj s) false]
  · rw [zJG]; cases s.all tokB <;> rfl
  · intro n hn
    simp only [zDj,zAK hn,zAC,zAG hn,zAA,zRn]
    cases tokB s[n] <;> rfl
  · simp only [zDj,zAH (Nat.le_refl s.length),zAB]
theorem zCs (s:Str) (hs:s.length≤1073741824):zA6 s=some (tok s):=by
  unfold zA6 tok
  rw [zGK s hs (fun c=>!tokB c) (zDl s) false]
  · rw [zJG]; cases s.all tokB <;> rfl
  · intro n hn
    simp only [zDl,zAK hn,zAC,zAG hn,zAA,zMO]
    cases tokB s[n] <;> rfl
  · simp only [zDl,zAH (Nat.le_refl s.length),zAB]
theorem zII (c:UInt8):zEm c=some (txtB c):=rfl
theorem zRV (c:UInt8):((bif decide (c<32) then some (c !=9) else some false).bind fun b17=>(bif b17 then some true else some (c==127)))=some (!txtB c):=by
  have:=zMU (fun c=>decide (((bif decide (c<32) then some (c !=9) else some false).bind fun b17=>(bif b17 then some true else some (c==127)))=some (!txtB c))) (by decide +kernel) c
  simpa using this
theorem zPe (s:Str) (hs:s.length≤1073741824):zGV s=some (txt s):=by
  unfold zGV txt
  rw [zGK s hs (fun c=>!txtB c) (zER s) false]
  · rw [zJG]; cases s.all txtB <;> rfl
  · intro n hn
    have e:=zRV s[n]
    have e':((bif decide (s[n]<32) then some (s[n] !=9) else some false).bind fun b17=>(bif b17 then some true else some (s[n]==127)).bind fun b21=>(bif b21 then some (.inr (.inr false)) else some (.inl (wr ((n:Int)+1))):Option (Int ⊕ (Unit ⊕ Bool))))=(some (!txtB s[n])).bind fun b21=>(bif b21 then some (.inr (.inr false)) else some (.inl (wr ((n:Int)+1)))):=by
      rw [← e,Option.bind_assoc]
    simp only [zER,zAK hn,zAC,zAG hn,zAA]
    rw [e',zAA]
    cases txtB s[n] <;> rfl
  · simp only [zER,zAH (Nat.le_refl s.length),zAB]
theorem zQ5 (s:Str) (hs:s.length≤1073741824):zHn s=some (txt s):=by
  unfold zHn txt
  rw [zGK s hs (fun c=>!txtB c) (zEL s) false]
  · rw [zJG]; cases s.all txtB <;> rfl
  · intro n hn
    simp only [zEL,zAK hn,zAC,zAG hn,zAA,zII]
    cases txtB s[n] <;> rfl
  · simp only [zEL,zAH (Nat.le_refl s.length),zAB]
def isD (c:UInt8):Bool:=(decide (48≤c))&&(decide (c≤57))
def cap (n:Int):Int:=if 2147483647<n then 2147483647 else n
theorem zO9 (c:UInt8):zEW c=some (isD c):=rfl
def unqL:Str→Str→Option Str
  | [],acc=>some acc
  | c :: r,acc=>if c=34 then none else if c=92 then (match r with | []=>none | d :: r'=>unqL r' (acc++[d])) else unqL r (acc++[c])
def unqIn (s:Str):Str×Bool:=if txt s then (match unqL s [] with | some x=>(x,true) | none=>([],false)) else ([],false)
def unq (s:Str):Str×Bool :=
  match s with
  | a :: r=>if a=34∧r≠[]∧r.getLast?=some 34 then unqIn r.dropLast else ([],false)
  | []=>([],false)
def unqO:Option Str→(List UInt8) ⊕ (Str×Bool) | some x=>.inl x | none=>.inr ([],false)
theorem zQs (s:Str) (hs:s.length≤1073741824):∀ (k i:Nat) (out:Str),s.length≤i+k→i≤s.length→out.length≤i→zAF (zAm s) (out,(i:Int))=some (unqO (unqL (s.drop i) out)):=by
  intro k
  induction k with
  | zero =>
    intro i out hk hi ho
    obtain rfl:i=s.length:=by omega
    rw [List.drop_length]
    refine zAE ?_
    simp only [zAm,zAH (Nat.le_refl s.length),zAB]; rfl
  | succ k ih =>
    intro i out hk hi ho
    by_cases hlt:i<s.length
    · have e2:wr ((i:Int)+1)=((i+1:Nat):Int):=wrs (by omega)
      rw [List.drop_eq_getElem_cons hlt]
      have ex:=zAG hlt
      generalize s[i]=c at ex
      unfold unqL
      by_cases h34:c=34
      · subst h34
        rw [if_pos rfl]
        refine zAE ?_
        simp only [zAm,zAK hlt,zAC,ex,zAA]; rfl
      · have h34':(c==34)=false:=by simpa using h34
        rw [if_neg h34]
        by_cases h92:c=92
        · subst h92
          rw [if_pos rfl]
          by_cases hl2:i+1<s.length
          · rw [List.drop_eq_getElem_cons hl2]
            have e3:(((i+1:Nat):Int)==(s.length:Int))=false:=by rw [eqI]; simp; omega
            have e4:wr (((i+1:Nat):Int)+1)=((i+1+1:Nat):Int):=wrs (by omega)
            have hb:zAm s (out,(i:Int))=some (.inl (out++[s[i+1]],((i+1+1:Nat):Int))):=by
              simp only [zAm,zAK hlt,zAC,ex,zAA,h34',zAB,beq_self_eq_true,e2,e3,zAG hl2]
              rw [zAc (by omega) (zA1 _),zAA,e4]
            rw [zAI hb,ih (i+1+1) _ (by omega) (by omega) (by rw [List.length_append,List.length_singleton]; omega)]
          · have e3:(((i+1:Nat):Int)==(s.length:Int))=true:=by rw [eqI]; simp; omega
            rw [List.drop_eq_nil_of_le (by omega)]
            refine zAE ?_
            simp only [zAm,zAK hlt,zAC,ex,zAA,h34',zAB,beq_self_eq_true,e2,e3]; rfl
        · have h92':(c==92)=false:=by simpa using h92
          rw [if_neg h92]
          have hb:zAm s (out,(i:Int))=some (.inl (out++[c],((i+1:Nat):Int))):=by
            simp only [zAm,zAK hlt,zAC,ex,zAA,h34',zAB,h92',e2]
            rw [zAc (by omega) (zA1 _),zAA]
          rw [zAI hb,ih (i+1) _ (by omega) (by omega) (by rw [List.length_append,List.length_singleton]; omega)]
    · obtain rfl:i=s.length:=by omega
      rw [List.drop_length]
      refine zAE ?_
      simp only [zAm,zAH (Nat.le_refl s.length),zAB]; rfl
def unqT:Str→Str→Option Str
  | [],acc=>some acc
  | c :: r,acc=>if c=34 then none else if c=92 then (match r with | []=>none | d :: r'=>if txtB d then unqT r' (acc++[d]) else none) else if txtB c then unqT r (acc++[c]) else none
theorem zRt:∀ (n:Nat) (s acc:Str),s.length≤n→unqT s acc=if txt s then unqL s acc else none:=by
  intro n
  induction n with
  | zero =>
    intro s acc h
    obtain rfl:=List.eq_nil_of_length_eq_zero (Nat.le_zero.1 h)
    rfl
  | succ n ih =>
    intro s acc h
    match s with
    | []=>rfl
    | c :: r =>
      unfold unqT unqL txt
      rw [List.all_cons]
      by_cases h34:c=34
      · rw [if_pos h34,if_pos h34]; split <;> rfl
      · rw [if_neg h34,if_neg h34]
        by_cases h92:c=92
        · subst h92
          rw [if_pos rfl,if_pos rfl,show txtB 92=true from rfl,Bool.true_and]
          match r with
          | []=>rfl
          | d :: r' =>
            rw [List.all_cons]
            show (if txtB d then unqT r' (acc++[d]) else none)=_
            have:=ih r' (acc++[d]) (by simp at h; omega)
            rw [this]
            cases txtB d
            · rfl
            · simp [txt]
        · rw [if_neg h92,if_neg h92]
          have:=ih r (acc++[c]) (by simp at h; omega)
          rw [this]
          cases txtB c
          · rfl
          · simp [txt]
theorem zQF (s:Str) (hs:s.length≤1073741824):∀ (k i:Nat) (out:Str),s.length≤i+k→i≤s.length→out.length≤i→zAF (zAn s) (out,(i:Int))=some (unqO (unqT (s.drop i) out)):=by
  intro k
  induction k with
  | zero =>
    intro i out hk hi ho
    obtain rfl:i=s.length:=by omega
    rw [List.drop_length]
    refine zAE ?_
    simp only [zAn,zAH (Nat.le_refl s.length),zAB]; rfl
  | succ k ih =>
    intro i out hk hi ho
    by_cases hlt:i<s.length
    · have e2:wr ((i:Int)+1)=((i+1:Nat):Int):=wrs (by omega)
      rw [List.drop_eq_getElem_cons hlt]
      have ex:=zAG hlt
      generalize s[i]=c at ex
      unfold unqT
      by_cases h34:c=34
      · subst h34
        rw [if_pos rfl]
        refine zAE ?_
        simp only [zAn,zAK hlt,zAC,ex,zAA]; rfl
      · have h34':(c==34)=false:=by simpa using h34
        rw [if_neg h34]
        by_cases h92:c=92
        · subst h92
          rw [if_pos rfl]
          by_cases hl2:i+1<s.length
          · rw [List.drop_eq_getElem_cons hl2]
            have e3:(((i+1:Nat):Int)==(s.length:Int))=false:=by rw [eqI]; simp; omega
            have e4:wr (((i+1:Nat):Int)+1)=((i+1+1:Nat):Int):=wrs (by omega)
            have hb:zAn s (out,(i:Int))=some (if txtB s[i+1] then .inl (out++[s[i+1]],((i+1+1:Nat):Int)) else .inr (.inr ([],false))):=by
              simp only [zAn,zAK hlt,zAC,ex,zAA,h34',zAB,beq_self_eq_true,e2,e3,zAG hl2,zII]
              rw [zAc (by omega) (zA1 _),zAA,e4]
              cases txtB s[i+1] <;> rfl
            cases ht:txtB s[i+1] with
            | true =>
              rw [ht,if_pos rfl] at hb
              rw [zAI hb,ih (i+1+1) _ (by omega) (by omega) (by rw [List.length_append,List.length_singleton]; omega)]
              show _=some (unqO (if txtB s[i+1]=true then _ else _))
              rw [ht,if_pos rfl]
            | false =>
              rw [ht,if_neg (by decide)] at hb
              rw [zAE hb]
              show _=some (unqO (if txtB s[i+1]=true then _ else _))
              rw [ht,if_neg (by decide)]; rfl
          · have e3:(((i+1:Nat):Int)==(s.length:Int))=true:=by rw [eqI]; simp; omega
            rw [List.drop_eq_nil_of_le (by omega)]
            refine zAE ?_
            simp only [zAn,zAK hlt,zAC,ex,zAA,h34',zAB,beq_self_eq_true,e2,e3]; rfl
        · have h92':(c==92)=false:=by simpa using h92
          rw [if_neg h92]
          have hb:zAn s (out,(i:Int))=some (if txtB c then .inl (out++[c],((i+1:Nat):Int)) else .inr (.inr ([],false))):=by
            simp only [zAn,zAK hlt,zAC,ex,zAA,h34',zAB,h92',e2,zII]
            rw [zAc (by omega) (zA1 _),zAA]
            cases txtB c <;> rfl
          cases ht:txtB c with
          | true =>
            rw [ht,if_pos rfl] at hb
            rw [zAI hb,ih (i+1) _ (by omega) (by omega) (by rw [List.length_append,List.length_singleton]; omega),if_pos rfl]
          | false =>
            rw [ht,if_neg (by decide)] at hb
            rw [zAE hb,if_neg (by decide)]; rfl
    · obtain rfl:i=s.length:=by omega
      rw [List.drop_length]
      refine zAE ?_
      simp only [zAn,zAH (Nat.le_refl s.length),zAB]; rfl
theorem zHg (s:Str):(s.length<2∧unq s=([],false))∨∃ a m z,s=a :: (m++[z])∧unq s=if a=34∧z=34 then unqIn m else ([],false):=by
  match s with
  | []=>exact .inl ⟨by simp,rfl⟩
  | [a]=>exact .inl ⟨by simp,by simp [unq]⟩
  | a :: b :: r =>
    obtain ⟨m,z,hm⟩:∃ m z,b :: r=m++[z]:=⟨(b :: r).dropLast,(b :: r).getLast (by simp),(List.dropLast_concat_getLast (by simp)).symm⟩
    rw [hm]
    exact .inr ⟨a,m,z,rfl,by simp [unq]⟩
theorem zJH (a z : UInt8) (m : Str) (h : (a :: (m ++ [z])).length ≤ 1073741824) :
    decide ((((a :: (m++[z])).length:Nat):Int)<2)=false∧wr ((((a :: (m++[z])).length:Nat):Int) - 1)=((m.length+1:Nat):Int)∧xnth (a :: (m++[z])) ((m.length+1:Nat):Int)=some z∧xsub (a :: (m++[z])) 1 ((m.length+1:Nat):Int)=some m:=by
  have hlen:(a :: (m++[z])).length=m.length+2:=by simp
  rw [hlen] at h
  refine ⟨?_,?_,?_,?_⟩
  · rw [hlen]
    exact decide_eq_false (by omega)
  · rw [hlen,zDZ (by omega) (by omega)]; omega
  · rw [zFn]; simp
  · have:=zGx (l:=a :: (m++[z])) (i:=1) (j:=m.length+1) ⟨by omega,by simp⟩
    have e:xsub (a :: (m++[z])) 1 ((m.length+1:Nat):Int)=_:=this
    rw [e]; simp
theorem zKx (s:Str) (hs:s.length≤1073741824):zDD s=some (unq s):=by
  rcases zHg s with ⟨h,hu⟩ | ⟨a,m,z,rfl,hu⟩
  · have e:decide ((s.length:Int)<2)=true:=zAK h
    rw [hu]; simp only [zDD,e,zAC,zAA]
  · obtain ⟨e1,e2,e3,e4⟩:=zJH a z m hs
    have hm:m.length≤1073741824:=by simp at hs; omega
    rw [hu]
    simp only [zDD,e1,e2,e3,e4,zAB,zBF,zAA,zPe m hm]
    by_cases ha:a=34
    · by_cases hz:z=34
      · subst ha; subst hz
        have hl:=zQs m hm m.length 0 [] (by omega) (by omega) (by simp)
        have hl:zAF (zAm m) ([],0)=_:=hl
        rw [hl]
        simp only [bne_self_eq_false,zAB,zAA,and_self,if_true,List.drop_zero]
        unfold unqIn
        cases txt m
        · rfl
        · cases unqL m [] <;> rfl
      · have hz':(z !=34)=true:=by simpa using hz
        simp [ha,hz,hz']
    · have ha':(a !=34)=true:=by simpa using ha
      simp [ha,ha']
theorem zNE (s:Str) (hs:s.length≤1073741824):zEG s=some (unq s):=by
  rcases zHg s with ⟨h,hu⟩ | ⟨a,m,z,rfl,hu⟩
  · have e:decide ((s.length:Int)<2)=true:=zAK h
    rw [hu]; simp only [zEG,e,zAC,zAA]
  · obtain ⟨e1,e2,e3,e4⟩:=zJH a z m hs
    have hm:m.length≤1073741824:=by simp at hs; omega
    rw [hu]
    simp only [zEG,e1,e2,e3,e4,zAB,zBF,zAA]
    by_cases ha:a=34
    · by_cases hz:z=34
      · subst ha; subst hz
        have hl:=zQF m hm m.length 0 [] (by omega) (by omega) (by simp)
        have hl:zAF (zAn m) ([],0)=_:=hl
        rw [hl]
        simp only [bne_self_eq_false,zAB,zAA,and_self,if_true,List.drop_zero]
        rw [zRt m.length m [] (Nat.le_refl _)]
        unfold unqIn
        cases txt m
        · rfl
        · cases unqL m [] <;> rfl
      · have hz':(z !=34)=true:=by simpa using hz
        simp [ha,hz,hz']
    · have ha':(a !=34)=true:=by simpa using ha
      simp [ha,ha']
theorem zI1 (a b:Str) (ha:a.length≤1073741824) (hb:b.length≤1073741824):zDI a b=some (fold a b):=by
  simp only [zDI,zBL a ha,zBL b hb,zAA,eqI,fold]
  cases a.length==b.length <;> rfl
end Go.Eng.Pure
namespace Go.Eng
open Go
theorem zK0 {α : Type} [DecidableEq α] (a b : List α) (body : Int → Option (Int ⊕ (Unit ⊕ Bool))) (hlen : a.length = b.length)
    (h:∀ (n:Nat) (hn:n<a.length) (hb:n<b.length),body (n:Int)=some (if a[n]=b[n] then .inl ((n+1:Nat):Int) else .inr (.inr false))) (h':body (a.length:Int)=some (.inr (.inl ()))) :
    zAF body 0=some (if a=b then .inl () else .inr false):=by
  have key:∀ (k n:Nat),n+k=a.length→zAF body (n:Int)=some (if a.drop n=b.drop n then .inl () else .inr false):=by
    intro k
    induction k with
    | zero =>
      intro n hn
      obtain rfl:n=a.length:=by omega
      rw [zAE h',List.drop_length,if_pos]
      rw [hlen,List.drop_length]
    | succ k ih =>
      intro n hn
      have hlt:n<a.length:=by omega
      have hlb:n<b.length:=by omega
      have hb:=h n hlt hlb
      rw [List.drop_eq_getElem_cons hlt,List.drop_eq_getElem_cons hlb]
      by_cases he:a[n]=b[n]
      · rw [if_pos he] at hb
        have hi:(a[n] :: a.drop (n+1)=b[n] :: b.drop (n+1))↔(a.drop (n+1)=b.drop (n+1)):=by
          rw [he]; exact ⟨fun h=>(List.cons.inj h).2,fun h=>by rw [h]⟩
        rw [zAI hb,ih (n+1) (by omega)]
        simp only [hi]
      · rw [if_neg he] at hb
        rw [zAE hb,if_neg]
        intro hc
        exact he (List.cons.inj hc).1
  have:=key a.length 0 (by omega)
  simpa using this
end Go.Eng
namespace Go.Eng.Pure
open Go Go.Eng
set_option linter.unusedVariables false
theorem zGZ {α : Type} (l : List α) (m : Nat) (bad : α → Bool) (body : Int → Option (Int ⊕ (Unit ⊕ Bool)))
    (h:∀ (n:Nat) (hn:n<l.length),n<m→body (n:Int)=some (if bad l[n]=true then .inr (.inr false) else .inl ((n:Int)+1)))
    (h':∀ n:Nat,(l.length≤n∨m≤n)→body (n:Int)=some (.inr (.inl ()))) :
    zAF body 0=some (if (l.take m).any bad then .inr false else .inl ()):=by
  refine zDe body (l.take m) bad (.inr false) (.inl ()) (fun n hn=>?_) ?_
  · have h1:n<l.length:=by rw [List.length_take] at hn; omega
    have h2:n<m:=by rw [List.length_take] at hn; omega
    rw [h n h1 h2,List.getElem_take]
  · exact h' _ (by rw [List.length_take]; omega)
def badF (n:Nat) (f:GField):Bool:=decide (n<f.fName.length)||decide (n<f.fValue.length)
def keepF (l:List GField):Bool:=!((l.take 71).any (badF 300))&&decide (l.length≤70)
theorem zGD (l:List GField):zEf l=some (keepF l):=by
  unfold zEf keepF
  rw [zGZ l 71 (badF 300)]
  · have e:decide ((l.length:Int)≤70)=decide (l.length≤70):=zFB l.length 70
    rw [e]
    cases (l.take 71).any (badF 300) <;> simp
  · intro n hn hm
    have e1:decide ((n:Int)<71)=true:=zAK hm
    have e2:wr ((n:Int)+1)=(n:Int)+1:=by rw [wrs (by omega)]; omega
    simp only [zEk,zAK hn,e1,Bool.and_self,zAC,zAG hn,zAA,e2]
    have e3:decide (300<((l[n].fName.length:Nat):Int))=decide (300<l[n].fName.length):=zJO 300 _
    have e4:decide (300<((l[n].fValue.length:Nat):Int))=decide (300<l[n].fValue.length):=zJO 300 _
    rw [e3,e4]
    unfold badF
    cases decide (300<l[n].fName.length) <;> cases decide (300<l[n].fValue.length) <;> rfl
  · intro n hn
    have:(decide ((n:Int)<(l.length:Int))&&decide ((n:Int)<71))=false:=by
      rcases hn with hn | hn
      · rw [zAH hn]; rfl
      · rw [show decide ((n:Int)<71)=false from zAH hn,Bool.and_false]
    simp only [zEk,this,zAB]
theorem zLJ {l:List GField} (h:keepF l=true):l.length≤70∧∀ f ∈ l,f.fName.length≤300∧f.fValue.length≤300:=by
  unfold keepF at h
  simp only [Bool.and_eq_true,Bool.not_eq_true',decide_eq_true_eq] at h
  refine ⟨h.2,fun f hf=>?_⟩
  rw [List.take_of_length_le (by omega)] at h
  have:=List.any_eq_false.1 h.1 f hf
  simp only [badF,Bool.or_eq_true,decide_eq_true_eq] at this
  omega
def keepS (l:List Str):Bool:=!((l.take 21).any fun s=>decide (100<s.length))&&decide (l.length≤20)
theorem zEN (l:List Str):zC5 l=some (keepS l):=by
  unfold zC5 keepS
  rw [zGZ l 21 (fun s=>decide (100<s.length))]
  · have e:decide ((l.length:Int)≤20)=decide (l.length≤20):=zFB l.length 20
    rw [e]
    cases (l.take 21).any (fun s=>decide (100<s.length)) <;> simp
  · intro n hn hm
    have e1:decide ((n:Int)<21)=true:=zAK hm
    have e2:wr ((n:Int)+1)=(n:Int)+1:=by rw [wrs (by omega)]; omega
    simp only [zET,zAK hn,e1,Bool.and_self,zAC,zAG hn,zAA,e2]
    have e3:decide (100<((l[n].length:Nat):Int))=decide (100<l[n].length):=zJO 100 _
    rw [e3]
    cases decide (100<l[n].length) <;> rfl
  · intro n hn
    have:(decide ((n:Int)<(l.length:Int))&&decide ((n:Int)<21))=false:=by
      rcases hn with hn | hn
      · rw [zAH hn]; rfl
      · rw [show decide ((n:Int)<21)=false from zAH hn,Bool.and_false]
    simp only [zET,this,zAB]
theorem zNu {l:List Str} (h:keepS l=true):l.length≤20∧∀ s ∈ l,s.length≤100:=by
  unfold keepS at h
  simp only [Bool.and_eq_true,Bool.not_eq_true',decide_eq_true_eq] at h
  refine ⟨h.2,fun f hf=>?_⟩
  rw [List.take_of_length_le (by omega)] at h
  have:=List.any_eq_false.1 h.1 f hf
  simp only [decide_eq_true_eq] at this
  omega
end Go.Eng.Pure
namespace Go.Eng.Pure
open Go Go.Eng
set_option linter.unusedVariables false
def hasF (l:List GField) (name:Str):Bool:=decide (0<(getF l name).length)
theorem zPV (l:List GField) (name:Str) (hl:l.length≤1073741824) (hf:∀ f ∈ l,smF f) (hn:name.length≤1073741824):zDB l name=some (hasF l name):=by
  unfold zDB zC6
  rw [zBL _ hn]
  simp only [zAA]
  rw [zMh l _ (fun f=>fold f.fName name) hl (fun f h=>zNV name hn f (hf f h)),zAA]
  unfold hasF getF
  rw [List.length_map]
  exact congrArg some (zJO 0 _)
theorem zR5 (l:List GField) (name:Str) (hl:l.length≤1073741824) (hf:∀ f ∈ l,smF f) (hn:name.length≤1073741824):zIW l name=some (hasF l name):=by
  unfold zIW
  rw [zPl l name hl hf hn,zAA]
  exact congrArg some (zJO 0 _)
theorem zHv (l:List GField) (name:Str):(allM l name).length≤64:=by
  unfold allM; rw [List.length_take]; omega
theorem zID (l:List GField) (name:Str) (B:Nat) (hf:∀ f ∈ l,f.fValue.length≤B):∀ x ∈ allM l name,x.length≤B:=by
  intro x hx
  have h1:=List.mem_of_mem_take hx
  rw [List.mem_flatMap] at h1
  obtain ⟨v,hv,hx⟩:=h1
  exact Nat.le_trans (zN8 v x hx) (zJn l name B hf v hv)
def hd (m:Str):Str:=m.takeWhile tokB
def tl (m:Str):Str:=m.dropWhile tokB
theorem zQb:∀ (n:Nat) (s acc x:Str),s.length≤n→unqL s acc=some x→x.length≤acc.length+s.length:=by
  intro n
  induction n with
  | zero =>
    intro s acc x h hx
    obtain rfl:=List.eq_nil_of_length_eq_zero (Nat.le_zero.1 h)
    cases hx; simp
  | succ n ih =>
    intro s acc x h hx
    match s with
    | []=>cases hx; simp
    | c :: r =>
      unfold unqL at hx
      split at hx
      · cases hx
      · split at hx
        · match r with
          | []=>cases hx
          | d :: r' =>
            have:=ih r' (acc++[d]) x (by simp at h; omega) hx
            rw [List.length_append,List.length_singleton] at this
            simp only [List.length_cons]; omega
        · have:=ih r (acc++[c]) x (by simp at h; omega) hx
          rw [List.length_append,List.length_singleton] at this
          simp only [List.length_cons]; omega
theorem zP8 (s:Str):(unq s).1.length≤s.length:=by
  rcases zHg s with ⟨h,hu⟩ | ⟨a,m,z,rfl,hu⟩
  · rw [hu]; exact Nat.zero_le _
  · rw [hu]
    split
    · unfold unqIn
      split
      · cases hx:unqL m [] with
        | none=>exact Nat.zero_le _
        | some x =>
          have:=zQb m.length m [] x (Nat.le_refl _) hx
          simp at this ⊢; omega
      · exact Nat.zero_le _
    · exact Nat.zero_le _
theorem zM6 {β:Type} (m:List (Str×β)) (k k':Str) (v:β):(mset m k v).lookup k'=if k'==k then some v else m.lookup k':=by
  induction m with
  | nil =>
    simp only [mset,List.lookup]
    cases k'==k <;> rfl
  | cons p r ih =>
    unfold mset
    by_cases h:k=p.1
    · subst h
      rw [beq_self_eq_true,if_pos rfl]
      simp only [List.lookup]
      cases k'==p.1 <;> rfl
    · have h':(k==p.1)=false:=by simpa using h
      rw [h',if_neg (by decide)]
      simp only [List.lookup]
      cases hk:k'==p.1 with
      | true =>
        have e:k'=p.1:=by simpa using hk
        have:(k'==k)=false:=by rw [e]; simp [Ne.symm h]
        rw [this]; rfl
      | false=>exact ih
end Go.Eng.Pure
namespace Go.Eng.Pure
open Go Go.Eng
set_option linter.unusedVariables false
def join (l:List Str):Str:=Lib.join l [44,32]
theorem zGO (x:Str) (r:List Str):join (x :: r)=x++(r.map ([44,32]++·)).flatten:=Lib.join_cons x r [44,32]
theorem zPC (l:List Str) (x:Str):join (l++[x])=(if l=[] then [] else join l++[44,32])++x:=by
  cases l with
  | nil=>simp [zGO]
  | cons y r=>simp [zGO]
theorem zNL (l:List Str) (B:Nat) (h:∀ s ∈ l,s.length≤B):(join l).length≤(B+2)*l.length:=by
  have:∀ r:List Str,(∀ s ∈ r,s.length≤B)→((r.map ([44,32]++·)).flatten).length≤(B+2)*r.length:=by
    intro r
    induction r with
    | nil=>intro _; simp
    | cons y r ih =>
      intro hr
      have h1:=ih fun s hs=>hr s (List.mem_cons_of_mem _ hs)
      have h2:=hr y List.mem_cons_self
      rw [List.map_cons,List.flatten_cons,List.length_append,List.length_cons,Nat.mul_succ]
      have:(([44,32]:Str)++y).length=y.length+2:=by simp
      omega
  cases l with
  | nil=>simp [join,Lib.join_nil]
  | cons x r =>
    have h1:=this r fun s hs=>h s (List.mem_cons_of_mem _ hs)
    have h2:=h x List.mem_cons_self
    rw [zGO,List.length_append,List.length_cons,Nat.mul_succ]
    omega
theorem zPb (l:List Str) (h1:l.length≤1073741824) (h2:(join l).length≤1073741824):zGP l=some (join l):=by
  unfold zGP strings_Join jo
  rw [if_pos ⟨by show (join l).length≤big; simp only [big]; omega,by simp only [big]; omega⟩]; rfl
theorem zRB (l:List Str) (h1:l.length≤1073741824) (h2:(join l).length≤1073741824):zGb l=some (join l):=by
  have hp:∀ n,n≤l.length→(join (l.take n)).length≤(join l).length:=by
    intro n hn
    cases l with
    | nil=>simp
    | cons x r =>
      cases n with
      | zero=>simp [join,Lib.join_nil]
      | succ n =>
        rw [List.take_succ_cons,zGO,zGO,List.map_take]
        rw [List.length_append,List.length_append]
        have:∀ (r:List Str) n,(r.take n).flatten.length≤r.flatten.length:=by
          intro r
          induction r with
          | nil=>intro n; simp
          | cons y r ih =>
            intro n
            cases n with
            | zero=>simp
            | succ n=>have:=ih n; simp only [List.take_succ_cons,List.flatten_cons,List.length_append]; omega
        exact Nat.add_le_add_left (this (r.map ([44,32]++·)) n) _
  have:=zB8 (fun n=>(join (l.take n),(n:Int))) l.length (join l) (zED l) ?_ ?_
  · unfold zGb
    have e:(([]:Str),(0:Int))=(join (l.take 0),((0:Nat):Int)):=by simp [join,Lib.join_nil]
    rw [e,this]; rfl
  · intro n hn
    have h3:=hp n (by omega)
    have h4:=hp (n+1) (by omega)
    have ht:l.take (n+1)=l.take n++[l[n]]:=zAl hn
    have hj:=zPC (l.take n) l[n]
    rw [← ht] at hj
    simp only [zED,zAK hn,zAC,zAG hn,zAA,wrs (show n≤4*1073741824 by omega)]
    by_cases h0:n=0
    · subst h0
      have e1:join (l.take 0)=[]:=by simp [join,Lib.join_nil]
      rw [e1]
      have e2:decide ((0:Int)<((0:Nat):Int))=false:=rfl
      rw [e2,zAB,zAA]
      rw [if_pos (by simp)] at hj
      rw [hj] at h4 ⊢
      rw [zDR (by simp) (by simp at h4; omega)]
      rfl
    · have e2:decide ((0:Int)<(n:Int))=true:=by simp; omega
      have hne:l.take n≠[]:=fun h=>by
        have hl:(l.take n).length=0:=by rw [h]; rfl
        rw [List.length_take] at hl
        omega
      rw [if_neg hne] at hj
      rw [hj,List.length_append,List.length_append] at h4
      rw [e2,zAC,zDR (by omega) (by decide),zAA,zAA,zDR (by rw [List.length_append]; omega) (by omega),zAA,hj]
  · simp only [zED,zAH (Nat.le_refl l.length),zAB,List.take_length]
end Go.Eng.Pure
namespace Go.Eng.Pure
open Go Go.Eng
set_option linter.unusedVariables false
theorem zQv (l:List Str) (h1:l.length≤1073741824) (h2:(join l).length≤1073741824):strings_Join l [44,32]=some (join l):=by
  unfold strings_Join jo
  rw [if_pos ⟨by show (join l).length≤big; simp only [big]; omega,by simp only [big]; omega⟩]; rfl
def kindF (n:Str):Int :=
  if fold n [65,99,99,101,112,116] then 1 else if fold n [65,99,99,101,112,116,45,76,97,110,103,117,97,103,101] then 2
  else if fold n [65,99,99,101,112,116,45,67,104,97,114,115,101,116] then 3 else if fold n [65,99,99,101,112,116,45,69,110,99,111,100,105,110,103] then 4 else 0
theorem zM7 (n:Str) (hn:n.length≤1073741824):zEg n=some (kindF n):=by
  unfold zEg kindF
  simp only [show zBV 1=some [65,99,99,101,112,116] from rfl,show zBV 2=some [65,99,99,101,112,116,45,76,97,110,103,117,97,103,101] from rfl,
    show zBV 3=some [65,99,99,101,112,116,45,67,104,97,114,115,101,116] from rfl,show zBV 4=some [65,99,99,101,112,116,45,69,110,99,111,100,105,110,103] from rfl,zAA]
  rw [zI1 _ _ hn (by decide),zI1 _ _ hn (by decide),zI1 _ _ hn (by decide),zI1 _ _ hn (by decide)]
  simp only [zAA]
  generalize fold n [65,99,99,101,112,116]=a
  generalize fold n [65,99,99,101,112,116,45,76,97,110,103,117,97,103,101]=b
  generalize fold n [65,99,99,101,112,116,45,67,104,97,114,115,101,116]=c
  generalize fold n [65,99,99,101,112,116,45,69,110,99,111,100,105,110,103]=d
  cases a <;> cases b <;> cases c <;> cases d <;> rfl
theorem zK9 (n:Str) (hn:n.length≤1073741824):zFU n=some (kindF n):=by
  unfold zFU kindF
  simp only [show zBf 1=some [65,99,99,101,112,116] from rfl,show zBf 2=some [65,99,99,101,112,116,45,76,97,110,103,117,97,103,101] from rfl,
    show zBf 3=some [65,99,99,101,112,116,45,67,104,97,114,115,101,116] from rfl,show zBf 4=some [65,99,99,101,112,116,45,69,110,99,111,100,105,110,103] from rfl,zAA]
  rw [zEj _ _ hn (by decide),zEj _ _ hn (by decide),zEj _ _ hn (by decide),zEj _ _ hn (by decide)]
  simp only [zAA]
  generalize fold n [65,99,99,101,112,116]=a
  generalize fold n [65,99,99,101,112,116,45,76,97,110,103,117,97,103,101]=b
  generalize fold n [65,99,99,101,112,116,45,67,104,97,114,115,101,116]=c
  generalize fold n [65,99,99,101,112,116,45,69,110,99,111,100,105,110,103]=d
  cases a <;> cases b <;> cases c <;> cases d <;> rfl
def varyV (l:List GField) (n:Str):Str :=
  if (getF l n).length=0 then [] else if (kindF n !=0)&&decide ((allM l n).length<64) then 61 :: lower (join (allM l n)) else 61 :: join (getF l n)
def smL (l:List GField):Prop:=l.length≤70∧∀ f ∈ l,f.fName.length≤300∧f.fValue.length≤300
theorem smL_F {l:List GField} (h:smL l):l.length≤1073741824∧∀ f ∈ l,smF f:=⟨by have:=h.1; omega,fun f hf=>by have:=h.2 f hf; exact ⟨by omega,by omega⟩⟩
theorem zQZ {l:List GField} (h:smL l) (n:Str):(getF l n).length≤70∧(join (getF l n)).length≤30000:=by
  have h1:=zLf l n
  have h2:=zNL (getF l n) 300 (zJn l n 300 fun f hf=>(h.2 f hf).2)
  have h3:=h.1
  exact ⟨by omega,by omega⟩
theorem zK5 {l:List GField} (h:smL l) (n:Str):(allM l n).length≤64∧(join (allM l n)).length≤30000:=by
  have h1:=zHv l n
  have h2:=zNL (allM l n) 300 (zID l n 300 fun f hf=>(h.2 f hf).2)
  exact ⟨h1,by omega⟩
theorem eq61 {s:Str} (h:s.length≤30000):xcat [61] s=some (61 :: s):=by
  rw [zDR (zA1 _) (by omega)]; rfl
theorem zQX (n:Str) (l:List GField) (hl:smL l) (hn:n.length≤1073741824):zHs n l=some (varyV l n):=by
  obtain ⟨h1,h2⟩:=smL_F hl
  obtain ⟨g1,g2⟩:=zQZ hl n
  obtain ⟨a1,a2⟩:=zK5 hl n
  unfold zHs varyV
  rw [zPV l n h1 h2 hn,zKJ l n h1 h2 hn,zM7 n hn,zRE l n h1 h2 hn]
  simp only [zAA]
  rw [zPb _ (by omega) (by omega),zQv _ (by omega) (by omega)]
  simp only [zAA]
  rw [zBL _ (by omega)]
  simp only [zAA]
  rw [eq61 g2,eq61 (by rw [zCG]; exact a2)]
  simp only [zAA]
  rw [show decide (((allM l n).length:Int)<64)=decide ((allM l n).length<64) from zJO _ 64]
  unfold hasF
  by_cases hz:(getF l n).length=0
  · rw [if_pos hz,decide_eq_false (by omega)]; rfl
  · rw [if_neg hz,decide_eq_true (by omega)]
    cases (kindF n !=0)&&decide ((allM l n).length<64) <;> rfl
def snapF (l:List GField) (ns:List Str):List Str:=ns.map (varyV l)
theorem zJ5 (ns:List Str) (l:List GField) (hl:smL l) (hs:ns.length≤1000) (hn:∀ n ∈ ns,n.length≤1073741824):zEH ns l=some (snapF l ns):=by
  have:=zB8 (fun n=>((ns.take n).map (varyV l),(n:Int))) ns.length (ns.map (varyV l)) (zCb ns l) ?_ ?_
  · unfold zEH
    have e:(([]:List Str),(0:Int))=((ns.take 0).map (varyV l),((0:Nat):Int)):=by simp
    rw [e,this]; rfl
  · intro n hn'
    simp only [zCb,zAK hn',zAC,zAG hn',zAA,zQX _ l hl (hn _ (List.getElem_mem hn')),wrs (show n≤4*1073741824 by omega)]
    rw [zAc (by simp; omega) (zA1 _),zAl hn',List.map_append]
    rfl
  · simp only [zCb,zAH (Nat.le_refl ns.length),zAB,List.take_length]
theorem zHZ (a b:List Str) (ha:a.length≤1073741824):zAY a b=some (a==b):=by
  unfold zAY
  rw [neI]
  by_cases hl:a.length=b.length
  · have e:(a.length !=b.length)=false:=by simp [hl]
    rw [e,zAB,zK0 a b (zAv a b) hl]
    · by_cases h:a=b
      · simp [h]
      · simp [h]
    · intro n hn hb
      simp only [zAv,zAK hn,zAC,zAG hn,zAG hb,zAA,wrs (show n≤4*1073741824 by omega)]
      by_cases he:a[n]=b[n]
      · have:(a[n] !=b[n])=false:=by simp [he]
        rw [this,if_pos he]; rfl
      · have:(a[n] !=b[n])=true:=by simp [he]
        rw [this,if_neg he]; rfl
    · simp only [zAv,zAH (Nat.le_refl a.length),zAB]
  · have e:(a.length !=b.length)=true:=by simp [hl]
    have e2:(a==b)=false:=by
      rw [Bool.eq_false_iff]; intro h; exact hl (by rw [eq_of_beq h])
    rw [e,e2]; rfl
theorem zJk (l:List GField) (ns:List Str):(snapF l ns).length=ns.length:=by simp [snapF]
theorem zQo (ns s:List Str) (l:List GField) (hl:smL l) (hs:ns.length≤1000) (hn:∀ n ∈ ns,n.length≤1073741824):zHi ns s l=some (snapF l ns==s):=by
  unfold zHi
  rw [zJ5 ns l hl hs hn,eqI]
  simp only [zAA]
  rw [zHZ _ _ (by rw [zJk]; omega)]
  simp only [zAA]
  by_cases h:ns.length=s.length
  · rw [beq_iff_eq.2 h]; rfl
  · rw [beq_eq_false_iff_ne.2 h]
    have:(snapF l ns==s)=false:=by
      rw [Bool.eq_false_iff]; intro hc; have:=eq_of_beq hc; rw [← this,zJk] at h; exact h rfl
    rw [this]; rfl
def zSS (l:List GField) (n:Str):List GField:=l.filter fun f=>!fold f.fName n
end Go.Eng.Pure
namespace Go.Eng.Pure
open Go Go.Eng
set_option linter.unusedVariables false
theorem zPN {a b c:Str} (h:a≤b) (h':b≤c):a≤c:=List.le_trans h h'
theorem zMQ {a b:Str} (h:a≤b) (hn:a≠b):a<b:=by
  by_cases hl:a<b
  · exact hl
  · exact absurd (List.le_antisymm h (List.not_lt.1 hl)) hn
theorem zQO (a:Str):a≤a:=List.not_lt.1 (List.lt_irrefl a)
abbrev Asc (l:List Str):Prop:=l.Pairwise (·<·)
theorem zRS (d:Array Str) (hs:d.toList.Pairwise (·≤·)):∀ m,m≤d.size→Asc (Lib.compactUpTo d m)∧(∀ x ∈ Lib.compactUpTo d m,∃ i,∃ h:i<d.size,i<m∧x=d[i])∧∀ i,∀ h:i<d.size,i<m→d[i] ∈ Lib.compactUpTo d m
  | 0,_=>⟨by simp [Lib.compactUpTo],by simp [Lib.compactUpTo],by intro i _ h; omega⟩
  | m+1,hm=>by
    obtain ⟨i1,i2,i3⟩:=zRS d hs m (by omega)
    have hmd:m<d.size:=by omega
    have le:∀ i j,∀ (hi:i<d.size) (hj:j<d.size),i≤j→d[i]≤d[j]:=by
      intro i j hi hj hij
      by_cases h:i=j
      · subst h; exact zQO _
      · have:=List.pairwise_iff_getElem.1 hs i j (by simpa using hi) (by simpa using hj) (by omega)
        simpa using this
    rw [Lib.compactUpTo_succ]
    have e1:d[m]! = d[m]:=getElem!_pos d m hmd
    by_cases hk:Lib.keeps d m=true
    · rw [if_pos hk,e1]
      refine ⟨?_,?_,?_⟩
      · rw [Asc,List.pairwise_append]
        refine ⟨i1,by simp,fun x hx y hy=>?_⟩
        rw [List.mem_singleton.1 hy]
        obtain ⟨i,hi,him,rfl⟩:=i2 x hx
        have hm0:m≠0:=by omega
        have hne:d[m]≠d[m - 1]'(by omega):=by
          unfold Lib.keeps at hk
          have:=of_decide_eq_true hk
          rcases this with h | h
          · exact absurd h hm0
          · rw [e1,getElem!_pos d (m - 1) (by omega)] at h; exact h
        have h1:d[m - 1]'(by omega)<d[m]:=zMQ (le _ _ _ _ (by omega)) (Ne.symm hne)
        exact List.lt_of_le_of_lt (le i (m - 1) hi (by omega) (by omega)) h1
      · intro x hx
        rcases List.mem_append.1 hx with hx | hx
        · obtain ⟨i,hi,him,rfl⟩:=i2 x hx
          exact ⟨i,hi,by omega,rfl⟩
        · exact ⟨m,hmd,by omega,List.mem_singleton.1 hx⟩
      · intro i hi him
        by_cases h:i=m
        · subst h; simp
        · exact List.mem_append_left _ (i3 i hi (by omega))
    · rw [if_neg hk,List.append_nil]
      have hk2:¬ (m=0∨d[m]!≠d[m - 1]!):=by
        intro h; exact hk (by unfold Lib.keeps; exact decide_eq_true h)
      have hm0:m≠0:=fun h=>hk2 (.inl h)
      have he:d[m]=d[m - 1]'(by omega):=by
        have:=Decidable.not_not.1 fun h=>hk2 (.inr h)
        rw [e1,getElem!_pos d (m - 1) (by omega)] at this; exact this
      refine ⟨i1,fun x hx=>?_,fun i hi him=>?_⟩
      · obtain ⟨i,hi,him,rfl⟩:=i2 x hx
        exact ⟨i,hi,by omega,rfl⟩
      · by_cases h:i=m
        · subst h; rw [he]; exact i3 _ _ (by omega)
        · exact i3 i hi (by omega)
theorem zOt (l:List Str):(sortS l).Pairwise (·≤·):=by
  have:=List.pairwise_mergeSort (le:=fun (x y:Str)=>decide (x≤y)) (fun a b c h h'=>by
    have h:=of_decide_eq_true h; have h':=of_decide_eq_true h'
    exact decide_eq_true (zPN h h')) (fun a b=>by
    rcases List.le_total a b with h | h
    · simp [h]
    · simp [h]) l
  exact this.imp fun h=>of_decide_eq_true h
theorem zKm (l:List Str):Asc (Lib.compact (sortS l))∧∀ x,x ∈ Lib.compact (sortS l)↔x ∈ l:=by
  obtain ⟨h1,h2,h3⟩:=zRS (sortS l).toArray (by simpa using zOt l) (sortS l).length (by simp)
  refine ⟨h1,fun x=>?_⟩
  have hm:x ∈ sortS l↔x ∈ l:=List.mem_mergeSort
  rw [← hm]
  constructor
  · intro hx
    obtain ⟨i,hi,_,rfl⟩:=h2 x hx
    simp
  · intro hx
    obtain ⟨i,hi,rfl⟩:=List.mem_iff_getElem.1 hx
    have:=h3 i (by simpa using hi) hi
    show _ ∈ Lib.compactUpTo (sortS l).toArray (sortS l).length
    simpa using this
def badN (m:Str):Bool:=!tok m||m==[42]
theorem zKh (l:List Str) (hl:l.length≤64) (hm:∀ m ∈ l,m.length≤1000):∀ (k i:Nat) (out:List Str),i+k=l.length→out.length≤i→zAF (zCP l) (out,(i:Int))=some (if (l.drop i).any badN then .inr ([],false) else .inl (out++(l.drop i).map lower))
  | 0,i,out,hi,ho=>by
    obtain rfl:i=l.length:=by omega
    have hb:zCP l (out,(l.length:Int))=some (.inr (.inl out)):=by
      simp only [zCP,zAH (Nat.le_refl l.length),zAB]
    rw [zAE hb]; simp
  | k+1,i,out,hi,ho=>by
    have hlt:i<l.length:=by omega
    have hmi:=hm _ (List.getElem_mem hlt)
    have hb:zCP l (out,(i:Int))=some (if badN l[i] then .inr (.inr ([],false)) else .inl (out++[lower l[i]],((i+1:Nat):Int))):=by
      simp only [zCP,zAK hlt,zAC,zAG hlt,zAA,zCk _ (show l[i].length≤1073741824 by omega),zBL _ (show l[i].length≤1073741824 by omega),wrs (show i≤4*1073741824 by omega)]
      rw [zAc (by omega) (zA1 _)]
      unfold badN
      cases (!tok l[i]||l[i]==[42]) <;> rfl
    rw [List.drop_eq_getElem_cons hlt,List.any_cons,List.map_cons]
    cases hbad:badN l[i] with
    | true =>
      rw [hbad] at hb
      rw [zAE hb]; rfl
    | false =>
      rw [hbad] at hb
      rw [zAI hb,zKh l hl hm k (i+1) _ (by omega) (by simp; omega)]
      simp
def varyN:Str:=[86,97,114,121]
def zHh (l:List GField):List Str×Bool :=
  if 64≤(allM l varyN).length∨(allM l varyN).any badN=true then ([],false) else (Lib.compact (sortS ((allM l varyN).map lower)),true)
theorem zNB {l:List GField} (h:smL l):(allM l varyN).length≤64∧∀ m ∈ allM l varyN,m.length≤300 :=
  ⟨zHv l _,zID l _ 300 fun f hf=>(h.2 f hf).2⟩
theorem zQ8 (l:List GField) (hl:smL l):zHu l=some (zHh l):=by
  obtain ⟨h1,h2⟩:=smL_F hl
  obtain ⟨a1,a2⟩:=zNB hl
  unfold zHu zHh
  rw [zKJ l _ h1 h2 (by decide),zAA]
  unfold varyN at a1 a2 ⊢
  generalize allM l [86,97,114,121]=ms at a1 a2 ⊢
  rw [show decide ((64:Int)≤(ms.length:Int))=decide (64≤ms.length) from zFB 64 _]
  by_cases hc:64≤ms.length
  · rw [decide_eq_true hc,if_pos (.inl hc)]; rfl
  · have:=zKh ms a1 (fun m h=>by have:=a2 m h; omega) ms.length 0 [] (by omega) (by simp)
    rw [decide_eq_false hc,zAB,show (0:Int)=((0:Nat):Int) from rfl,this,zAA,List.drop_zero]
    cases hb:ms.any badN with
    | true=>simp
    | false =>
      have hlen:(ms.map lower).length≤big:=by simp only [List.length_map,big]; omega
      simp only [Bool.false_eq_true,if_false,slices_Sort_string,slices_Compact_string,if_pos hlen,zAA,hc,or_self,List.nil_append]
theorem zOJ {l:List GField} (h:smL l):(zHh l).1.length≤64:=by
  unfold zHh
  split
  · simp
  · have h1:=zJm (sortS ((allM l varyN).map lower))
    have h2:=(zNB h).1
    rw [zGY,List.length_map] at h1
    show (Lib.compact _).length≤64
    omega
end Go.Eng.Pure
namespace Go.Eng.Pure
open Go Go.Eng
set_option linter.unusedVariables false
def fin (a:UInt8):Nat→Str→Str→List Str×Nat×Str
  | st,cur,[]=>([],st,cur)
  | st,cur,c :: r=>if st=0∧c=a then (cur :: (fin a 0 [] r).1,(fin a 0 [] r).2) else fin a (step st c) (cur++[c]) r
theorem zO3 (a b:Str):fold a b=fold b a:=by
  unfold fold
  rw [Bool.eq_iff_iff]
  simp only [Bool.and_eq_true,beq_iff_eq]
  exact ⟨fun h=>⟨h.1.symm,h.2.symm⟩,fun h=>⟨h.1.symm,h.2.symm⟩⟩
end Go.Eng.Pure
namespace Go.Eng.Pure
open Go Go.Eng
set_option linter.unusedVariables false
theorem zRs {n:Nat} (h:0<n) (hn:n≤1073741824):wr ((n:Int) - 1)=((n - 1:Nat):Int):=by
  rw [show (n:Int) - 1=((n - 1:Nat):Int) by omega]
  exact wrn (by omega)
end Go.Eng.Pure
namespace Go.Eng.Pure
open Go Go.Eng
set_option linter.unusedVariables false
section
set_option linter.unusedSectionVars false
variable (s:Str) (hs:s.all isD=true) (hne:s≠[])
include hs hne
end
def quote (s:Str):Str:=34 :: (s.flatMap (fun c=>if c=34∨c=92 then [92,c] else [c])++[34])
theorem zP1 (t:Str):(t.flatMap (fun c=>if c=34∨c=92 then [92,c] else [c])).length≤2*t.length:=by
  induction t with
  | nil=>exact Nat.le_refl _
  | cons c t ih =>
    have e:(if c=34∨c=92 then [92,c] else [c]).length≤2:=by split <;> simp
    rw [List.flatMap_cons,List.length_append,List.length_cons]
    omega
theorem zNn (s:Str) (hs:s.length≤1073741824):zFj s=some (quote s):=by
  have hfl:=zP1
  have:=zB8 (fun n=>(34 :: (s.take n).flatMap (fun c=>if c=34∨c=92 then [92,c] else [c]),(n:Int))) s.length (34 :: s.flatMap (fun c=>if c=34∨c=92 then [92,c] else [c])) (zDX s) ?_ ?_
  · unfold zFj quote
    have e:(([34]:Str),(0:Int))=(34 :: (s.take 0).flatMap (fun c=>if c=34∨c=92 then [92,c] else [c]),((0:Nat):Int)):=by simp
    have hl:=hfl s
    rw [e,this,zAA,zAc (by simp only [List.length_cons]; omega) (zA1 _)]; rfl
  · intro n hn
    have hl:=hfl (s.take n)
    have ht:(s.take n).length≤n:=by rw [List.length_take]; omega
    have hcond:(bif s[n]==34 then some true else some (s[n]==92))=some (decide (s[n]=34∨s[n]=92)):=by
      by_cases h1:s[n]=34
      · simp [h1]
      · have h1':(s[n]==34)=false:=by simpa using h1
        by_cases h2:s[n]=92
        · simp [h2]
        · simp [h1,h2,h1']
    simp only [zDX,zAK hn,zAC,zAG hn,zAA]
    rw [hcond,zAA,zAl hn,List.flatMap_append,wrs (by omega)]
    by_cases hc:s[n]=34∨s[n]=92
    · rw [decide_eq_true hc,zAC,zAc (by simp only [List.length_cons]; omega) (zA1 _),zAA,zAA,zAc (by simp only [List.length_cons,List.length_append,List.length_nil]; omega) (zA1 _),zAA]
      simp [hc]
    · rw [decide_eq_false hc,zAB,zAA,zAc (by simp only [List.length_cons]; omega) (zA1 _),zAA]
      simp [hc]
  · simp only [zDX,zAH (Nat.le_refl s.length),zAB,List.take_length]
theorem zLr (s:Str):(quote s).length≤2*s.length+2:=by
  unfold quote
  rw [List.length_cons,List.length_append,List.length_singleton]
  have:=zP1 s
  omega
end Go.Eng.Pure
namespace Go.Eng.Pure
open Go Go.Eng
set_option linter.unusedVariables false
def shape (s:Str):Bool:=s.length==29&&((s.take 5).drop 3==[44,32]&&(s.getD 7 0==32&&(s.getD 11 0==32&&(s.getD 16 0==32&&(s.getD 19 0==58&&(s.getD 22 0==58&&s.drop 25==[32,71,77,84]))))))
end Go.Eng.Pure
namespace Go.Eng.Pure.Etag
open Go Go.Eng Go.Eng.Pure
def zSR (c:UInt8):Bool:=(decide (c<33)||c==34)||c==127
def tagOK (s:Str):Bool:=!s.any zSR
def inner (t:Str):Option Str :=
  match t with
  | a :: r=>if a=34∧r≠[]∧r.getLast?=some 34∧tagOK r.dropLast then some r.dropLast else none
  | []=>none
def tagOf (weak:Bool) (t:Str):GETag×Bool:=match inner t with | some x=>(⟨weak,x⟩,true) | none=>(⟨false,[]⟩,false)
def pre:Str:=[87,47]
def zIt (s:Str):GETag×Bool:=if pre.isPrefixOf s then tagOf true (s.drop 2) else tagOf false s
theorem zKA (p s:Str):p.isPrefixOf s=(decide (p.length≤s.length)&&s.take p.length==p):=by
  induction p generalizing s with
  | nil=>simp
  | cons a p ih =>
    cases s with
    | nil=>simp
    | cons b s =>
      simp only [List.isPrefixOf,List.length_cons,List.take_succ_cons,Nat.add_le_add_iff_right]
      rw [ih]
      by_cases h:a=b
      · subst h; simp
      · have e1:(a==b)=false:=by simpa using h
        have e2:(b==a)=false:=by simpa using fun e=>h e.symm
        simp [e1,e2]
theorem HasPrefix_eq (s p:Str):zBt s p=some (p.isPrefixOf s):=by
  unfold zBt
  rw [zKA]
  by_cases h:p.length≤s.length
  · have h1:decide ((p.length:Int)≤(s.length:Int))=true:=by simpa using h
    rw [h1,zAC]
    have:=zGx (l:=s) (i:=0) (j:=p.length) ⟨by omega,h⟩
    rw [show ((0:Nat):Int)=0 from rfl] at this
    rw [this]
    simp [h]
  · have h1:decide ((p.length:Int)≤(s.length:Int))=false:=by simpa using h
    rw [h1,zAB]
    simp [h]
end Go.Eng.Pure.Etag
namespace Go.Eng.Pure.Etag
open Go Go.Eng Go.Eng.Pure
set_option linter.unusedVariables false
def zMl (out:List GETag) (m:Str):List GETag ⊕ (List GETag ⊕ (List GETag×Bool×Bool)):=if (zIt m).2 then .inl (out++[(zIt m).1]) else .inr (.inr ([],false,false))
def zSD (l:List Str):List GETag ⊕ (List GETag×Bool×Bool):=run zMl .inl l []
theorem zKK (m : List Str) (hm : m.length ≤ 64) (hs : ∀ x ∈ m, x.length ≤ 1073741824) (parse : Str → Option (GETag × Bool)) (hp : ∀ x : Str, x.length ≤ 1073741824 → parse x = some (zIt x)) (body : (List GETag × Int) → Option ((List GETag × Int) ⊕ (List GETag ⊕ (List GETag × Bool × Bool))))
    (hb:∀ o i,body (o,i)=(bif decide (i<(m.length:Int)) then (xnth m i).bind fun x=>(parse x).bind fun r=>(bif !r.2 then some (.inr (.inr (([]:List GETag),false,false))) else (xapp o ([r.1]:List GETag)).bind fun l=>some (.inl (l,wr (i+1)))) else some (.inr (.inl o)))) :
    zAF body ([],0)=some (zSD m):=by
  refine zHt (fun (o:List GETag) (i:Int)=>(o,i)) m zMl .inl body (fun n o=>o.length≤n) [] (Nat.le_refl _) (fun n hn o ho=>?_) (fun o _=>?_)
  · have h1:=hs _ (List.getElem_mem hn)
    rw [hb,zAK hn,zAC,zAG hn,zAA,hp _ h1,zAA,zAc (by omega) (zA1 _),zAA,wrs (by omega)]
    unfold zMl
    cases hpp:(zIt m[n]).2 with
    | true=>exact ⟨rfl,fun st' h=>by simp at h; subst h; rw [List.length_append,List.length_singleton]; omega⟩
    | false=>exact ⟨rfl,fun st' h=>by simp at h⟩
  · rw [hb,zAH (Nat.le_refl m.length),zAB]
theorem zID (l:List GField) (name:Str) (hf:∀ f ∈ l,smF f):∀ x ∈ allM l name,x.length≤1073741824:=by
  intro x hx
  have h1:=List.mem_of_mem_take hx
  rw [List.mem_flatMap] at h1
  obtain ⟨v,hv,hx⟩:=h1
  exact Nat.le_trans (zN8 v x hx) (zJn l name 1073741824 (fun f h=>(hf f h).2) v hv)
theorem Index_eq (s:Str) (c:UInt8) (hs:s.length≤1073741824):∀ (k n:Nat),n+k=s.length→zDu s c (n:Int)=some (if c ∈ s.drop n then ((n+(s.drop n).idxOf c:Nat):Int) else -1):=by
  have key:∀ (k n:Nat),n+k=s.length→zAF (zB9 s c) (n:Int)=some (if c ∈ s.drop n then .inr ((n+(s.drop n).idxOf c:Nat):Int) else .inl ()):=by
    intro k
    induction k with
    | zero =>
      intro n hn
      obtain rfl:n=s.length:=by omega
      rw [List.drop_length]
      refine (zAE (r:=.inl ()) ?_).trans (by simp)
      simp only [zB9,zAH (Nat.le_refl s.length),zAB]
    | succ k ih =>
      intro n hn
      have hlt:n<s.length:=by omega
      rw [List.drop_eq_getElem_cons hlt]
      by_cases hc:s[n]=c
      · rw [zAE (r:=.inr (n:Int))]
        · simp [hc]
        · simp only [zB9,zAK hlt,zAC,zAG hlt,zAA,hc,beq_self_eq_true]
      · have hb : zB9 s c (n : Int) = some (.inl ((n + 1 : Nat) : Int)) := by
          have:(s[n]==c)=false:=by simpa using hc
          simp only [zB9,zAK hlt,zAG hlt,zAC,zAA,this,zAB,wrs (show n≤4*1073741824 by omega)]
        rw [zAI hb,ih (n+1) (by omega)]
        have e1:(c ∈ s[n] :: s.drop (n+1))↔c ∈ s.drop (n+1):=by
          rw [List.mem_cons]; exact ⟨fun h=>h.resolve_left (fun h=>hc h.symm),.inr⟩
        by_cases hm:c ∈ s.drop (n+1)
        · have e2:(s[n]==c)=false:=by simpa using hc
          rw [if_pos hm,if_pos (e1.2 hm),List.idxOf_cons,e2,zAB]
          congr 3; omega
        · rw [if_neg hm,if_neg (fun h=>hm (e1.1 h))]
  intro k n hn
  unfold zDu
  rw [key k n hn,zAA]
  by_cases hm:c ∈ s.drop n
  · rw [if_pos hm,if_pos hm]
  · rw [if_neg hm,if_neg hm]
end Go.Eng.Pure.Etag
namespace Go.Eng.Pure
end Go.Eng.Pure
namespace Go.Eng.Pure
open Go Go.Eng
set_option linter.unusedVariables false
def keepQ (q:GRequest):Bool:=((decide (q.fMethod.length≤100)&&decide (q.fTarget.length≤2100))&&keepF q.fFields)&&decide (q.fBody.length≤2000)
def keepR (r:GResponse):Bool:=(decide (r.fReason.length≤2100)&&keepF r.fFields)&&decide (r.fBody.length≤2000)
theorem zJ0 (q:GRequest):zF1 q=some (keepQ q):=by
  unfold zF1 keepQ
  rw [zGD,zAA,show ((100:Int))=((100:Nat):Int) from rfl,show ((2100:Int))=((2100:Nat):Int) from rfl,show ((2000:Int))=((2000:Nat):Int) from rfl,zFB,zFB,zFB]
  cases decide (q.fMethod.length≤100)&&decide (q.fTarget.length≤2100) <;> rfl
theorem zJT (r:GResponse):zFR r=some (keepR r):=by
  unfold zFR keepR
  rw [zGD,zAA,show ((2100:Int))=((2100:Nat):Int) from rfl,show ((2000:Int))=((2000:Nat):Int) from rfl,zFB,zFB]
  cases decide (r.fReason.length≤2100) <;> rfl
end Go.Eng.Pure
