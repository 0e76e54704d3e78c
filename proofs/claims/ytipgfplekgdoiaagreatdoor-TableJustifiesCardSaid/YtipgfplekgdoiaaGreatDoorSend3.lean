/- A part of the proof of laws of the seat. -/
import Derived.Test.YtipgfplekgdoiaaGreatDoorListP
import Derived.Sort.Walk0
import Derived.Lib.ItoaNum
set_option linter.unusedVariables false
namespace Go.Eng.Pure
open Go Go.Eng
set_option linter.unusedVariables false
theorem zLP (p:UInt8→Bool) (h:(List.range 256).all (fun n=>p (UInt8.ofNat n))=true) (c:UInt8):p c=true:=by
  have h1:=List.all_eq_true.1 h c.toNat (List.mem_range.2 c.toNat_lt)
  rwa [UInt8.ofNat_toNat] at h1
def signs:Str:=[33,35,36,37,38,39,42,43,45,46,94,95,96,124,126]
def tokB (c:UInt8):Bool:=(((decide (97≤c))&&(decide (c≤122)))||((decide (65≤c))&&(decide (c≤90))))||((decide (48≤c))&&(decide (c≤57)))||signs.contains c
def tok (s:Str):Bool:=s.all tokB&&s !=[]
def txtB (c:UInt8):Bool:=((c==9)||((decide (32≤c))&&(decide (c≤126))))||(decide (128≤c))
def txt (s:Str):Bool:=s.all txtB
theorem zPo (c:UInt8):zG0 c=some (tokB c):=by
  have:=zLP (fun c=>decide (zG0 c=some (tokB c))) (by decide +kernel) c
  simpa using this
theorem zF3 (l : Str) (hl : l.length ≤ 1073741824) (bad : UInt8 → Bool) (body : Int → Option (Int ⊕ (Unit ⊕ Bool))) (r : Bool)
    (h:∀ (n:Nat) (hn:n<l.length),body (n:Int)=some (if bad l[n]=true then .inr (.inr r) else .inl (wr ((n:Int)+1)))) (h':body (l.length:Int)=some (.inr (.inl ()))) :
    zAF body 0=some (if l.any bad then .inr r else .inl ()):=by
  refine zCY body l bad (.inr r) (.inl ()) (fun n hn=>?_) h'
  have e2:wr ((n:Int)+1)=(n:Int)+1:=by rw [wrs (by omega)]; omega
  rw [h n hn,e2]
theorem zKs (c:UInt8):zDq c=some (tokB c):=by
  unfold zDq tokB
  rw [zF3 signs (by decide) (fun x=>x==c) (zCT c) true]
  · have : signs.contains c = signs.any (fun x => x == c) := by
      rw [List.contains_eq_any_beq]
      congr 1; funext x
      rw [Bool.eq_iff_iff]; simp only [beq_iff_eq]; exact ⟨fun h=>h.symm,fun h=>h.symm⟩
    rw [this]
    cases ((((decide (97≤c))&&(decide (c≤122)))||((decide (65≤c))&&(decide (c≤90))))||((decide (48≤c))&&(decide (c≤57)))) with
    | true=>rfl
    | false=>cases signs.any (fun x=>x==c) <;> rfl
  · intro n hn
    have e1:decide ((n:Int)<15)=true:=zAK hn
    have e2:xnth ([33,35,36,37,38,39,42,43,45,46,94,95,96,124,126]:Str) (n:Int)=some signs[n]:=zAG hn
    simp only [zCT,e1,zAC,e2,zAA]
    cases signs[n]==c <;> rfl
  · rfl
theorem zIE (l:Str) (p:UInt8→Bool):l.any (fun c=>!p c)=!l.all p:=by
  induction l with
  | nil=>rfl
  | cons a l ih=>rw [List.any_cons,List.all_cons,ih,Bool.not_and]
theorem zDS (s:Str) (hs:s.length≤1073741824):zA1 s=some (tok s):=by
  unfold zA1 tok
  rw [zF3 s hs (fun c=>!tokB c) (zDO s) false]
  · rw [zIE]; cases s.all tokB <;> rfl
  · intro n hn
    simp only [zDO,zAK hn,zAC,zAG hn,zAA,zPo]
    cases tokB s[n] <;> rfl
  · simp only [zDO,zAI (Nat.le_refl s.length),zAB]
theorem zCj (s:Str) (hs:s.length≤1073741824):zA0 s=some (tok s):=by
  unfold zA0 tok
  rw [zF3 s hs (fun c=>!tokB c) (zDB s) false]
  · rw [zIE]; cases s.all tokB <;> rfl
  · intro n hn
    simp only [zDB,zAK hn,zAC,zAG hn,zAA,zKs]
    cases tokB s[n] <;> rfl
  · simp only [zDB,zAI (Nat.le_refl s.length),zAB]
theorem zHf (c:UInt8):zEK c=some (txtB c):=rfl
theorem zPy (c:UInt8):((bif decide (c<32) then some (c !=9) else some false).bind fun b17=>(bif b17 then some true else some (c==127)))=some (!txtB c):=by
  have:=zLP (fun c=>decide (((bif decide (c<32) then some (c !=9) else some false).bind fun b17=>(bif b17 then some true else some (c==127)))=some (!txtB c))) (by decide +kernel) c
  simpa using this
theorem zN5 (s:Str) (hs:s.length≤1073741824):zF6 s=some (txt s):=by
  unfold zF6 txt
  rw [zF3 s hs (fun c=>!txtB c) (zDo s) false]
  · rw [zIE]; cases s.all txtB <;> rfl
  · intro n hn
    have e:=zPy s[n]
    have e':((bif decide (s[n]<32) then some (s[n] !=9) else some false).bind fun b17=>(bif b17 then some true else some (s[n]==127)).bind fun b21=>(bif b21 then some (.inr (.inr false)) else some (.inl (wr ((n:Int)+1))):Option (Int ⊕ (Unit ⊕ Bool))))=(some (!txtB s[n])).bind fun b21=>(bif b21 then some (.inr (.inr false)) else some (.inl (wr ((n:Int)+1)))):=by
      rw [← e,Option.bind_assoc]
    simp only [zDo,zAK hn,zAC,zAG hn,zAA]
    rw [e',zAA]
    cases txtB s[n] <;> rfl
  · simp only [zDo,zAI (Nat.le_refl s.length),zAB]
theorem zOz (s:Str) (hs:s.length≤1073741824):zHA s=some (txt s):=by
  unfold zHA txt
  rw [zF3 s hs (fun c=>!txtB c) (zDi s) false]
  · rw [zIE]; cases s.all txtB <;> rfl
  · intro n hn
    simp only [zDi,zAK hn,zAC,zAG hn,zAA,zHf]
    cases txtB s[n] <;> rfl
  · simp only [zDi,zAI (Nat.le_refl s.length),zAB]
def isD (c:UInt8):Bool:=(decide (48≤c))&&(decide (c≤57))
def cap (n:Int):Int:=if 2147483647<n then 2147483647 else n
theorem zNm (c:UInt8):zEB c=some (isD c):=rfl
def unqL:Str→Str→Option Str
  | [],acc=>some acc
  | c :: r,acc=>if c=34 then none else if c=92 then (match r with | []=>none | d :: r'=>unqL r' (acc++[d])) else unqL r (acc++[c])
def unqIn (s:Str):Str×Bool:=if txt s then (match unqL s [] with | some x=>(x,true) | none=>([],false)) else ([],false)
def unq (s:Str):Str×Bool :=
  match s with
  | a :: r=>if a=34∧r≠[]∧r.getLast?=some 34 then unqIn r.dropLast else ([],false)
  | []=>([],false)
def unqO:Option Str→(List UInt8) ⊕ (Str×Bool) | some x=>.inl x | none=>.inr ([],false)
theorem zOS (s:Str) (hs:s.length≤1073741824):∀ (k i:Nat) (out:Str),s.length≤i+k→i≤s.length→out.length≤i→zAF (zAh s) (out,(i:Int))=some (unqO (unqL (s.drop i) out)):=by
  intro k
  induction k with
  | zero =>
    intro i out hk hi ho
    obtain rfl:i=s.length:=by omega
    rw [List.drop_length]
    refine zAE ?_
    simp only [zAh,zAI (Nat.le_refl s.length),zAB]; rfl
  | succ k ih =>
    intro i out hk hi ho
    by_cases hlt:i<s.length
    · have e2:wr ((i:Int)+1)=((i+1:Nat):Int):=wrs (by omega)
      rw [List.drop_eq_getElem_cons hlt]
      have ex:=zAG hlt
      generalize s[i]=c at ex
      unfold unqL
      by_cases h34:c=34
      · subst h34
        rw [if_pos rfl]
        refine zAE ?_
        simp only [zAh,zAK hlt,zAC,ex,zAA]; rfl
      · have h34':(c==34)=false:=by simpa using h34
        rw [if_neg h34]
        by_cases h92:c=92
        · subst h92
          rw [if_pos rfl]
          by_cases hl2:i+1<s.length
          · rw [List.drop_eq_getElem_cons hl2]
            have e3:(((i+1:Nat):Int)==(s.length:Int))=false:=by rw [eqI]; simp; omega
            have e4:wr (((i+1:Nat):Int)+1)=((i+1+1:Nat):Int):=wrs (by omega)
            have hb:zAh s (out,(i:Int))=some (.inl (out++[s[i+1]],((i+1+1:Nat):Int))):=by
              simp only [zAh,zAK hlt,zAC,ex,zAA,h34',zAB,beq_self_eq_true,e2,e3,zAG hl2]
              rw [zAj (by omega) (zA5 _),zAA,e4]
            rw [zAJ hb,ih (i+1+1) _ (by omega) (by omega) (by rw [List.length_append,List.length_singleton]; omega)]
          · have e3:(((i+1:Nat):Int)==(s.length:Int))=true:=by rw [eqI]; simp; omega
            rw [List.drop_eq_nil_of_le (by omega)]
            refine zAE ?_
            simp only [zAh,zAK hlt,zAC,ex,zAA,h34',zAB,beq_self_eq_true,e2,e3]; rfl
        · have h92':(c==92)=false:=by simpa using h92
          rw [if_neg h92]
          have hb:zAh s (out,(i:Int))=some (.inl (out++[c],((i+1:Nat):Int))):=by
            simp only [zAh,zAK hlt,zAC,ex,zAA,h34',zAB,h92',e2]
            rw [zAj (by omega) (zA5 _),zAA]
          rw [zAJ hb,ih (i+1) _ (by omega) (by omega) (by rw [List.length_append,List.length_singleton]; omega)]
    · obtain rfl:i=s.length:=by omega
      rw [List.drop_length]
      refine zAE ?_
      simp only [zAh,zAI (Nat.le_refl s.length),zAB]; rfl
def unqT:Str→Str→Option Str
  | [],acc=>some acc
  | c :: r,acc=>if c=34 then none else if c=92 then (match r with | []=>none | d :: r'=>if txtB d then unqT r' (acc++[d]) else none) else if txtB c then unqT r (acc++[c]) else none
theorem zPW:∀ (n:Nat) (s acc:Str),s.length≤n→unqT s acc=if txt s then unqL s acc else none:=by
  intro n
  induction n with
  | zero =>
    intro s acc h
    obtain rfl:=List.eq_nil_of_length_eq_zero (Nat.le_zero.1 h)
    rfl
  | succ n ih =>
    intro s acc h
    match s with
    | []=>rfl
    | c :: r =>
      unfold unqT unqL txt
      rw [List.all_cons]
      by_cases h34:c=34
      · rw [if_pos h34,if_pos h34]; split <;> rfl
      · rw [if_neg h34,if_neg h34]
        by_cases h92:c=92
        · subst h92
          rw [if_pos rfl,if_pos rfl,show txtB 92=true from rfl,Bool.true_and]
          match r with
          | []=>rfl
          | d :: r' =>
            rw [List.all_cons]
            show (if txtB d then unqT r' (acc++[d]) else none)=_
            have:=ih r' (acc++[d]) (by simp at h; omega)
            rw [this]
            cases txtB d
            · rfl
            · simp [txt]
        · rw [if_neg h92,if_neg h92]
          have:=ih r (acc++[c]) (by simp at h; omega)
          rw [this]
          cases txtB c
          · rfl
          · simp [txt]
theorem zNG (s:Str) (hs:s.length≤1073741824):∀ (k i:Nat) (out:Str),s.length≤i+k→i≤s.length→out.length≤i→zAF (zAi s) (out,(i:Int))=some (unqO (unqT (s.drop i) out)):=by
  intro k
  induction k with
  | zero =>
    intro i out hk hi ho
    obtain rfl:i=s.length:=by omega
    rw [List.drop_length]
    refine zAE ?_
    simp only [zAi,zAI (Nat.le_refl s.length),zAB]; rfl
  | succ k ih =>
    intro i out hk hi ho
    by_cases hlt:i<s.length
    · have e2:wr ((i:Int)+1)=((i+1:Nat):Int):=wrs (by omega)
      rw [List.drop_eq_getElem_cons hlt]
      have ex:=zAG hlt
      generalize s[i]=c at ex
      unfold unqT
      by_cases h34:c=34
      · subst h34
        rw [if_pos rfl]
        refine zAE ?_
        simp only [zAi,zAK hlt,zAC,ex,zAA]; rfl
      · have h34':(c==34)=false:=by simpa using h34
        rw [if_neg h34]
        by_cases h92:c=92
        · subst h92
          rw [if_pos rfl]
          by_cases hl2:i+1<s.length
          · rw [List.drop_eq_getElem_cons hl2]
            have e3:(((i+1:Nat):Int)==(s.length:Int))=false:=by rw [eqI]; simp; omega
            have e4:wr (((i+1:Nat):Int)+1)=((i+1+1:Nat):Int):=wrs (by omega)
            have hb:zAi s (out,(i:Int))=some (if txtB s[i+1] then .inl (out++[s[i+1]],((i+1+1:Nat):Int)) else .inr (.inr ([],false))):=by
              simp only [zAi,zAK hlt,zAC,ex,zAA,h34',zAB,beq_self_eq_true,e2,e3,zAG hl2,zHf]
              rw [zAj (by omega) (zA5 _),zAA,e4]
              cases txtB s[i+1] <;> rfl
            cases ht:txtB s[i+1] with
            | true =>
              rw [ht,if_pos rfl] at hb
              rw [zAJ hb,ih (i+1+1) _ (by omega) (by omega) (by rw [List.length_append,List.length_singleton]; omega)]
              show _=some (unqO (if txtB s[i+1]=true then _ else _))
              rw [ht,if_pos rfl]
            | false =>
              rw [ht,if_neg (by decide)] at hb
              rw [zAE hb]
              show _=some (unqO (if txtB s[i+1]=true then _ else _))
              rw [ht,if_neg (by decide)]; rfl
          · have e3:(((i+1:Nat):Int)==(s.length:Int))=true:=by rw [eqI]; simp; omega
            rw [List.drop_eq_nil_of_le (by omega)]
            refine zAE ?_
            simp only [zAi,zAK hlt,zAC,ex,zAA,h34',zAB,beq_self_eq_true,e2,e3]; rfl
        · have h92':(c==92)=false:=by simpa using h92
          rw [if_neg h92]
          have hb:zAi s (out,(i:Int))=some (if txtB c then .inl (out++[c],((i+1:Nat):Int)) else .inr (.inr ([],false))):=by
            simp only [zAi,zAK hlt,zAC,ex,zAA,h34',zAB,h92',e2,zHf]
            rw [zAj (by omega) (zA5 _),zAA]
            cases txtB c <;> rfl
          cases ht:txtB c with
          | true =>
            rw [ht,if_pos rfl] at hb
            rw [zAJ hb,ih (i+1) _ (by omega) (by omega) (by rw [List.length_append,List.length_singleton]; omega),if_pos rfl]
          | false =>
            rw [ht,if_neg (by decide)] at hb
            rw [zAE hb,if_neg (by decide)]; rfl
    · obtain rfl:i=s.length:=by omega
      rw [List.drop_length]
      refine zAE ?_
      simp only [zAi,zAI (Nat.le_refl s.length),zAB]; rfl
theorem zGz (s:Str):(s.length<2∧unq s=([],false))∨∃ a m z,s=a :: (m++[z])∧unq s=if a=34∧z=34 then unqIn m else ([],false):=by
  match s with
  | []=>exact .inl ⟨by simp,rfl⟩
  | [a]=>exact .inl ⟨by simp,by simp [unq]⟩
  | a :: b :: r =>
    obtain ⟨m,z,hm⟩:∃ m z,b :: r=m++[z]:=⟨(b :: r).dropLast,(b :: r).getLast (by simp),(List.dropLast_concat_getLast (by simp)).symm⟩
    rw [hm]
    exact .inr ⟨a,m,z,rfl,by simp [unq]⟩
theorem zIZ (a z : UInt8) (m : Str) (h : (a :: (m ++ [z])).length ≤ 1073741824) :
    decide ((((a :: (m++[z])).length:Nat):Int)<2)=false∧wr ((((a :: (m++[z])).length:Nat):Int) - 1)=((m.length+1:Nat):Int)∧xnth (a :: (m++[z])) ((m.length+1:Nat):Int)=some z∧xsub (a :: (m++[z])) 1 ((m.length+1:Nat):Int)=some m:=by
  have hlen:(a :: (m++[z])).length=m.length+2:=by simp
  rw [hlen] at h
  refine ⟨?_,?_,?_,?_⟩
  · rw [hlen]
    exact decide_eq_false (by omega)
  · rw [hlen,zDf (by omega) (by omega)]; omega
  · rw [zFU]; simp
  · have:=zG2 (l:=a :: (m++[z])) (i:=1) (j:=m.length+1) ⟨by omega,by simp⟩
    have e:xsub (a :: (m++[z])) 1 ((m.length+1:Nat):Int)=_:=this
    rw [e]; simp
theorem zMn (s:Str) (hs:s.length≤1073741824):zDv s=some (unq s):=by
  rcases zGz s with ⟨h,hu⟩ | ⟨a,m,z,rfl,hu⟩
  · have e:decide ((s.length:Int)<2)=true:=zAK h
    rw [hu]; simp only [zDv,e,zAC,zAA]
  · obtain ⟨e1,e2,e3,e4⟩:=zIZ a z m hs
    have hm:m.length≤1073741824:=by simp at hs; omega
    rw [hu]
    simp only [zDv,e1,e2,e3,e4,zAB,zBZ,zAA,zN5 m hm]
    by_cases ha:a=34
    · by_cases hz:z=34
      · subst ha; subst hz
        have hl:=zOS m hm m.length 0 [] (by omega) (by omega) (by simp)
        have hl:zAF (zAh m) ([],0)=_:=hl
        rw [hl]
        simp only [bne_self_eq_false,zAB,zAA,and_self,if_true,List.drop_zero]
        unfold unqIn
        cases txt m
        · rfl
        · cases unqL m [] <;> rfl
      · have hz':(z !=34)=true:=by simpa using hz
        simp [ha,hz,hz']
    · have ha':(a !=34)=true:=by simpa using ha
      simp [ha,ha']
theorem zLi (s:Str) (hs:s.length≤1073741824):zDu s=some (unq s):=by
  rcases zGz s with ⟨h,hu⟩ | ⟨a,m,z,rfl,hu⟩
  · have e:decide ((s.length:Int)<2)=true:=zAK h
    rw [hu]; simp only [zDu,e,zAC,zAA]
  · obtain ⟨e1,e2,e3,e4⟩:=zIZ a z m hs
    have hm:m.length≤1073741824:=by simp at hs; omega
    rw [hu]
    simp only [zDu,e1,e2,e3,e4,zAB,zBZ,zAA]
    by_cases ha:a=34
    · by_cases hz:z=34
      · subst ha; subst hz
        have hl:=zNG m hm m.length 0 [] (by omega) (by omega) (by simp)
        have hl:zAF (zAi m) ([],0)=_:=hl
        rw [hl]
        simp only [bne_self_eq_false,zAB,zAA,and_self,if_true,List.drop_zero]
        rw [zPW m.length m [] (Nat.le_refl _)]
        unfold unqIn
        cases txt m
        · rfl
        · cases unqL m [] <;> rfl
      · have hz':(z !=34)=true:=by simpa using hz
        simp [ha,hz,hz']
    · have ha':(a !=34)=true:=by simpa using ha
      simp [ha,ha']
theorem zIK (a b:Str) (ha:a.length≤1073741824) (hb:b.length≤1073741824):zCp a b=some (fold a b):=by
  simp only [zCp,zBt a ha,zBt b hb,zAA,eqI,fold]
  cases a.length==b.length <;> rfl
end Go.Eng.Pure
namespace Go.Eng
open Go
theorem zIR {α : Type} [DecidableEq α] (a b : List α) (body : Int → Option (Int ⊕ (Unit ⊕ Bool))) (hlen : a.length = b.length)
    (h:∀ (n:Nat) (hn:n<a.length) (hb:n<b.length),body (n:Int)=some (if a[n]=b[n] then .inl ((n+1:Nat):Int) else .inr (.inr false))) (h':body (a.length:Int)=some (.inr (.inl ()))) :
    zAF body 0=some (if a=b then .inl () else .inr false):=by
  have key:∀ (k n:Nat),n+k=a.length→zAF body (n:Int)=some (if a.drop n=b.drop n then .inl () else .inr false):=by
    intro k
    induction k with
    | zero =>
      intro n hn
      obtain rfl:n=a.length:=by omega
      rw [zAE h',List.drop_length,if_pos]
      rw [hlen,List.drop_length]
    | succ k ih =>
      intro n hn
      have hlt:n<a.length:=by omega
      have hlb:n<b.length:=by omega
      have hb:=h n hlt hlb
      rw [List.drop_eq_getElem_cons hlt,List.drop_eq_getElem_cons hlb]
      by_cases he:a[n]=b[n]
      · rw [if_pos he] at hb
        have hi:(a[n] :: a.drop (n+1)=b[n] :: b.drop (n+1))↔(a.drop (n+1)=b.drop (n+1)):=by
          rw [he]; exact ⟨fun h=>(List.cons.inj h).2,fun h=>by rw [h]⟩
        rw [zAJ hb,ih (n+1) (by omega)]
        simp only [hi]
      · rw [if_neg he] at hb
        rw [zAE hb,if_neg]
        intro hc
        exact he (List.cons.inj hc).1
  have:=key a.length 0 (by omega)
  simpa using this
end Go.Eng
namespace Go.Eng.Pure
open Go Go.Eng
set_option linter.unusedVariables false
theorem zIf (a b:List Str) (ha:a.length≤1073741824):zC1 a b=some (a==b):=by
  unfold zC1
  rw [neI]
  by_cases hl:a.length=b.length
  · have e:(a.length !=b.length)=false:=by simp [hl]
    rw [e,zAB,zIR a b (zBO a b) hl]
    · by_cases h:a=b
      · simp [h]
      · simp [h]
    · intro n hn hb
      simp only [zBO,zAK hn,zAC,zAG hn,zAG hb,zAA,wrs (show n≤4*1073741824 by omega)]
      by_cases he:a[n]=b[n]
      · have:(a[n] !=b[n])=false:=by simp [he]
        rw [this,if_pos he]; rfl
      · have:(a[n] !=b[n])=true:=by simp [he]
        rw [this,if_neg he]; rfl
    · simp only [zBO,zAI (Nat.le_refl a.length),zAB]
  · have e:(a.length !=b.length)=true:=by simp [hl]
    have e2:(a==b)=false:=by
      rw [Bool.eq_false_iff]; intro h; exact hl (by rw [eq_of_beq h])
    rw [e,e2]; rfl
theorem zFx {α : Type} (l : List α) (m : Nat) (bad : α → Bool) (body : Int → Option (Int ⊕ (Unit ⊕ Bool)))
    (h:∀ (n:Nat) (hn:n<l.length),n<m→body (n:Int)=some (if bad l[n]=true then .inr (.inr false) else .inl ((n:Int)+1)))
    (h':∀ n:Nat,(l.length≤n∨m≤n)→body (n:Int)=some (.inr (.inl ()))) :
    zAF body 0=some (if (l.take m).any bad then .inr false else .inl ()):=by
  refine zCY body (l.take m) bad (.inr false) (.inl ()) (fun n hn=>?_) ?_
  · have h1:n<l.length:=by rw [List.length_take] at hn; omega
    have h2:n<m:=by rw [List.length_take] at hn; omega
    rw [h n h1 h2,List.getElem_take]
  · exact h' _ (by rw [List.length_take]; omega)
def badF (n:Nat) (f:GField):Bool:=decide (n<f.fName.length)||decide (n<f.fValue.length)
def keepF (l:List GField):Bool:=!((l.take 71).any (badF 300))&&decide (l.length≤70)
theorem zHR (l:List GField):zFD l=some (keepF l):=by
  unfold zFD keepF
  rw [zFx l 71 (badF 300)]
  · have e:decide ((l.length:Int)≤70)=decide (l.length≤70):=zHL l.length 70
    rw [e]
    cases (l.take 71).any (badF 300) <;> simp
  · intro n hn hm
    have e1:decide ((n:Int)<71)=true:=zAK hm
    have e2:wr ((n:Int)+1)=(n:Int)+1:=by rw [wrs (by omega)]; omega
    simp only [zEP,zAK hn,e1,Bool.and_self,zAC,zAG hn,zAA,e2]
    have e3:decide (300<((l[n].fName.length:Nat):Int))=decide (300<l[n].fName.length):=zHs 300 _
    have e4:decide (300<((l[n].fValue.length:Nat):Int))=decide (300<l[n].fValue.length):=zHs 300 _
    rw [e3,e4]
    unfold badF
    cases decide (300<l[n].fName.length) <;> cases decide (300<l[n].fValue.length) <;> rfl
  · intro n hn
    have:(decide ((n:Int)<(l.length:Int))&&decide ((n:Int)<71))=false:=by
      rcases hn with hn | hn
      · rw [zAI hn]; rfl
      · rw [show decide ((n:Int)<71)=false from zAI hn,Bool.and_false]
    simp only [zEP,this,zAB]
theorem zKN {l:List GField} (h:keepF l=true):l.length≤70∧∀ f ∈ l,f.fName.length≤300∧f.fValue.length≤300:=by
  unfold keepF at h
  simp only [Bool.and_eq_true,Bool.not_eq_true',decide_eq_true_eq] at h
  refine ⟨h.2,fun f hf=>?_⟩
  rw [List.take_of_length_le (by omega)] at h
  have:=List.any_eq_false.1 h.1 f hf
  simp only [badF,Bool.or_eq_true,decide_eq_true_eq] at this
  omega
def keepS (l:List Str):Bool:=!((l.take 21).any fun s=>decide (100<s.length))&&decide (l.length≤20)
theorem zDy (l:List Str):zCh l=some (keepS l):=by
  unfold zCh keepS
  rw [zFx l 21 (fun s=>decide (100<s.length))]
  · have e:decide ((l.length:Int)≤20)=decide (l.length≤20):=zHL l.length 20
    rw [e]
    cases (l.take 21).any (fun s=>decide (100<s.length)) <;> simp
  · intro n hn hm
    have e1:decide ((n:Int)<21)=true:=zAK hm
    have e2:wr ((n:Int)+1)=(n:Int)+1:=by rw [wrs (by omega)]; omega
    simp only [zDt,zAK hn,e1,Bool.and_self,zAC,zAG hn,zAA,e2]
    have e3:decide (100<((l[n].length:Nat):Int))=decide (100<l[n].length):=zHs 100 _
    rw [e3]
    cases decide (100<l[n].length) <;> rfl
  · intro n hn
    have:(decide ((n:Int)<(l.length:Int))&&decide ((n:Int)<21))=false:=by
      rcases hn with hn | hn
      · rw [zAI hn]; rfl
      · rw [show decide ((n:Int)<21)=false from zAI hn,Bool.and_false]
    simp only [zDt,this,zAB]
theorem zMU {l:List Str} (h:keepS l=true):l.length≤20∧∀ s ∈ l,s.length≤100:=by
  unfold keepS at h
  simp only [Bool.and_eq_true,Bool.not_eq_true',decide_eq_true_eq] at h
  refine ⟨h.2,fun f hf=>?_⟩
  rw [List.take_of_length_le (by omega)] at h
  have:=List.any_eq_false.1 h.1 f hf
  simp only [decide_eq_true_eq] at this
  omega
end Go.Eng.Pure
namespace Go.Eng.Pure
open Go Go.Eng
set_option linter.unusedVariables false
def hasF (l:List GField) (name:Str):Bool:=decide (0<(getF l name).length)
theorem zPH (l:List GField) (name:Str) (hl:l.length≤1073741824) (hf:∀ f ∈ l,smF f) (hn:name.length≤1073741824):zDl l name=some (hasF l name):=by
  unfold zDl zCb
  rw [zBt _ hn]
  simp only [zAA]
  rw [zLK l _ (fun f=>fold f.fName name) hl (fun f h=>zMZ name hn f (hf f h)),zAA]
  unfold hasF getF
  rw [List.length_map]
  exact congrArg some (zHs 0 _)
theorem zPv (l:List GField) (name:Str) (hl:l.length≤1073741824) (hf:∀ f ∈ l,smF f) (hn:name.length≤1073741824):zHk l name=some (hasF l name):=by
  unfold zHk
  rw [zLZ l name hl hf hn,zAA]
  exact congrArg some (zHs 0 _)
theorem zIw (l:List GField) (name:Str):(allM l name).length≤64:=by
  unfold allM; rw [List.length_take]; omega
theorem zJc (l:List GField) (name:Str) (B:Nat) (hf:∀ f ∈ l,f.fValue.length≤B):∀ x ∈ allM l name,x.length≤B:=by
  intro x hx
  have h1:=List.mem_of_mem_take hx
  rw [List.mem_flatMap] at h1
  obtain ⟨v,hv,hx⟩:=h1
  exact Nat.le_trans (zME v x hx) (zJJ l name B hf v hv)
def hd (m:Str):Str:=m.takeWhile tokB
def tl (m:Str):Str:=m.dropWhile tokB
theorem zOY:∀ (n:Nat) (s acc x:Str),s.length≤n→unqL s acc=some x→x.length≤acc.length+s.length:=by
  intro n
  induction n with
  | zero =>
    intro s acc x h hx
    obtain rfl:=List.eq_nil_of_length_eq_zero (Nat.le_zero.1 h)
    cases hx; simp
  | succ n ih =>
    intro s acc x h hx
    match s with
    | []=>cases hx; simp
    | c :: r =>
      unfold unqL at hx
      split at hx
      · cases hx
      · split at hx
        · match r with
          | []=>cases hx
          | d :: r' =>
            have:=ih r' (acc++[d]) x (by simp at h; omega) hx
            rw [List.length_append,List.length_singleton] at this
            simp only [List.length_cons]; omega
        · have:=ih r (acc++[c]) x (by simp at h; omega) hx
          rw [List.length_append,List.length_singleton] at this
          simp only [List.length_cons]; omega
theorem zPZ (s:Str):(unq s).1.length≤s.length:=by
  rcases zGz s with ⟨h,hu⟩ | ⟨a,m,z,rfl,hu⟩
  · rw [hu]; exact Nat.zero_le _
  · rw [hu]
    split
    · unfold unqIn
      split
      · cases hx:unqL m [] with
        | none=>exact Nat.zero_le _
        | some x =>
          have:=zOY m.length m [] x (Nat.le_refl _) hx
          simp at this ⊢; omega
      · exact Nat.zero_le _
    · exact Nat.zero_le _
theorem zLy {β:Type} (m:List (Str×β)) (k k':Str) (v:β):(mset m k v).lookup k'=if k'==k then some v else m.lookup k':=by
  induction m with
  | nil =>
    simp only [mset,List.lookup]
    cases k'==k <;> rfl
  | cons p r ih =>
    unfold mset
    by_cases h:k=p.1
    · subst h
      rw [beq_self_eq_true,if_pos rfl]
      simp only [List.lookup]
      cases k'==p.1 <;> rfl
    · have h':(k==p.1)=false:=by simpa using h
      rw [h',if_neg (by decide)]
      simp only [List.lookup]
      cases hk:k'==p.1 with
      | true =>
        have e:k'=p.1:=by simpa using hk
        have:(k'==k)=false:=by rw [e]; simp [Ne.symm h]
        rw [this]; rfl
      | false=>exact ih
end Go.Eng.Pure
namespace Go.Eng.Pure
open Go Go.Eng
set_option linter.unusedVariables false
def join (l:List Str):Str:=Lib.join l [44,32]
theorem zF1 (x:Str) (r:List Str):join (x :: r)=x++(r.map ([44,32]++·)).flatten:=Lib.join_cons x r [44,32]
theorem zNg (l:List Str) (x:Str):join (l++[x])=(if l=[] then [] else join l++[44,32])++x:=by
  cases l with
  | nil=>simp [zF1]
  | cons y r=>simp [zF1]
theorem zMW (l:List Str) (B:Nat) (h:∀ s ∈ l,s.length≤B):(join l).length≤(B+2)*l.length:=by
  have:∀ r:List Str,(∀ s ∈ r,s.length≤B)→((r.map ([44,32]++·)).flatten).length≤(B+2)*r.length:=by
    intro r
    induction r with
    | nil=>intro _; simp
    | cons y r ih =>
      intro hr
      have h1:=ih fun s hs=>hr s (List.mem_cons_of_mem _ hs)
      have h2:=hr y List.mem_cons_self
      rw [List.map_cons,List.flatten_cons,List.length_append,List.length_cons,Nat.mul_succ]
      have:(([44,32]:Str)++y).length=y.length+2:=by simp
      omega
  cases l with
  | nil=>simp [join,Lib.join_nil]
  | cons x r =>
    have h1:=this r fun s hs=>h s (List.mem_cons_of_mem _ hs)
    have h2:=h x List.mem_cons_self
    rw [zF1,List.length_append,List.length_cons,Nat.mul_succ]
    omega
theorem zOC (l:List Str) (h1:l.length≤1073741824) (h2:(join l).length≤1073741824):zFy l=some (join l):=by
  unfold zFy strings_Join jo
  rw [if_pos ⟨by show (join l).length≤big; simp only [big]; omega,by simp only [big]; omega⟩]; rfl
theorem zKI (l:List Str) (h1:l.length≤1073741824) (h2:(join l).length≤1073741824):zD9 l=some (join l):=by
  have hp:∀ n,n≤l.length→(join (l.take n)).length≤(join l).length:=by
    intro n hn
    cases l with
    | nil=>simp
    | cons x r =>
      cases n with
      | zero=>simp [join,Lib.join_nil]
      | succ n =>
        rw [List.take_succ_cons,zF1,zF1,List.map_take]
        rw [List.length_append,List.length_append]
        have:∀ (r:List Str) n,(r.take n).flatten.length≤r.flatten.length:=by
          intro r
          induction r with
          | nil=>intro n; simp
          | cons y r ih =>
            intro n
            cases n with
            | zero=>simp
            | succ n=>have:=ih n; simp only [List.take_succ_cons,List.flatten_cons,List.length_append]; omega
        exact Nat.add_le_add_left (this (r.map ([44,32]++·)) n) _
  have:=zBc (fun n=>(join (l.take n),(n:Int))) l.length (join l) (zDr l) ?_ ?_
  · unfold zD9
    have e:(([]:Str),(0:Int))=(join (l.take 0),((0:Nat):Int)):=by simp [join,Lib.join_nil]
    rw [e,this]; rfl
  · intro n hn
    have h3:=hp n (by omega)
    have h4:=hp (n+1) (by omega)
    have ht:l.take (n+1)=l.take n++[l[n]]:=zAg hn
    have hj:=zNg (l.take n) l[n]
    rw [← ht] at hj
    simp only [zDr,zAK hn,zAC,zAG hn,zAA,wrs (show n≤4*1073741824 by omega)]
    by_cases h0:n=0
    · subst h0
      have e1:join (l.take 0)=[]:=by simp [join,Lib.join_nil]
      rw [e1]
      have e2:decide ((0:Int)<((0:Nat):Int))=false:=rfl
      rw [e2,zAB,zAA]
      rw [if_pos (by simp)] at hj
      rw [hj] at h4 ⊢
      rw [zC9 (by simp) (by simp at h4; omega)]
      rfl
    · have e2:decide ((0:Int)<(n:Int))=true:=by simp; omega
      have hne:l.take n≠[]:=fun h=>by
        have hl:(l.take n).length=0:=by rw [h]; rfl
        rw [List.length_take] at hl
        omega
      rw [if_neg hne] at hj
      rw [hj,List.length_append,List.length_append] at h4
      rw [e2,zAC,zC9 (by omega) (by decide),zAA,zAA,zC9 (by rw [List.length_append]; omega) (by omega),zAA,hj]
  · simp only [zDr,zAI (Nat.le_refl l.length),zAB,List.take_length]
end Go.Eng.Pure
namespace Go.Eng.Pure
open Go Go.Eng
set_option linter.unusedVariables false
theorem zO6 (l:List Str) (h1:l.length≤1073741824) (h2:(join l).length≤1073741824):strings_Join l [44,32]=some (join l):=by
  unfold strings_Join jo
  rw [if_pos ⟨by show (join l).length≤big; simp only [big]; omega,by simp only [big]; omega⟩]; rfl
def kindF (n:Str):Int :=
  if fold n [65,99,99,101,112,116] then 1 else if fold n [65,99,99,101,112,116,45,76,97,110,103,117,97,103,101] then 2
  else if fold n [65,99,99,101,112,116,45,67,104,97,114,115,101,116] then 3 else if fold n [65,99,99,101,112,116,45,69,110,99,111,100,105,110,103] then 4 else 0
theorem zLj (n:Str) (hn:n.length≤1073741824):zEA n=some (kindF n):=by
  unfold zEA kindF
  simp only [show zBM 1=some [65,99,99,101,112,116] from rfl,show zBM 2=some [65,99,99,101,112,116,45,76,97,110,103,117,97,103,101] from rfl,
    show zBM 3=some [65,99,99,101,112,116,45,67,104,97,114,115,101,116] from rfl,show zBM 4=some [65,99,99,101,112,116,45,69,110,99,111,100,105,110,103] from rfl,zAA]
  rw [zIK _ _ hn (by decide),zIK _ _ hn (by decide),zIK _ _ hn (by decide),zIK _ _ hn (by decide)]
  simp only [zAA]
  generalize fold n [65,99,99,101,112,116]=a
  generalize fold n [65,99,99,101,112,116,45,76,97,110,103,117,97,103,101]=b
  generalize fold n [65,99,99,101,112,116,45,67,104,97,114,115,101,116]=c
  generalize fold n [65,99,99,101,112,116,45,69,110,99,111,100,105,110,103]=d
  cases a <;> cases b <;> cases c <;> cases d <;> rfl
theorem zIt (n:Str) (hn:n.length≤1073741824):zD5 n=some (kindF n):=by
  unfold zD5 kindF
  simp only [show zBW 1=some [65,99,99,101,112,116] from rfl,show zBW 2=some [65,99,99,101,112,116,45,76,97,110,103,117,97,103,101] from rfl,
    show zBW 3=some [65,99,99,101,112,116,45,67,104,97,114,115,101,116] from rfl,show zBW 4=some [65,99,99,101,112,116,45,69,110,99,111,100,105,110,103] from rfl,zAA]
  rw [zEN _ _ hn (by decide),zEN _ _ hn (by decide),zEN _ _ hn (by decide),zEN _ _ hn (by decide)]
  simp only [zAA]
  generalize fold n [65,99,99,101,112,116]=a
  generalize fold n [65,99,99,101,112,116,45,76,97,110,103,117,97,103,101]=b
  generalize fold n [65,99,99,101,112,116,45,67,104,97,114,115,101,116]=c
  generalize fold n [65,99,99,101,112,116,45,69,110,99,111,100,105,110,103]=d
  cases a <;> cases b <;> cases c <;> cases d <;> rfl
def varyV (l:List GField) (n:Str):Str :=
  if (getF l n).length=0 then [] else if (kindF n !=0)&&decide ((allM l n).length<64) then 61 :: lower (join (allM l n)) else 61 :: join (getF l n)
def smL (l:List GField):Prop:=l.length≤70∧∀ f ∈ l,f.fName.length≤300∧f.fValue.length≤300
theorem smL_F {l:List GField} (h:smL l):l.length≤1073741824∧∀ f ∈ l,smF f:=⟨by have:=h.1; omega,fun f hf=>by have:=h.2 f hf; exact ⟨by omega,by omega⟩⟩
theorem zMT {l:List GField} (h:smL l) (n:Str):(getF l n).length≤70∧(join (getF l n)).length≤30000:=by
  have h1:=zKA l n
  have h2:=zMW (getF l n) 300 (zJJ l n 300 fun f hf=>(h.2 f hf).2)
  have h3:=h.1
  exact ⟨by omega,by omega⟩
theorem zIs {l:List GField} (h:smL l) (n:Str):(allM l n).length≤64∧(join (allM l n)).length≤30000:=by
  have h1:=zIw l n
  have h2:=zMW (allM l n) 300 (zJc l n 300 fun f hf=>(h.2 f hf).2)
  exact ⟨h1,by omega⟩
theorem eq61 {s:Str} (h:s.length≤30000):xcat [61] s=some (61 :: s):=by
  rw [zC9 (zA5 _) (by omega)]; rfl
theorem zOi (n:Str) (l:List GField) (hl:smL l) (hn:n.length≤1073741824):zG5 n l=some (varyV l n):=by
  obtain ⟨h1,h2⟩:=smL_F hl
  obtain ⟨g1,g2⟩:=zMT hl n
  obtain ⟨a1,a2⟩:=zIs hl n
  unfold zG5 varyV
  rw [zPH l n h1 h2 hn,zNk l n h1 h2 hn,zLj n hn,zPL l n h1 h2 hn]
  simp only [zAA]
  rw [zOC _ (by omega) (by omega),zO6 _ (by omega) (by omega)]
  simp only [zAA]
  rw [zBt _ (by omega)]
  simp only [zAA]
  rw [eq61 g2,eq61 (by rw [zCM]; exact a2)]
  simp only [zAA]
  rw [show decide (((allM l n).length:Int)<64)=decide ((allM l n).length<64) from zHs _ 64]
  unfold hasF
  by_cases hz:(getF l n).length=0
  · rw [if_pos hz,decide_eq_false (by omega)]; rfl
  · rw [if_neg hz,decide_eq_true (by omega)]
    cases (kindF n !=0)&&decide ((allM l n).length<64) <;> rfl
theorem zOA (n:Str) (l:List GField) (hl:smL l) (hn:n.length≤1073741824):zDs n l=some (varyV l n):=by
  obtain ⟨h1,h2⟩:=smL_F hl
  obtain ⟨g1,g2⟩:=zMT hl n
  obtain ⟨a1,a2⟩:=zIs hl n
  unfold zDs varyV
  rw [zLZ l n h1 h2 hn,zLl l n h1 h2 hn,zIt n hn]
  simp only [zAA]
  rw [zKI _ (by omega) (by omega),zKI _ (by omega) (by omega)]
  simp only [zAA]
  rw [zDz _ (by omega)]
  simp only [zAA]
  rw [eq61 g2,eq61 (by rw [zCM]; exact a2)]
  simp only [zAA]
  rw [show decide (((allM l n).length:Int)<64)=decide ((allM l n).length<64) from zHs _ 64,show (((getF l n).length:Int)==0)=((getF l n).length==0) from eqI _ 0]
  by_cases hz:(getF l n).length=0
  · rw [if_pos hz,beq_iff_eq.2 hz]; rfl
  · rw [if_neg hz,beq_eq_false_iff_ne.2 hz]
    cases (kindF n !=0) <;> cases decide ((allM l n).length<64) <;> rfl
def snapF (l:List GField) (ns:List Str):List Str:=ns.map (varyV l)
theorem zLh (ns:List Str) (l:List GField) (hl:smL l) (hs:ns.length≤1000) (hn:∀ n ∈ ns,n.length≤1073741824):zEy ns l=some (snapF l ns):=by
  have:=zBc (fun n=>((ns.take n).map (varyV l),(n:Int))) ns.length (ns.map (varyV l)) (zCL ns l) ?_ ?_
  · unfold zEy
    have e:(([]:List Str),(0:Int))=((ns.take 0).map (varyV l),((0:Nat):Int)):=by simp
    rw [e,this]; rfl
  · intro n hn'
    simp only [zCL,zAK hn',zAC,zAG hn',zAA,zOi _ l hl (hn _ (List.getElem_mem hn')),wrs (show n≤4*1073741824 by omega)]
    rw [zAj (by simp; omega) (zA5 _),zAg hn',List.map_append]
    rfl
  · simp only [zCL,zAI (Nat.le_refl ns.length),zAB,List.take_length]
theorem zLR (ns:List Str) (l:List GField) (hl:smL l) (hs:ns.length≤1000) (hn:∀ n ∈ ns,n.length≤1073741824):zEQ ns l=some (snapF l ns):=by
  have:=zBc (fun n=>((ns.take n).map (varyV l),(n:Int))) ns.length (ns.map (varyV l)) (zB3 ns l) ?_ ?_
  · unfold zEQ
    have e:(([]:List Str),(0:Int))=((ns.take 0).map (varyV l),((0:Nat):Int)):=by simp
    rw [e,this]; rfl
  · intro n hn'
    simp only [zB3,zAK hn',zAC,zAG hn',zAA,zOA _ l hl (hn _ (List.getElem_mem hn')),wrs (show n≤4*1073741824 by omega)]
    rw [zAj (by simp; omega) (zA5 _),zAg hn',List.map_append]
    rfl
  · simp only [zB3,zAI (Nat.le_refl ns.length),zAB,List.take_length]
theorem zIC (a b:List Str) (ha:a.length≤1073741824):zAa a b=some (a==b):=by
  unfold zAa
  rw [neI]
  by_cases hl:a.length=b.length
  · have e:(a.length !=b.length)=false:=by simp [hl]
    rw [e,zAB,zIR a b (zAo a b) hl]
    · by_cases h:a=b
      · simp [h]
      · simp [h]
    · intro n hn hb
      simp only [zAo,zAK hn,zAC,zAG hn,zAG hb,zAA,wrs (show n≤4*1073741824 by omega)]
      by_cases he:a[n]=b[n]
      · have:(a[n] !=b[n])=false:=by simp [he]
        rw [this,if_pos he]; rfl
      · have:(a[n] !=b[n])=true:=by simp [he]
        rw [this,if_neg he]; rfl
    · simp only [zAo,zAI (Nat.le_refl a.length),zAB]
  · have e:(a.length !=b.length)=true:=by simp [hl]
    have e2:(a==b)=false:=by
      rw [Bool.eq_false_iff]; intro h; exact hl (by rw [eq_of_beq h])
    rw [e,e2]; rfl
theorem zIv (l:List GField) (ns:List Str):(snapF l ns).length=ns.length:=by simp [snapF]
theorem zO2 (ns s:List Str) (l:List GField) (hl:smL l) (hs:ns.length≤1000) (hn:∀ n ∈ ns,n.length≤1073741824):zHD ns s l=some (snapF l ns==s):=by
  unfold zHD
  rw [zLh ns l hl hs hn,eqI]
  simp only [zAA]
  rw [zIC _ _ (by rw [zIv]; omega)]
  simp only [zAA]
  by_cases h:ns.length=s.length
  · rw [beq_iff_eq.2 h]; rfl
  · rw [beq_eq_false_iff_ne.2 h]
    have:(snapF l ns==s)=false:=by
      rw [Bool.eq_false_iff]; intro hc; have:=eq_of_beq hc; rw [← this,zIv] at h; exact h rfl
    rw [this]; rfl
theorem zNO (ns s:List Str) (l:List GField) (hl:smL l) (hs:ns.length≤1000) (hn:∀ n ∈ ns,n.length≤1073741824):zD1 ns s l=some (snapF l ns==s):=by
  unfold zD1
  rw [zLR ns l hl hs hn,eqI]
  simp only [zAA]
  rw [zIf _ _ (by rw [zIv]; omega)]
  simp only [zAA]
  by_cases h:ns.length=s.length
  · rw [beq_iff_eq.2 h]; rfl
  · rw [beq_eq_false_iff_ne.2 h]
    have:(snapF l ns==s)=false:=by
      rw [Bool.eq_false_iff]; intro hc; have:=eq_of_beq hc; rw [← this,zIv] at h; exact h rfl
    rw [this]; rfl
def zQG (l:List GField) (n:Str):List GField:=l.filter fun f=>!fold f.fName n
end Go.Eng.Pure
namespace Go.Eng.Pure
open Go Go.Eng
set_option linter.unusedVariables false
def fin (a:UInt8):Nat→Str→Str→List Str×Nat×Str
  | st,cur,[]=>([],st,cur)
  | st,cur,c :: r=>if st=0∧c=a then (cur :: (fin a 0 [] r).1,(fin a 0 [] r).2) else fin a (step st c) (cur++[c]) r
theorem zNW (a b:Str):fold a b=fold b a:=by
  unfold fold
  rw [Bool.eq_iff_iff]
  simp only [Bool.and_eq_true,beq_iff_eq]
  exact ⟨fun h=>⟨h.1.symm,h.2.symm⟩,fun h=>⟨h.1.symm,h.2.symm⟩⟩
end Go.Eng.Pure
namespace Go.Eng.Pure
open Go Go.Eng
set_option linter.unusedVariables false
section
set_option linter.unusedSectionVars false
variable (s:Str) (hs:s.all isD=true) (hne:s≠[])
include hs hne
end
def quote (s:Str):Str:=34 :: (s.flatMap (fun c=>if c=34∨c=92 then [92,c] else [c])++[34])
theorem zNb (t:Str):(t.flatMap (fun c=>if c=34∨c=92 then [92,c] else [c])).length≤2*t.length:=by
  induction t with
  | nil=>exact Nat.le_refl _
  | cons c t ih =>
    have e:(if c=34∨c=92 then [92,c] else [c]).length≤2:=by split <;> simp
    rw [List.flatMap_cons,List.length_append,List.length_cons]
    omega
theorem zMf (s:Str) (hs:s.length≤1073741824):zE7 s=some (quote s):=by
  have hfl:=zNb
  have:=zBc (fun n=>(34 :: (s.take n).flatMap (fun c=>if c=34∨c=92 then [92,c] else [c]),(n:Int))) s.length (34 :: s.flatMap (fun c=>if c=34∨c=92 then [92,c] else [c])) (zDA s) ?_ ?_
  · unfold zE7 quote
    have e:(([34]:Str),(0:Int))=(34 :: (s.take 0).flatMap (fun c=>if c=34∨c=92 then [92,c] else [c]),((0:Nat):Int)):=by simp
    have hl:=hfl s
    rw [e,this,zAA,zAj (by simp only [List.length_cons]; omega) (zA5 _)]; rfl
  · intro n hn
    have hl:=hfl (s.take n)
    have ht:(s.take n).length≤n:=by rw [List.length_take]; omega
    have hcond:(bif s[n]==34 then some true else some (s[n]==92))=some (decide (s[n]=34∨s[n]=92)):=by
      by_cases h1:s[n]=34
      · simp [h1]
      · have h1':(s[n]==34)=false:=by simpa using h1
        by_cases h2:s[n]=92
        · simp [h2]
        · simp [h1,h2,h1']
    simp only [zDA,zAK hn,zAC,zAG hn,zAA]
    rw [hcond,zAA,zAg hn,List.flatMap_append,wrs (by omega)]
    by_cases hc:s[n]=34∨s[n]=92
    · rw [decide_eq_true hc,zAC,zAj (by simp only [List.length_cons]; omega) (zA5 _),zAA,zAA,zAj (by simp only [List.length_cons,List.length_append,List.length_nil]; omega) (zA5 _),zAA]
      simp [hc]
    · rw [decide_eq_false hc,zAB,zAA,zAj (by simp only [List.length_cons]; omega) (zA5 _),zAA]
      simp [hc]
  · simp only [zDA,zAI (Nat.le_refl s.length),zAB,List.take_length]
theorem zKy (s:Str):(quote s).length≤2*s.length+2:=by
  unfold quote
  rw [List.length_cons,List.length_append,List.length_singleton]
  have:=zNb s
  omega
end Go.Eng.Pure
namespace Go.Eng.Pure
open Go Go.Eng
set_option linter.unusedVariables false
def shape (s:Str):Bool:=s.length==29&&((s.take 5).drop 3==[44,32]&&(s.getD 7 0==32&&(s.getD 11 0==32&&(s.getD 16 0==32&&(s.getD 19 0==58&&(s.getD 22 0==58&&s.drop 25==[32,71,77,84]))))))
end Go.Eng.Pure
namespace Go.Eng.Pure.Etag
open Go Go.Eng Go.Eng.Pure
def zQF (c:UInt8):Bool:=(decide (c<33)||c==34)||c==127
def tagOK (s:Str):Bool:=!s.any zQF
def inner (t:Str):Option Str :=
  match t with
  | a :: r=>if a=34∧r≠[]∧r.getLast?=some 34∧tagOK r.dropLast then some r.dropLast else none
  | []=>none
def tagOf (weak:Bool) (t:Str):GETag×Bool:=match inner t with | some x=>(⟨weak,x⟩,true) | none=>(⟨false,[]⟩,false)
def pre:Str:=[87,47]
def zHz (s:Str):GETag×Bool:=if pre.isPrefixOf s then tagOf true (s.drop 2) else tagOf false s
theorem zJW (p s:Str):p.isPrefixOf s=(decide (p.length≤s.length)&&s.take p.length==p):=by
  induction p generalizing s with
  | nil=>simp
  | cons a p ih =>
    cases s with
    | nil=>simp
    | cons b s =>
      simp only [List.isPrefixOf,List.length_cons,List.take_succ_cons,Nat.add_le_add_iff_right]
      rw [ih]
      by_cases h:a=b
      · subst h; simp
      · have e1:(a==b)=false:=by simpa using h
        have e2:(b==a)=false:=by simpa using fun e=>h e.symm
        simp [e1,e2]
theorem HasPrefix_eq (s p:Str):zBj s p=some (p.isPrefixOf s):=by
  unfold zBj
  rw [zJW]
  by_cases h:p.length≤s.length
  · have h1:decide ((p.length:Int)≤(s.length:Int))=true:=by simpa using h
    rw [h1,zAC]
    have:=zG2 (l:=s) (i:=0) (j:=p.length) ⟨by omega,h⟩
    rw [show ((0:Nat):Int)=0 from rfl] at this
    rw [this]
    simp [h]
  · have h1:decide ((p.length:Int)≤(s.length:Int))=false:=by simpa using h
    rw [h1,zAB]
    simp [h]
end Go.Eng.Pure.Etag
namespace Go.Eng.Pure.Etag
open Go Go.Eng Go.Eng.Pure
set_option linter.unusedVariables false
def zLx (out:List GETag) (m:Str):List GETag ⊕ (List GETag ⊕ (List GETag×Bool×Bool)):=if (zHz m).2 then .inl (out++[(zHz m).1]) else .inr (.inr ([],false,false))
def zQB (l:List Str):List GETag ⊕ (List GETag×Bool×Bool):=run zLx .inl l []
theorem zJS (m : List Str) (hm : m.length ≤ 64) (hs : ∀ x ∈ m, x.length ≤ 1073741824) (parse : Str → Option (GETag × Bool)) (hp : ∀ x : Str, x.length ≤ 1073741824 → parse x = some (zHz x)) (body : (List GETag × Int) → Option ((List GETag × Int) ⊕ (List GETag ⊕ (List GETag × Bool × Bool))))
    (hb:∀ o i,body (o,i)=(bif decide (i<(m.length:Int)) then (xnth m i).bind fun x=>(parse x).bind fun r=>(bif !r.2 then some (.inr (.inr (([]:List GETag),false,false))) else (xapp o ([r.1]:List GETag)).bind fun l=>some (.inl (l,wr (i+1)))) else some (.inr (.inl o)))) :
    zAF body ([],0)=some (zQB m):=by
  refine zG9 (fun (o:List GETag) (i:Int)=>(o,i)) m zLx .inl body (fun n o=>o.length≤n) [] (Nat.le_refl _) (fun n hn o ho=>?_) (fun o _=>?_)
  · have h1:=hs _ (List.getElem_mem hn)
    rw [hb,zAK hn,zAC,zAG hn,zAA,hp _ h1,zAA,zAj (by omega) (zA5 _),zAA,wrs (by omega)]
    unfold zLx
    cases hpp:(zHz m[n]).2 with
    | true=>exact ⟨rfl,fun st' h=>by simp at h; subst h; rw [List.length_append,List.length_singleton]; omega⟩
    | false=>exact ⟨rfl,fun st' h=>by simp at h⟩
  · rw [hb,zAI (Nat.le_refl m.length),zAB]
theorem zJc (l:List GField) (name:Str) (hf:∀ f ∈ l,smF f):∀ x ∈ allM l name,x.length≤1073741824:=by
  intro x hx
  have h1:=List.mem_of_mem_take hx
  rw [List.mem_flatMap] at h1
  obtain ⟨v,hv,hx⟩:=h1
  exact Nat.le_trans (zME v x hx) (zJJ l name 1073741824 (fun f h=>(hf f h).2) v hv)
theorem Index_eq (s:Str) (c:UInt8) (hs:s.length≤1073741824):∀ (k n:Nat),n+k=s.length→zDZ s c (n:Int)=some (if c ∈ s.drop n then ((n+(s.drop n).idxOf c:Nat):Int) else -1):=by
  have key:∀ (k n:Nat),n+k=s.length→zAF (zBv s c) (n:Int)=some (if c ∈ s.drop n then .inr ((n+(s.drop n).idxOf c:Nat):Int) else .inl ()):=by
    intro k
    induction k with
    | zero =>
      intro n hn
      obtain rfl:n=s.length:=by omega
      rw [List.drop_length]
      refine (zAE (r:=.inl ()) ?_).trans (by simp)
      simp only [zBv,zAI (Nat.le_refl s.length),zAB]
    | succ k ih =>
      intro n hn
      have hlt:n<s.length:=by omega
      rw [List.drop_eq_getElem_cons hlt]
      by_cases hc:s[n]=c
      · rw [zAE (r:=.inr (n:Int))]
        · simp [hc]
        · simp only [zBv,zAK hlt,zAC,zAG hlt,zAA,hc,beq_self_eq_true]
      · have hb : zBv s c (n : Int) = some (.inl ((n + 1 : Nat) : Int)) := by
          have:(s[n]==c)=false:=by simpa using hc
          simp only [zBv,zAK hlt,zAG hlt,zAC,zAA,this,zAB,wrs (show n≤4*1073741824 by omega)]
        rw [zAJ hb,ih (n+1) (by omega)]
        have e1:(c ∈ s[n] :: s.drop (n+1))↔c ∈ s.drop (n+1):=by
          rw [List.mem_cons]; exact ⟨fun h=>h.resolve_left (fun h=>hc h.symm),.inr⟩
        by_cases hm:c ∈ s.drop (n+1)
        · have e2:(s[n]==c)=false:=by simpa using hc
          rw [if_pos hm,if_pos (e1.2 hm),List.idxOf_cons,e2,zAB]
          congr 3; omega
        · rw [if_neg hm,if_neg (fun h=>hm (e1.1 h))]
  intro k n hn
  unfold zDZ
  rw [key k n hn,zAA]
  by_cases hm:c ∈ s.drop n
  · rw [if_pos hm,if_pos hm]
  · rw [if_neg hm,if_neg hm]
end Go.Eng.Pure.Etag
namespace Go.Eng.Pure
end Go.Eng.Pure
namespace Go.Eng
end Go.Eng
namespace Go.Eng.Pure
open Go Go.Eng
set_option linter.unusedVariables false
def smS (l:List Str):Prop:=l.length≤1000∧∀ s ∈ l,s.length≤1000
def smE (e:GEntry):Prop:=(e.fKeys.length≤10∧∀ k ∈ e.fKeys,smS k)∧smS e.fVary∧smS e.fSnapshot∧smL e.fFields∧e.fReason.length≤100∧e.fBody.length≤2000
theorem fieldB (a b:GField):(!((a.fName==b.fName)&&((a.fValue==b.fValue)&&true)))=!decide (a=b):=by
  obtain ⟨n,v⟩:=a; obtain ⟨n',v'⟩:=b
  rw [Bool.and_true]
  congr 1
  rw [Bool.eq_iff_iff]
  simp
def badK (k:List Str):Bool:=!keepS k
def keepK (l:List (List Str)):Bool:=!((l.take 11).any badK)&&decide (l.length≤10)
theorem zLL (l:List (List Str)):zHv l=some (keepK l):=by
  unfold zHv keepK
  rw [zFx l 11 badK]
  · have e:decide ((l.length:Int)≤10)=decide (l.length≤10):=zHL l.length 10
    rw [e]
    cases (l.take 11).any badK <;> simp
  · intro n hn hm
    have e1:decide ((n:Int)<11)=true:=zAK hm
    have e2:wr ((n:Int)+1)=(n:Int)+1:=by rw [wrs (n:=n) (by omega)]; omega
    simp only [zFY,zAK hn,e1,Bool.and_self,zAC,zAG hn,zAA,e2,zDy]
    rw [show (!keepS l[n])=badK l[n] from rfl]
    cases badK l[n] <;> rfl
  · intro n hn
    have:(decide ((n:Int)<(l.length:Int))&&decide ((n:Int)<11))=false:=by
      rcases hn with h | h
      · rw [zAI h]; rfl
      · rw [show decide ((n:Int)<11)=false from zAI h]; simp
    simp only [zFY,this,zAB]
def keepE (e:GEntry):Bool:=((((keepK e.fKeys&&keepS e.fVary)&&keepS e.fSnapshot)&&decide (e.fReason.length≤100))&&decide (e.fBody.length≤2000))&&keepF e.fFields
theorem zKf (e:GEntry):zHC e=some (keepE e):=by
  unfold zHC keepE
  rw [zLL,zAA,zDy,zAA,zDy,zAA,zHR,zAA,show ((100:Int))=((100:Nat):Int) from rfl,show ((2000:Int))=((2000:Nat):Int) from rfl,zHL,zHL]
  cases keepK e.fKeys <;> cases keepS e.fVary <;> cases keepS e.fSnapshot <;> cases decide (e.fReason.length≤100) <;> cases decide (e.fBody.length≤2000) <;> rfl
theorem zKL {e:GEntry} (h:keepE e=true):smE e:=by
  simp only [keepE,keepK,Bool.and_eq_true,decide_eq_true_eq,Bool.not_eq_true',List.any_eq_false] at h
  obtain ⟨⟨⟨⟨⟨⟨k1,k2⟩,v⟩,s⟩,r⟩,b⟩,f⟩:=h
  have hS:∀ l,keepS l=true→smS l:=fun l hl=>by
    have:=zMU hl
    exact ⟨by omega,fun x hx=>by have:=this.2 x hx; omega⟩
  refine ⟨⟨k2,fun k hk=>hS k ?_⟩,hS _ v,hS _ s,zKN f,r,b⟩
  have:=k1 k (by rw [List.take_of_length_le (by omega)]; exact hk)
  simpa [badK] using this
end Go.Eng.Pure
namespace Go.Eng.Pure
open Go Go.Eng
set_option linter.unusedVariables false
theorem ixB (c:UInt8) (b:Str):∀ a:Str,(∀ x ∈ a,x≠c)→Lib.indexByte (a++c :: b) c=(a.length:Int)
  | [],_=>by simp [Lib.indexByte]
  | x :: a,h=>by
    have h1:(x==c)=false:=by simpa using h x List.mem_cons_self
    have h2:=ixB c b a (fun y hy=>h y (List.mem_cons_of_mem _ hy))
    rw [List.cons_append,Lib.indexByte,h2,h1,List.length_cons]
    rw [show (((a.length:Int)==-1):Bool)=false by rw [beq_eq_false_iff_ne]; omega]
    simp
end Go.Eng.Pure
namespace Go.Eng.Pure
open Go Go.Eng
set_option linter.unusedVariables false
theorem WS_eq (s m:Str) (h1:s.length≤64*1073741824) (h2:m.length≤64*1073741824):zAN s m=some ((s.length:Int),(),m++s):=by
  unfold zAN zAt
  rw [zAA,zAj h2 h1,zAA]
end Go.Eng.Pure
