/- A part. -/
import Derived.Test.YtffangblkofjdaaGreatDoorVarsQ
import Derived.Test.YtffangblkofjdaaGreatDoorVr15
import Derived.Test.YtffangblkofjdaaGreatDoorGenM6
import Derived.Test.YtffangblkofjdaaGreatDoorCacheP
set_option linter.unusedVariables false
namespace Go.Eng.Pure
open Go Go.Eng
set_option linter.unusedVariables false
def okV (d:Gvariants_domain) (prev:List Str) (v:Str):Bool:=(formD d v).2&&!(prev.any fun u=>(formD d u).1==(formD d v).1)
def axV (a:GAxis):Bool:=(decide (1≤a.fValues.length)&&decide (a.fValues.length≤16))&&chk (okV (domF a.fName)) [] a.fValues
def smA (a:GAxis):Prop:=a.fName.length≤1000000∧∀ v ∈ a.fValues,v.length≤1000000
theorem zLk {β:Type} (m:List (Str×β)) (k k':Str) (v z:β):(mget (mset m k v) k' z).1=if k'==k then v else (mget m k' z).1:=by
  unfold mget
  rw [zL9]
  cases k'==k <;> rfl
theorem zN7 (a : GAxis) (h : smA a) (hl : a.fValues.length ≤ 16) : ∀ (k n : Nat) (m : List (Str × Bool)), n + k = a.fValues.length → (∀ q, (mget m q false).1 = (a.fValues.take n).any fun u => (formD (domF a.fName) u).1 == q) →
    zAE (zA2 a (domF a.fName)) ((n:Int),m)=some (if chk (okV (domF a.fName)) (a.fValues.take n) (a.fValues.drop n) then .inl () else .inr false):=by
  intro k
  induction k with
  | zero =>
    intro n m hn hI
    have:n=a.fValues.length:=by omega
    subst this
    have hb:zA2 a (domF a.fName) ((a.fValues.length:Int),m)=some (.inr (.inl ())):=by
      unfold zA2
      simp only []
      rw [zAM (Nat.le_refl _),zAB]
    rw [zAG hb,List.drop_length]; rfl
  | succ k ih =>
    intro n m hn hI
    have hlt:n<a.fValues.length:=by omega
    have hm:=h.2 _ (List.getElem_mem hlt)
    conv=>rhs; rw [List.drop_eq_getElem_cons hlt]
    unfold chk
    generalize hv:a.fValues[n]=v at *
    have hb:zA2 a (domF a.fName) ((n:Int),m)=some (if okV (domF a.fName) (a.fValues.take n) v then .inl (((n+1:Nat):Int),mset m (formD (domF a.fName) v).1 true) else .inr (.inr false)):=by
      unfold zA2 okV
      simp only []
      rw [zAN hlt,zAC,zAK hlt,hv,zAA,zMV _ v hm,zAA,zAA,hI,wrs (by omega)]
      cases (formD (domF a.fName) v).2 <;> cases (a.fValues.take n).any (fun u=>(formD (domF a.fName) u).1==(formD (domF a.fName) v).1) <;> rfl
    cases ho:okV (domF a.fName) (a.fValues.take n) v with
    | false=>rw [ho] at hb; rw [zAG hb]; rfl
    | true =>
      rw [ho] at hb
      rw [zAI hb,ih (n+1) _ (by omega) ?_,Bool.true_and,zAl hlt,hv]
      intro q
      rw [zLk,zAl hlt,hv,List.any_append,hI q]
      simp only [List.any_cons,List.any_nil,Bool.or_false]
      have e:(q==(formD (domF a.fName) v).1)=((formD (domF a.fName) v).1==q):=by
        rw [Bool.eq_iff_iff,beq_iff_eq,beq_iff_eq]; exact ⟨Eq.symm,Eq.symm⟩
      rw [e]
      cases (formD (domF a.fName) v).1==q <;> simp
theorem lt1 (n:Nat):decide ((n:Int)<1)=!decide (1≤n):=by
  rw [Bool.eq_iff_iff]; simp only [decide_eq_true_eq,Bool.not_eq_true',decide_eq_false_iff_not]; omega
theorem gt16 (n:Nat):decide ((16:Int)<(n:Int))=!decide (n≤16):=by
  rw [Bool.eq_iff_iff]; simp only [decide_eq_true_eq,Bool.not_eq_true',decide_eq_false_iff_not]; omega
theorem gt4 (n:Nat):decide ((4:Int)<(n:Int))=!decide (n≤4):=by
  rw [Bool.eq_iff_iff]; simp only [decide_eq_true_eq,Bool.not_eq_true',decide_eq_false_iff_not]; omega
theorem zPc (a:GAxis) (h:smA a):zCg a=some (axV a):=by
  unfold zCg axV
  rw [lt1,gt16]
  by_cases h1:1≤a.fValues.length
  · by_cases h2:a.fValues.length≤16
    · rw [decide_eq_true h1,decide_eq_true h2,zNa _ (by have:=h.1; omega)]
      simp only [Bool.not_true,Bool.or_self,zAB,zAA,Bool.and_self,Bool.true_and]
      have:=zN7 a h h2 a.fValues.length 0 [] (by omega) (fun q=>rfl)
      rw [show ((0:Nat):Int)=0 from rfl,List.take_zero,List.drop_zero] at this
      rw [this,zAA]
      cases chk (okV (domF a.fName)) [] a.fValues <;> rfl
    · rw [decide_eq_false h2]; simp
  · rw [decide_eq_false h1]; simp
def axN (a:GAxis):Bool:=(tok a.fName&&(lower a.fName==a.fName))&&axV a
def okA (prev:List GAxis) (a:GAxis):Bool:=axN a&&!(prev.any fun b=>a.fName==b.fName)
def valB (l:List GAxis):Bool:=(decide (1≤l.length)&&decide (l.length≤4))&&chk okA [] l
theorem zHk (l:List GAxis) (h:∀ a ∈ l,smA a):zA6 l=some (valB l):=by
  unfold zA6 valB
  rw [lt1,gt4]
  by_cases h1:1≤l.length
  · by_cases h2:l.length≤4
    · rw [decide_eq_true h1,decide_eq_true h2]
      simp only [Bool.not_true,Bool.or_self,zAB,Bool.and_self,Bool.true_and]
      have:=zQm l okA (zCQ l) ?_ ?_
      · rw [this,zAA]
        cases chk okA [] l <;> rfl
      · intro n hlt
        have hm:=h _ (List.getElem_mem hlt)
        unfold zCQ okA axN
        rw [zAN hlt,zAC,zAK hlt,zAA]
        generalize hv:l[n]=a at *
        have hn:=hm.1
        rw [zCh _ (by omega),zAA,zBZ _ (by omega),zAA,zPc a hm]
        have hw:zAE (zCP a (l.take n)) 0=some (if (l.take n).any (fun b=>a.fName==b.fName) then .inr (.inr (.inr false)) else .inl ()):=by
          refine zF7 (ρ:=Unit ⊕ (Int ⊕ (Unit ⊕ Bool))) _ (l.take n) _ (.inr (.inr (.inr false))) (.inl ()) ?_ ?_
          · intro i hi
            have hi2:i<n:=by rw [List.length_take] at hi; omega
            unfold zCP
            rw [zAN hi,zAC,zAK hi,zAA,wrs (by omega)]
            cases a.fName==(l.take n)[i].fName <;> simp
          · unfold zCP
            rw [zAM (Nat.le_refl _),zAB]
        rw [zG7 (by omega),wrs (by omega)]
        simp only [zAA]
        rw [hw]
        have e:(lower a.fName !=a.fName)=!(lower a.fName==a.fName):=rfl
        rw [e]
        cases tok a.fName <;> cases lower a.fName==a.fName <;> cases axV a <;> cases (l.take n).any (fun b=>a.fName==b.fName) <;> rfl
      · unfold zCQ
        rw [zAM (Nat.le_refl _),zAB]
    · rw [decide_eq_false h2]; simp
  · rw [decide_eq_false h1]; simp
end Go.Eng.Pure
namespace Go.Eng.Pure
open Go Go.Eng
set_option linter.unusedVariables false
theorem zR1 (ms:List (List Str)) (f:List Str→Option Bool) (p:List Str→Bool) (hl:ms.length≤1073741824) (h:∀ m ∈ ms,f m=some (p m)):zAb ms f=some (ms.any p):=by
  have key:∀ (k n:Nat),n+k=ms.length→∃ r,zAE (zAO ms f) (n:Int)=some r∧(match r with | .inr e=>(0:Int)≤e∧(ms.drop n).any p=true | .inl _=>(ms.drop n).any p=false):=by
    intro k
    induction k with
    | zero =>
      intro n hn
      obtain rfl:n=ms.length:=by omega
      refine ⟨.inl (),zAG ?_,by rw [List.drop_length]; rfl⟩
      simp only [zAO,zAM (Nat.le_refl ms.length),zAB]
    | succ k ih =>
      intro n hn
      have hlt:n<ms.length:=by omega
      have hb:zAO ms f (n:Int)=some (if p ms[n] then .inr (.inr (n:Int)) else .inl ((n+1:Nat):Int)):=by
        simp only [zAO,zAN hlt,zAC,zAK hlt,zAA,h _ (List.getElem_mem hlt),wrs (show n≤4*1073741824 by omega)]
        cases p ms[n] <;> rfl
      rw [List.drop_eq_getElem_cons hlt,List.any_cons]
      cases hp:p ms[n] with
      | true =>
        rw [hp,if_pos rfl] at hb
        exact ⟨_,zAG hb,by simp only []; exact ⟨by omega,rfl⟩⟩
      | false =>
        rw [hp,if_neg (by decide)] at hb
        obtain ⟨r,hr,hm⟩:=ih (n+1) (by omega)
        refine ⟨r,by rw [zAI hb]; exact hr,?_⟩
        cases r <;> simpa using hm
  obtain ⟨r,hr,hm⟩:=key ms.length 0 (by omega)
  rw [show ((0:Nat):Int)=0 from rfl] at hr
  rw [List.drop_zero] at hm
  unfold zAb zAv
  rw [hr,zAA]
  cases r with
  | inr e=>simp only [] at hm ⊢; rw [zAA,hm.2,decide_eq_true hm.1]
  | inl u=>simp only [] at hm ⊢; rw [zAA,hm]; rfl
end Go.Eng.Pure
namespace Go.Eng.Pure
open Go Go.Eng
set_option linter.unusedVariables false
theorem zIj (g:Str→Str) (k:Str):∀ (ms:List Str) (m:List (Str×Bool)),(mget (ms.foldl (fun m x=>mset m (g x) true) m) k false).1=((mget m k false).1||ms.any fun x=>g x==k)
  | [],m=>by simp
  | x :: ms,m=>by
    rw [List.foldl_cons,zIj g k ms,zLk,List.any_cons]
    by_cases h:k=g x
    · subst h; simp
    · have h1:(k==g x)=false:=by simpa using h
      have h2:(g x==k)=false:=by simpa using Ne.symm h
      rw [h1,h2]; simp
def connN:Str:=[67,111,110,110,101,99,116,105,111,110]
def fixedL:List Str:=[[67,111,110,110,101,99,116,105,111,110],[75,101,101,112,45,65,108,105,118,101],[80,114,111,120,121,45,67,111,110,110,101,99,116,105,111,110],[80,114,111,120,121,45,65,117,116,104,101,110,116,105,99,97,116,101],[80,114,111,120,121,45,65,117,116,104,111,114,105,122,97,116,105,111,110],[84,69],[84,114,97,105,108,101,114],[84,114,97,110,115,102,101,114,45,69,110,99,111,100,105,110,103],[67,111,110,116,101,110,116,45,76,101,110,103,116,104],[85,112,103,114,97,100,101]]
def keptL:List Str:=[[72,111,115,116],[67,97,99,104,101,45,67,111,110,116,114,111,108],[86,97,114,121],[86,97,114,105,97,110,116,115],[86,97,114,105,97,110,116,45,75,101,121],[86,105,97]]
def zSl (l:List GField) (f:GField):Bool:=fixedL.any (fold f.fName)||((allM l connN).any (fold f.fName)&&!keptL.any (fold f.fName))
end Go.Eng.Pure
namespace Go.Eng.Pure
open Go Go.Eng
set_option linter.unusedVariables false
theorem zP1 {α:Type} (xs:List α) (f:α→Option Bool) (p:α→Bool) (h:∀ x ∈ xs,f x=some (p x)):∀ (k n:Nat) (K:List α),n+k=xs.length→zAE (delL xs f) (K,(n:Int))=some (K++(xs.drop n).filter fun x=>!p x)
  | 0,n,K,hn=>by
    have:n=xs.length:=by omega
    subst this
    have hb:delL xs f (K,(xs.length:Int))=some (.inr K):=by
      unfold delL
      rw [zAM (Nat.le_refl _),zAB]
    rw [zAG hb]; simp
  | k+1,n,K,hn=>by
    have hlt:n<xs.length:=by omega
    have hb:delL xs f (K,(n:Int))=some (.inl (bif p xs[n] then K else K++[xs[n]],((n+1:Nat):Int))):=by
      unfold delL
      rw [zAN hlt,zAC,zAK hlt,zAA,h _ (List.getElem_mem hlt),zAA]; rfl
    rw [zAI hb,zP1 xs f p h k (n+1) _ (by omega),List.drop_eq_getElem_cons hlt,List.filter_cons]
    cases p xs[n] <;> simp
theorem zIU {α:Type} (p:α→Bool):∀ (xs:List α) (i:Nat),xs.findIdx? p=some i→i<xs.length∧xs.filter (fun x=>!p x)=xs.take i++(xs.drop (i+1)).filter fun x=>!p x
  | [],i,h=>by simp at h
  | x :: xs,i,h=>by
    rw [List.findIdx?_cons] at h
    cases hp:p x with
    | true =>
      rw [hp] at h
      simp at h; subst h
      simp [hp]
    | false =>
      rw [hp] at h
      simp only [Bool.false_eq_true,if_false,Option.map_eq_some_iff] at h
      obtain ⟨j,hj,rfl⟩:=h
      obtain ⟨h1,h2⟩:=zIU p xs j hj
      refine ⟨by simp; omega,?_⟩
      rw [List.filter_cons,hp]
      simp [h2]
theorem zMg {α:Type} (p:α→Bool) (xs:List α) (h:xs.findIdx? p=none):xs.filter (fun x=>!p x)=xs:=by
  rw [List.filter_eq_self]
  intro x hx
  have:=List.findIdx?_eq_none_iff.1 h x hx
  simp [this]
end Go.Eng.Pure
namespace Go.Eng.Pure
open Go Go.Eng Go.VI
theorem zSd {n:Nat} (h:n<maxLen):wr ((n:Int)+1)=((n+1:Nat):Int):=by
  simp only [maxLen] at h
  rw [wr_eq ⟨by omega,by omega⟩]; rfl
theorem zSZ (ms:List Str) (f:Str→Option Bool) (p:Str→Bool) (hl:ms.length≤maxLen) (h:∀ m ∈ ms,f m=some (p m)):zAT ms f=some (match ms.findIdx? p with | some i=>(i:Int) | none=>-1):=by
  have key:∀ (k n:Nat),n+k=ms.length→zAE (zAS ms f) (n:Int)=some (match (ms.drop n).findIdx? p with | some i=>.inr ((n+i:Nat):Int) | none=>.inl ()):=by
    intro k
    induction k with
    | zero =>
      intro n hn
      obtain rfl:n=ms.length:=by omega
      rw [zAG (r:=.inl ())]
      · rw [List.drop_length]; rfl
      · simp only [zAS,zAM (Nat.le_refl ms.length),zAB]
    | succ k ih =>
      intro n hn
      have hlt:n<ms.length:=by omega
      have hb:zAS ms f (n:Int)=some (if p ms[n] then .inr (.inr (n:Int)) else .inl ((n+1:Nat):Int)):=by
        simp only [zAS,zAN hlt,zAC,zAK hlt,zAA,h _ (List.getElem_mem hlt),zSd (show n<maxLen by omega)]
        cases p ms[n] <;> rfl
      rw [List.drop_eq_getElem_cons hlt,List.findIdx?_cons]
      cases hp:p ms[n] with
      | true =>
        rw [hp,if_pos rfl] at hb
        rw [zAG hb]; rfl
      | false =>
        rw [hp,if_neg (by decide)] at hb
        rw [zAI hb,ih (n+1) (by omega)]
        cases hd:(ms.drop (n+1)).findIdx? p with
        | none=>rfl
        | some i=>simp; omega
  have:=key ms.length 0 (by omega)
  rw [show ((0:Nat):Int)=0 from rfl,List.drop_zero] at this
  unfold zAT
  rw [this,zAA]
  cases ms.findIdx? p with
  | none=>rfl
  | some i=>simp
theorem zR5 (xs:List Str) (key:Str) (hl:xs.length≤maxLen):zAj xs (fun x=>some (x==key))=some (zIP xs key):=by
  unfold zAj
  rw [zSZ xs _ (fun x=>x==key) hl (fun _ _=>rfl),zAA]
  unfold delR zIP
  cases hi:xs.findIdx? (fun x=>x==key) with
  | none=>rw [zMg (fun x=>x==key) xs hi]; rfl
  | some i =>
    obtain ⟨h1,h2⟩:=zIU (fun x=>x==key) xs i hi
    have e1:((i:Int)==-1)=false:=by simp
    have e2:decide (0≤(i:Int)∧(i:Int)<(xs.length:Int))=true:=decide_eq_true ⟨by omega,by omega⟩
    simp only []
    rw [e1,zAB,e2,zAC,Int.toNat_natCast,show ((i:Int)+1)=((i+1:Nat):Int) from rfl,zP1 xs _ (fun x=>x==key) (fun _ _=>rfl) (xs.length - (i+1)) (i+1) _ (by omega),h2]
end Go.Eng.Pure
namespace Go.Proofs
open Go Go.Eng Go.VI Go.Eng.Pure
set_option maxRecDepth 100000
set_option maxHeartbeats 4000000
theorem zSh:EqClo Tryz.prog 192:=mkC Tryz.func192
theorem dfX:SpecOk Tryz.prog 191 (zOz (U:=UU) 9 9 [192]):=df_ok zR5 (cloC zSh clo0) (fun hG p_s p_del _ _ _ _ _ _ _ _ S hj hne RM F r h=>zCp hG p_s p_del S hj hne RM (fun hle hw hA _ x0 rr hr=>F hle hw hA x0 rr hr) h)
noncomputable def k1:GK Tryz.prog UU:=gkF c179 gk0
noncomputable def k2:GK Tryz.prog UU:=gkF c24 k1
noncomputable def k3:GK Tryz.prog UU:=gkF c298 k2
noncomputable def k4:GK Tryz.prog UU:=gkF c270 k3
noncomputable def k5:GK Tryz.prog UU:=gkI 201 4096 Tryz.func201 k4 [(2,4,[.t 0,.t 1,.t 2,.t 3,.l 4 false]),(4,4,[.t 0,.t 1,.t 2,.t 3,.l 4 false])]
noncomputable def k6:GK Tryz.prog UU:=gkI 251 4096 Tryz.func251 k5
noncomputable def k7:GK Tryz.prog UU:=gkI 175 4096 Tryz.func175 k6
noncomputable def k8:GK Tryz.prog UU:=gkI 192 4096 Tryz.func192 k7
noncomputable def k9:GK Tryz.prog UU:=gkF c25 k8
noncomputable def k10:GK Tryz.prog UU:=gkI 219 4096 Tryz.func219 k9 [(1,11,[.t 0,.t 1,.t 2,.t 3,.t 4,.t 5,.t 6,.t 7,.t 8,.t 10,.l 9 true,.l 11 false,.l 12 false,.l 13 false])]
noncomputable def k11:GK Tryz.prog UU:=gkI 211 4096 Tryz.func211 k10
noncomputable def k12:GK Tryz.prog UU:=gkF c133 k11
noncomputable def k13:GK Tryz.prog UU:=gkI 68 4096 Tryz.func68 k12
noncomputable def k14:GK Tryz.prog UU:=gkI 31 4096 Tryz.func31 k13
noncomputable def k15:GK Tryz.prog UU:=gkI 13 4096 Tryz.func13 k14
noncomputable def k16:GK Tryz.prog UU:=gkI 33 4096 Tryz.func33 k15
noncomputable def k17:GK Tryz.prog UU:=gkF c131 k16
noncomputable def k18:GK Tryz.prog UU:=gkF c198 k17
noncomputable def k19:GK Tryz.prog UU:=gkF c97 k18
noncomputable def k20:GK Tryz.prog UU:=gkI 132 4096 Tryz.func132 k19 [(6,9,[.t 0,.t 1,.t 2,.t 3,.t 4,.t 5,.t 6,.l 7 true,.l 8 true,.l 9 false,.l 10 false,.l 11 false]),(8,9,[.t 0,.t 1,.t 2,.t 3,.t 4,.t 5,.t 6,.l 7 true,.l 8 true,.l 9 false,.l 10 false,.l 11 false]),(2,8,[.t 0,.t 1,.t 2,.t 3,.t 4,.t 5,.l 6 true,.l 7 true,.l 8 false,.l 9 false,.l 10 false])]
noncomputable def k21:GK Tryz.prog UU:=gkI 67 4096 Tryz.func67 k20 [(3,16,[.t 0,.t 1,.t 2,.t 3,.t 4,.t 5,.t 6,.t 7,.l 8 true,.l 9 true,.t 10,.t 11,.t 12,.t 13,.t 14,.t 15,.l 16 false])]
noncomputable def k22:GK Tryz.prog UU:=gkF c134 k21
noncomputable def k23:GK Tryz.prog UU:=gkI 69 4096 Tryz.func69 k22
noncomputable def k24:GK Tryz.prog UU:=gkF c103 k23
noncomputable def k25:GK Tryz.prog UU:=gkI 71 4096 Tryz.func71 k24 [(1,8,[.t 0,.t 1,.t 2,.t 3,.t 4,.t 5,.t 6,.t 7,.l 8 false,.l 9 false])]
noncomputable def k26:GK Tryz.prog UU:=gkI 106 4096 Tryz.func106 k25 [(16,10,[.t 0,.t 1,.t 2,.t 3,.t 4,.t 5,.t 6,.t 7,.t 8,.l 9 true,.l 10 false,.l 11 false])]
noncomputable def k27:GK Tryz.prog UU:=gkF c108 k26
noncomputable def k28:GK Tryz.prog UU:=gkF c176 k27
noncomputable def k29:GK Tryz.prog UU:=gkF c177 k28
noncomputable def k30:GK Tryz.prog UU:=gkF c178 k29
noncomputable def k31:GK Tryz.prog UU:=gkF c180 k30
noncomputable def k32:GK Tryz.prog UU:=gkF c181 k31
noncomputable def k33:GK Tryz.prog UU:=gkF c50 k32
noncomputable def k34:GK Tryz.prog UU:=gkI 182 4096 Tryz.func182 k33
noncomputable def k35:GK Tryz.prog UU:=gkI 109 4096 Tryz.func109 k34
noncomputable def k36:GK Tryz.prog UU:=gkI 57 4096 Tryz.func57 k35 [(3,9,[.t 0,.t 1,.t 2,.t 4,.l 3 true,.t 5,.t 6,.l 7 true,.l 8 true,.l 9 false]),(7,9,[.t 0,.t 1,.t 2,.t 4,.l 3 true,.t 5,.t 6,.l 7 true,.l 8 true,.l 9 false]),(8,3,[.t 0,.t 1,.l 2 true,.l 3 false,.l 4 false])]
noncomputable def k37:GK Tryz.prog UU:=gkI 58 4096 Tryz.func58 k36
noncomputable def k38:GK Tryz.prog UU:=gkF c59 k37
noncomputable def k39:GK Tryz.prog UU:=gkI 159 4096 Tryz.func159 k38
noncomputable def k40:GK Tryz.prog UU:=gkI 115 4096 Tryz.func115 k39
noncomputable def k41:GK Tryz.prog UU:=gkF c116 k40
noncomputable def k42:GK Tryz.prog UU:=gkI 60 4096 Tryz.func60 k41
noncomputable def k43:GK Tryz.prog UU:=gkF c8 k42
noncomputable def k44:GK Tryz.prog UU:=gkF c117 k43
noncomputable def k45:GK Tryz.prog UU:=gkF c78 k44
noncomputable def k46:GK Tryz.prog UU:=gkF c263 k45
noncomputable def k47:GK Tryz.prog UU:=gkF c264 k46
noncomputable def k48:GK Tryz.prog UU:=gkF c265 k47
noncomputable def k49:GK Tryz.prog UU:=gkI 190 4096 Tryz.func190 k48
noncomputable def k50:GK Tryz.prog UU:=gkI 225 4096 Tryz.func225 k49
noncomputable def k51:GK Tryz.prog UU:=gkF c226 k50
noncomputable def k52:GK Tryz.prog UU:=gkI 156 4096 Tryz.func156 k51
noncomputable def k53:GK Tryz.prog UU:=gkI 266 4096 Tryz.func266 k52
noncomputable def k54:GK Tryz.prog UU:=gkI 193 4096 Tryz.func193 k53
noncomputable def k55:GK Tryz.prog UU:=gkI 122 4096 Tryz.func122 k54
noncomputable def k56:GK Tryz.prog UU:=gkF c189 k55
noncomputable def k57:GK Tryz.prog UU:=gkI 118 4096 Tryz.func118 k56 [(1,11,[.t 0,.t 1,.t 3,.t 4,.t 6,.t 7,.t 9,.t 10,.l 2 true,.l 5 true,.l 8 true,.l 11 false,.l 12 false,.l 13 false])]
noncomputable def k58:GK Tryz.prog UU:=gkF c128 k57
noncomputable def k59:GK Tryz.prog UU:=gkI 119 4096 Tryz.func119 k58
noncomputable def k60:GK Tryz.prog UU:=gkI 61 4096 Tryz.func61 k59 [(13,7,[.t 0,.t 1,.t 2,.t 3,.t 4,.t 5,.t 6,.l 7 false])]
noncomputable def k61:GK Tryz.prog UU:=gkS (dfX) k60
noncomputable def k62:GK Tryz.prog UU:=gkI 120 4096 Tryz.func120 k61 [(1,10,[.t 0,.t 1,.t 2,.t 3,.t 4,.t 5,.t 7,.p 8,.pl 6,.r,.l 9 true,.l 10 false,.l 11 false,.l 12 false])]
noncomputable def k63:GK Tryz.prog UU:=gkI 62 4096 Tryz.func62 k62
noncomputable def k64:GK Tryz.prog UU:=gkI 149 4096 Tryz.func149 k63
noncomputable def k65:GK Tryz.prog UU:=gkI 148 4096 Tryz.func148 k64
noncomputable def k66:GK Tryz.prog UU:=gkI 139 4096 Tryz.func139 k65
noncomputable def k67:GK Tryz.prog UU:=gkF c124 k66
noncomputable def k68:GK Tryz.prog UU:=gkF c81 k67
noncomputable def k69:GK Tryz.prog UU:=gkI 121 4096 Tryz.func121 k68 [(2,7,[.t 0,.t 1,.t 2,.t 3,.t 5,.t 6,.l 4 true,.l 7 false,.l 8 false])]
noncomputable def k70:GK Tryz.prog UU:=gkI 64 4096 Tryz.func64 k69 [(1,5,[.t 0,.t 1,.t 2,.t 4,.l 3 true,.l 5 false,.l 6 false])]
noncomputable def k71:GK Tryz.prog UU:=gkF c80 k70
noncomputable def k72:GK Tryz.prog UU:=gkF c221 k71
noncomputable def k73:GK Tryz.prog UU:=gkF c138 k72
noncomputable def k74:GK Tryz.prog UU:=gkI 130 4096 Tryz.func130 k73
noncomputable def k75:GK Tryz.prog UU:=gkI 151 4096 Tryz.func151 k74
noncomputable def k76:GK Tryz.prog UU:=gkF c152 k75
noncomputable def k77:GK Tryz.prog UU:=gkF c72 k76
noncomputable def k78:GK Tryz.prog UU:=gkI 83 4096 Tryz.func83 k77
noncomputable def k79:GK Tryz.prog UU:=gkI 63 4096 Tryz.func63 k78
noncomputable def k80:GK Tryz.prog UU:=gkF c123 k79
noncomputable def k81:GK Tryz.prog UU:=gkI 125 4096 Tryz.func125 k80
noncomputable def k82:GK Tryz.prog UU:=gkF c194 k81
noncomputable def k83:GK Tryz.prog UU:=gkI 195 4096 Tryz.func195 k82
noncomputable def k84:GK Tryz.prog UU:=gkF c137 k83
noncomputable def k85:GK Tryz.prog UU:=gkI 126 4096 Tryz.func126 k84 [(6,12,[.t 0,.t 1,.t 2,.t 3,.t 4,.t 5,.t 7,.t 8,.t 9,.t 10,.t 11,.l 6 true,.l 12 false,.l 13 false])]
noncomputable def k86:GK Tryz.prog UU:=gkI 65 4096 Tryz.func65 k85 [(1,6,[.t 0,.t 1,.t 2,.t 3,.t 4,.t 5,.l 6 false,.l 7 false])]
noncomputable def k87:GK Tryz.prog UU:=gkI 32 4096 Tryz.func32 k86 [(9,12,[.t 0,.t 1,.t 2,.t 3,.t 4,.t 5,.t 6,.t 7,.t 8,.t 9,.p 11,.pl 10,.r,.l 12 false]),(10,7,[.t 0,.t 1,.t 2,.t 3,.t 4,.t 5,.t 6,.l 7 false,.l 8 false,.l 9 false]),(14,17,[.t 0,.t 1,.t 2,.t 3,.t 4,.t 5,.t 6,.t 7,.t 8,.t 9,.t 10,.t 11,.t 12,.t 13,.t 14,.t 15,.l 16 true,.l 17 false,.l 18 false,.l 19 false]),(20,17,[.t 0,.t 1,.t 2,.t 3,.t 4,.t 5,.t 6,.t 7,.t 8,.t 9,.t 10,.t 11,.t 12,.l 13 true,.t 14,.t 15,.l 16 true,.l 17 false,.l 18 false,.l 19 false]),(21,8,[.t 0,.t 1,.t 2,.t 3,.t 4,.t 5,.t 7,.l 6 true,.l 8 false,.l 9 false])]
noncomputable def k88:GK Tryz.prog UU:=gkI 14 4096 Tryz.func14 k87
noncomputable def k89:GK Tryz.prog UU:=gkF c70 k88
noncomputable def k90:GK Tryz.prog UU:=gkI 34 4096 Tryz.func34 k89 [(12,12,[.t 0,.t 1,.t 2,.t 3,.t 4,.t 5,.t 6,.t 7,.t 8,.t 9,.t 10,.t 11,.l 12 false,.l 13 false,.l 14 false]),(20,10,[.t 0,.t 1,.t 2,.t 3,.t 4,.t 5,.t 6,.t 7,.t 8,.l 9 true,.l 10 false,.l 11 false])]
noncomputable def k91:GK Tryz.prog UU:=gkF c37 k90
noncomputable def k92:GK Tryz.prog UU:=gkF c82 k91
noncomputable def k93:GK Tryz.prog UU:=gkF c84 k92
noncomputable def k94:GK Tryz.prog UU:=gkF c155 k93
noncomputable def k95:GK Tryz.prog UU:=gkI 86 4096 Tryz.func86 k94
noncomputable def k96:GK Tryz.prog UU:=gkF c157 k95
noncomputable def k97:GK Tryz.prog UU:=gkF c11 k96
noncomputable def k98:GK Tryz.prog UU:=gkF c55 k97
noncomputable def k99:GK Tryz.prog UU:=gkF c227 k98
noncomputable def k100:GK Tryz.prog UU:=gkF c228 k99
noncomputable def k101:GK Tryz.prog UU:=gkI 90 4096 Tryz.func90 k100
noncomputable def k102:GK Tryz.prog UU:=gkI 42 4096 Tryz.func42 k101
noncomputable def k103:GK Tryz.prog UU:=gkI 158 4096 Tryz.func158 k102
noncomputable def k104:GK Tryz.prog UU:=gkF c40 k103
noncomputable def k105:GK Tryz.prog UU:=gkI 87 4096 Tryz.func87 k104 [(1,11,[.t 0,.t 1,.t 2,.t 3,.t 5,.t 6,.t 7,.t 8,.p 10,.pl 4,.pt 9,.r,.l 11 false])]
noncomputable def k106:GK Tryz.prog UU:=gkI 76 4096 Tryz.func76 k105
noncomputable def k107:GK Tryz.prog UU:=gkF c145 k106
noncomputable def k108:GK Tryz.prog UU:=gkF c230 k107
noncomputable def k109:GK Tryz.prog UU:=gkF c186 k108
noncomputable def k110:GK Tryz.prog UU:=gkI 284 4096 Tryz.func284 k109
noncomputable def k111:GK Tryz.prog UU:=gkI 231 4096 Tryz.func231 k110
noncomputable def k112:GK Tryz.prog UU:=gkF c140 k111
noncomputable def k113:GK Tryz.prog UU:=gkI 160 4096 Tryz.func160 k112 [(5,5,[.t 0,.t 1,.t 2,.l 3 true,.l 4 true,.l 5 false,.l 6 false,.l 7 false])]
noncomputable def k114:GK Tryz.prog UU:=gkF c214 k113
noncomputable def k115:GK Tryz.prog UU:=gkI 142 4096 Tryz.func142 k114 [(1,14,[.t 0,.t 1,.t 2,.t 3,.t 4,.t 6,.t 7,.t 8,.t 9,.t 10,.t 11,.l 5 true,.l 12 true,.t 13,.l 14 false,.l 15 false,.l 16 false,.l 17 false]),(3,6,[.t 0,.t 1,.t 2,.t 3,.t 4,.t 5,.l 6 false]),(4,5,[.t 0,.t 1,.t 2,.t 3,.t 4,.l 5 false])]
noncomputable def k116:GK Tryz.prog UU:=gkI 146 4096 Tryz.func146 k115
noncomputable def k117:GK Tryz.prog UU:=gkI 147 4096 Tryz.func147 k116 [(0,19,[.t 0,.t 1,.t 2,.t 3,.t 4,.t 5,.t 6,.t 7,.t 8,.t 9,.t 10,.t 11,.t 12,.t 13,.t 14,.t 15,.t 16,.t 17,.t 18,.l 19 false,.l 20 false])]
noncomputable def k118:GK Tryz.prog UU:=gkI 88 4096 Tryz.func88 k117 [(1,10,[.t 0,.l 1 true,.t 2,.t 3,.t 4,.t 6,.t 7,.t 8,.t 9,.l 5 true,.l 10 false,.l 11 false,.l 12 false,.l 13 false,.l 14 false,.l 15 false,.l 16 false,.l 17 false,.l 18 false,.l 19 false,.l 20 false,.l 21 false]),(3,14,[.t 0,.t 1,.t 2,.t 3,.t 4,.t 5,.t 6,.t 7,.t 8,.t 9,.t 10,.t 11,.p 13,.pl 12,.r,.l 14 false])]
noncomputable def k119:GK Tryz.prog UU:=gkI 38 4096 Tryz.func38 k118 [(2,10,[.t 0,.t 1,.t 3,.t 4,.t 5,.t 6,.t 7,.t 8,.t 9,.l 2 true,.l 10 false,.l 11 false,.l 12 false]),(4,5,[.t 0,.t 1,.t 2,.t 3,.t 4,.l 5 false,.l 6 false]),(7,7,[.t 0,.t 1,.t 2,.t 3,.t 4,.t 5,.t 6,.l 7 false]),(8,8,[.t 0,.t 1,.t 2,.t 3,.t 4,.t 7,.l 5 true,.t 6]),(13,5,[.t 0,.t 1,.t 2,.t 3,.t 4,.l 5 false]),(14,19,[.t 0,.t 1,.t 2,.t 3,.t 4,.t 5,.t 6,.t 7,.t 8,.t 9,.t 10,.t 11,.t 12,.p 17,.pl 13,.pt 14,.pt 15,.pt 16,.r,.l 18 true,.l 19 false]),(15,6,[.t 0,.t 1,.t 2,.t 3,.t 4,.t 5,.l 6 false]),(16,10,[.t 0,.t 1,.t 2,.t 3,.t 4,.t 5,.t 6,.t 7,.t 8,.t 9,.l 10 false])]
noncomputable def k120:GK Tryz.prog UU:=gkI 15 4096 Tryz.func15 k119
end Go.Proofs
namespace Go.VI
open Go Go.Eng
def idxN:List Nat→Nat→Option Nat
  | [],_=>none
  | a :: l,x=>bif Nat.beq a x then some 0 else (match idxN l x with | some j=>some (j+1) | none=>none)
theorem zIp:∀ {l:List Nat} {x j:Nat},idxN l x=some j→l[j]?=some x
  | [],_,_,h=>by cases h
  | a :: l,x,j,h=>by
    simp only [idxN] at h
    cases hb:Nat.beq a x with
    | true=>rw [hb] at h; cases h; rw [Nat.eq_of_beq_eq_true hb]; rfl
    | false =>
      rw [hb,cond_false] at h
      split at h
      · rename_i i hi; cases h; simpa using zIp hi
      · cases h
mutual
def CV.ren (A B:List Nat):CV→Option CV
  | .int x=>some (.int x) | .byt c=>some (.byt c) | .boo b=>some (.boo b) | .str s=>some (.str s) | .raw v=>some (.raw v) | .und=>some .und
  | .ref i=>(match idxN A i with | some j=>some (.ref j) | none=>none)
  | .agg l=>(match CV.rens A B l with | some l=>some (.agg l) | none=>none)
  | .tup l=>(match CV.rens A B l with | some l=>some (.tup l) | none=>none)
  | .ptr i o=>(match idxN B i with | some j=>some (.ptr j o) | none=>none)
  | .pa _ _=>none
  | .fn k l=>(match CV.rens A B l with | some l=>some (.fn k l) | none=>none)
  | .mp b=>(match idxN B b with | some j=>some (.mp j) | none=>none)
  | .bm k l=>(match CV.rens A B l with | some l=>some (.bm k l) | none=>none)
  | .ifc T c=>(match c.ren A B with | some c=>some (.ifc T c) | none=>none)
def CV.rens (A B:List Nat):List CV→Option (List CV)
  | []=>some []
  | c :: l=>match c.ren A B,CV.rens A B l with | some c,some l=>some (c :: l) | _,_=>none
end
def renE (E:Env) (A B:List Nat):Env:=⟨A.map fun i=>E.vs.getD i undef,B.map fun b=>E.bs.getD b 0,[],fun j=>E.hs (A.getD j 0)⟩
theorem zP9 {E:Env} {A B:List Nat} {i j:Nat} {v:Value} (h:idxN A i=some j) (hv:E.vs[i]?=some v):(renE E A B).vs[j]?=some v:=by
  simp only [renE,List.getElem?_map,zIp h,Option.map_some,List.getD_eq_getElem?_getD,hv,Option.getD_some]
theorem zMO {E:Env} {A B:List Nat} {i j k:Nat} (h:idxN B i=some j) (hv:E.bs[i]?=some k):(renE E A B).bs[j]?=some k:=by
  simp only [renE,List.getElem?_map,zIp h,Option.map_some,List.getD_eq_getElem?_getD,hv,Option.getD_some]
mutual
theorem CV.ren_val {E:Env} {A B:List Nat}:∀ {c c':CV} {v:Value},c.ren A B=some c'→c.val E=some v→c'.val (renE E A B)=some v
  | .int x,c',v,h,hv=>by cases h; exact hv
  | .byt x,c',v,h,hv=>by cases h; exact hv
  | .boo x,c',v,h,hv=>by cases h; exact hv
  | .str x,c',v,h,hv=>by cases h; exact hv
  | .raw x,c',v,h,hv=>by cases h; exact hv
  | .und,c',v,h,hv=>by cases h; exact hv
  | .ref i,c',v,h,hv=>by
    simp only [CV.ren] at h
    split at h
    case h_2=>cases h
    rename_i j hj
    cases h
    exact zP9 hj hv
  | .agg l,c',v,h,hv=>by
    simp only [CV.ren] at h
    split at h
    case h_2=>cases h
    rename_i l' hl
    cases h
    simp only [CV.val] at hv ⊢
    cases h2:CV.vals E l with
    | none=>rw [h2] at hv; cases hv
    | some vs=>rw [h2] at hv; rw [CV.rens_vals hl h2]; exact hv
  | .tup l,c',v,h,hv=>by
    simp only [CV.ren] at h
    split at h
    case h_2=>cases h
    rename_i l' hl
    cases h
    simp only [CV.val] at hv ⊢
    cases h2:CV.vals E l with
    | none=>rw [h2] at hv; cases hv
    | some vs=>rw [h2] at hv; rw [CV.rens_vals hl h2]; exact hv
  | .ptr i o,c',v,h,hv=>by
    simp only [CV.ren] at h
    split at h
    case h_2=>cases h
    rename_i j hj
    cases h
    simp only [CV.val] at hv ⊢
    cases hb:E.bs[i]? with
    | none=>rw [hb] at hv; cases hv
    | some k=>rw [hb] at hv; rw [zMO hj hb]; exact hv
  | .pa i o,c',v,h,hv=>by cases h
  | .fn k l,c',v,h,hv=>by
    simp only [CV.ren] at h
    split at h
    case h_2=>cases h
    rename_i l' hl
    cases h
    simp only [CV.val] at hv ⊢
    cases h2:CV.vals E l with
    | none=>rw [h2] at hv; cases hv
    | some vs=>rw [h2] at hv; rw [CV.rens_vals hl h2]; exact hv
  | .mp i,c',v,h,hv=>by
    simp only [CV.ren] at h
    split at h
    case h_2=>cases h
    rename_i j hj
    cases h
    simp only [CV.val] at hv ⊢
    cases hb:E.bs[i]? with
    | none=>rw [hb] at hv; cases hv
    | some k=>rw [hb] at hv; rw [zMO hj hb]; exact hv
  | .bm k l,c',v,h,hv=>by
    simp only [CV.ren] at h
    split at h
    case h_2=>cases h
    rename_i l' hl
    cases h
    simp only [CV.val] at hv ⊢
    cases h2:CV.vals E l with
    | none=>rw [h2] at hv; cases hv
    | some vs=>rw [h2] at hv; rw [CV.rens_vals hl h2]; exact hv
  | .ifc T c,c',v,h,hv=>by
    simp only [CV.ren] at h
    split at h
    case h_2=>cases h
    rename_i d hd
    cases h
    simp only [CV.val] at hv ⊢
    cases h2:c.val E with
    | none=>rw [h2] at hv; cases hv
    | some u=>rw [h2] at hv; rw [CV.ren_val hd h2]; exact hv
theorem CV.rens_vals {E:Env} {A B:List Nat}:∀ {l l':List CV} {vs:List Value},CV.rens A B l=some l'→CV.vals E l=some vs→CV.vals (renE E A B) l'=some vs
  | [],l',vs,h,hv=>by cases h; exact hv
  | c :: l,l',vs,h,hv=>by
    simp only [CV.rens] at h
    split at h
    case h_2=>cases h
    rename_i d l2 hd hl
    cases h
    simp only [CV.vals] at hv ⊢
    cases h1:c.val E with
    | none=>rw [h1] at hv; cases hv
    | some u =>
      cases h2:CV.vals E l with
      | none=>rw [h1,h2] at hv; cases hv
      | some us=>rw [h1,h2] at hv; rw [CV.ren_val hd h1,CV.rens_vals hl h2]; exact hv
end
structure GC where
  F:List Nat
  A:List Nat
  B:List Nat
section
variable {U:UV}
def gcFr (A B:List Nat) (fr:List (Nat×CV)):List Nat→Option (List (Nat×CV))
  | []=>some []
  | t :: l=>match look fr t with
    | some c=>(match c.ren A B,gcFr A B fr l with | some c,some r=>some ((t,c) :: r) | _,_=>none)
    | none=>none
def gcSl (sl:List (SLV U)):List Nat→Option (List (SLV U))
  | []=>some []
  | i :: l=>match sl[i]?,gcSl sl l with | some x,some r=>some (x :: r) | _,_=>none
def gcEn (A B:List Nat):List EI→Option (List EI)
  | []=>some []
  | .box b T cs :: l =>
    (match idxN B b with
    | some b'=>(match CV.rens A B cs,gcEn A B l with | some cs,some r=>some (.box b' T cs :: r) | _,_=>none)
    | none=>gcEn A B l)
  | .row i T :: l =>
    (match idxN A i with
    | some i'=>(match gcEn A B l with | some r=>some (.row i' T :: r) | none=>none)
    | none=>gcEn A B l)
def gc (g:GC) (s:VS U):Option (VS U) :=
  match gcFr g.A g.B s.fr g.F,gcSl s.sl g.A,gcEn g.A g.B s.en with
  | some fr,some sl,some en=>some ⟨fr,sl,[],g.B.length,en,[]⟩
  | _,_,_=>none
variable {P:Program} {G:Gam U} {N:Frm} {PL:PLs} {s s' s2:VS U} {f f':Fr} {w w' w0:World} {H0 H H':Hp} {E E':Env} {L L':List Ent} {Ω:Type}
theorem zJ7 {A B:List Nat} (hr:∀ t c,look s.fr t=some c→c.val E=some (f t)):∀ {l:List Nat} {fr:List (Nat×CV)},gcFr A B s.fr l=some fr→∀ t c,look fr t=some c→c.val (renE E A B)=some (f t)
  | [],fr,h,t,c,hc=>by cases h; cases hc
  | x :: l,fr,h,t,c,hc=>by
    simp only [gcFr] at h
    split at h
    case h_2=>cases h
    rename_i c0 hx
    split at h
    case h_2=>cases h
    rename_i c1 r h1 h2
    cases h
    simp only [look] at hc
    cases hb:Nat.beq t x with
    | true =>
      rw [hb] at hc
      cases hc
      rw [Nat.eq_of_beq_eq_true hb]
      exact CV.ren_val h1 (hr x c0 hx)
    | false=>rw [hb] at hc; exact zJ7 hr h2 t c hc
theorem zJ8 (hs:SlsOk H E.vs s.sl):∀ {A:List Nat} {sl:List (SLV U)},gcSl s.sl A=some sl→SlsOk H (A.map fun i=>E.vs.getD i undef) sl∧∀ i j x,idxN A i=some j→s.sl[i]?=some x→sl[j]?=some x
  | [],sl,h=>by cases h; exact ⟨trivial,fun i j x h=>by cases h⟩
  | a :: A,sl,h=>by
    simp only [gcSl] at h
    split at h
    case h_2=>cases h
    rename_i x r hx hr
    cases h
    obtain ⟨v,hv,hR⟩:=hs.get hx
    obtain ⟨h1,h2⟩:=zJ8 hs hr
    refine ⟨⟨by simp only [List.getD_eq_getElem?_getD,hv,Option.getD_some]; exact hR,h1⟩,fun i j y hj hy=>?_⟩
    simp only [idxN] at hj
    cases hb:Nat.beq a i with
    | true =>
      rw [hb] at hj
      cases hj
      rw [← Nat.eq_of_beq_eq_true hb,hx] at hy
      exact hy
    | false =>
      rw [hb,cond_false] at hj
      split at hj
      · rename_i q hq; cases hj; simpa using h2 i q y hq hy
      · cases hj
theorem zFG {A B:List Nat} {sl sl':List (SLV U)} (hsl:∀ i j x,idxN A i=some j→sl[i]?=some x→sl'[j]?=some x):∀ {en en':List EI} {L:List Ent},gcEn A B en=some en'→EnsOk noX E H sl en L→∃ M:List Ent,M.Sublist L∧EnsOk noX (renE E A B) H sl' en' M
  | [],en',[],h,_=>by cases h; exact ⟨[],List.Sublist.slnil,trivial⟩
  | .box b T cs :: en,en',e :: L,h,⟨h1,h2⟩=>by
    simp only [gcEn] at h
    split at h
    · rename_i b' hb
      split at h
      case h_2=>cases h
      rename_i cs' r hcs hr
      cases h
      obtain ⟨M,hM,hE⟩:=zFG hsl hr h2
      obtain ⟨vals,k,g1,g2,g3⟩:=h1
      exact ⟨e :: M,hM.cons_cons e,⟨vals,k,zMO hb g1,CsOk.of_vals (CV.rens_vals hcs g2.vals),g3⟩,hE⟩
    · obtain ⟨M,hM,hE⟩:=zFG hsl h h2
      exact ⟨M,hM.cons e,hE⟩
  | .row i T :: en,en',e :: L,h,⟨h1,h2⟩=>by
    simp only [gcEn] at h
    split at h
    · rename_i i' hi
      split at h
      case h_2=>cases h
      rename_i r hr
      cases h
      obtain ⟨M,hM,hE⟩:=zFG hsl hr h2
      obtain ⟨x,v,g1,g2,g3⟩:=h1
      refine ⟨e :: M,hM.cons_cons e,⟨x,v,hsl i i' x hi g1,zP9 hi g2,?_⟩,hE⟩
      have:(renE E A B).hs i'=E.hs i:=by
        simp only [renE,List.getD_eq_getElem?_getD,zIp hi,Option.getD_some]
      rw [this]; exact g3
    · obtain ⟨M,hM,hE⟩:=zFG hsl h h2
      exact ⟨M,hM.cons e,hE⟩
  | [],_,_ :: _,_,h=>h.elim
  | _ :: _,_,[],_,h=>h.elim
theorem zQz {g:GC} (h:gc g s=some s2) (hr:RelE w0 H0 s f w E H L):∃ E2 L2,RelE w0 H0 s2 f w E2 H L2:=by
  unfold gc at h
  split at h
  case h_2=>cases h
  rename_i fr sl en h1 h2 h3
  cases h
  obtain ⟨k1,k2⟩:=zJ8 hr.sls h2
  obtain ⟨M,hM,hE⟩:=zFG k2 h3 hr.ens
  exact ⟨renE E g.A g.B,M,hr.st.drop M hM,hr.gl,k1,trivial,by simp [renE],hE,zJ7 hr.fr h1⟩
structure Go (P:Program) (N:Frm) (Q:World→Hp→Exit→Fr→World→Prop) (c:Code) (s:VS U):Prop where
  out:∀ {w0:World} {H0:Hp} {f:Fr} {w:World} {E:Env} {H:Hp} {L:List Ent},RelE w0 H0 s f w E H L→WP P N c (Q w0 H0) f w
def sq1:Code→Code | .seq a _=>a | c=>c
def sq2:Code→Code | .seq _ b=>b | c=>c
def isSq:Code→Bool | .seq _ _=>true | _=>false
def stg (g:GC):Exit→VS U→Option (VS U):=fun e s=>match e with | .normal=>gc g s | _=>none
theorem Go.seq {Q:World→Hp→Exit→Fr→World→Prop} {c:Code} {s:VS U} (hG:GamOk P G) (A:AT) (g:GC) (s2:VS U) (hc:isSq c=true) (hpl:PlOk PL (sq1 c)=true) (h:den P G N.n PL A (sq1 c) s (stg g)=some s2) (k:Go P N Q (sq2 c) s2):Go P N Q c s:=by
  cases c with
  | seq x y =>
    refine ⟨fun hr=>WP.s ((zAY hG x hpl).out h hr fun e s' f' w' E' H' L' hk hr' _ _ _=>?_)⟩
    cases e with
    | normal =>
      obtain ⟨E2,L2,hr2⟩:=zQz hk hr'
      exact k.out hr2
    | _=>cases hk
  | _=>cases hc
def GoF (U:UV) (P:Program) (fn:Func) (outs:List PT) (y:KT U (ar 0 outs)):World→Hp→Exit→Fr→World→Prop:=fun w H e f' w' =>
  (e=.ret∨e=.normal)∧∃ v,(results fn (tm ⟨fn.ntmps,[]⟩ f')).run P w'=.ok v w'∧∃ H',Post w H w' H'∧∃ vs,v=resV vs∧TR U H' (ar 0 outs) vs y
theorem Go.last {fn:Func} {outs:List PT} {y:KT U (ar 0 outs)} {c:Code} {s:VS U} (hG:GamOk P G) (A:AT) (hpl:PlOk PL c=true) (h:den P G fn.ntmps PL A c s (fin P fn.ntmps fn.results.toList outs)=some y):Go P ⟨fn.ntmps,[]⟩ (GoF U P fn outs y) c s:=by
  refine ⟨fun {w0 H0 f w E H L} hr=>(zAY (N:=⟨fn.ntmps,[]⟩) hG c hpl).out h hr fun e s' f' w' E' H' L' hk hr' _ _ _=>?_⟩
  have done:(e=.ret∨e=.normal)→(match zDm P fn.ntmps s' fn.results.toList with | some cs=>packV s' (ar 0 outs) cs some | none=>none)=some y→GoF U P fn outs y w0 H0 e f' w':=fun he' hk'=>by
    split at hk'
    case h_2=>cases hk'
    rename_i cs hcs
    obtain ⟨us,h1,h2⟩:=zBs (N:=⟨fn.ntmps,[]⟩) hr' hcs
    obtain ⟨z,us2,hz,h3,h4⟩:=zDX hr'.sls hk'
    cases hz
    rw [h1] at h3
    cases h3
    exact ⟨he',_,zDR (by simp) h2,H',hr'.st.post,us,rfl,h4⟩
  cases e with
  | ret=>exact done (.inl rfl) hk
  | normal=>exact done (.inr rfl) hk
  | _=>cases hk
theorem Go.ok {id:FuncId} {fn:Func} {outs:List PT} {y:KT U (ar 0 outs)} (hf:P.funcs[id]?=some fn) (hc:chk fn 0=true) (h:Go P ⟨fn.ntmps,[]⟩ (GoF U P fn outs y) (fn.body.getD .skip) (none0 (U:=U))):FE.ok (U:=U) P ⟨id,[],outs,fun _=>some y⟩:=by
  unfold chk at hc
  simp only [Bool.and_eq_true,Bool.not_eq_true'] at hc
  obtain ⟨⟨h1,h2⟩,h3⟩:=hc
  obtain ⟨c,hb⟩:=Option.isSome_iff_exists.1 h1
  rw [hb] at h
  intro w H args xs y' hw hg hgw hT hy
  cases hy
  have hargs:args=[]:=hT
  subst hargs
  have key:=zGQ (P:=P) (w:=w) (args:=[]) (K:=fun w' v=>∃ H',Post w H w' H'∧∃ vs,v=resV vs∧TR U H' (ar 0 outs) vs y) hf hb rfl h2 h3 ?_
  · exact ⟨key.1,Calls.mono key.2 fun e w' ⟨v,he,H',hp,hv⟩=>⟨v,H',he,hp,hv⟩⟩
  have hr0:RelE w H (none0 (U:=U)) (init []) w ⟨[],[],[],fun _=>none⟩ H []:=⟨St.start hw,⟨hg,hgw⟩,trivial,trivial,rfl,trivial,fun _ _ h=>by cases h⟩
  exact h.out hr0
end
end Go.VI
namespace Go.Proofs
open Go Go.Eng Go.VI Go.Eng.Pure
set_option maxRecDepth 100000
set_option maxHeartbeats 40000000
noncomputable def S1:VS UU:=⟨[(0,(.boo false))],
 [],
 [],
 0,
 [],
 []⟩
noncomputable def S2:VS UU:=⟨[(0,(.boo false)),(1,(.ptr 0 0)),(2,(.int 0))],
 [(Go.VI.SLV.mk (.mp (.st 25)) [])],
 [],
 3,
 [(.box 0 83 [(.str [112]),(.int 1000),(.int 4),(.int 4),(.boo false),(.boo false),(.ptr 1 0),(.int 0),(.raw (Go.Value.pointer Option.none))]),(.box 1 120 [(.int 1000),(.int 4),(.int 4),(.int 0),(.raw (Go.Value.slice Option.none 0 0)),(.mp 2)]),(.box 2 0 [(.ref 0)])],
 []⟩
noncomputable def S3:VS UU:=⟨[(0,(.boo false)),(1,(.ptr 0 0))],
 [(Go.VI.SLV.mk (.sl (.st 41)) [(Go.Eng.Pure.GField.mk [72,111,115,116] [104]),(Go.Eng.Pure.GField.mk [65,99,99,101,112,116,45,76,97,110,103,117,97,103,101] [101,110])]),(Go.VI.SLV.mk (.mp (.st 25)) [])],
 [],
 4,
 [(.box 2 93 [(.str [71,69,84]),(.str [47,97]),(.int 1),(.ref 0),(.str []),(.str [104]),(.int 80),(.str [47,97]),(.str []),(.boo false),(.str [104,116,116,112,58,47,47,104,47,97]),(.int 0),(.boo false),(.int 0),(.raw (Go.Value.slice Option.none 0 0)),(.raw (Go.Value.slice Option.none 0 0)),(.raw (Go.Value.slice Option.none 0 0)),(.str []),(.raw (Go.Value.slice Option.none 0 0)),(.str []),(.int 0),(.int 0)]),(.row 0 41),(.box 0 83 [(.str [112]),(.int 1000),(.int 4),(.int 4),(.boo false),(.boo false),(.ptr 1 0),(.int 0),(.ptr 2 0)]),(.box 1 120 [(.int 1000),(.int 4),(.int 4),(.int 0),(.raw (Go.Value.slice Option.none 0 0)),(.mp 3)]),(.box 3 0 [(.ref 1)])],
 []⟩
noncomputable def S4:VS UU:=⟨[(0,(.boo false)),(1,(.ptr 0 0)),(3,(.ptr 1 0))],
 [(Go.VI.SLV.mk (.mr .str) [[104,116,116,112,58,47,47,104,47,97]]),(Go.VI.SLV.mk (.mp (.st 25)) [([104,116,116,112,58,47,47,104,47,97],(Go.Eng.Pure.GTable.mk [(Go.Eng.Pure.GAxis.mk [97,99,99,101,112,116,45,108,97,110,103,117,97,103,101] [[101,110],[102,114]])] [(Go.Eng.Pure.GEntry.mk [[[101,110]]] [] [] [79,75] [(Go.Eng.Pure.GField.mk [67,97,99,104,101,45,67,111,110,116,114,111,108] [109,97,120,45,97,103,101,61,54,48]),(Go.Eng.Pure.GField.mk [86,97,114,105,97,110,116,115] [97,99,99,101,112,116,45,108,97,110,103,117,97,103,101,61,40,101,110,32,102,114,41]),(Go.Eng.Pure.GField.mk [86,97,114,105,97,110,116,45,75,101,121] [40,101,110,41])] [120] 0 0)]))])],
 [],
 4,
 [(.box 1 52 [(.str [72,84,84,80,47,49,46,49,32,50,48,48,32,79,75,13,10,67,97,99,104,101,45,67,111,110,116,114,111,108,58,32,109,97,120,45,97,103,101,61,54,48,13,10,86,97,114,105,97,110,116,115,58,32,97,99,99,101,112,116,45,108,97,110,103,117,97,103,101,61,40,101,110,32,102,114,41,13,10,86,97,114,105,97,110,116,45,75,101,121,58,32,40,101,110,41,13,10,86,105,97,58,32,49,46,49,32,112,13,10,67,111,110,116,101,110,116,45,76,101,110,103,116,104,58,32,49,13,10,13,10,120]),(.str [])]),(.row 0 9),(.box 0 83 [(.str [112]),(.int 1000),(.int 4),(.int 4),(.boo false),(.boo false),(.ptr 2 0),(.int 0),(.raw (Go.Value.pointer Option.none))]),(.box 2 120 [(.int 1000),(.int 4),(.int 4),(.int 190),(.ref 0),(.mp 3)]),(.box 3 0 [(.ref 1)])],
 []⟩
theorem aw4:Go Tryz.prog ⟨Tryz.f7.ntmps,[]⟩ (GoF UU Tryz.prog Tryz.f7 [.boo] true) (sq2 (sq2 (sq2 (sq2 (Tryz.f7.body.getD .skip))))) S4:=Go.last (PL:=[]) k120.ok (.all 4096) (zBO _) (by kernel_rfl)
end Go.Proofs
namespace Go.Proofs
open Go Go.Eng Go.VI Go.Eng.Pure
set_option maxRecDepth 100000
set_option maxHeartbeats 40000000
theorem aw3:Go Tryz.prog ⟨Tryz.f7.ntmps,[]⟩ (GoF UU Tryz.prog Tryz.f7 [.boo] true) (sq2 (sq2 (sq2 (Tryz.f7.body.getD .skip)))) S3:=Go.seq (PL:=[]) k120.ok (.all 4096) ⟨[0,1,3],[53,49],[0,53,1,3]⟩ S4 (by kernel_rfl) (zBO _) (by kernel_rfl) aw4
end Go.Proofs
namespace Go.Proofs
open Go Go.Eng Go.VI Go.Eng.Pure
set_option maxRecDepth 100000
set_option maxHeartbeats 40000000
theorem aw2:Go Tryz.prog ⟨Tryz.f7.ntmps,[]⟩ (GoF UU Tryz.prog Tryz.f7 [.boo] true) (sq2 (sq2 (Tryz.f7.body.getD .skip))) S2:=Go.seq (PL:=[]) k120.ok (.all 4096) ⟨[0,1],[4,0],[0,1,28,2]⟩ S3 (by kernel_rfl) (zBO _) (by kernel_rfl) aw3
end Go.Proofs
namespace Go.Proofs
open Go Go.Eng Go.VI Go.Eng.Pure
set_option maxRecDepth 100000
set_option maxHeartbeats 40000000
theorem aw1:Go Tryz.prog ⟨Tryz.f7.ntmps,[]⟩ (GoF UU Tryz.prog Tryz.f7 [.boo] true) (sq2 (Tryz.f7.body.getD .skip)) S1:=Go.seq (PL:=[]) k120.ok (.all 4096) ⟨[0,1,2],[0],[3,2,1]⟩ S2 (by kernel_rfl) (zBO _) (by kernel_rfl) aw2
theorem aw0:Go Tryz.prog ⟨Tryz.f7.ntmps,[]⟩ (GoF UU Tryz.prog Tryz.f7 [.boo] true) (Tryz.f7.body.getD .skip) (none0 (U:=UU)):=Go.seq (PL:=[]) k120.ok (.all 4096) ⟨[0],[],[]⟩ S1 (by kernel_rfl) (zBO _) (by kernel_rfl) aw1
theorem cAw:FE.ok (U:=UU) Tryz.prog ⟨7,[],[.boo],fun _=>some true⟩:=Go.ok Tryz.func7 (by kernel_rfl) aw0
end Go.Proofs
namespace Go.Eng.Pure
open Go Go.Eng
set_option linter.unusedVariables false
def sameV (a:GAxis) (x y:Str):Bool:=(formD (domF a.fName) x).1==(formD (domF a.fName) y).1
def sameL:List GAxis→List Str→List Str→Bool
  | a :: l,x :: xs,y :: ys=>sameV a x y&&sameL l xs ys
  | [],[],[]=>true
  | _,_,_=>false
theorem zJF:∀ {l:List GAxis} {xs ys:List Str},sameL l xs ys=true→xs.length=l.length∧ys.length=l.length
  | a :: l,x :: xs,y :: ys,h=>by
    simp only [sameL,Bool.and_eq_true] at h
    obtain ⟨h1,h2⟩:=zJF h.2
    simp [h1,h2]
  | [],[],[],_=>⟨rfl,rfl⟩
  | [],[],y :: ys,h=>by simp [sameL] at h
  | [],x :: xs,ys,h=>by simp [sameL] at h
  | a :: l,[],ys,h=>by simp [sameL] at h
  | a :: l,x :: xs,[],h=>by simp [sameL] at h
def smAx (l:List GAxis):Prop:=l.length≤1000000∧∀ a ∈ l,a.fName.length≤1000000
def smKy (k:List Str):Prop:=∀ v ∈ k,v.length≤1000000
theorem zQl (axes:List GAxis) (a b:List Str) (h:smAx axes) (ha:smKy a) (hb:smKy b) (hla:a.length≤1000000) (hlb:b.length≤1000000):zC3 axes a b=some (sameL axes a b):=by
  have key : ∀ (k n : Nat), n + k = axes.length → a.length = axes.length → b.length = axes.length →
      ∃ m,zAE (zAJ a b axes) ((n:Int),(n:Int) - 1)=some (if sameL (axes.drop n) (a.drop n) (b.drop n) then .inl m else .inr (false,m)):=by
    intro k
    induction k with
    | zero =>
      intro n hn h1 h2
      have:n=axes.length:=by omega
      subst this
      refine ⟨(axes.length:Int) - 1,?_⟩
      rw [zAG (r:=.inl ((axes.length:Int) - 1))]
      · rw [List.drop_length,List.drop_of_length_le (by omega),List.drop_of_length_le (by omega)]; rfl
      · simp only [zAJ]
        rw [← h1,zAM (Nat.le_refl a.length),zAB]
    | succ k ih =>
      intro n hn h1 h2
      have hlt:n<axes.length:=by omega
      have e1:wr ((n:Int) - 1+1)=(n:Int):=by rw [wr_eq ⟨by omega,by have:=h.1; omega⟩]; omega
      have hb':zAJ a b axes ((n:Int),(n:Int) - 1)=some (if sameV axes[n] (a[n]'(by omega)) (b[n]'(by omega)) then .inl (((n+1:Nat):Int),((n+1:Nat):Int) - 1) else .inr (.inr (false,(n:Int)))):=by
        simp only [zAJ,zCa]
        rw [zAN (show n<a.length by omega),zAC,zAK (show n<a.length by omega),zAA,zAK (show n<b.length by omega),zAA,e1,zAK hlt,zAA,
          zQ0 _ _ _ (by have:=h.2 _ (List.getElem_mem hlt); omega) (ha _ (List.getElem_mem _)) (hb _ (List.getElem_mem _)),zAA,zAA,wrs (show n≤4*1073741824 by have:=h.1; omega)]
        show (bif !(sameV _ _ _) then _ else _)=_
        have e2:((n+1:Nat):Int) - 1=(n:Int):=by omega
        rw [e2]
        cases sameV axes[n] (a[n]'(by omega)) (b[n]'(by omega)) <;> rfl
      rw [List.drop_eq_getElem_cons hlt,List.drop_eq_getElem_cons (show n<a.length by omega),List.drop_eq_getElem_cons (show n<b.length by omega),sameL]
      cases hs:sameV axes[n] (a[n]'(by omega)) (b[n]'(by omega)) with
      | true =>
        rw [hs,if_pos rfl] at hb'
        rw [zAI hb']
        obtain ⟨m,hm⟩:=ih (n+1) (by omega) h1 h2
        exact ⟨m,by rw [hm]; rfl⟩
      | false =>
        rw [hs,if_neg (by simp)] at hb'
        exact ⟨(n:Int),by rw [zAG hb']; rfl⟩
  unfold zC3
  by_cases h1:a.length=axes.length
  · have e0:((a.length:Int) !=(axes.length:Int))=false:=by simp [h1]
    rw [e0,zAB]
    unfold zAc
    by_cases h2:b.length=axes.length
    · have e:((a.length:Int) !=(b.length:Int))=false:=by simp [h1,h2]
      obtain ⟨m,hm⟩:=key axes.length 0 (by omega) h1 h2
      rw [e,zAB,show ((0:Int),(-1:Int))=(((0:Nat):Int),((0:Nat):Int) - 1) from rfl,hm,zAA]
      simp only [List.drop_zero]
      cases sameL axes a b <;> rfl
    · have e:((a.length:Int) !=(b.length:Int))=true:=by simp; omega
      have e2:sameL axes a b=false:=by
        cases hs:sameL axes a b with
        | false=>rfl
        | true=>exact absurd (zJF hs).2 h2
      rw [e,zAC,e2]; rfl
  · have e:((a.length:Int) !=(axes.length:Int))=true:=by simp; omega
    have e2:sameL axes a b=false:=by
      cases hs:sameL axes a b with
      | false=>rfl
      | true=>exact absurd (zJF hs).1 h1
    rw [e,zAC,e2]
end Go.Eng.Pure
namespace Go.Eng.Pure
open Go Go.Eng
set_option linter.unusedVariables false
def smKs (l:List (List Str)):Prop:=l.length≤1000000∧∀ k ∈ l,k.length≤1000000∧smKy k
def hasB (axes:List GAxis) (e:GEntry) (key:List Str):Bool:=e.fKeys.any fun k=>sameL axes k key
theorem zSD (axes:List GAxis) (e:GEntry) (key:List Str) (h:smAx axes) (he:smKs e.fKeys) (hk:key.length≤1000000) (hk2:smKy key):zHm axes e key=some (hasB axes e key):=by
  unfold zHm
  rw [zR1 e.fKeys (fun x0=>zEK x0 axes key) (fun k=>sameL axes k key) (by have:=he.1; omega) fun k hm=>by
    unfold zEK
    rw [zQl axes k key h (he.2 k hm).2 hk2 (he.2 k hm).1 hk]; rfl]
  rfl
end Go.Eng.Pure
namespace Go.Eng.Pure
open Go Go.Eng
set_option linter.unusedVariables false
def lastI {α:Type} (l:List α) (p:α→Bool):Nat→Int
  | 0=>-1
  | n+1=>if (l[n]?).any p then (n:Int) else lastI l p n
theorem zPG (l:List GEntry) (f:GEntry→Option Bool) (p:GEntry→Bool) (hl:l.length≤1073741824) (h:∀ x ∈ l,f x=some (p x)):zE7 l f=some (lastI l p l.length):=by
  have key:∀ n,n≤l.length→zAE (zCO l f) ((n:Int) - 1)=some (if lastI l p n=-1 then .inl () else .inr (lastI l p n)):=by
    intro n
    induction n with
    | zero =>
      intro _
      rw [zAG (r:=.inl ())]
      · rfl
      · simp only [zCO]; rfl
    | succ n ih =>
      intro hn
      have hlt:n<l.length:=by omega
      have e1:((n+1:Nat):Int) - 1=(n:Int):=by omega
      have hb:zCO l f (n:Int)=some (if p l[n] then .inr (.inr (n:Int)) else .inl ((n:Int) - 1)):=by
        simp only [zCO]
        rw [decide_eq_true (by omega),zAC,zAK hlt,zAA,h _ (List.getElem_mem hlt),zAA,wr_eq ⟨by omega,by omega⟩]
        cases p l[n] <;> rfl
      rw [e1]
      have hg:(l[n]?).any p=p l[n]:=by rw [List.getElem?_eq_getElem hlt]; rfl
      unfold lastI
      rw [hg]
      cases hp:p l[n] with
      | true =>
        rw [hp,if_pos rfl] at hb
        rw [zAG hb,if_pos rfl,if_neg (by omega)]
      | false =>
        rw [hp,if_neg (by simp)] at hb
        rw [zAI hb,ih (by omega)]
        simp only [Bool.false_eq_true,if_false]
  unfold zE7
  rw [wr_eq ⟨by omega,by omega⟩,key l.length (Nat.le_refl _),zAA]
  by_cases hx:lastI l p l.length=-1
  · rw [if_pos hx]; simp only []; rw [hx]
  · rw [if_neg hx]
end Go.Eng.Pure
namespace Go.Eng.Pure
open Go Go.Eng
set_option linter.unusedVariables false
theorem zMX (l:List Str) (v:Str) (hl:l.length≤1073741824):zAd l v=some (l.contains v):=by
  have key:∀ (k n:Nat),n+k=l.length→∃ r,zAE (zAf l v) (n:Int)=some r∧(match r with | .inr i=>decide (0≤i) | .inl _=>false)=(l.drop n).contains v:=by
    intro k
    induction k with
    | zero =>
      intro n hn
      have:n=l.length:=by omega
      subst this
      refine ⟨.inl (),zAG ?_,by simp⟩
      simp only [zAf]
      rw [zAM (Nat.le_refl _),zAB]
    | succ k ih =>
      intro n hn
      have hlt:n<l.length:=by omega
      have hb:zAf l v (n:Int)=some (if v==l[n] then .inr (.inr (n:Int)) else .inl ((n+1:Nat):Int)):=by
        simp only [zAf]
        rw [zAN hlt,zAC,zAK hlt,zAA,wrs (show n≤4*1073741824 by omega)]
        cases v==l[n] <;> rfl
      rw [List.drop_eq_getElem_cons hlt,List.contains_cons]
      cases hp:v==l[n] with
      | true =>
        rw [hp,if_pos rfl] at hb
        exact ⟨_,zAG hb,by simp⟩
      | false =>
        rw [hp,if_neg (by simp)] at hb
        obtain ⟨r,h1,h2⟩:=ih (n+1) (by omega)
        exact ⟨r,by rw [zAI hb,h1],by rw [h2]; rfl⟩
  obtain ⟨r,h1,h2⟩:=key l.length 0 (by omega)
  unfold zAd zBS
  rw [show (0:Int)=((0:Nat):Int) from rfl,h1,zAA]
  rw [List.drop_zero] at h2
  cases r with
  | inl u=>simp only [] at h2 ⊢; rw [← h2]; rfl
  | inr i=>simp only [] at h2 ⊢; rw [← h2]; rfl
end Go.Eng.Pure
