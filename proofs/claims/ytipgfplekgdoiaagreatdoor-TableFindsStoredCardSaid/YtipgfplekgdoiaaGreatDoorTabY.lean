/- A part. -/
import Derived.Test.YtipgfplekgdoiaaGreatDoorMakeQ
set_option linter.unusedVariables false
namespace Go.Eng.Pure
open Go Go.Eng
set_option linter.unusedVariables false
def ND {β:Type} (m:List (Str×β)):Prop:=(m.map Prod.fst).Nodup
theorem zMG {β:Type} (k:Str) (v:β):∀ m:List (Str×β),(mset m k v).map Prod.fst=if k ∈ m.map Prod.fst then m.map Prod.fst else m.map Prod.fst++[k]
  | []=>by simp [mset]
  | p :: r=>by
    unfold mset
    by_cases h:k=p.1
    · subst h; simp
    · have hb:(k==p.1)=false:=by simpa using h
      rw [hb]
      simp only [Bool.false_eq_true,if_false,List.map_cons,zMG k v r,List.mem_cons,h,false_or]
      split <;> simp
theorem ND.mset {β:Type} {m:List (Str×β)} (h:ND m) (k:Str) (v:β):ND (mset m k v):=by
  unfold ND at *
  rw [zMG]
  split
  · exact h
  · rename_i hk
    rw [List.nodup_append]
    exact ⟨h,by simp,by intro a ha b hb; rw [List.mem_singleton] at hb; subst hb; exact fun e=>hk (e ▸ ha)⟩
theorem zLs {β:Type} (k:Str):∀ m:List (Str×β),((mdel m k).map Prod.fst).Sublist (m.map Prod.fst)
  | []=>by simp [mdel]
  | p :: r=>by
    unfold mdel
    split
    · exact List.sublist_cons_self _ _
    · exact (zLs k r).cons_cons _
theorem ND.mdel {β:Type} {m:List (Str×β)} (h:ND m) (k:Str):ND (mdel m k):=(zLs k m).nodup h
theorem zKQ {β:Type} (k k':Str):∀ m:List (Str×β),ND m→(mdel m k).lookup k'=if k'==k then none else m.lookup k'
  | [],_=>by simp [mdel]
  | p :: r,h=>by
    unfold ND at h
    rw [List.map_cons,List.nodup_cons] at h
    unfold mdel
    by_cases hk:k=p.1
    · subst hk
      rw [if_pos (by simp)]
      by_cases hk':k'=p.1
      · subst hk'
        rw [if_pos (by simp)]
        have:∀ (r:List (Str×β)),p.1 ∉ r.map Prod.fst→r.lookup p.1=none:=by
          intro r
          induction r with
          | nil=>intro _; rfl
          | cons q r ih =>
            intro hn
            rw [List.map_cons,List.mem_cons,not_or] at hn
            rw [List.lookup,show (p.1==q.1)=false by simpa using hn.1]
            exact ih hn.2
        exact this r h.1
      · have hb:(k'==p.1)=false:=by simpa using hk'
        rw [List.lookup,hb]; rfl
    · have hb:(k==p.1)=false:=by simpa using hk
      rw [hb]
      simp only [Bool.false_eq_true,if_false]
      rw [List.lookup,List.lookup,zKQ k k' r h.2]
      by_cases hk':k'=p.1
      · subst hk'
        have:(p.1==k)=false:=by simpa using Ne.symm hk
        simp [this]
      · have hb':(k'==p.1)=false:=by simpa using hk'
        rw [hb']
theorem zPk {β:Type} {m:List (Str×β)} (h:ND m) (k k':Str) (z:β):(mget (mdel m k) k' z).1=if k'==k then z else (mget m k' z).1:=by
  unfold mget
  rw [zKQ k k' m h]
  cases k'==k <;> rfl
theorem zLe (g:Str→Str) (k:Str):∀ (ms:List Str) (m:List (Str×Bool)),(mget (ms.foldl (fun m x=>mset m (g x) true) m) k false).1=((mget m k false).1||ms.any fun x=>g x==k)
  | [],m=>by simp
  | x :: ms,m=>by
    rw [List.foldl_cons,zLe g k ms,zLv,List.any_cons]
    by_cases h:k=g x
    · subst h; simp
    · have h1:(k==g x)=false:=by simpa using h
      have h2:(g x==k)=false:=by simpa using Ne.symm h
      rw [h1,h2]; simp
theorem zJp (g:Str→Str):∀ (ms:List Str) (m:List (Str×Bool)),ND m→ND (ms.foldl (fun m x=>mset m (g x) true) m)
  | [],m,h=>h
  | x :: ms,m,h=>zJp g ms _ (h.mset _ _)
theorem zNe (k:Str):∀ (ms:List Str) (m:List (Str×Bool)),ND m→(mget (ms.foldl (fun m x=>mdel m x) m) k false).1=((mget m k false).1&&!ms.any fun x=>x==k)
  | [],m,h=>by simp
  | x :: ms,m,h=>by
    rw [List.foldl_cons,zNe k ms _ (h.mdel x),zPk h,List.any_cons]
    by_cases hk:k=x
    · subst hk; simp
    · have h1:(k==x)=false:=by simpa using hk
      have h2:(x==k)=false:=by simpa using Ne.symm hk
      rw [h1,h2]; simp
def connN:Str:=[67,111,110,110,101,99,116,105,111,110]
def fixedL:List Str:=[[67,111,110,110,101,99,116,105,111,110],[75,101,101,112,45,65,108,105,118,101],[80,114,111,120,121,45,67,111,110,110,101,99,116,105,111,110],[80,114,111,120,121,45,65,117,116,104,101,110,116,105,99,97,116,101],[80,114,111,120,121,45,65,117,116,104,111,114,105,122,97,116,105,111,110],[84,69],[84,114,97,105,108,101,114],[84,114,97,110,115,102,101,114,45,69,110,99,111,100,105,110,103],[67,111,110,116,101,110,116,45,76,101,110,103,116,104],[85,112,103,114,97,100,101]]
def keptL:List Str:=[[72,111,115,116],[67,97,99,104,101,45,67,111,110,116,114,111,108],[86,97,114,121],[86,97,114,105,97,110,116,115],[86,97,114,105,97,110,116,45,75,101,121],[86,105,97]]
def zMZ (l:List GField) (f:GField):Bool:=fixedL.any (fold f.fName)||((allM l connN).any (fold f.fName)&&!keptL.any (fold f.fName))
def zNI (l:List GField):List GField:=l.filter fun f=>!zMZ l f
theorem zPu (name:Str) (l:List Str):(l.any fun x=>lower x==lower name)=l.any (fold name):=by
  congr 1
  funext x
  rw [zLC,Bool.eq_iff_iff,beq_iff_eq,beq_iff_eq]
  exact ⟨Eq.symm,Eq.symm⟩
theorem zOI (ms:List Str) (hl:ms.length≤64) (hm:∀ m ∈ ms,m.length≤100000):zAF (zBx ms) (0,[])=some (ms.foldl (fun m x=>mset m (lower x) true) []):=by
  have:=zBB (σ:=List (Str×Bool)) (fun st n=>(n,st)) ms (fun m x=>mset m (lower x) true) id (zBx ms) (fun _ _=>True) [] trivial ?_ ?_
  · exact this
  · intro n hn st _
    refine ⟨?_,trivial⟩
    show zBx ms ((n:Int),st)=_
    unfold zBx
    try simp only []
    rw [zAK hn,zAC,zAG hn,zAA,zBL _ (by have:=hm _ (List.getElem_mem hn); omega),zAA,wrs (by omega)]
  · intro st _
    show zBx ms ((ms.length:Int),st)=_
    unfold zBx
    try simp only []
    rw [zAH (Nat.le_refl _),zAB]; rfl
theorem zMy (l : List GField) (p : GField → Bool) (body : (List GField × Int) → Option ((List GField × Int) ⊕ List GField)) (hl : l.length ≤ 1000000)
    (h:∀ n (hn:n<l.length) (out:List GField),out.length≤n→body (out,(n:Int))=some (.inl (if p l[n] then out++[l[n]] else out,((n+1:Nat):Int))))
    (h':∀ out,body (out,(l.length:Int))=some (.inr out)):zAF body ([],0)=some (l.filter p):=by
  have:=zBB (σ:=List GField) (fun st n=>(st,n)) l (fun out f=>if p f then out++[f] else out) id body (fun n out=>out.length≤n) [] (by simp) (fun n hn st hI=>⟨h n hn st hI,by
    split
    · rw [List.length_append,List.length_singleton]; omega
    · omega⟩) (fun st hI=>h' st)
  rw [this]
  congr 1
  have key:∀ (l:List GField) (acc:List GField),l.foldl (fun out f=>if p f then out++[f] else out) acc=acc++l.filter p:=by
    intro l
    induction l with
    | nil=>intro acc; simp
    | cons x l ih =>
      intro acc
      rw [List.foldl_cons,ih,List.filter_cons]
      split <;> simp
  show l.foldl _ []=_
  rw [key,List.nil_append]
theorem zQu (l:List GField) (hl:midL l):zIR l=some (zNI l):=by
  obtain ⟨h1,h2⟩:=zP6 hl
  obtain ⟨a1,a2⟩:=zIo hl connN
  unfold zIR
  rw [zKJ l _ h1 h2 (by decide),zAA]
  show (zAF (zBx (allM l connN)) (0,[])).bind _=_
  rw [zOI _ a1 a2,zAA,zAA,zAA]
  have e1:(zEV 32 [104,111,115,116,32,99,97,99,104,101,45,99,111,110,116,114,111,108,32,118,97,114,121,32,118,97,114,105,97,110,116,115,32,118,97,114,105,97,110,116,45,107,101,121,32,118,105,97])=keptL.map lower:=by decide
  have e2:(zEV 32 [99,111,110,110,101,99,116,105,111,110,32,107,101,101,112,45,97,108,105,118,101,32,112,114,111,120,121,45,99,111,110,110,101,99,116,105,111,110,32,112,114,111,120,121,45,97,117,116,104,101,110,116,105,99,97,116,101,32,112,114,111,120,121,45,97,117,116,104,111,114,105,122,97,116,105,111,110,32,116,101,32,116,114,97,105,108,101,114,32,116,114,97,110,115,102,101,114,45,101,110,99,111,100,105,110,103,32,99,111,110,116,101,110,116,45,108,101,110,103,116,104,32,117,112,103,114,97,100,101])=fixedL.map lower:=by decide
  rw [e1,e2]
  rw [zMy l (fun f=>!zMZ l f) _ hl.1 ?_ ?_]
  · rfl
  · intro n hn out ho
    have hf:=hl.2 _ (List.getElem_mem hn)
    unfold zF6
    simp only []
    rw [zAK hn,zAC,zAG hn,zAA]
    generalize l[n]=f at *
    rw [zBL _ (by omega),zAA,zAA,wrs (by have:=hl.1; omega)]
    have hg:(mget ((fixedL.map lower).foldl (fun m k=>mset m k true) ((keptL.map lower).foldl (fun m k=>mdel m k) ((allM l connN).foldl (fun m x=>mset m (lower x) true) []))) (lower f.fName) false).1=zMZ l f:=by
      have h3:=zLe (fun x=>x) (lower f.fName) (fixedL.map lower) ((keptL.map lower).foldl (fun m k=>mdel m k) ((allM l connN).foldl (fun m x=>mset m (lower x) true) []))
      rw [h3,zNe _ _ _ (zJp lower _ _ (by unfold ND; simp)),zLe lower]
      unfold zMZ
      rw [List.any_map,List.any_map]
      have e4:∀ L:List Str,(L.any ((fun x=>x==lower f.fName)∘lower))=L.any (fold f.fName):=fun L=>zPu f.fName L
      rw [e4,e4,zPu]
      have:(mget ([]:List (Str×Bool)) (lower f.fName) false).1=false:=rfl
      rw [this,Bool.false_or,Bool.or_comm]
    rw [hg]
    cases zMZ l f with
    | true=>rfl
    | false=>rw [Bool.not_false,zAC,zAc (by have:=hl.1; omega) (zA1 _),zAA]; rfl
  · intro out
    unfold zF6
    simp only []
    rw [zAH (Nat.le_refl _),zAB]
end Go.Eng.Pure
namespace Go.Eng.Pure
open Go Go.Eng
set_option linter.unusedVariables false
theorem zNt {l:List GField} (h:keepF l=true):smL l:=zLJ h
theorem zPg {l:List GField} (h:smL l):smL (zNI l) :=
  ⟨Nat.le_trans (List.length_filter_le _ _) h.1,fun f hf=>h.2 f ((List.mem_filter.1 hf).1)⟩
def mkS (q:GRequest) (r:GResponse) (rq rc:Int):GEntry×List GAxis :=
  if ((parV r.fFields).2==0&&(parK r.fFields (parV r.fFields).1).2==0)=true then (⟨(parK r.fFields (parV r.fFields).1).1,[],[],r.fReason,zNI r.fFields,r.fBody,rq,rc⟩,(parV r.fFields).1)
  else (⟨[],(zHh r.fFields).1,snapF q.fFields (zHh r.fFields).1,r.fReason,zNI r.fFields,r.fBody,rq,rc⟩,[])
theorem zLQ {l:List GField} (h:smL l):(zHh l).1.length≤64∧∀ n ∈ (zHh l).1,n.length≤300:=by
  refine ⟨zOJ h,fun n hn=>?_⟩
  unfold zHh at hn
  split at hn
  · simp at hn
  · have:=(zKm ((allM l varyN).map lower)).2 n
    rw [this] at hn
    obtain ⟨m,hm,rfl⟩:=List.mem_map.1 hn
    rw [zCG]
    exact (zNB h).2 m hm
theorem zRc (q:GRequest) (r:GResponse) (rq rc:Int) (hq:smL q.fFields) (hr:smL r.fFields):zHl q r rq rc=some (mkS q r rq rc):=by
  have hm:=zNH hr
  obtain ⟨n1,n2⟩:=zLQ hr
  unfold zHl mkS
  rw [zQu _ hm,zAA,zPR _ hm,zAA,zPw _ _ hm (zK2 hm),zAA]
  cases ((parV r.fFields).2==0&&(parK r.fFields (parV r.fFields).1).2==0) with
  | true=>rfl
  | false=>rw [zAB,zQ8 _ hr,zAA,zJ5 _ _ hq (by omega) (fun n hn=>by have:=n2 n hn; omega),zAA]; rfl
theorem zM2 (axes:List GAxis):∀ (ks out o:List (List Str)),addK axes ks out=some o→o.length≤out.length+ks.length∧(out≠[]→o≠[])∧(ks≠[]→o≠[])∧∀ x ∈ o,x ∈ out∨∃ k ∈ ks,(resS axes k).2=true∧(resS axes k).1=x
  | [],out,o,h=>by unfold addK at h; injection h with h; subst h; exact ⟨by simp,fun h=>h,fun h=>absurd rfl h,fun x h=>.inl h⟩
  | k :: ks,out,o,h=>by
    unfold addK at h
    split at h
    · rename_i hr
      obtain ⟨h1,h2,h3,h4⟩:=zM2 axes ks _ o h
      have hne:(if out.any (fun k_1=>k_1==(resS axes k).1)=true then out else out++[(resS axes k).1])≠[]:=by
        split
        · rename_i ha; intro e; rw [e] at ha; simp at ha
        · simp
      refine ⟨?_,fun _=>h2 hne,fun _=>h2 hne,fun x hx=>?_⟩
      · have:(if out.any (fun k_1=>k_1==(resS axes k).1)=true then out else out++[(resS axes k).1]).length≤out.length+1:=by split <;> simp
        simp only [List.length_cons]; omega
      · rcases h4 x hx with h | ⟨k',hk',e⟩
        · split at h
          · exact .inl h
          · rcases List.mem_append.1 h with h | h
            · exact .inl h
            · rw [List.mem_singleton] at h; subst h; exact .inr ⟨k,by simp,hr,rfl⟩
        · exact .inr ⟨k',by simp [hk'],e⟩
    · cases h
theorem zQg {axes:List GAxis} {k:List Str} (h:(resS axes k).2=true):(resS axes k).1.length=axes.length:=by
  have gen:∀ (al:List GAxis) (kl acc out:List Str),kl.length=al.length→resL al kl acc=some out→out.length=acc.length+al.length:=by
    intro al
    induction al with
    | nil=>intro kl acc out hl h; unfold resL at h; cases kl <;> (injection h with h; subst h; simp)
    | cons a al ih =>
      intro kl acc out hl h
      cases kl with
      | nil=>cases hl
      | cons k kl =>
        unfold resL at h
        cases hf:a.fValues.find? (samV a k) with
        | none=>rw [hf] at h; cases h
        | some v =>
          rw [hf] at h
          have:=ih kl _ out (by simpa using hl) h
          simp only [List.length_append,List.length_cons,List.length_nil] at this ⊢; omega
  unfold resS at h ⊢
  split at h
  · rename_i hl
    rw [if_pos hl]
    cases hr:resL axes k [] with
    | none=>rw [hr] at h; cases h
    | some o=>simpa using gen axes k [] o hl hr
  · cases h
theorem zKs {l:List GField} {axes:List GAxis} (hl:midL l) (h:(parK l axes).2=0):valB axes=true∧(parK l axes).1≠[]∧(parK l axes).1.length≤64∧∀ k ∈ (parK l axes).1,k.length=axes.length:=by
  unfold parK at h ⊢
  cases hv:valB axes with
  | false=>rw [hv] at h; exact absurd h (by simp)
  | true =>
    rw [hv,if_pos rfl] at h
    rw [if_pos rfl]
    by_cases h0:(allM l keyN).length=0
    · rw [if_pos h0] at h; exact absurd h (by simp)
    · rw [if_neg h0] at h
      rw [if_neg h0]
      cases ho:optL memK (allM l keyN) with
      | none=>rw [ho] at h; exact absurd h (by simp)
      | some ks =>
        rw [ho] at h
        simp only [] at h ⊢
        cases ha:addK axes ks [] with
        | none=>rw [ha] at h; exact absurd h (by simp)
        | some o =>
          simp only []
          obtain ⟨a1,a2,a3,a4⟩:=zM2 axes ks [] o ha
          obtain ⟨o1,o2⟩:=zPM hl ho
          have hl2:=(zJl _ _ _ ho).1
          refine ⟨trivial,a3 (fun e=>h0 (by rw [← hl2,e]; rfl)),by simp only [List.length_nil] at a1; omega,fun k hk=>?_⟩
          rcases a4 k hk with h | ⟨k',_,h1,h2⟩
          · simp at h
          · rw [← h2]; exact zQg h1
theorem zSI (q:GRequest) (r:GResponse) (rq rc:Int) (hr:smL r.fFields):lnE (mkS q r rq rc).1∧(mkS q r rq rc).2.length≤1073741824∧∀ x ∈ (mkS q r rq rc).2,x.fValues.length≤1073741824:=by
  have hm:=zNH hr
  have hsf:=(zPg hr).1
  obtain ⟨n1,n2⟩:=zLQ hr
  unfold mkS
  split
  · rename_i h
    rw [Bool.and_eq_true,beq_iff_eq,beq_iff_eq] at h
    obtain ⟨k1,k2,k3,k4⟩:=zKs hm h.2
    obtain ⟨x1,x2⟩:=zK2 hm
    refine ⟨⟨by simp only []; omega,fun k hk=>by simp only [] at hk; rw [k4 k hk]; omega,by simp,by simp,by simp only []; omega⟩,by simp only []; omega,fun x hx=>?_⟩
    simp only [] at hx
    have:=(x2 x hx).2; omega
  · exact ⟨⟨by simp,by simp,by simp only []; omega,by simp only []; rw [zJk]; omega,by simp only []; omega⟩,by simp,by simp⟩
end Go.Eng.Pure
namespace Go.Eng.Pure
open Go Go.Eng
set_option linter.unusedVariables false
theorem zIV (s:List Str) (h:s.length≤1073741824):zAZ s=some s:=by
  unfold zAZ
  rw [zAc (by simp) (by omega)]; rfl
theorem zPK (s:List GField) (h:s.length≤1073741824):zAk s=some s:=by
  unfold zAk
  rw [zAc (by simp) (by omega)]; rfl
theorem zJA {S α ρ : Type} (mk : List α → Int → S) (fin : List α → ρ) (l : List α) (body : S → Option (S ⊕ ρ)) (hl : l.length ≤ 1073741824)
    (h:∀ (n:Nat) (hn:n<l.length) (out:List α),out.length≤n→body (mk out n)=some (.inl (mk (out++[l[n]]) ((n+1:Nat):Int))))
    (h':∀ out,out.length≤l.length→body (mk out l.length)=some (.inr (fin out))):zAF body (mk [] 0)=some (fin l):=by
  have:=zBB mk l (fun out x=>out++[x]) fin body (fun n out=>out.length≤n) [] (by simp) (fun n hn st hI=>⟨h n hn st hI,by rw [List.length_append]; simp; exact hI⟩) h'
  rw [this]
  have e:∀ (l acc:List α),l.foldl (fun out x=>out++[x]) acc=acc++l:=by
    intro l
    induction l with
    | nil=>intro acc; simp
    | cons x l ih=>intro acc; rw [List.foldl_cons,ih]; simp
  rw [e]; rfl
theorem zJS (l:List GAxis) (hl:l.length≤1073741824) (hv:∀ a ∈ l,a.fValues.length≤1073741824):zGc l=some l:=by
  unfold zGc
  have:=zJA (fun out n=>(out,n)) id l (zEC l) hl ?_ ?_
  · rw [this]; rfl
  · intro n hn out ho
    simp only [zEC]
    rw [zAK hn,zAC,zAG hn,zAA,zIV _ (hv _ (List.getElem_mem hn)),zAA,zAc (by omega) (zA1 _),zAA,wrs (by omega)]
  · intro out _
    simp only [zEC]
    rw [zAH (Nat.le_refl _),zAB]; rfl
def smEn (e:GEntry):Prop:=e.fKeys.length≤1073741824∧(∀ k ∈ e.fKeys,k.length≤1073741824)∧e.fVary.length≤1073741824∧e.fSnapshot.length≤1073741824∧e.fFields.length≤1073741824
theorem zIr (e:GEntry) (h:smEn e):zEc e=some e:=by
  obtain ⟨h1,h2,h3,h4,h5⟩:=h
  unfold zEc
  have:=zJA (fun out n=>(n,out,e.fVary,e.fSnapshot,e.fReason,e.fFields,e.fBody,e.fRequested,e.fReceived)) (fun out=>(out,e.fVary,e.fSnapshot,e.fReason,e.fFields,e.fBody,e.fRequested,e.fReceived)) e.fKeys (zDm e) h1 ?_ ?_
  · rw [this,zAA]
    simp only []
    rw [zIV _ h3,zAA,zIV _ h4,zAA,zPK _ h5]; rfl
  · intro n hn out ho
    simp only [zDm]
    rw [zAK hn,zAC,zAG hn,zAA,zIV _ (h2 _ (List.getElem_mem hn)),zAA,zAc (by omega) (zA1 _),zAA,wrs (by omega)]
  · intro out _
    simp only [zDm]
    rw [zAH (Nat.le_refl _),zAB]
theorem zLm (t:GTable) (h1:t.fAxes.length≤1073741824) (h2:∀ a ∈ t.fAxes,a.fValues.length≤1073741824) (h3:t.fEntries.length≤1073741824) (h4:∀ e ∈ t.fEntries,smEn e):zGk t=some t:=by
  unfold zGk
  rw [zJS _ h1 h2,zAA]
  have:=zJA (fun out n=>(n,t.fAxes,out)) (fun out=>(t.fAxes,out)) t.fEntries (zDY t) h3 ?_ ?_
  · rw [this,zAA]
  · intro n hn out ho
    simp only [zDY]
    rw [zAK hn,zAC,zAG hn,zAA,zIr _ (h4 _ (List.getElem_mem hn)),zAA,zAc (by omega) (zA1 _),zAA,wrs (by omega)]
  · intro out _
    simp only [zDY]
    rw [zAH (Nat.le_refl _),zAB]
theorem zSN (ms:List GEntry) (f:GEntry→Option Bool) (p:GEntry→Bool) (hl:ms.length≤1073741824) (h:∀ m ∈ ms,f m=some (p m)):zAp ms f=some (match ms.findIdx? p with | some i=>(i:Int) | none=>-1):=by
  have key:∀ (k n:Nat),n+k=ms.length→zAF (zAQ ms f) (n:Int)=some (match (ms.drop n).findIdx? p with | some i=>.inr ((n+i:Nat):Int) | none=>.inl ()):=by
    intro k
    induction k with
    | zero =>
      intro n hn
      obtain rfl:n=ms.length:=by omega
      rw [zAE (r:=.inl ())]
      · rw [List.drop_length]; rfl
      · simp only [zAQ,zAH (Nat.le_refl ms.length),zAB]
    | succ k ih =>
      intro n hn
      have hlt:n<ms.length:=by omega
      have hb:zAQ ms f (n:Int)=some (if p ms[n] then .inr (.inr (n:Int)) else .inl ((n+1:Nat):Int)):=by
        simp only [zAQ,zAK hlt,zAC,zAG hlt,zAA,h _ (List.getElem_mem hlt),wrs (show n≤4*1073741824 by omega)]
        cases p ms[n] <;> rfl
      rw [List.drop_eq_getElem_cons hlt,List.findIdx?_cons]
      cases hp:p ms[n] with
      | true =>
        rw [hp,if_pos rfl] at hb
        rw [zAE hb]; rfl
      | false =>
        rw [hp,if_neg (by decide)] at hb
        rw [zAI hb,ih (n+1) (by omega)]
        cases hd:(ms.drop (n+1)).findIdx? p with
        | none=>rfl
        | some i=>simp; omega
  have:=key ms.length 0 (by omega)
  rw [show ((0:Nat):Int)=0 from rfl,List.drop_zero] at this
  unfold zAp
  rw [this,zAA]
  cases ms.findIdx? p with
  | none=>rfl
  | some i=>simp
theorem zPt {α:Type} (xs:List α) (f:α→Option Bool) (p:α→Bool) (h:∀ x ∈ xs,f x=some (p x)):∀ (k n:Nat) (K:List α),n+k=xs.length→zAF (delL xs f) (K,(n:Int))=some (K++(xs.drop n).filter fun x=>!p x)
  | 0,n,K,hn=>by
    have:n=xs.length:=by omega
    subst this
    have hb:delL xs f (K,(xs.length:Int))=some (.inr K):=by
      unfold delL
      rw [zAH (Nat.le_refl _),zAB]
    rw [zAE hb]; simp
  | k+1,n,K,hn=>by
    have hlt:n<xs.length:=by omega
    have hb:delL xs f (K,(n:Int))=some (.inl (bif p xs[n] then K else K++[xs[n]],((n+1:Nat):Int))):=by
      unfold delL
      rw [zAK hlt,zAC,zAG hlt,zAA,h _ (List.getElem_mem hlt),zAA]; rfl
    rw [zAI hb,zPt xs f p h k (n+1) _ (by omega),List.drop_eq_getElem_cons hlt,List.filter_cons]
    cases p xs[n] <;> simp
theorem zJJ {α:Type} (p:α→Bool):∀ (xs:List α) (i:Nat),xs.findIdx? p=some i→i<xs.length∧xs.filter (fun x=>!p x)=xs.take i++(xs.drop (i+1)).filter fun x=>!p x
  | [],i,h=>by simp at h
  | x :: xs,i,h=>by
    rw [List.findIdx?_cons] at h
    cases hp:p x with
    | true =>
      rw [hp] at h
      simp at h; subst h
      simp [hp]
    | false =>
      rw [hp] at h
      simp only [Bool.false_eq_true,if_false,Option.map_eq_some_iff] at h
      obtain ⟨j,hj,rfl⟩:=h
      obtain ⟨h1,h2⟩:=zJJ p xs j hj
      refine ⟨by simp; omega,?_⟩
      rw [List.filter_cons,hp]
      simp [h2]
theorem zNF {α:Type} (p:α→Bool) (xs:List α) (h:xs.findIdx? p=none):xs.filter (fun x=>!p x)=xs:=by
  rw [List.filter_eq_self]
  intro x hx
  have:=List.findIdx?_eq_none_iff.1 h x hx
  simp [this]
theorem zRl (xs:List GEntry) (f:GEntry→Option Bool) (p:GEntry→Bool) (hl:xs.length≤1073741824) (h:∀ x ∈ xs,f x=some (p x)):zAR xs f=some (xs.filter fun x=>!p x):=by
  unfold zAR
  rw [zSN xs f p hl h,zAA]
  unfold delR
  cases hi:xs.findIdx? p with
  | none=>rw [zNF p xs hi]; rfl
  | some i =>
    obtain ⟨h1,h2⟩:=zJJ p xs i hi
    have e1:((i:Int)==-1)=false:=by simp
    have e2:decide (0≤(i:Int)∧(i:Int)<(xs.length:Int))=true:=decide_eq_true ⟨by omega,by omega⟩
    simp only []
    rw [e1,zAB,e2,zAC,Int.toNat_natCast,show ((i:Int)+1)=((i+1:Nat):Int) from rfl,zPt xs f p h (xs.length - (i+1)) (i+1) _ (by omega),h2]
end Go.Eng.Pure
namespace Go.Eng.Pure
open Go Go.Eng
set_option linter.unusedVariables false
def sameV (a:GAxis) (x y:Str):Bool:=(formD (domF a.fName) x).1==(formD (domF a.fName) y).1
def sameL:List GAxis→List Str→List Str→Bool
  | a :: l,x :: xs,y :: ys=>sameV a x y&&sameL l xs ys
  | [],[],[]=>true
  | _,_,_=>false
theorem zHT:∀ {l:List GAxis} {xs ys:List Str},sameL l xs ys=true→xs.length=l.length∧ys.length=l.length
  | a :: l,x :: xs,y :: ys,h=>by
    simp only [sameL,Bool.and_eq_true] at h
    obtain ⟨h1,h2⟩:=zHT h.2
    simp [h1,h2]
  | [],[],[],_=>⟨rfl,rfl⟩
  | [],[],y :: ys,h=>by simp [sameL] at h
  | [],x :: xs,ys,h=>by simp [sameL] at h
  | a :: l,[],ys,h=>by simp [sameL] at h
  | a :: l,x :: xs,[],h=>by simp [sameL] at h
def smAx (l:List GAxis):Prop:=l.length≤1000000∧∀ a ∈ l,a.fName.length≤1000000
def smKy (k:List Str):Prop:=∀ v ∈ k,v.length≤1000000
theorem zM0 (axes:List GAxis) (a b:List Str) (h:smAx axes) (ha:smKy a) (hb:smKy b) (hla:a.length≤1000000) (hlb:b.length≤1000000):zFL axes a b=some (sameL axes a b):=by
  have key : ∀ (k n : Nat), n + k = axes.length → a.length = axes.length → b.length = axes.length →
      zAF (zBs axes a b) (n:Int)=some (if sameL (axes.drop n) (a.drop n) (b.drop n) then .inl () else .inr false):=by
    intro k
    induction k with
    | zero =>
      intro n hn h1 h2
      have:n=axes.length:=by omega
      subst this
      rw [zAE (r:=.inl ())]
      · rw [List.drop_length,List.drop_of_length_le (by omega),List.drop_of_length_le (by omega)]; rfl
      · simp only [zBs,zAH (Nat.le_refl axes.length),zAB]
    | succ k ih =>
      intro n hn h1 h2
      have hlt:n<axes.length:=by omega
      have hb':zBs axes a b (n:Int)=some (if sameV axes[n] (a[n]'(by omega)) (b[n]'(by omega)) then .inl ((n+1:Nat):Int) else .inr (.inr false)):=by
        simp only [zBs,zAK hlt,zAC,zAG hlt,zAA,zAG (show n<a.length by omega),zAG (show n<b.length by omega)]
        rw [zN2 _ _ _ (by have:=h.2 _ (List.getElem_mem hlt); omega) (ha _ (List.getElem_mem _)) (hb _ (List.getElem_mem _)),zAA,wrs (show n≤4*1073741824 by have:=h.1; omega)]
        show (bif !(sameV _ _ _) then _ else _)=_
        cases sameV axes[n] (a[n]'(by omega)) (b[n]'(by omega)) <;> rfl
      rw [List.drop_eq_getElem_cons hlt,List.drop_eq_getElem_cons (show n<a.length by omega),List.drop_eq_getElem_cons (show n<b.length by omega),sameL]
      cases hs:sameV axes[n] (a[n]'(by omega)) (b[n]'(by omega)) with
      | true =>
        rw [hs,if_pos rfl] at hb'
        rw [zAI hb',ih (n+1) (by omega) h1 h2]; rfl
      | false =>
        rw [hs,if_neg (by simp)] at hb'
        rw [zAE hb']; rfl
  unfold zFL
  by_cases h1:a.length=axes.length
  · by_cases h2:b.length=axes.length
    · have e:(((a.length:Int) !=(axes.length:Int))||((b.length:Int) !=(axes.length:Int)))=false:=by simp [h1,h2]
      rw [e,zAB,show (0:Int)=((0:Nat):Int) from rfl,key axes.length 0 (by omega) h1 h2,zAA]
      simp only [List.drop_zero]
      cases sameL axes a b <;> rfl
    · have e:(((a.length:Int) !=(axes.length:Int))||((b.length:Int) !=(axes.length:Int)))=true:=by simp; right; omega
      have e2:sameL axes a b=false:=by
        cases hs:sameL axes a b with
        | false=>rfl
        | true=>exact absurd (zHT hs).2 h2
      rw [e,zAC,e2]
  · have e:(((a.length:Int) !=(axes.length:Int))||((b.length:Int) !=(axes.length:Int)))=true:=by simp; left; omega
    have e2:sameL axes a b=false:=by
      cases hs:sameL axes a b with
      | false=>rfl
      | true=>exact absurd (zHT hs).1 h1
    rw [e,zAC,e2]
theorem zQr (axes:List GAxis) (a b:List Str) (h:smAx axes) (ha:smKy a) (hb:smKy b) (hla:a.length≤1000000) (hlb:b.length≤1000000):zEK axes a b=some (sameL axes a b):=by
  have key : ∀ (k n : Nat), n + k = axes.length → a.length = axes.length → b.length = axes.length →
      ∃ m,zAF (zAM a b axes) ((n:Int),(n:Int) - 1)=some (if sameL (axes.drop n) (a.drop n) (b.drop n) then .inl m else .inr (false,m)):=by
    intro k
    induction k with
    | zero =>
      intro n hn h1 h2
      have:n=axes.length:=by omega
      subst this
      refine ⟨(axes.length:Int) - 1,?_⟩
      rw [zAE (r:=.inl ((axes.length:Int) - 1))]
      · rw [List.drop_length,List.drop_of_length_le (by omega),List.drop_of_length_le (by omega)]; rfl
      · simp only [zAM]
        rw [← h1,zAH (Nat.le_refl a.length),zAB]
    | succ k ih =>
      intro n hn h1 h2
      have hlt:n<axes.length:=by omega
      have e1:wr ((n:Int) - 1+1)=(n:Int):=by rw [wr_eq ⟨by omega,by have:=h.1; omega⟩]; omega
      have hb':zAM a b axes ((n:Int),(n:Int) - 1)=some (if sameV axes[n] (a[n]'(by omega)) (b[n]'(by omega)) then .inl (((n+1:Nat):Int),((n+1:Nat):Int) - 1) else .inr (.inr (false,(n:Int)))):=by
        simp only [zAM,zDS]
        rw [zAK (show n<a.length by omega),zAC,zAG (show n<a.length by omega),zAA,zAG (show n<b.length by omega),zAA,e1,zAG hlt,zAA,
          zNJ _ _ _ (by have:=h.2 _ (List.getElem_mem hlt); omega) (ha _ (List.getElem_mem _)) (hb _ (List.getElem_mem _)),zAA,zAA,wrs (show n≤4*1073741824 by have:=h.1; omega)]
        show (bif !(sameV _ _ _) then _ else _)=_
        have e2:((n+1:Nat):Int) - 1=(n:Int):=by omega
        rw [e2]
        cases sameV axes[n] (a[n]'(by omega)) (b[n]'(by omega)) <;> rfl
      rw [List.drop_eq_getElem_cons hlt,List.drop_eq_getElem_cons (show n<a.length by omega),List.drop_eq_getElem_cons (show n<b.length by omega),sameL]
      cases hs:sameV axes[n] (a[n]'(by omega)) (b[n]'(by omega)) with
      | true =>
        rw [hs,if_pos rfl] at hb'
        rw [zAI hb']
        obtain ⟨m,hm⟩:=ih (n+1) (by omega) h1 h2
        exact ⟨m,by rw [hm]; rfl⟩
      | false =>
        rw [hs,if_neg (by simp)] at hb'
        exact ⟨(n:Int),by rw [zAE hb']; rfl⟩
  unfold zEK
  by_cases h1:a.length=axes.length
  · have e0:((a.length:Int) !=(axes.length:Int))=false:=by simp [h1]
    rw [e0,zAB]
    unfold zAs
    by_cases h2:b.length=axes.length
    · have e:((a.length:Int) !=(b.length:Int))=false:=by simp [h1,h2]
      obtain ⟨m,hm⟩:=key axes.length 0 (by omega) h1 h2
      rw [e,zAB,show ((0:Int),(-1:Int))=(((0:Nat):Int),((0:Nat):Int) - 1) from rfl,hm,zAA]
      simp only [List.drop_zero]
      cases sameL axes a b <;> rfl
    · have e:((a.length:Int) !=(b.length:Int))=true:=by simp; omega
      have e2:sameL axes a b=false:=by
        cases hs:sameL axes a b with
        | false=>rfl
        | true=>exact absurd (zHT hs).2 h2
      rw [e,zAC,e2]; rfl
  · have e:((a.length:Int) !=(axes.length:Int))=true:=by simp; omega
    have e2:sameL axes a b=false:=by
      cases hs:sameL axes a b with
      | false=>rfl
      | true=>exact absurd (zHT hs).1 h1
    rw [e,zAC,e2]
end Go.Eng.Pure
namespace Go.Eng.Pure
open Go Go.Eng
set_option linter.unusedVariables false
def smKs (l:List (List Str)):Prop:=l.length≤1000000∧∀ k ∈ l,k.length≤1000000∧smKy k
def hasB (axes:List GAxis) (e:GEntry) (key:List Str):Bool:=e.fKeys.any fun k=>sameL axes k key
theorem zOs (axes:List GAxis) (e:GEntry) (key:List Str) (h:smAx axes) (he:smKs e.fKeys) (hk:key.length≤1000000) (hk2:smKy key):zHd axes e key=some (hasB axes e key):=by
  unfold zHd
  rw [zMt e.fKeys (fun x0=>zFd x0 axes key) (fun k=>sameL axes k key) (by have:=he.1; omega) fun k hm=>by
    unfold zFd
    rw [zQr axes k key h (he.2 k hm).2 hk2 (he.2 k hm).1 hk]; rfl]
  rfl
def replB (axes:List GAxis) (e old:GEntry):Bool:=bif axes.isEmpty then e.fVary==old.fVary&&e.fSnapshot==old.fSnapshot else e.fKeys.any fun k=>hasB axes old k
theorem zNN (axes:List GAxis) (e old:GEntry) (h:smAx axes) (he:smKs e.fKeys) (ho:smKs old.fKeys) (hv:e.fVary.length≤1073741824) (hs:e.fSnapshot.length≤1073741824):zDc axes e old=some (replB axes e old):=by
  unfold zDc replB
  cases hx:axes with
  | nil =>
    rw [show ((([]:List GAxis).length:Int)==0)=true from rfl,zAC,zHZ _ _ hv,zAA,show ([]:List GAxis).isEmpty=true from rfl,zAC]
    cases e.fVary==old.fVary with
    | true=>rw [zAC,zHZ _ _ hs]; rfl
    | false=>rfl
  | cons a l =>
    rw [← hx]
    have e1:((axes.length:Int)==0)=false:=by rw [hx]; simp; omega
    have e2:axes.isEmpty=false:=by rw [hx]; rfl
    rw [e1,zAB,e2,zAB,zMt e.fKeys (fun x0=>zCX x0 axes old) (fun k=>hasB axes old k) (by have:=he.1; omega) fun k hm=>by
      unfold zCX
      rw [zOs axes old k h ho (he.2 k hm).1 (he.2 k hm).2]; rfl]
    rfl
end Go.Eng.Pure
namespace Go.Eng.Pure
open Go Go.Eng
set_option linter.unusedVariables false
theorem zPJ (a b:List GAxis) (ha:a.length≤1073741824) (hs:∀ x ∈ a,x.fValues.length≤1073741824):zEh a b=some (decide (a=b)):=by
  unfold zEh zAb
  by_cases hl:a.length=b.length
  · have e:((a.length:Int) !=(b.length:Int))=false:=by simp [hl]
    rw [e,zAB,zK0 a b _ hl]
    · by_cases h:a=b <;> simp [h]
    · intro n hn hb
      simp only [zAP,zDs]
      rw [zAK hn,zAC,zAG hn,zAA,zAG hb,zAA,wrs (show n≤4*1073741824 by omega)]
      have hd:(a[n]=b[n])↔(a[n].fName=b[n].fName∧a[n].fValues=b[n].fValues):=by
        constructor
        · intro h; rw [h]; exact ⟨rfl,rfl⟩
        · intro ⟨h1,h2⟩
          cases ha':a[n]; cases hb':b[n]
          rw [ha',hb'] at h1 h2
          simp at h1 h2
          rw [h1,h2]
      by_cases h1:a[n].fName=b[n].fName
      · rw [show (a[n].fName==b[n].fName)=true from by simp [h1],zAC,zHZ _ _ (hs _ (List.getElem_mem hn)),zAA,zAA,zAA]
        by_cases h2:a[n].fValues=b[n].fValues
        · rw [if_pos (hd.2 ⟨h1,h2⟩)]; simp [h2]
        · rw [if_neg (fun h=>h2 (hd.1 h).2),show (a[n].fValues==b[n].fValues)=false from by simp [h2]]; rfl
      · rw [show (a[n].fName==b[n].fName)=false from by simp [h1],zAB,zAA,zAA,if_neg (fun h=>h1 (hd.1 h).1)]
        rfl
    · simp only [zAP]
      rw [zAH (Nat.le_refl _),zAB]
  · have e:((a.length:Int) !=(b.length:Int))=true:=by simp; omega
    have:a≠b:=fun h=>hl (by rw [h])
    rw [e,zAC]
    simp [this]
def limN (limit:Int):Nat:=(if limit<0 then 0 else limit).toNat
def putE (t:GTable) (e:GEntry) (axes:List GAxis):List GEntry:=(if t.fAxes=axes then t.fEntries.filter (fun x=>!replB axes e x) else [])++[e]
def putS (t:GTable) (e:GEntry) (axes:List GAxis) (limit:Int):GTable:=⟨axes,(putE t e axes).drop ((putE t e axes).length - limN limit)⟩
def smTb (t:GTable):Prop:=smAx t.fAxes∧(∀ a ∈ t.fAxes,a.fValues.length≤1000000)∧t.fEntries.length≤1000000∧∀ e ∈ t.fEntries,smEn e∧smKs e.fKeys
theorem zPQ (t : GTable) (e : GEntry) (axes : List GAxis) (limit : Int) (ht : smTb t) (he : smEn e) (hk : smKs e.fKeys) (ha : smAx axes) (hav : ∀ a ∈ axes, a.fValues.length ≤ 1000000) (hlim : limit ≤ 9223372036854775807) :
    zEy t e axes limit=some (putS t e axes limit):=by
  obtain ⟨ht1,ht2,ht3,ht4⟩:=ht
  have hj : ∀ m : List GEntry, m.length ≤ 1000000 → (∀ x ∈ m, smKs x.fKeys) → ((zAR m fun x0 => zFg x0 axes e).bind fun l60 =>
      (zEc e).bind fun r69=>(xapp l60 ([r69]:List GEntry)).bind fun l87 =>
      (xsub l87 (if (wr ((l87.length:Int) - (if limit<0 then 0 else limit)))<0 then 0 else (wr ((l87.length:Int) - (if limit<0 then 0 else limit)))) l87.length).bind fun l96 =>
      some (⟨axes,l96⟩:GTable))=some ⟨axes,((m.filter fun x=>!replB axes e x)++[e]).drop (((m.filter fun x=>!replB axes e x)++[e]).length - limN limit)⟩:=by
    intro m hm hks
    rw [zRl m _ (fun x=>replB axes e x) (by omega) (fun x hx=>by
      unfold zFg
      rw [zNN axes e x ha hk (hks x hx) (by have:=he.2.2.1; omega) (by have:=he.2.2.2.1; omega)]; rfl),zAA,zIr e he,zAA]
    have hfl:=List.length_filter_le (fun x=>!replB axes e x) m
    rw [zAc (by omega) (zA1 _),zAA]
    generalize hM:(m.filter fun x=>!replB axes e x)++[e]=M
    have hMl:M.length≤1000001:=by rw [← hM,List.length_append,List.length_singleton]; omega
    have hw:(if (wr ((M.length:Int) - (if limit<0 then 0 else limit)))<0 then (0:Int) else (wr ((M.length:Int) - (if limit<0 then 0 else limit))))=((M.length - limN limit:Nat):Int):=by
      unfold limN
      by_cases h0:limit<0
      · rw [if_pos h0,wr_eq ⟨by omega,by omega⟩,if_neg (by omega)]; simp
      · rw [if_neg h0,wr_eq ⟨by omega,by omega⟩]
        split <;> omega
    rw [hw,zBz (by omega),zAA]
  unfold zEy putS putE
  rw [zLm t (by have:=ht1.1; omega) (fun a h=>by have:=ht2 a h; omega) (by omega) (fun x h=>(ht4 x h).1),zAA,zPJ _ _ (by have:=ht1.1; omega) (fun a h=>by have:=ht2 a h; omega),zAA]
  by_cases hx:t.fAxes=axes
  · rw [decide_eq_true hx,Bool.not_true,zAB,zAA,if_pos hx]
    simp only []
    rw [hx]
    exact hj t.fEntries ht3 fun x h=>(ht4 x h).2
  · rw [decide_eq_false hx,Bool.not_false,zAC,zJS axes (by have:=ha.1; omega) (fun a h=>by have:=hav a h; omega),zAA,zAA,if_neg hx]
    simp only []
    exact hj [] (by simp) (by simp)
end Go.Eng.Pure
namespace Go.Eng.Pure
open Go Go.Eng
set_option linter.unusedVariables false
def lastI {α:Type} (l:List α) (p:α→Bool):Nat→Int
  | 0=>-1
  | n+1=>if (l[n]?).any p then (n:Int) else lastI l p n
theorem zNK {α:Type} (l:List α) (p:α→Bool):∀ n,lastI l p n=-1∨0≤lastI l p n∧lastI l p n<n
  | 0=>.inl rfl
  | n+1=>by
    unfold lastI
    split
    · exact .inr ⟨by omega,by omega⟩
    · rcases zNK l p n with h | h
      · exact .inl h
      · exact .inr ⟨h.1,by omega⟩
theorem zMm (l:List GEntry) (f:GEntry→Option Bool) (p:GEntry→Bool) (hl:l.length≤1073741824) (h:∀ x ∈ l,f x=some (p x)):zFT l f=some (lastI l p l.length):=by
  have key:∀ n,n≤l.length→zAF (zDL l f) ((n:Int) - 1)=some (if lastI l p n=-1 then .inl () else .inr (lastI l p n)):=by
    intro n
    induction n with
    | zero =>
      intro _
      rw [zAE (r:=.inl ())]
      · rfl
      · simp only [zDL]; rfl
    | succ n ih =>
      intro hn
      have hlt:n<l.length:=by omega
      have e1:((n+1:Nat):Int) - 1=(n:Int):=by omega
      have hb:zDL l f (n:Int)=some (if p l[n] then .inr (.inr (n:Int)) else .inl ((n:Int) - 1)):=by
        simp only [zDL]
        rw [decide_eq_true (by omega),zAC,zAG hlt,zAA,h _ (List.getElem_mem hlt),zAA,wr_eq ⟨by omega,by omega⟩]
        cases p l[n] <;> rfl
      rw [e1]
      have hg:(l[n]?).any p=p l[n]:=by rw [List.getElem?_eq_getElem hlt]; rfl
      unfold lastI
      rw [hg]
      cases hp:p l[n] with
      | true =>
        rw [hp,if_pos rfl] at hb
        rw [zAE hb,if_pos rfl,if_neg (by omega)]
      | false =>
        rw [hp,if_neg (by simp)] at hb
        rw [zAI hb,ih (by omega)]
        simp only [Bool.false_eq_true,if_false]
  unfold zFT
  rw [wr_eq ⟨by omega,by omega⟩,key l.length (Nat.le_refl _),zAA]
  by_cases hx:lastI l p l.length=-1
  · rw [if_pos hx]; simp only []; rw [hx]
  · rw [if_neg hx]
theorem zL1 {α:Type} (l:List α) (p:α→Bool):∀ n,n≤l.length→decide (0≤lastI l p n)=(l.take n).any p
  | 0,_=>rfl
  | n+1,hn=>by
    have hlt:n<l.length:=by omega
    have hg:(l[n]?).any p=p l[n]:=by rw [List.getElem?_eq_getElem hlt]; rfl
    unfold lastI
    rw [hg,List.take_succ_eq_append_getElem hlt,List.any_append]
    cases hp:p l[n] with
    | true=>simp [hp]
    | false =>
      rw [if_neg (by simp),zL1 l p n (by omega)]; simp [hp]
end Go.Eng.Pure
namespace Go.Eng.Pure
open Go Go.Eng
set_option linter.unusedVariables false
def asc:List Str→Bool
  | a :: b :: l=>Op.bytesLess a b&&asc (b :: l)
  | _=>true
theorem zQV (l : List Str) (body : Int → Option (Int ⊕ (Unit ⊕ Bool))) (hl : l.length ≤ 1073741824)
    (h:∀ n (h1:n+1<l.length),body ((n+1:Nat):Int)=some (if Op.bytesLess (l[n]'(by omega)) l[n+1] then .inl ((n+2:Nat):Int) else .inr (.inr false)))
    (h':∀ n,l.length≤n→body (n:Int)=some (.inr (.inl ()))):zAF body 1=some (if asc l then .inl () else .inr false):=by
  have key:∀ (k n:Nat),n+k=l.length→zAF body ((n+1:Nat):Int)=some (if asc (l.drop n) then .inl () else .inr false):=by
    intro k
    induction k with
    | zero =>
      intro n hn
      rw [zAE (h' (n+1) (by omega)),List.drop_of_length_le (by omega)]; rfl
    | succ k ih =>
      intro n hn
      by_cases h1:n+1<l.length
      · have hb:=h n h1
        rw [List.drop_eq_getElem_cons (show n<l.length by omega),List.drop_eq_getElem_cons h1,asc,← List.drop_eq_getElem_cons h1]
        cases hp:Op.bytesLess (l[n]'(by omega)) l[n+1] with
        | true =>
          rw [hp,if_pos rfl] at hb
          rw [zAI hb,ih (n+1) (by omega),Bool.true_and]
        | false =>
          rw [hp,if_neg (by simp)] at hb
          rw [zAE hb]; rfl
      · rw [zAE (h' (n+1) (by omega))]
        have:l.drop n=[l[n]'(by omega)]:=by
          rw [List.drop_eq_getElem_cons (show n<l.length by omega),List.drop_of_length_le (by omega)]
        rw [this]; rfl
  have:=key l.length 0 (by omega)
  rw [List.drop_zero] at this
  exact this
def zLS (e:GEntry):Bool:=e.fKeys.isEmpty&&e.fVary.length==e.fSnapshot.length&&asc e.fVary
theorem zOG (e:GEntry) (hv:e.fVary.length≤1073741824):zF2 e=some (zLS e):=by
  unfold zF2 zLS
  rw [zQV e.fVary (zC4 e) hv]
  · cases hk:e.fKeys with
    | cons k l=>rw [show decide (0<(((k :: l).length:Nat):Int))=true from decide_eq_true (by simp),Bool.true_or,zAC]; rfl
    | nil =>
      rw [show decide (0<((([]:List (List Str)).length:Nat):Int))=false from rfl,Bool.false_or]
      by_cases h1:e.fVary.length=e.fSnapshot.length
      · rw [show ((e.fVary.length:Int) !=(e.fSnapshot.length:Int))=false from by simp [h1],zAB,zAA,show (e.fVary.length==e.fSnapshot.length)=true from by simp [h1]]
        cases asc e.fVary <;> rfl
      · rw [show ((e.fVary.length:Int) !=(e.fSnapshot.length:Int))=true from by simp; omega,zAC,show (e.fVary.length==e.fSnapshot.length)=false from by simp [h1]]; rfl
  · intro n h1
    simp only [zC4]
    rw [zAK h1,zAC,show ((n+1:Nat):Int) - 1=(n:Int) by omega,wr_eq ⟨by omega,by omega⟩,zAG (show n<e.fVary.length by omega),zAA,zAG h1,zAA,wrs (by omega)]
    cases Op.bytesLess (e.fVary[n]'(by omega)) e.fVary[n+1] <;> rfl
  · intro n hn
    simp only [zC4]
    rw [zAH hn,zAB]
end Go.Eng.Pure
namespace Go.Eng.Pure
open Go Go.Eng
set_option linter.unusedVariables false
theorem zJs (l:List Str) (v:Str) (hl:l.length≤1073741824):zAg l v=some (l.contains v):=by
  have key:∀ (k n:Nat),n+k=l.length→∃ r,zAF (zAf l v) (n:Int)=some r∧(match r with | .inr i=>decide (0≤i) | .inl _=>false)=(l.drop n).contains v:=by
    intro k
    induction k with
    | zero =>
      intro n hn
      have:n=l.length:=by omega
      subst this
      refine ⟨.inl (),zAE ?_,by simp⟩
      simp only [zAf]
      rw [zAH (Nat.le_refl _),zAB]
    | succ k ih =>
      intro n hn
      have hlt:n<l.length:=by omega
      have hb:zAf l v (n:Int)=some (if v==l[n] then .inr (.inr (n:Int)) else .inl ((n+1:Nat):Int)):=by
        simp only [zAf]
        rw [zAK hlt,zAC,zAG hlt,zAA,wrs (show n≤4*1073741824 by omega)]
        cases v==l[n] <;> rfl
      rw [List.drop_eq_getElem_cons hlt,List.contains_cons]
      cases hp:v==l[n] with
      | true =>
        rw [hp,if_pos rfl] at hb
        exact ⟨_,zAE hb,by simp⟩
      | false =>
        rw [hp,if_neg (by simp)] at hb
        obtain ⟨r,h1,h2⟩:=ih (n+1) (by omega)
        exact ⟨r,by rw [zAI hb,h1],by rw [h2]; rfl⟩
  obtain ⟨r,h1,h2⟩:=key l.length 0 (by omega)
  unfold zAg zBq
  rw [show (0:Int)=((0:Nat):Int) from rfl,h1,zAA]
  rw [List.drop_zero] at h2
  cases r with
  | inl u=>simp only [] at h2 ⊢; rw [← h2]; rfl
  | inr i=>simp only [] at h2 ⊢; rw [← h2]; rfl
def inAx:List GAxis→List Str→Bool
  | a :: l,x :: xs=>a.fValues.contains x&&inAx l xs
  | [],_=>true
  | _ :: _,[]=>false
def zFm (axes:List GAxis) (k:List Str):Bool:=k.length==axes.length&&inAx axes k
def zKr (axes:List GAxis) (e:GEntry):Bool:=decide (1≤e.fKeys.length∧e.fKeys.length≤64∧e.fVary.length+e.fSnapshot.length=0)&&e.fKeys.all (zFm axes)
theorem zQJ (axes : List GAxis) (k : List Str) (hl : axes.length ≤ 1073741824) (hv : ∀ a ∈ axes, a.fValues.length ≤ 1073741824) (hk : k.length = axes.length) :
    zAF (zCA axes k) 0=some (if inAx axes k then .inl () else .inr (.inr (.inr false))):=by
  have key:∀ (j n:Nat),n+j=axes.length→zAF (zCA axes k) (n:Int)=some (if inAx (axes.drop n) (k.drop n) then .inl () else .inr (.inr (.inr false))):=by
    intro j
    induction j with
    | zero =>
      intro n hn
      have:n=axes.length:=by omega
      subst this
      rw [zAE (r:=.inl ())]
      · rw [List.drop_length]; rfl
      · simp only [zCA]
        rw [zAH (Nat.le_refl _),zAB]
    | succ j ih =>
      intro n hn
      have hlt:n<axes.length:=by omega
      have hb:zCA axes k (n:Int)=some (if axes[n].fValues.contains (k[n]'(by omega)) then .inl ((n+1:Nat):Int) else .inr (.inr (.inr (.inr false)))):=by
        simp only [zCA]
        rw [zAK hlt,zAC,zAG hlt,zAA,zAG (show n<k.length by omega),zAA,zJs _ _ (hv _ (List.getElem_mem hlt)),zAA,wrs (show n≤4*1073741824 by omega)]
        cases axes[n].fValues.contains (k[n]'(by omega)) <;> rfl
      rw [List.drop_eq_getElem_cons hlt,List.drop_eq_getElem_cons (show n<k.length by omega),inAx]
      cases hp:axes[n].fValues.contains (k[n]'(by omega)) with
      | true =>
        rw [hp,if_pos rfl] at hb
        rw [zAI hb,ih (n+1) (by omega),Bool.true_and]
      | false =>
        rw [hp,if_neg (by simp)] at hb
        rw [zAE hb]; rfl
  have:=key axes.length 0 (by omega)
  rw [List.drop_zero,List.drop_zero] at this
  exact this
theorem zPp (axes : List GAxis) (e : GEntry) (hl : axes.length ≤ 1073741824) (hv : ∀ a ∈ axes, a.fValues.length ≤ 1073741824) (hk : e.fKeys.length ≤ 1073741824) (h1 : e.fVary.length ≤ 1073741824) (h2 : e.fSnapshot.length ≤ 1073741824) :
    zGm axes e=some (zKr axes e):=by
  have hloop:zAF (zCh axes e) 0=some (if e.fKeys.any (fun k=>!zFm axes k) then .inr false else .inl ()):=by
    refine zDe (zCh axes e) e.fKeys (fun k=>!zFm axes k) (.inr false) (.inl ()) ?_ ?_
    · intro n hn
      simp only [zCh]
      rw [zAK hn,zAC,zAG hn,zAA]
      unfold zFm
      by_cases hkl:e.fKeys[n].length=axes.length
      · rw [show ((e.fKeys[n].length:Int) !=(axes.length:Int))=false from by simp [hkl],zAB,zQJ axes _ hl hv hkl,zAA,show (e.fKeys[n].length==axes.length)=true from by simp [hkl],Bool.true_and,wrs (show n≤4*1073741824 by omega)]
        cases inAx axes e.fKeys[n] <;> rfl
      · rw [show ((e.fKeys[n].length:Int) !=(axes.length:Int))=true from by simp; omega,zAC,show (e.fKeys[n].length==axes.length)=false from by simp [hkl]]; rfl
    · simp only [zCh]
      rw [zAH (Nat.le_refl _),zAB]
  have hany:e.fKeys.any (fun k=>!zFm axes k)=!e.fKeys.all (zFm axes):=by
    rw [List.all_eq_not_any_not]; simp
  unfold zGm zKr
  rw [hloop,wr_eq ⟨by omega,by omega⟩]
  by_cases hc:1≤e.fKeys.length∧e.fKeys.length≤64∧e.fVary.length+e.fSnapshot.length=0
  · rw [decide_eq_true hc,Bool.true_and]
    have e1:((decide ((e.fKeys.length:Int)<1)||decide (64<(e.fKeys.length:Int)))||decide (0<(e.fVary.length:Int)+(e.fSnapshot.length:Int)))=false:=by
      rw [decide_eq_false (by omega),decide_eq_false (by omega),decide_eq_false (by omega)]; rfl
    rw [e1,zAB,zAA,hany]
    cases e.fKeys.all (zFm axes) <;> rfl
  · rw [decide_eq_false hc,Bool.false_and]
    have e1:((decide ((e.fKeys.length:Int)<1)||decide (64<(e.fKeys.length:Int)))||decide (0<(e.fVary.length:Int)+(e.fSnapshot.length:Int)))=true:=by
      simp only [Bool.or_eq_true,decide_eq_true_eq]; omega
    rw [e1,zAC]
end Go.Eng.Pure
namespace Go.Eng.Pure
open Go Go.Eng
set_option linter.unusedVariables false
def okAt (t:GTable) (i:Nat):Bool:=(t.fEntries[i]?).any fun e=>bif t.fAxes.isEmpty then zLS e else zKr t.fAxes e&&!((t.fEntries.take i).any fun x=>replB t.fAxes e x)
def zPr (t:GTable) (limit:Int):Bool:=decide ((t.fEntries.length:Int)≤limit)&&(t.fAxes.isEmpty||valB t.fAxes)&&(List.range t.fEntries.length).all (okAt t)
theorem zOc (t:GTable) (ht:smTb t):zAF (zCg t) 0=some (if (List.range t.fEntries.length).any (fun i=>!okAt t i) then .inr false else .inl ()):=by
  obtain ⟨ht1,ht2,ht3,ht4⟩:=ht
  refine zDe (zCg t) (List.range t.fEntries.length) (fun i=>!okAt t i) (.inr false) (.inl ()) ?_ ?_
  · intro n hn
    have hlt:n<t.fEntries.length:=by simpa using hn
    obtain ⟨he,hk⟩:=ht4 _ (List.getElem_mem hlt)
    rw [List.getElem_range]
    unfold okAt
    rw [List.getElem?_eq_getElem hlt,Option.any_some]
    simp only [zCg]
    rw [zAK hlt,zAC,zAG hlt,zAA]
    cases hx:t.fAxes with
    | nil =>
      rw [show ((([]:List GAxis).length:Int)==0)=true from rfl,zAC,zOG _ (by have:=he.2.2.1; omega),zAA,wrs (show n≤4*1073741824 by omega),show ([]:List GAxis).isEmpty=true from rfl,zAC]
      cases zLS t.fEntries[n] <;> rfl
    | cons a l =>
      rw [← hx]
      have e0:((t.fAxes.length:Int)==0)=false:=by rw [hx]; simp; omega
      have e2:t.fAxes.isEmpty=false:=by rw [hx]; rfl
      rw [e0,zAB,e2,zAB,zPp t.fAxes _ (by have:=ht1.1; omega) (fun a h=>by have:=ht2 a h; omega) (by have:=hk.1; omega) (by have:=he.2.2.1; omega) (by have:=he.2.2.2.1; omega),zAA]
      cases zKr t.fAxes t.fEntries[n] with
      | false=>rfl
      | true =>
        rw [Bool.not_true,zAB,zD9 (show n≤t.fEntries.length by omega),zAA,zMm (t.fEntries.take n) _ (fun x=>replB t.fAxes t.fEntries[n] x) (by rw [List.length_take]; omega) (fun x hx'=>by
          unfold zFJ
          rw [zNN t.fAxes _ x ht1 hk (ht4 x (List.mem_of_mem_take hx')).2 (by have:=he.2.2.1; omega) (by have:=he.2.2.2.1; omega)]; rfl),zAA,zAA,zL1 _ _ _ (Nat.le_refl _),List.take_length,wrs (show n≤4*1073741824 by omega)]
        cases (t.fEntries.take n).any fun x=>replB t.fAxes t.fEntries[n] x <;> rfl
  · simp only [zCg]
    rw [List.length_range,zAH (Nat.le_refl _),zAB]
theorem zOQ (t:GTable) (limit:Int) (ht:smTb t) (hA:∀ a ∈ t.fAxes,smA a):zFb t limit=some (zPr t limit):=by
  unfold zFb zPr
  rw [zOc t ht,zHH _ hA]
  have hany:(List.range t.fEntries.length).any (fun i=>!okAt t i)=!(List.range t.fEntries.length).all (okAt t):=by
    rw [List.all_eq_not_any_not]; simp
  rw [hany]
  by_cases hl:limit<(t.fEntries.length:Int)
  · rw [decide_eq_true hl,zAC,zAA,zAC,decide_eq_false (by omega)]; rfl
  · rw [decide_eq_false hl,zAB,show decide ((t.fEntries.length:Int)≤limit)=true from decide_eq_true (by omega),Bool.true_and]
    cases hx:t.fAxes with
    | nil =>
      rw [show decide (0<((([]:List GAxis).length:Nat):Int))=false from rfl,zAB]
      cases (List.range t.fEntries.length).all (okAt t) <;> rfl
    | cons a l =>
      rw [← hx,show decide (0<(t.fAxes.length:Int))=true from decide_eq_true (by rw [hx]; simp),zAC,show t.fAxes.isEmpty=false from by rw [hx]; rfl]
      cases valB t.fAxes <;> cases (List.range t.fEntries.length).all (okAt t) <;> rfl
end Go.Eng.Pure
