/- A part. -/
import Derived.Test.YtffangblkofjdaaGreatDoorVr7
set_option linter.unusedVariables false
set_option linter.unusedSimpArgs false
namespace Go.VI
open Go Go.Eng
section
variable {U:UV} {P:Program} {G:Gam U} {N:Frm} {s s':VS U} {f f':Fr} {w w' w0:World} {H0 H H':Hp} {E E':Env} {L L':List Ent} {Ω:Type} {X:Nat→Nat→Bool}
theorem zRp (hr:RelE w0 H0 s f w E H L) {l:LC} {c:CV} (h:getL s l=some c):∃ v,c.val E=some v∧LV E f L l v:=by
  cases l with
  | sl n=>exact ⟨f n,hr.fr n c h,rfl⟩
  | ce b o =>
    simp only [getL,zAy] at h
    split at h
    case h_2=>cases h
    rename_i cs hcs
    obtain ⟨i,T,vals,k,_,⟨e,h2,h7⟩,h3,h4⟩:=zHK hcs hr.ens
    obtain ⟨v,h5,h6⟩:=zC6 h4 h
    exact ⟨v,h6,k,T,vals,e,h3,h7,List.mem_of_getElem? h2,h5⟩
theorem br_of (hr : RelE w0 H0 s' f' w' E' H' L') {i : IT} {c : CV} {x : i.t.T U.S} (h1 : getL s' i.loc = some c) (h2 : getT s' i.t c = some x) {E : Env} {M : List Ent} (hLV : ∀ v, LV E' f' L' i.loc v → LV E f' M i.loc v)
    {a:List Nat} {R':List Ent} {r:List IT} (ha:rowPs s' (i :: r)=some a):∃ a',rowPs s' r=some a'∧(Ins (pick L' [] a') R'→∃ R,Br U H' E f' M i x R' R∧Ins (pick L' [] a) R):=by
  obtain ⟨v,hv,hl⟩:=zRp hr h1
  obtain ⟨v',hv',hR⟩:=zEF hr.sls h2
  rw [hv] at hv'
  cases hv'
  have hl:=hLV v hl
  simp only [rowPs] at ha
  split at ha
  · rename_i hrow
    exact ⟨a,ha,fun hI=>⟨R',⟨v,hl,hR,by rw [hrow]⟩,hI⟩⟩
  · rename_i T hrow
    have ht:zPq i.t=true:=by
      cases hh:zPq i.t with
      | true=>rfl
      | false=>rw [hh] at ha; cases ha
    rw [ht,cond_true,h1] at ha
    split at ha
    · rename_i k hc
      cases hc
      split at ha
      case h_2=>cases ha
      rename_i p ps hp hps
      cases ha
      refine ⟨ps,hps,fun hI=>?_⟩
      obtain ⟨e,he,y,u,g1,g2,g3⟩:=hr.ens.get (zGd hp)
      simp only [CV.val] at hv
      rw [hv] at g2
      cases g2
      have hy:y=⟨i.t,x⟩:=by
        obtain ⟨loc,t',row⟩:=i
        simp only at ht x h2
        cases t' with
        | sl t =>
          have:=zIs (t:=t) h2
          rw [g1] at this
          exact Option.some.inj this
        | mr t =>
          have:=zJK (t:=t) h2
          rw [g1] at this
          exact Option.some.inj this
        | _=>cases ht
      subst hy
      have g3:RowE none H' T v ⟨i.t,x⟩ e:=by
        obtain ⟨loc,t',row⟩:=i
        simp only at ht x g3
        cases t' with
        | sl t=>exact g3
        | mr t=>exact g3
        | _=>cases ht
      refine ⟨_,⟨v,hl,hR,by rw [hrow]; exact ⟨e,g3,rfl⟩⟩,?_⟩
      rw [show pick L' [] (p :: ps)=e :: pick L' [] ps by rw [pick,he]]
      exact hI.cons
    · rename_i u hc
      cases hc
      cases hn:zBR u with
      | false=>rw [hn] at ha; cases ha
      | true =>
        rw [hn,cond_true] at ha
        refine ⟨a,ha,fun hI=>?_⟩
        cases hv
        have hu:=zB4 hn
        subst hu
        have hx:∃ sz,RowE none H' T (.slice none 0 0) ⟨i.t,x⟩ (.row (.slice none 0 0) T sz 0):=by
          obtain ⟨loc,t',row⟩:=i
          simp only at ht x h2
          cases t' with
          | sl t =>
            simp only [getT,get1,hn,cond_true] at h2
            cases h2
            exact ⟨_,rfl⟩
          | mr t =>
            simp only [getT,get1,hn,cond_true] at h2
            cases h2
            exact ⟨_,@MR.nil _ (t.enc U) _ _⟩
          | _=>cases ht
        obtain ⟨sz,hx⟩:=hx
        refine ⟨_,⟨_,hl,hR,by rw [hrow]; exact ⟨_,hx,rfl⟩⟩,?_⟩
        exact hI.new
    · cases ha
theorem zJG (hr : RelE w0 H0 s' f' w' E' H' L') {E : Env} {M : List Ent} : ∀ {l : List IT} {Ω : Type} {c : KT U l → Option Ω} {r : Ω} {a : List Nat}, pack s' l c = some r → (∀ i ∈ l, ∀ v, LV E' f' L' i.loc v → LV E f' M i.loc v) → rowPs s' l = some a →
    ∃ x R,c x=some r∧Brings U H' E f' M l x R∧Ins (pick L' [] a) R
  | [],Ω,c,r,a,h,_,ha=>by
    simp only [rowPs,Option.some.injEq] at ha
    subst ha
    exact ⟨(),[],h,rfl,.nil⟩
  | [i],Ω,c,r,a,h,hLV,ha=>by
    simp only [pack] at h
    split at h
    case h_2=>cases h
    rename_i v hv
    split at h
    case h_2=>cases h
    rename_i x hx
    obtain ⟨a',ha',hB⟩:=br_of hr hv hx (hLV i List.mem_cons_self) (R':=[]) ha
    simp only [rowPs,Option.some.injEq] at ha'
    subst ha'
    obtain ⟨R,h1,h2⟩:=hB .nil
    exact ⟨x,R,h,h1,h2⟩
  | i :: j :: l,Ω,c,r,a,h,hLV,ha=>by
    simp only [pack] at h
    split at h
    case h_2=>cases h
    rename_i v hv
    split at h
    case h_2=>cases h
    rename_i x hx
    have hsub:∃ a',rowPs s' (j :: l)=some a':=by
      obtain ⟨a',ha',_⟩:=br_of hr hv hx (hLV i List.mem_cons_self) (R':=[]) ha
      exact ⟨a',ha'⟩
    obtain ⟨a1,ha1⟩:=hsub
    obtain ⟨y,R',hy,hB',hI'⟩:=zJG hr h (fun i hi=>hLV i (List.mem_cons_of_mem _ hi)) ha1
    obtain ⟨a',ha',hB⟩:=br_of hr hv hx (hLV i List.mem_cons_self) (R':=R') ha
    rw [ha1] at ha'
    cases ha'
    obtain ⟨R,h1,h2⟩:=hB hI'
    exact ⟨(x,y),R,hy,⟨R',hB',h1⟩,h2⟩
theorem zLZ {en:List EI} {b o b':Nat} {c:CV}:(boxAt (setCell en b o c) b').isSome=(boxAt en b').isSome:=by
  unfold setCell
  split
  · rename_i cs hcs
    by_cases hb:b=b'
    · subst hb; rw [zCy hcs,hcs]; rfl
    · rw [zBq hb]
  · rfl
theorem zLR {i:IT} {x:i.t.T U.S} {b:Nat}:(boxAt (putI s i x).en b).isSome=(boxAt s.en b).isSome:=by
  have hp:=(zKx i.t s x).en
  have hl:∀ (s2:VS U) (c:CV),(boxAt (putL s2 i.loc c).en b).isSome=(boxAt s2.en b).isSome:=fun s2 c=>by
    cases i.loc with
    | sl n=>rfl
    | ce b o=>exact zLZ
  unfold putI
  cases i.row with
  | none=>simp only [hl,hp]
  | some T=>simp only [hl,newRow,boxAt,hp]
theorem zKG:∀ {l:List IT} {x:KT U l} {s:VS U} {b:Nat},(boxAt (putTs s l x).en b).isSome=(boxAt s.en b).isSome
  | [],_,_,_=>rfl
  | [_],_,_,_=>zLR
  | _ :: j :: r,_,_,_=>by rw [putTs,zKG (l:=j :: r),zLR]
theorem zJ4 (hr : RelE w0 H0 s f w E H L) (hr' : RelE w0 H0 s' f' w' E' H' L') {ds : List Nat} (he : Ext s s' ds) (hE : E.le E') (hl : H.le H') {J : JN} (hok : okN s s' J = true) {Ω : Type} {c : KT U J.items → Option Ω} {r : Ω} (hp : pack s' J.items c = some r) :
    ∃ x E2 L2,c x=some r∧E.le E2∧RelE w0 H0 (putTs (bk s ds J) J.items x) f' w' E2 H' L2:=by
  unfold okN okJ at hok
  split at hok
  case h_2=>cases hok
  rename_i a b ha hb
  simp only [Bool.and_eq_true] at hok
  obtain ⟨⟨o1,o2⟩,o3⟩:=hok
  obtain ⟨d,d1,d2⟩:=he.dt
  have hke:∀ e ∈ keepE J.lb (rowIx s J.kr) s.en,∀ p,posE s'.en e=some p→∃ x,L'[p]?=some x∧EnOk (memX d) E H' s.sl e x:=fun e he' p hp=>zPm hr hr' he.sl hE (fun b hb _=>d2 b hb) (zGG he') hp
  have hens:=zNI hb hke
  have hS:=hr'.st.pk (a++b) o1
  rw [zKm] at hS
  have hLV:∀ i ∈ J.items,∀ v,LV E' f' L' i.loc v→LV E f' (pick L' [] b) i.loc v:=by
    intro i hi v hv
    unfold ceOk at o3
    rw [List.all_eq_true] at o3
    have hi3:=o3 i hi
    cases hloc:i.loc with
    | sl n=>rw [hloc] at hv; exact hv
    | ce bb o =>
      rw [hloc] at hv hi3
      obtain ⟨k,T,vals,e0,q1,q4,q2,q3⟩:=hv
      simp only at hi3
      obtain ⟨cs,hcs⟩:=Option.isSome_iff_exists.1 hi3
      have hfind:∀ {en:List EI} {M:List Ent},EnsOk (memX d) E H' s.sl en M→boxAt en bb=some cs→∃ T2 vals2 k2 e2,E.bs[bb]?=some k2∧isE k2 T2 vals2 e2∧e2 ∈ M:=by
        intro en
        induction en with
        | nil=>intro M _ h; cases h
        | cons e en ih =>
          intro M h hb2
          cases M with
          | nil=>exact h.elim
          | cons x M =>
            cases e with
            | row j T =>
              obtain ⟨T2,v2,k2,e2,z1,z3,z2⟩:=ih h.2 hb2
              exact ⟨T2,v2,k2,e2,z1,z3,List.mem_cons_of_mem _ z2⟩
            | box b' T' cs' =>
              simp only [boxAt] at hb2
              cases hbb:Nat.beq b' bb with
              | true =>
                have:=Nat.eq_of_beq_eq_true hbb
                subst this
                obtain ⟨v2,k2,z1,_,z3⟩:=h.1
                exact ⟨T',v2,k2,_,z1,z3,List.mem_cons_self⟩
              | false =>
                rw [hbb] at hb2
                obtain ⟨T2,v2,k2,e2,z1,z3,z2⟩:=ih h.2 hb2
                exact ⟨T2,v2,k2,e2,z1,z3,List.mem_cons_of_mem _ z2⟩
      obtain ⟨T2,v2,k2,e2,z1,z3,z2⟩:=hfind hens hcs
      have hk:k=k2:=by
        have:=zD6 hE.bs z1
        rw [q1] at this
        cases this; rfl
      subst hk
      have hz2:e2 ∈ L':=by
        rcases zIq z2 with h | ⟨j,_,hj⟩
        · cases h
        · exact List.mem_of_getElem? hj
      have:=hr'.st.uniq q2 hz2 (zEM q4) (zEM z3)
      subst this
      exact ⟨k,T,vals,e0,z1,q4,z2,q3⟩
  obtain ⟨x,R,hx,hB,hI⟩:=zJG hr' hp hLV ha
  have hP:RelP (memX d) w0 H0 R (bk s ds J) f' w' E H' (pick L' [] b):=by
    refine ⟨hI.st hS,hr'.gl,hr.sls.mono hl,hr.pts.mono (Env.le_refl E) hl,hr.nb,hens,fun t c hc=>?_⟩
    obtain ⟨h1,h2⟩:=zGc hc
    have h3:=hr.fr t c h2
    have h4:=hr'.fr t c (by rw [he.fr t h1]; exact h2)
    rw [CV.val_mono hE h3] at h4
    rw [h3]; exact h4
  obtain ⟨E2,L2,hE2,hP2⟩:=zFc hP hB
  refine ⟨x,E2,L2,hx,hE2,hP2.all fun b' o' hb'=>?_⟩
  rw [zKG] at hb'
  have hb2:(boxAt (keepE J.lb (rowIx s J.kr) s.en) b').isSome=true:=hb'
  rw [zCL] at hb2
  cases hm:memb J.lb b' with
  | true=>rw [hm] at hb2; cases hb2
  | false =>
    rw [hm,cond_false] at hb2
    obtain ⟨cs,hcs⟩:=Option.isSome_iff_exists.1 hb2
    obtain ⟨_,_,_,k,_,_,hk,_⟩:=zHK hcs hr.ens
    have hnb:b'<s.nb:=by rw [← hr.nb]; exact (List.getElem?_eq_some_iff.1 hk).1
    cases hoff:offIs (memX d) J.items b' o' with
    | false=>rfl
    | true =>
      obtain ⟨h1,h2⟩:=zJ1 hoff
      unfold zOy at o2
      rw [List.all_eq_true] at o2
      have hmem:=o2 (b',o') (by
        rw [d1,show (d++s.dt).length - s.dt.length=d.length by simp,List.take_left]
        exact zNF h1)
      simp only [hm,h2,Bool.or_false] at hmem
      have:=Nat.le_of_ble_eq_true hmem
      omega
theorem zFT {ds:List Nat} {J:JN} {x:KT U J.items} (h:inW J.items ds=true):Ext s (putTs (bk s ds J) J.items x) ds:=ext_bk.same (zLg h)
end
end Go.VI
namespace Go.VI
open Go Go.Eng
section
variable {U:UV}
abbrev OD (U:UV):={R:Type}→Option Nat→Op→VS U→(VS U→Option R)→Option R
def zRD (t:Nat) (o:Oper):Bool:=match o.op with | .pick (.tmp u) _ _=>Nat.beq u t | _=>false
def zLc (t:Nat):List Oper→Option (List Oper×Oper×List Oper)
  | []=>none
  | o :: r=>bif zRD t o then some ([],o,r) else (zLc t r).map fun x=>(o :: x.1,x.2)
def zPP (s:VS U) (t:Nat):Option Bool:=match look s.fr t with | some (.boo z)=>some z | _=>none
def opg {R:Type} (od:OD U) (N:Nat) (ops:Array Oper) (o:Oper) (s:VS U) (k:VS U→Option R):Option R :=
  match o.guard with
  | none=>od o.dst o.op s k
  | some (j,b) =>
    match (ops[j]?).bind (·.dst) with
    | none=>none
    | some t=>bif Nat.blt t N then (match look s.fr t with | some (.boo g)=>bif g==b then od o.dst o.op s k else none | _=>none) else none
def JG (dp:Nat):JN:={ items:=[⟨.sl dp,.boo,none⟩] }
def back (s:VS U) (ds:List Nat) (dp:Nat) (x:Bool):VS U:=putTs (bk s ds (JG dp)) (JG dp).items (show KT U (JG dp).items from x)
def gend (s:VS U) (dp:Nat) (s':VS U):Option Bool:=bif okN s s' (JG dp) then zPP s' dp else none
def zSO (P:Program) (o:Oper):Bool :=
  match o.op with
  | .move _=>true | .assign _=>true | .pick _ _ _=>true | .extract _ _=>true | .unOp _ _ _=>true | .convert _ _ _=>true | .field _ _ _=>true | .build _ _=>true
  | .fieldAddr _ _ _=>true | .load _ _=>true | .nilCheck _=>true
  | .binOp op T _ _ _=>match op with | .quo=>false | .rem=>false | .add=>!isStr P T | _=>true
  | .call c=>match c.callee with | .builtin .len=>true | _=>false
  | _=>false
def orand (P:Program) (seg:List Oper) (pk:Oper):Nat :=
  bif seg.all (zSO P) then (match pk.op with | .pick _ (.const (.bool true)) _=>1 | .pick _ _ (.const (.bool false))=>2 | _=>0) else 0
def toPk (ld:Oper→Bool) (t:Nat) (l:List Oper):Option (List Oper×Oper×List Oper) :=
  match zLc t l with
  | some (a,p,b)=>bif a.any ld then none else some (a,p,b)
  | none=>none
def opsd {R:Type} (P:Program) (od:OD U) (ld:Oper→Bool) (N:Nat) (ops:Array Oper):Nat→List Oper→VS U→(VS U→Option R)→Option R
  | 0,_,_,_=>none
  | _+1,[],s,k=>k s
  | n+1,o :: r,s,k =>
    match o.guard with
    | none=>od o.dst o.op s fun s=>opsd P od ld N ops n r s k
    | some (j,b) =>
      match (ops[j]?).bind (·.dst) with
      | none=>none
      | some t =>
        bif Nat.blt t N then
        match look s.fr t with
        | some .und=>opsd P od ld N ops n r (setd s o.dst .und) k
        | some (.boo g) =>
          match toPk ld t (o :: r) with
          | some (seg,pk,rest) =>
            match pk.dst with
            | none=>none
            | some dp =>
              match orand P seg pk with
              | 0 =>
                (bif g then opsd P od ld N ops n seg { s with fr:=(t,.boo true) :: s.fr } (fun s'=>opg od N ops pk s' fun s'=>gend s dp s')
                 else opsd P od ld N ops n seg { s with fr:=(t,.boo false) :: s.fr } (fun s'=>opg od N ops pk s' fun s'=>gend s dp s')).bind fun x =>
                opsd P od ld N ops n rest (back s (dsts (seg++[pk])) dp x) k
              | 1 =>
                match opsd P od ld N ops n seg { s with fr:=(t,.boo true) :: s.fr } (fun s'=>opg od N ops pk s' fun s'=>gend s dp s'),opsd P od ld N ops n seg { s with fr:=(t,.boo false) :: s.fr } (fun s'=>opg od N ops pk s' fun s'=>gend s dp s') with
                | some true,some b=>opsd P od ld N ops n rest (back s (dsts (seg++[pk])) dp (g||b)) k
                | _,_=>(bif g then opsd P od ld N ops n seg { s with fr:=(t,.boo true) :: s.fr } (fun s'=>opg od N ops pk s' fun s'=>gend s dp s')
                 else opsd P od ld N ops n seg { s with fr:=(t,.boo false) :: s.fr } (fun s'=>opg od N ops pk s' fun s'=>gend s dp s')).bind fun x =>
                opsd P od ld N ops n rest (back s (dsts (seg++[pk])) dp x) k
              | _ =>
                match opsd P od ld N ops n seg { s with fr:=(t,.boo true) :: s.fr } (fun s'=>opg od N ops pk s' fun s'=>gend s dp s'),opsd P od ld N ops n seg { s with fr:=(t,.boo false) :: s.fr } (fun s'=>opg od N ops pk s' fun s'=>gend s dp s') with
                | some a,some false=>opsd P od ld N ops n rest (back s (dsts (seg++[pk])) dp (g&&a)) k
                | _,_=>(bif g then opsd P od ld N ops n seg { s with fr:=(t,.boo true) :: s.fr } (fun s'=>opg od N ops pk s' fun s'=>gend s dp s')
                 else opsd P od ld N ops n seg { s with fr:=(t,.boo false) :: s.fr } (fun s'=>opg od N ops pk s' fun s'=>gend s dp s')).bind fun x =>
                opsd P od ld N ops n rest (back s (dsts (seg++[pk])) dp x) k
          | none =>
            bif g then (bif b then od o.dst o.op s fun s=>opsd P od ld N ops n r s k else opsd P od ld N ops n r (setd s o.dst .und) k)
            else (bif b then opsd P od ld N ops n r (setd s o.dst .und) k else od o.dst o.op s fun s=>opsd P od ld N ops n r s k)
        | _=>none
        else none
end
section
variable {U:UV} {P:Program} {G:Gam U} {N:Frm} {s s':VS U} {f:Fr} {w w0:World} {H0 H:Hp} {E:Env} {L:List Ent} {Ω:Type}
theorem zMA {dp:Nat} {z:Bool} (h:gend s dp s'=some z):okN s s' (JG dp)=true∧pack s' (JG dp).items some=some (show KT U (JG dp).items from z):=by
  unfold gend at h
  cases ho:okN s s' (JG dp) with
  | false=>rw [ho] at h; cases h
  | true =>
    rw [ho,cond_true] at h
    refine ⟨rfl,?_⟩
    unfold zPP at h
    split at h
    · rename_i b hb
      cases h
      simp only [JG,pack,getL,hb,getT,get1]
    · cases h
theorem zLD {t:Nat}:∀ {l a:List Oper} {p:Oper} {b:List Oper},zLc t l=some (a,p,b)→l=a++p :: b
  | [],a,p,b,h=>by cases h
  | o :: r,a,p,b,h=>by
    unfold zLc at h
    cases hb:zRD t o with
    | true =>
      rw [hb,cond_true] at h
      simp only [Option.some.injEq,Prod.mk.injEq] at h
      obtain ⟨rfl,rfl,rfl⟩:=h
      rfl
    | false =>
      rw [hb,cond_false] at h
      cases hr:zLc t r with
      | none=>rw [hr] at h; cases h
      | some x =>
        obtain ⟨a',p',b'⟩:=x
        rw [hr] at h
        simp only [Option.map_some,Option.some.injEq,Prod.mk.injEq] at h
        obtain ⟨rfl,rfl,rfl⟩:=h
        rw [zLD hr]; rfl
theorem RelE.know (hr:RelE w0 H0 s f w E H L) {n:Nat} {c:CV} (hc:c.val E=some (f n)):RelE w0 H0 { s with fr:=(n,c) :: s.fr } f w E H L:=by
  refine ⟨hr.st,hr.gl,hr.sls,hr.pts,hr.nb,hr.ens,fun u y hu=>?_⟩
  simp only [look] at hu
  cases hb:Nat.beq u n with
  | true =>
    rw [hb] at hu
    simp only [cond_true,Option.some.injEq] at hu
    subst hu
    rw [Nat.eq_of_beq_eq_true hb]
    exact hc
  | false=>rw [hb] at hu; exact hr.fr u y hu
theorem zNT {ds:List Nat} {dp:Nat} {x:Bool} (h:memb ds dp=true):Ext s (back s ds dp x) ds :=
  zFT (J:=JG dp) (x:=show KT U (JG dp).items from x) (by simp [JG,inW,locIn,h])
theorem zLE {a:List Nat} {dp:Nat}:memb (a++[dp]) dp=true:=by
  induction a with
  | nil=>simp [memb]
  | cons z a ih=>rw [List.cons_append,zB2,ih,Bool.or_true]
theorem zPM {ds:List Nat} {t:Nat} {g:Bool} (hl:look s.fr t=some (.boo g)) (h:Ext { s with fr:=(t,.boo g) :: s.fr } s' ds):Ext s s' ds:=by
  refine ⟨h.sl,h.pt,h.nb,fun u hu=>(h.fr u hu).trans ?_,h.dt⟩
  simp only [look]
  cases hb:Nat.beq u t with
  | true=>rw [Nat.eq_of_beq_eq_true hb,hl]; rfl
  | false=>rfl
theorem Goes.step {ds es:List Nat} {k:VS U→Option Ω} {r:Ω} {Q:Fr→World→Prop} (K:Goes w0 H0 s (ds++es) E H k r Q) {s':VS U} {E':Env} {H':Hp} (he:Ext s s' ds) (hE:E.le E') (hl:H.le H'):Goes w0 H0 s' es E' H' k r Q :=
  fun s2 f2 w2 E2 H2 L2 hk hr he2 hE2 hl2=>K s2 f2 w2 E2 H2 L2 hk hr (he.trans he2) (Env.le_trans hE hE2) (hl.trans hl2)
def OdOk (P:Program) (N:Frm) (od:OD U):Prop :=
  ∀ {Ω:Type} {s:VS U} {f:Fr} {w w0:World} {H0 H:Hp} {E:Env} {L:List Ent} {d:Option Nat} {op:Op} {k:VS U→Option Ω} {r:Ω},od d op s k=some r→RelE w0 H0 s f w E H L→∀ {ty:TypeId} {pos:String} {af:Array Edge} {ops:Array Oper} {rest:List Oper} {Q:Fr→World→Prop},
    Goes w0 H0 s d.toList E H k r (WL P N ops rest Q)→WL P N ops (⟨d,op,ty,pos,af,none⟩ :: rest) Q f w
theorem zOl {od : OD U} (hO : OdOk P N od) {ops : Array Oper} {o : Oper} {k : VS U → Option Ω} {r : Ω} (h : opg od N.n ops o s k = some r) (hr : RelE w0 H0 s f w E H L) {rest : List Oper} {Q : Fr → World → Prop}
    (K:Goes w0 H0 s o.dst.toList E H k r (WL P N ops rest Q)):WL P N ops (o :: rest) Q f w:=by
  unfold opg at h
  obtain ⟨d,op,ty,pos,af,g⟩:=o
  cases g with
  | none=>exact hO h hr K
  | some jb =>
    obtain ⟨j,b⟩:=jb
    simp only at h
    cases hj:(ops[j]?).bind (·.dst) with
    | none=>rw [hj] at h; cases h
    | some t =>
      rw [hj] at h
      simp only at h
      cases hN:Nat.blt t N.n with
      | false=>rw [hN] at h; cases h
      | true =>
        rw [hN,cond_true] at h
        have hev:ev N f (.tmp t)=f t:=by simp only [ev,hN,cond_true]
        split at h
        case h_2=>cases h
        rename_i g hl
        cases hgb:g==b with
        | false=>rw [hgb] at h; cases h
        | true =>
          rw [hgb,cond_true] at h
          exact WL.y hj (by rw [hev]; exact (Option.some.inj (hr.fr t _ hl)).symm) (eq_of_beq hgb) (hO h hr K)
theorem zNG {ld : Oper → Bool} {od : OD U} {N : Nat} {ops : Array Oper} {n : Nat} {seg : List Oper} {pk : Oper} {rest : List Oper} {t dp : Nat} {g : Bool} {k : VS U → Option Ω} {r : Ω}
    (h : (match orand P seg pk with
              | 0 =>
                (bif g then opsd P od ld N ops n seg { s with fr:=(t,.boo true) :: s.fr } (fun s'=>opg od N ops pk s' fun s'=>gend s dp s')
                 else opsd P od ld N ops n seg { s with fr:=(t,.boo false) :: s.fr } (fun s'=>opg od N ops pk s' fun s'=>gend s dp s')).bind fun x =>
                opsd P od ld N ops n rest (back s (dsts (seg++[pk])) dp x) k
              | 1 =>
                match opsd P od ld N ops n seg { s with fr:=(t,.boo true) :: s.fr } (fun s'=>opg od N ops pk s' fun s'=>gend s dp s'),opsd P od ld N ops n seg { s with fr:=(t,.boo false) :: s.fr } (fun s'=>opg od N ops pk s' fun s'=>gend s dp s') with
                | some true,some b=>opsd P od ld N ops n rest (back s (dsts (seg++[pk])) dp (g||b)) k
                | _,_=>(bif g then opsd P od ld N ops n seg { s with fr:=(t,.boo true) :: s.fr } (fun s'=>opg od N ops pk s' fun s'=>gend s dp s')
                 else opsd P od ld N ops n seg { s with fr:=(t,.boo false) :: s.fr } (fun s'=>opg od N ops pk s' fun s'=>gend s dp s')).bind fun x =>
                opsd P od ld N ops n rest (back s (dsts (seg++[pk])) dp x) k
              | _ =>
                match opsd P od ld N ops n seg { s with fr:=(t,.boo true) :: s.fr } (fun s'=>opg od N ops pk s' fun s'=>gend s dp s'),opsd P od ld N ops n seg { s with fr:=(t,.boo false) :: s.fr } (fun s'=>opg od N ops pk s' fun s'=>gend s dp s') with
                | some a,some false=>opsd P od ld N ops n rest (back s (dsts (seg++[pk])) dp (g&&a)) k
                | _,_=>(bif g then opsd P od ld N ops n seg { s with fr:=(t,.boo true) :: s.fr } (fun s'=>opg od N ops pk s' fun s'=>gend s dp s')
                 else opsd P od ld N ops n seg { s with fr:=(t,.boo false) :: s.fr } (fun s'=>opg od N ops pk s' fun s'=>gend s dp s')).bind fun x =>
                opsd P od ld N ops n rest (back s (dsts (seg++[pk])) dp x) k)=some r) :
    ∃ x,opsd P od ld N ops n seg { s with fr:=(t,.boo g) :: s.fr } (fun s'=>opg od N ops pk s' fun s'=>gend s dp s')=some x∧opsd P od ld N ops n rest (back s (dsts (seg++[pk])) dp x) k=some r:=by
  split at h
  · obtain ⟨x,hx,h⟩:=bindE h
    refine ⟨x,?_,h⟩
    cases g
    · exact hx
    · exact hx
  · split at h
    · rename_i b ha hb
      refine ⟨_,?_,h⟩
      cases g
      · exact hb
      · exact ha
    · obtain ⟨x,hx,h⟩:=bindE h
      refine ⟨x,?_,h⟩
      cases g
      · exact hx
      · exact hx
  · split at h
    · rename_i a ha hb
      refine ⟨_,?_,h⟩
      cases g
      · exact hb
      · exact ha
    · obtain ⟨x,hx,h⟩:=bindE h
      refine ⟨x,?_,h⟩
      cases g
      · exact hx
      · exact hx
theorem zPt {ld:Oper→Bool} {t:Nat} {l a:List Oper} {p:Oper} {b:List Oper} (h:toPk ld t l=some (a,p,b)):l=a++p :: b:=by
  unfold toPk at h
  split at h
  · rename_i x y z hx
    cases hc:x.any ld with
    | true=>rw [hc] at h; cases h
    | false=>rw [hc] at h; cases h; exact zLD hx
  · cases h
theorem zNw {od : OD U} {ld : Oper → Bool} (hO : OdOk P N od) {ops : Array Oper} : ∀ {n : Nat} {l : List Oper} {Ω : Type} {s : VS U} {f : Fr} {w : World} {E : Env} {H : Hp} {L : List Ent} {k : VS U → Option Ω} {r : Ω}, opsd P od ld N.n ops n l s k = some r → RelE w0 H0 s f w E H L → ∀ {Q : Fr → World → Prop},
    Goes w0 H0 s (dsts l) E H k r Q→WL P N ops l Q f w:=by
  intro n
  induction n with
  | zero=>intro l Ω s f w E H L k r h; cases h
  | succ n ih =>
    intro l Ω s f w E H L k r h hr Q K
    cases l with
    | nil=>exact WL.e (K s f w E H L h hr (Ext.refl s _) (Env.le_refl E) (Hp.le.refl H))
    | cons o l =>
      rw [zDl] at K
      obtain ⟨d,op,ty,pos,af,g⟩:=o
      simp only at K
      have go:od d op s (fun s=>opsd P od ld N.n ops n l s k)=some r→WL P N ops (⟨d,op,ty,pos,af,none⟩ :: l) Q f w:=fun h =>
        hO h hr fun s' f' w' E' H' L' hk hr' he hE hl=>ih hk hr' (K.step he hE hl)
      unfold opsd at h
      cases g with
      | none=>exact go h
      | some jb =>
        obtain ⟨j,b⟩:=jb
        simp only at h
        cases hj:(ops[j]?).bind (·.dst) with
        | none=>rw [hj] at h; cases h
        | some t =>
          rw [hj] at h
          simp only at h
          cases hN:Nat.blt t N.n with
          | false=>rw [hN] at h; cases h
          | true =>
            rw [hN,cond_true] at h
            have hev:ev N f (.tmp t)=f t:=by simp only [ev,hN,cond_true]
            have skip:opsd P od ld N.n ops n l (setd s d .und) k=some r→WL P N ops l Q (updo f d undef) w:=fun h =>
              ih h (hr.set d rfl) (K.step (zID d .und) (Env.le_refl E) (Hp.le.refl H))
            split at h
            · rename_i hl
              exact WL.gund hj (by rw [hev]; exact (Option.some.inj (hr.fr t _ hl)).symm) (skip h)
            · rename_i g hl
              have hv:ev N f (.tmp t)=.bool g:=by rw [hev]; exact (Option.some.inj (hr.fr t _ hl)).symm
              split at h
              · rename_i seg pk rest htp
                split at h
                · cases h
                rename_i dp hdp
                obtain ⟨x,hx,h⟩:=zNG h
                have hl2:=zPt htp
                have hd:d.toList++dsts l=dsts (seg++[pk])++dsts rest:=by
                  have:=congrArg dsts hl2
                  rw [zDl,show seg++pk :: rest=(seg++[pk])++rest by simp,zGW] at this
                  exact this
                have hpk:dsts [pk]=[dp]:=by rw [zDl,hdp]; rfl
                rw [hl2]
                refine WL.append (ih hx (hr.know (hr.fr t _ hl)) fun s' f' w' E' H' L' hk hr' he hE hle=>?_)
                refine zOl hO hk hr' fun s2 f2 w2 E2 H2 L2 hk2 hr2 he2 hE2 hle2=>?_
                obtain ⟨z1,z2⟩:=zMA hk2
                have hx1:Ext s s2 (dsts (seg++[pk])):=by
                  have h1:=zPM hl (he.trans he2)
                  rw [zGW,show dsts [pk]=pk.dst.toList by rw [zDl]; simp [dsts]]
                  exact h1
                obtain ⟨y,E3,L3,hy,hE3,hr3⟩:=zJ4 hr hr2 hx1 (Env.le_trans hE hE2) (hle.trans hle2) z1 z2
                cases hy
                refine ih h hr3 ?_
                exact Goes.step (ds:=dsts (seg++[pk])) (by rw [← hd]; exact K) (zNT (by rw [zGW,hpk]; exact zLE)) hE3 (hle.trans hle2)
              · cases hg:g with
                | true =>
                  rw [hg,cond_true] at h
                  cases hb:b with
                  | true=>rw [hb,cond_true] at h; exact WL.y hj hv (by simp [hg]) (go h)
                  | false=>rw [hb,cond_false] at h; exact WL.n hj hv (by simp [hg]) (skip h)
                | false =>
                  rw [hg,cond_false] at h
                  cases hb:b with
                  | true=>rw [hb,cond_true] at h; exact WL.n hj hv (by simp [hg]) (skip h)
                  | false=>rw [hb,cond_false] at h; exact WL.y hj hv (by simp [hg]) (go h)
            · cases h
end
end Go.VI
namespace Go.VI
open Go Go.Eng
section
variable {U:UV} {P:Program} {G:Gam U} {N:Frm} {s s':VS U} {f f':Fr} {w w0:World} {H0 H:Hp} {E E':Env} {L:List Ent} {Ω:Type}
structure Extq (s s':VS U) (ds:List Nat):Prop where
  ext:Ext s s' ds
  en:s'.en=s.en
def Goesq (w0:World) (H0:Hp) (s:VS U) (ds:List Nat) (w:World) (E:Env) (H:Hp) (L:List Ent) (k:VS U→Option Ω) (r:Ω) (Q:Fr→Prop):Prop :=
  ∀ s' f' E',k s'=some r→RelE w0 H0 s' f' w E' H L→Extq s s' ds→E.le E'→Q f'
theorem Extq.refl (s:VS U) (ds:List Nat):Extq s s ds:=⟨Ext.refl s ds,rfl⟩
theorem Extq.trans {s2:VS U} {a b:List Nat} (h:Extq s s' a) (k:Extq s' s2 b):Extq s s2 (a++b):=⟨h.ext.trans k.ext,k.en.trans h.en⟩
theorem zFX (d:Option Nat) (c:CV):Extq s (setd s d c) d.toList:=⟨zID d c,by cases d <;> rfl⟩
theorem Goesq.step {ds es:List Nat} {k:VS U→Option Ω} {r:Ω} {Q:Fr→Prop} (K:Goesq w0 H0 s (ds++es) w E H L k r Q) (he:Extq s s' ds) (hE:E.le E'):Goesq w0 H0 s' es w E' H L k r Q :=
  fun s2 f2 E2 hk hr he2 hE2=>K s2 f2 E2 hk hr (he.trans he2) (Env.le_trans hE hE2)
theorem zGN {a:List Nat} {x:Nat} (h:x ∈ a):memb a x=true:=by
  induction a with
  | nil=>cases h
  | cons y a ih =>
    rw [zB2]
    rcases List.mem_cons.1 h with rfl | h
    · simp
    · rw [ih h,Bool.or_true]
theorem zJU {ri:List Nat}:∀ {en:List EI},(∀ i ∈ zH6 en,i ∈ ri)→keepE [] ri en=en
  | [],_=>rfl
  | .box b T cs :: r,h=>by
    have:=zJU (en:=r) (ri:=ri) h
    simp only [keepE,memb,cond_false,this]
  | .row i T :: r,h=>by
    have h1:=zGN (h i List.mem_cons_self)
    have:=zJU (en:=r) (ri:=ri) fun j hj=>h j (List.mem_cons_of_mem _ hj)
    simp only [keepE,h1,cond_true,this]
theorem zI4:∀ {en:List EI},lostD [] en=[]
  | []=>rfl
  | .box b T cs :: r=>by simp only [lostD,memb,cond_false]; exact zI4
  | .row i T :: r=>by simp only [lostD]; exact zI4
theorem zPs {ds:List Nat} {dp:Nat} {x:Bool}:back s ds dp x={ s with fr:=(dp,.boo x) :: del ds s.fr }:=by
  have h1:keepE [] (zH6 s.en) s.en=s.en:=zJU fun i h=>h
  show ({ s with fr:=(dp,.boo x) :: del ds s.fr,en:=keepE [] (zH6 s.en) s.en,dt:=lostD [] s.en++s.dt }:VS U)=_
  rw [h1,zI4]; rfl
theorem RelE.backq (hr:RelE w0 H0 s f w E H L) (hr':RelE w0 H0 s' f' w E' H L) {ds:List Nat} {dp:Nat} {x:Bool} (he:Extq s s' ds) (hE:E.le E') (hx:look s'.fr dp=some (.boo x)):RelE w0 H0 (back s ds dp x) f' w E H L:=by
  rw [zPs]
  refine ⟨hr.st,hr.gl,hr.sls,hr.pts,hr.nb,hr.ens,fun t c hc=>?_⟩
  simp only [look] at hc
  cases hb2:Nat.beq t dp with
  | true =>
    rw [hb2] at hc
    simp only [cond_true,Option.some.injEq] at hc
    subst hc
    rw [Nat.eq_of_beq_eq_true hb2]
    exact hr'.fr dp _ hx
  | false =>
    rw [hb2] at hc
    obtain ⟨h1,h2⟩:=zGc hc
    have h3:=hr.fr t c h2
    have h4:=hr'.fr t c (by rw [he.ext.fr t h1]; exact h2)
    rw [CV.val_mono hE h3] at h4
    rw [h3]; exact h4
theorem zO3 {dp:Nat} {z:Bool} (h:gend s dp s'=some z):look s'.fr dp=some (.boo z):=by
  unfold gend at h
  cases ho:okN s s' (JG dp) with
  | false=>rw [ho] at h; cases h
  | true =>
    rw [ho,cond_true] at h
    unfold zPP at h
    split at h
    · rename_i b hb; cases h; exact hb
    · cases h
def OdqOk (P:Program) (N:Frm) (od:OD U):Prop :=
  ∀ {Ω:Type} {s:VS U} {f:Fr} {w w0:World} {H0 H:Hp} {E:Env} {L:List Ent} {d:Option Nat} {op:Op} {k:VS U→Option Ω} {r:Ω},od d op s k=some r→RelE w0 H0 s f w E H L→∀ {ty:TypeId} {pos:String} {af:Array Edge} {ops:Array Oper} {rest:List Oper} {Q:Fr→Prop},
    Goesq w0 H0 s d.toList w E H L k r (WQ P N ops (Cl w0 H0 H L) rest Q)→WQ P N ops (Cl w0 H0 H L) (⟨d,op,ty,pos,af,none⟩ :: rest) Q f
theorem zOu (hG:GamOk P G):OdqOk (U:=U) P N (fun {R}=>opq (R:=R) P G N.n):=by
  intro Ω s f w w0 H0 H E L d op k r h hr ty pos af ops rest Q K
  have pure:∀ {op:Op},opr P N.n op s (fun v=>k (setd s d v))=some r→WQ P N ops (Cl w0 H0 H L) (⟨d,op,ty,pos,af,none⟩ :: rest) Q f:=fun h=>by
    obtain ⟨c,v,hk,hc,hrun⟩:=zHS (d:=d) (ty:=ty) (pos:=pos) (af:=af) h hr
    exact WQ.val (fun w' ⟨H',hle,S'⟩=>hrun w' H' hle S') (K _ _ _ hk (hr.set d hc) (zFX d c) (Env.le_refl E))
  replace h:opq P G N.n d op s k=some r:=h
  unfold opq at h
  split at h
  · rename_i c
    obtain ⟨cl,⟨args⟩,⟨tys⟩⟩:=c
    simp only at h
    split at h
    · rename_i g
      split at h
      case h_2=>cases h
      rename_i S vs hg hvs
      obtain ⟨c,v,hk,hc,hC⟩:=(hG g S hg).quiet h hr (zDw hr hvs)
      exact WQ.call (xs:=args) rfl (fun w' H' hle S'=>hC w' H' hle S') (K _ _ _ hk (hr.set d hc) (zFX d c) (Env.le_refl E))
    · rename_i t
      split at h
      case h_2=>cases h
      rename_i g caps vs hx hvs
      split at h
      case h_2=>cases h
      rename_i S hg
      obtain ⟨cs,hcs,hv⟩:=zRJ hr hx
      obtain ⟨c,v,hk,hc,hC⟩:=(hG g S hg).quiet h hr (zEr (zDw hr hvs) hcs)
      exact WQ.callv (xs:=args) hv rfl (fun w' H' hle S'=>hC w' H' hle S') (K _ _ _ hk (hr.set d hc) (zFX d c) (Env.le_refl E))
    · exact pure h
  · rename_i T ps
    obtain ⟨ps⟩:=ps
    obtain ⟨c,v,hk,hc,hrun⟩:=zJk (d:=d) (ty:=ty) (pos:=pos) (af:=af) h hr
    exact WQ.val (fun w' ⟨H',hle,S'⟩=>hrun w' H' hle S') (K _ _ _ hk (hr.set d hc) (zFX d c) (Env.le_refl E))
  · rename_i T x y
    split at h
    · rename_i j hx
      unfold opIdx at h
      split at h
      case h_2=>cases h
      rename_i x' i d hj hy
      split at h
      case h_2=>cases h
      rename_i e he
      obtain ⟨c,hc,h⟩:=bindE h
      obtain ⟨v,hv,hs⟩:=hr.sls.gets hj
      have hxv:=zAw hr hx
      simp only [CV.val,hv,Option.some.injEq] at hxv
      letI:=x'.t.enc U
      refine WQ.idx hs hxv.symm (zA1 hr hy) (zDU he) hc fun a cs hA hcs=>?_
      obtain ⟨E1,p1,hv1⟩:=zG1 (s:=s) hr.sls hcs
      have hne:cs≠[]:=by
        intro h0
        have h1:=Enc.len hcs
        have h2:=Enc.pos (α:=x'.t.T U.S)
        rw [h0] at h1
        simp at h1
        omega
      obtain ⟨E2,e2,hr2,hp⟩:=(hr.put p1).newPt hv1 hne hA
      have hpt:(putCs s x'.t c).1.pt.length=s.pt.length:=by rw [p1.pt]
      rw [hpt] at hp
      refine K _ _ _ h (hr2.set (some d) hp) ⟨Ext.andSet (Ext.trans (a:=[]) (p1.ext []) (zJX _ [])),?_⟩ (Env.le_trans p1.le e2)
      exact p1.en
    · exact pure h
  · obtain ⟨s',E',c,v,hk,hp,hc,hrun⟩:=zH9 (d:=d) (ty:=ty) (pos:=pos) (af:=af) h hr
    exact WQ.val (fun w' ⟨H',hle,S'⟩=>hrun w' H' hle S') (K _ _ _ hk ((hr.put hp).set d hc) ⟨Ext.andSet (hp.ext []),by rw [show (setd s' d c).en=s'.en by cases d <;> rfl]; exact hp.en⟩ hp.le)
  · exact pure h
theorem zOH {od : OD U} (hO : OdqOk P N od) {ops : Array Oper} {o : Oper} {k : VS U → Option Ω} {r : Ω} (h : opg od N.n ops o s k = some r) (hr : RelE w0 H0 s f w E H L) {rest : List Oper} {Q : Fr → Prop}
    (K:Goesq w0 H0 s o.dst.toList w E H L k r (WQ P N ops (Cl w0 H0 H L) rest Q)):WQ P N ops (Cl w0 H0 H L) (o :: rest) Q f:=by
  unfold opg at h
  obtain ⟨d,op,ty,pos,af,g⟩:=o
  cases g with
  | none=>exact hO h hr K
  | some jb =>
    obtain ⟨j,b⟩:=jb
    simp only at h
    cases hj:(ops[j]?).bind (·.dst) with
    | none=>rw [hj] at h; cases h
    | some t =>
      rw [hj] at h
      simp only at h
      cases hN:Nat.blt t N.n with
      | false=>rw [hN] at h; cases h
      | true =>
        rw [hN,cond_true] at h
        have hev:ev N f (.tmp t)=f t:=by simp only [ev,hN,cond_true]
        split at h
        case h_2=>cases h
        rename_i g hl
        cases hgb:g==b with
        | false=>rw [hgb] at h; cases h
        | true =>
          rw [hgb,cond_true] at h
          exact WQ.gyes hj (by rw [hev]; exact (Option.some.inj (hr.fr t _ hl)).symm) (eq_of_beq hgb) (hO h hr K)
theorem WQ.append {C:World→Prop} {ops:Array Oper} {l l':List Oper} {Q:Fr→Prop} (h:WQ P N ops C l (fun f=>WQ P N ops C l' Q f) f):WQ P N ops C (l++l') Q f:=by
  refine ⟨zGt l l' _ (zF5 (fun a ⟨f',ha,hq⟩=>?_) l _ h.out)⟩
  subst ha
  exact hq.out
theorem zOI {od : OD U} {ld : Oper → Bool} (hO : OdqOk P N od) {ops : Array Oper} : ∀ {n : Nat} {l : List Oper} {Ω : Type} {s : VS U} {f : Fr} {E : Env} {k : VS U → Option Ω} {r : Ω}, opsd P od ld N.n ops n l s k = some r → RelE w0 H0 s f w E H L → ∀ {Q : Fr → Prop},
    Goesq w0 H0 s (dsts l) w E H L k r Q→WQ P N ops (Cl w0 H0 H L) l Q f:=by
  intro n
  induction n with
  | zero=>intro l Ω s f E k r h; cases h
  | succ n ih =>
    intro l Ω s f E k r h hr Q K
    cases l with
    | nil=>exact WQ.nil (K s f E h hr (Extq.refl s _) (Env.le_refl E))
    | cons o l =>
      rw [zDl] at K
      obtain ⟨d,op,ty,pos,af,g⟩:=o
      simp only at K
      have go:od d op s (fun s=>opsd P od ld N.n ops n l s k)=some r→WQ P N ops (Cl w0 H0 H L) (⟨d,op,ty,pos,af,none⟩ :: l) Q f:=fun h =>
        hO h hr fun s' f' E' hk hr' he hE=>ih hk hr' (K.step he hE)
      unfold opsd at h
      cases g with
      | none=>exact go h
      | some jb =>
        obtain ⟨j,b⟩:=jb
        simp only at h
        cases hj:(ops[j]?).bind (·.dst) with
        | none=>rw [hj] at h; cases h
        | some t =>
          rw [hj] at h
          simp only at h
          cases hN:Nat.blt t N.n with
          | false=>rw [hN] at h; cases h
          | true =>
            rw [hN,cond_true] at h
            have hev:ev N f (.tmp t)=f t:=by simp only [ev,hN,cond_true]
            have skip:opsd P od ld N.n ops n l (setd s d .und) k=some r→WQ P N ops (Cl w0 H0 H L) l Q (updo f d undef):=fun h =>
              ih h (hr.set d rfl) (K.step (zFX d .und) (Env.le_refl E))
            split at h
            · rename_i hl
              exact WQ.gund hj (by rw [hev]; exact (Option.some.inj (hr.fr t _ hl)).symm) (skip h)
            · rename_i g hl
              have hv:ev N f (.tmp t)=boo g:=by rw [hev]; exact (Option.some.inj (hr.fr t _ hl)).symm
              split at h
              · rename_i seg pk rest htp
                split at h
                · cases h
                rename_i dp hdp
                obtain ⟨x,hx,h⟩:=zNG h
                have hl2:=zPt htp
                have hd:d.toList++dsts l=dsts (seg++[pk])++dsts rest:=by
                  have:=congrArg dsts hl2
                  rw [zDl,show seg++pk :: rest=(seg++[pk])++rest by simp,zGW] at this
                  exact this
                have hpk:dsts [pk]=[dp]:=by rw [zDl,hdp]; rfl
                rw [hl2]
                refine WQ.append (ih hx (hr.know (hr.fr t _ hl)) fun s' f' E' hk hr' he hE=>?_)
                refine zOH hO hk hr' fun s2 f2 E2 hk2 hr2 he2 hE2=>?_
                have hx1:Extq s s2 (dsts (seg++[pk])):=by
                  have h1:=he.trans he2
                  rw [zGW,show dsts [pk]=pk.dst.toList by rw [zDl]; simp [dsts]]
                  exact ⟨zPM hl h1.ext,h1.en⟩
                have hr3:=hr.backq hr2 hx1 (Env.le_trans hE hE2) (zO3 hk2)
                refine ih h hr3 (Goesq.step (ds:=dsts (seg++[pk])) (by rw [← hd]; exact K) ⟨zNT (by rw [zGW,hpk]; exact zLE),?_⟩ (Env.le_refl E))
                rw [zPs]
              · cases hg:g with
                | true =>
                  rw [hg,cond_true] at h
                  cases hb:b with
                  | true=>rw [hb,cond_true] at h; exact WQ.gyes hj hv (by simp [hg]) (go h)
                  | false=>rw [hb,cond_false] at h; exact WQ.gno hj hv (by simp [hg]) (skip h)
                | false =>
                  rw [hg,cond_false] at h
                  cases hb:b with
                  | true=>rw [hb,cond_true] at h; exact WQ.gno hj hv (by simp [hg]) (skip h)
                  | false=>rw [hb,cond_false] at h; exact WQ.gyes hj hv (by simp [hg]) (go h)
            · cases h
end
end Go.VI
namespace Go.Eng
open Go
variable {P:Program} {md:Region.Mode} {ops:Array Oper} {Q:Exit→Act→World→Prop} {C:World→Prop} {nb:Nat}
def wpAnyD (P:Program) (md:Region.Mode) (ops:Array Oper) (nb:Nat) (C:World→Prop) (Q:Exit→Act→World→Prop):Nat→Array Bool→Act→World→Prop
  | 0,listed,a,w=>(listed.getD nb false=false→C w)∧Region.ready md ops listed=[]∧Q .normal a w
  | n + 1, listed, a, w => (listed.getD nb false = false → C w) ∧ (Region.ready md ops listed = [] → Q .normal a w) ∧
      ∀ i ∈ Region.ready md ops listed,wpOp P ops Q i (wpAnyD P md ops nb C Q n (listed.setIfInBounds i true)) a w
theorem wpAnyD.cls:∀ {n:Nat} {listed:Array Bool} {a:Act} {w:World},wpAnyD P md ops nb C Q n listed a w→listed.getD nb false=false→C w
  | 0,_,_,_,h=>h.1
  | _+1,_,_,_,h=>h.1
theorem wpAnyD.any:∀ {n:Nat} {listed:Array Bool} {a:Act} {w:World},wpAnyD P md ops nb C Q n listed a w→wpAny P md ops Q n listed a w
  | 0,_,_,_,h=>h.2
  | _+1,_,_,_,h=>⟨h.2.1,fun i hi=>wpOp_mono (fun _ _ h=>wpAnyD.any h) (h.2.2 i hi)⟩
inductive RB (md:Region.Mode) (ops:Array Oper):Nat→Nat→Prop where
  | one {n:Nat} {o:Oper} {e:Edge} (h:ops[n]?=some o) (he:e ∈ o.after) (hb:Region.binds md e=true):RB md ops n e.on
  | more {n m:Nat} {o:Oper} {e:Edge} (hr:RB md ops n m) (h:ops[m]?=some o) (he:e ∈ o.after) (hb:Region.binds md e=true):RB md ops n e.on
def DC (md:Region.Mode) (ops:Array Oper) (listed:Array Bool):Prop:=∀ j o,ops[j]?=some o→listed.getD j false=true→∀ e ∈ o.after,Region.binds md e=true→listed.getD e.on false=true
theorem zQR {listed:Array Bool} (hd:DC md ops listed) {n i:Nat} (hn:n ∈ Region.ready md ops listed) (h:RB md ops n i):listed.getD i false=true:=by
  induction h with
  | one h he hb =>
    obtain ⟨_,o',ho',ha⟩:=mem_ready.1 hn
    rw [h] at ho'
    cases ho'
    exact ha _ he hb
  | more hr h he hb ih=>exact hd _ _ h ih _ he hb
theorem DC.init {n:Nat}:DC md ops (Array.replicate n false):=fun j o _ h=>by
  simp [Array.getD_eq_getD_getElem?,Array.getElem?_replicate] at h
  split at h <;> cases h
theorem zOJ {l:Array Bool} {i j:Nat} (h:l.getD j false=true):(l.setIfInBounds i true).getD j false=true:=by
  by_cases hij:i=j
  · subst hij
    simp only [Array.getD_eq_getD_getElem?,Array.getElem?_setIfInBounds] at h ⊢
    by_cases hl:i<l.size
    · simp [hl]
    · simp [Array.getElem?_eq_none (Nat.le_of_not_lt hl)] at h
  · simp only [Array.getD_eq_getD_getElem?,Array.getElem?_setIfInBounds,hij,if_false] at h ⊢; exact h
theorem DC.set {listed:Array Bool} (hd:DC md ops listed) {i:Nat} (hi:i ∈ Region.ready md ops listed):DC md ops (listed.setIfInBounds i true):=fun j o ho hl e he hb=>by
  refine zOJ ?_
  by_cases hij:i=j
  · subst hij
    obtain ⟨_,o',ho',ha⟩:=mem_ready.1 hi
    rw [ho] at ho'
    cases ho'
    exact ha _ he hb
  · refine hd j o ho ?_ e he hb
    simp only [Array.getD_eq_getD_getElem?,Array.getElem?_setIfInBounds,hij,if_false] at hl ⊢; exact hl
theorem zDp {l:Array Bool} {i j:Nat} (b:Bool) (h:i≠j):(l.setIfInBounds i b).getD j false=l.getD j false:=by
  simp [Array.getD_eq_getD_getElem?,Array.getElem?_setIfInBounds,h]
theorem zF6 {i : Nat} {oi : Oper} {v : Value} (hi : ops[i]? = some oi) (hsel : ∀ (j : Nat) (o : Oper) cs b, ops[j]? = some o → o.op ≠ .select cs b)
    (hQ:∀ c a w,Q (.panic c) (a.put oi.dst v) w→Q (.panic c) a w) (hin:i≠nb) (hwait:∀ on,ops[nb]?=some on→RB md ops nb i) :
    ∀ (fuel:Nat) (listed:Array Bool) (a:Act) (w:World),DC md ops listed→listed.getD nb false=false →
      (∀ j oj,ops[j]?=some oj→j≠i→listed.getD j true=false→(∀ e ∈ oj.after,Region.binds md e=true→e.on≠i)→oi.apart ops oj=true) →
      i ∈ Region.ready md ops listed→YieldsC P ops C oi v a →
      wpAnyD P md ops nb C Q fuel (listed.setIfInBounds i true) (a.put oi.dst v) w→wpAnyD P md ops nb C Q (fuel+1) listed a w:=by
  intro fuel
  induction fuel with
  | zero =>
    intro listed a w _ hb _ hr hy H
    have hc:C w:=H.cls (by rw [zDp true hin]; exact hb)
    refine ⟨fun _=>hc,fun h=>(by rw [h] at hr; cases hr),fun j hj=>?_⟩
    by_cases hji:j=i
    · subst hji; exact hy.wpOp hi hc H
    · have:=ready_mono hj hji
      rw [H.2.1] at this
      cases this
  | succ fuel ih =>
    intro listed a w hdc hb hfree hr hy H
    have hc:C w:=H.cls (by rw [zDp true hin]; exact hb)
    refine ⟨fun _=>hc,fun h=>(by rw [h] at hr; cases hr),fun j hj=>?_⟩
    by_cases hji:j=i
    · subst hji; exact hy.wpOp hi hc H
    · have h1:=H.2.2 j (ready_mono hj hji)
      obtain ⟨hjun,oj,hoj,hall⟩:=mem_ready.1 hj
      have hnot:∀ e ∈ oj.after,Region.binds md e=true→e.on≠i:=fun e he hb heq=>by
        have h1:=hall e he hb
        have h0:=(mem_ready.1 hr).1
        rw [heq] at h1
        rcases Nat.lt_or_ge i listed.size with h' | h'
        · simp [h'] at h0 h1; rw [h0] at h1; cases h1
        · simp [Array.getElem?_eq_none h'] at h1
      have hjn:j≠nb:=fun h=>by
        subst h
        have h1:=zQR hdc hj (hwait oj hoj)
        rw [getD_both (mem_ready.1 hr).1] at h1
        cases h1
      have h2:=zL5 hoj (hfree j oj hoj hji hjun hnot) (fun cs b=>hsel i oi cs b hi) (fun cs b=>hsel j oj cs b hoj) hQ hy h1
      have hfree' : ∀ k ok, ops[k]? = some ok → k ≠ i → (listed.setIfInBounds j true).getD k true = false →
          (∀ e ∈ ok.after,Region.binds md e=true→e.on≠i)→oi.apart ops ok=true:=fun k ok hk hki hun hno=>by
        refine hfree k ok hk hki ?_ hno
        by_cases hjk:j=k
        · subst hjk; exact hjun
        · rw [getD_set_ne true hjk] at hun; exact hun
      refine wpOp_mono (fun a' w' h3=>ih (listed.setIfInBounds j true) a' w' (hdc.set hj) (by rw [zDp true hjn]; exact hb) hfree' (ready_mono hr (Ne.symm hji)) h3.1 ?_) h2
      rw [Array.setIfInBounds_comm _ _ hji]
      exact h3.2
structure WD (P:Program) (N:Frm) (ops:Array Oper) (nb:Nat) (C:World→Prop) (n:Nat) (listed:Array Bool) (Q:Fr→World→Prop) (f:Fr) (w:World):Prop where
  out:wpAnyD P .any ops nb C (fun e a w'=>∃ f',a=act N f'∧e=.normal∧Q f' w') n listed (act N f) w
section
variable {N:Frm} {f:Fr} {w w0:World} {H0 H:Hp} {L:List Ent} {Q:Fr→World→Prop} {n:Nat} {listed:Array Bool}
theorem WP.drawD {id:Nat} {Q:Exit→Fr→World→Prop} (C:World→Prop) (nb:Nat) (hm:P.follows .mixedOrders=true) (h:WD P N ops nb C ops.size (Array.replicate ops.size false) (Q .normal) f w.drew):WP P N (.region id ops true) Q f w:=by
  refine wp_region_any hm (zFe (fun e a w ⟨f',ha,he,hq⟩=>?_) _ _ _ _ h.out.any)
  subst he
  exact ⟨f',ha,hq⟩
theorem WD.take {i : Nat} {d : Option Nat} {op : Op} {ty : TypeId} {pos : String} {af : Array Edge} {v : Value} (hi : ops[i]? = some ⟨d, op, ty, pos, af, none⟩) (hs : Region.noSelect ops = true) (hf : Region.free .any ops listed i = true)
    (hr:i ∈ Region.ready .any ops listed) (hin:i≠nb) (hwait:∀ on,ops[nb]?=some on→RB .any ops nb i) (hdc:DC .any ops listed) (hb:listed.getD nb false=false)
    (hrun:∀ w,C w→(execOp (ev N f) ⟨d,op,ty,pos,af,none⟩).run P w=.ok (.value v) w)
    (h:WD P N ops nb C n (listed.setIfInBounds i true) Q (updo f d v) w):WD P N ops nb C (n+1) listed Q f w:=by
  refine ⟨zF6 hi (Region.noSelect_spec hs) (fun c a w ⟨f',_,he,_⟩=>by cases he) hin hwait n listed _ w hdc hb (Region.free_spec hi hf) hr (v:=v) (.inl ⟨by simp [Region.wanted],fun w hw=>?_⟩) ?_⟩
  · rw [zBl]; exact hrun w hw
  · show wpAnyD P .any ops nb C _ n _ ((act N f).put d v) w
    rw [zBe]; exact h.out
theorem WD.takeG {i : Nat} {d : Option Nat} {op : Op} {ty : TypeId} {pos : String} {af : Array Edge} {g : Option (Nat × Bool)} {v : Value} (hi : ops[i]? = some ⟨d, op, ty, pos, af, g⟩) (hs : Region.noSelect ops = true) (hf : Region.free .any ops listed i = true)
    (hr:i ∈ Region.ready .any ops listed) (hin:i≠nb) (hwait:∀ on,ops[nb]?=some on→RB .any ops nb i) (hdc:DC .any ops listed) (hb:listed.getD nb false=false)
    (hw:Region.wanted ⟨d,op,ty,pos,af,g⟩ (yielded ops (act N f).tmps)=true)
    (hrun:∀ w,C w→(execOp (ev N f) ⟨d,op,ty,pos,af,none⟩).run P w=.ok (.value v) w)
    (h:WD P N ops nb C n (listed.setIfInBounds i true) Q (updo f d v) w):WD P N ops nb C (n+1) listed Q f w:=by
  refine ⟨zF6 hi (Region.noSelect_spec hs) (fun c a w ⟨f',_,he,_⟩=>by cases he) hin hwait n listed _ w hdc hb (Region.free_spec hi hf) hr (v:=v) (.inl ⟨hw,fun w hw=>?_⟩) ?_⟩
  · rw [zBl]; exact hrun w hw
  · show wpAnyD P .any ops nb C _ n _ ((act N f).put d v) w
    rw [zBe]; exact h.out
theorem WD.skipG {i : Nat} {d : Option Nat} {op : Op} {ty : TypeId} {pos : String} {af : Array Edge} {g : Option (Nat × Bool)} (hi : ops[i]? = some ⟨d, op, ty, pos, af, g⟩) (hs : Region.noSelect ops = true) (hf : Region.free .any ops listed i = true)
    (hr:i ∈ Region.ready .any ops listed) (hin:i≠nb) (hwait:∀ on,ops[nb]?=some on→RB .any ops nb i) (hdc:DC .any ops listed) (hb:listed.getD nb false=false)
    (hw:Region.wanted ⟨d,op,ty,pos,af,g⟩ (yielded ops (act N f).tmps)=false)
    (h:WD P N ops nb C n (listed.setIfInBounds i true) Q (updo f d undef) w):WD P N ops nb C (n+1) listed Q f w:=by
  refine ⟨zF6 hi (Region.noSelect_spec hs) (fun c a w ⟨f',_,he,_⟩=>by cases he) hin hwait n listed _ w hdc hb (Region.free_spec hi hf) hr (v:=undef) (.inr ⟨hw,rfl⟩) ?_⟩
  show wpAnyD P .any ops nb C _ n _ ((act N f).put d undef) w
  rw [zBe]; exact h.out
theorem zMu {f:Fr} {j t:Nat} (hj:(ops[j]?).bind (·.dst)=some t) (hv:ev N f (.tmp t)=undef):yielded ops (act N f).tmps j=none:=by
  unfold yielded
  rw [hj]
  simp only [Option.bind_some,act,zE6]
  simp only [ev,zIG] at hv
  by_cases h:t<N.n
  · simp only [h,decide_true,cond_true] at hv; simp only [h,if_true,hv,undef]
  · simp only [h,if_false]
def NxtD (P:Program) (N:Frm) (ops:Array Oper) (nb:Nat) (C:World→Prop) (n:Nat) (listed:Array Bool) (Q:Fr→World→Prop) (f:Fr) (w:World) (i:Nat):Prop :=
  ∃ o,ops[i]?=some o∧WL P N ops [o] (fun f' w'=>WD P N ops nb C n (listed.setIfInBounds i true) Q f' w') f w
theorem WD.next (hC:listed.getD nb false=false→C w) (hne:Region.ready .any ops listed≠[]) (h:∀ i ∈ Region.ready .any ops listed,NxtD P N ops nb C n listed Q f w i):WD P N ops nb C (n+1) listed Q f w:=by
  refine ⟨hC,fun h0=>absurd h0 hne,fun i hi=>?_⟩
  obtain ⟨o,ho,hw⟩:=h i hi
  refine wpOp_mono (fun a w' ⟨f',ha,hq⟩=>?_) (zJ2 (Q:=Q) ho hw)
  subst ha; exact hq.out
theorem WD.done (hC:listed.getD nb false=false→C w) (hr:Region.ready .any ops listed=[]) (h:Q f w):WD P N ops nb C n listed Q f w:=by
  refine ⟨?_⟩
  cases n with
  | zero=>exact ⟨hC,hr,f,rfl,rfl,h⟩
  | succ n=>exact ⟨hC,fun _=>⟨f,rfl,rfl,h⟩,by rw [hr]; simp⟩
end
theorem wpAnyD.mono {P:Program} {md:Region.Mode} {ops:Array Oper} {nb:Nat} {C C':World→Prop} {Q:Exit→Act→World→Prop} (hC:∀ w,C w→C' w):∀ {n:Nat} {listed:Array Bool} {a:Act} {w:World},wpAnyD P md ops nb C Q n listed a w→wpAnyD P md ops nb C' Q n listed a w
  | 0,_,_,_,h=>⟨fun hb=>hC _ (h.1 hb),h.2⟩
  | _+1,_,_,_,h=>⟨fun hb=>hC _ (h.1 hb),h.2.1,fun i hi=>wpOp_mono (fun _ _ h=>wpAnyD.mono hC h) (h.2.2 i hi)⟩
theorem WD.mono {P:Program} {N:Frm} {ops:Array Oper} {nb n:Nat} {C C':World→Prop} {listed:Array Bool} {Q:Fr→World→Prop} {f:Fr} {w:World} (hC:∀ w,C w→C' w) (h:WD P N ops nb C n listed Q f w):WD P N ops nb C' n listed Q f w:=⟨h.out.mono hC⟩
theorem WL.frame {P : Program} {N : Frm} {ops : Array Oper} {Q : Fr → World → Prop} {f : Fr} {w : World} {d : Option Nat} {op : Op} {ty : TypeId} {pos : String} {af : Array Edge} (h : WL P N ops [⟨d, op, ty, pos, af, none⟩] Q f w) :
    WL P N ops [⟨d,op,ty,pos,af,none⟩] (fun f' w'=>Q f' w'∧∀ t,t<N.n→d≠some t→f' t=f t) f w:=by
  have key : ∀ (a' : Act) (w' : World) (v : Value), a'.tmps = ((act N f).put d v).tmps → wpList P ops (fun e a w' => ∃ f', a = act N f' ∧ e = .normal ∧ Q f' w') [] a' w' →
      wpList P ops (fun e a w'=>∃ f',a=act N f'∧e=.normal∧(Q f' w'∧∀ t,t<N.n→d≠some t→f' t=f t)) [] a' w':=by
    intro a' w' v ha ⟨f',e1,e2,hq⟩
    refine ⟨f',e1,e2,hq,fun t ht hd=>?_⟩
    rw [e1,zBe] at ha
    have h1:(tm N f')[t]?=(tm N (updo f d v))[t]?:=by
      have:tm N f'=tm N (updo f d v):=ha
      rw [this]
    rw [zE6,zE6,if_pos ht,if_pos ht] at h1
    rw [Option.some.inj h1]
    cases d with
    | none=>rfl
    | some x =>
      have:Nat.beq t x=false:=by
        cases hb:Nat.beq t x with
        | false=>rfl
        | true=>exact absurd (by rw [Nat.eq_of_beq_eq_true hb]) hd
      simp only [updo,upd,this,cond_false]
  have h:=h.out
  refine ⟨?_⟩
  unfold wpList at h ⊢
  split
  · rename_i hw
    rw [if_pos hw] at h
    rcases h with h | ⟨_,a0,w0,f0,_,hc,_⟩
    case inr=>cases hc
    refine .inl ?_
    unfold Oper.wp at h ⊢
    generalize (execOp (act N f).eval _).run P w=r at h ⊢
    cases r with
    | ok n w' =>
      cases n with
      | enter g args =>
        exact Calls.mono h (fun e w'' he=>by
          cases e with
          | returned v=>exact key _ _ v rfl he
          | panicked c=>obtain ⟨f',ha,hc,_⟩:=he; cases hc
          | outgrown=>obtain ⟨a0,w0,f0,_,hc,_⟩:=he; cases hc)
      | row r args=>exact Rows.mono h (fun v w'' he=>key _ _ v rfl he)
      | value v=>exact key _ _ v rfl h
      | skip=>exact key _ _ undef rfl h
      | defer df=>exact key _ _ undef (by cases d <;> rfl) h
      | _=>exact h
    | halt x w' =>
      cases x with
      | panic v=>obtain ⟨f',_,hc,_⟩:=h; cases hc
      | _=>exact h
  · rename_i hw
    rw [if_neg hw] at h
    exact key _ _ undef rfl h
end Go.Eng
