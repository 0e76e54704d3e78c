/- A part. -/
import Derived.Test.YtihjhdoinmfddaaGreatDoorVr7
set_option linter.unusedVariables false
set_option linter.unusedSimpArgs false
namespace Go.VI
open Go Go.Eng
section
variable {U:UV} {P:Program} {G:Gam U} {N:Frm} {s s':VS U} {f f':Fr} {w w' w0:World} {H0 H H':Hp} {E E':Env} {L L':List Ent} {Ω:Type} {X:Nat→Nat→Bool}
theorem zX9 (hr:RelE w0 H0 s f w E H L) {l:LC} {c:CV} (h:getL s l=some c):∃ v,c.val E=some v∧LV E f L l v:=by
 cases l with
 | sl n=>exact ⟨f n,hr.fr n c h,rfl⟩
 | ce b o =>
  simp only [getL,zAi] at h;split at h
  case h_2=>cases h
  rename_i cs hcs;obtain ⟨i,T,vals,k,_,⟨e,h2,h7⟩,h3,h4⟩:=zKB hcs hr.ens;obtain ⟨v,h5,h6⟩:=zFL h4 h;exact ⟨v,h6,k,T,vals,e,h3,h7,lG h2,h5⟩
theorem br_of (hr : RelE w0 H0 s' f' w' E' H' L') {i : IT} {c : CV} {x : i.t.T U.S} (h1 : getL s' i.loc = some c) (h2 : getT s' i.t c = some x) {E : Env} {M : List Ent} (hLV : ∀ v, LV E' f' L' i.loc v → LV E f' M i.loc v)
    {a:List Nat} {R':List Ent} {r:List IT} (ha:rowPs s' (i :: r)=some a):∃ a',rowPs s' r=some a'∧(Ins (pick L' [] a') R'→∃ R,Br U H' E f' M i x R' R∧Ins (pick L' [] a) R):=by
  obtain ⟨v,hv,hl⟩:=zX9 hr h1;obtain ⟨v',hv',hR⟩:=zEL hr.sls h2;rw [hv] at hv';cases hv';have hl:=hLV v hl;simp only [rowPs] at ha;split at ha
  · rename_i hrow
    exact ⟨a,ha,fun hI=>⟨R',⟨v,hl,hR,by rw [hrow]⟩,hI⟩⟩
  · rename_i T hrow
    have ht:zWl i.t=true:=by
      grind
    rw [ht,cond_true,h1] at ha;split at ha
    · rename_i k hc
      cases hc;split at ha
      case h_2=>cases ha
      rename_i p ps hp hps;cases ha;refine ⟨ps,hps,fun hI=>?_⟩;obtain ⟨e,he,y,u,g1,g2,g3⟩:=hr.ens.get (zIr hp);simp only [CV.val] at hv;rw [hv] at g2;cases g2;have hy:y=⟨i.t,x⟩:=by
        obtain ⟨loc,t',row⟩:=i;simp only at ht x h2;cases t' with
        | sl t =>
          have:=zKa (t:=t) h2
          grind
        | mr t =>
          have:=zJ8 (t:=t) h2
          grind
        | _=>cases ht
      subst hy;have g3:RowE none H' T v ⟨i.t,x⟩ e:=by
        obtain ⟨loc,t',row⟩:=i;simp only at ht x g3;cases t' with
        | sl t=>exact g3
        | mr t=>exact g3
        | _=>cases ht
      refine ⟨_,⟨v,hl,hR,by rw [hrow]; exact ⟨e,g3,rfl⟩⟩,?_⟩;rw [show pick L' [] (p :: ps)=e :: pick L' [] ps by rw [pick,he]];exact hI.cons
    · rename_i u hc
      cases hc;obtain ⟨hn,ha⟩:=cT ha;refine ⟨a,ha,fun hI=>?_⟩;cases hv;have hu:=zB5 hn;subst hu;have hx:∃ sz,RowE none H' T (.slice none 0 0) ⟨i.t,x⟩ (.row (.slice none 0 0) T sz 0):=by
        obtain ⟨loc,t',row⟩:=i;simp only at ht x h2;cases t' with
        | sl t =>
          simp only [getT,get1,hn,cond_true] at h2;cases h2;exact ⟨_,rfl⟩
        | mr t =>
          simp only [getT,get1,hn,cond_true] at h2;cases h2;exact ⟨_,@MR.nil _ (t.enc U) _ _⟩
        | _=>cases ht
      obtain ⟨sz,hx⟩:=hx;refine ⟨_,⟨_,hl,hR,by rw [hrow]; exact ⟨_,hx,rfl⟩⟩,?_⟩;exact hI.new
    · cases ha
theorem zL1 (hr : RelE w0 H0 s' f' w' E' H' L') {E : Env} {M : List Ent} : ∀ {l : List IT} {Ω : Type} {c : KT U l → Option Ω} {r : Ω} {a : List Nat}, pack s' l c = some r → (∀ i ∈ l, ∀ v, LV E' f' L' i.loc v → LV E f' M i.loc v) → rowPs s' l = some a →
  ∃ x R,c x=some r∧Brings U H' E f' M l x R∧Ins (pick L' [] a) R
 | [],Ω,c,r,a,h,_,ha=>by
  simp only [rowPs,oI] at ha;subst ha;exact ⟨(),[],h,rfl,.nil⟩
 | [i],Ω,c,r,a,h,hLV,ha=>by
  simp only [pack] at h;split at h
  case h_2=>cases h
  rename_i v hv;split at h
  case h_2=>cases h
  rename_i x hx;obtain ⟨a',ha',hB⟩:=br_of hr hv hx (hLV i lS) (R':=[]) ha;simp only [rowPs,oI] at ha';subst ha';obtain ⟨R,h1,h2⟩:=hB .nil;exact ⟨x,R,h,h1,h2⟩
 | i :: j :: l,Ω,c,r,a,h,hLV,ha=>by
  simp only [pack] at h;split at h
  case h_2=>cases h
  rename_i v hv;split at h
  case h_2=>cases h
  rename_i x hx;have hsub:∃ a',rowPs s' (j :: l)=some a':=by
   obtain ⟨a',ha',_⟩:=br_of hr hv hx (hLV i lS) (R':=[]) ha
   grind
  obtain ⟨a1,ha1⟩:=hsub;obtain ⟨y,R',hy,hB',hI'⟩:=zL1 hr h (fun i hi=>hLV i (lN _ hi)) ha1;obtain ⟨a',ha',hB⟩:=br_of hr hv hx (hLV i lS) (R':=R') ha;rw [ha1] at ha';cases ha';obtain ⟨R,h1,h2⟩:=hB hI';exact ⟨(x,y),R,hy,⟨R',hB',h1⟩,h2⟩
theorem zO1 {en:List EI} {b o b':Nat} {c:CV}:(boxAt (setCell en b o c) b').isSome=(boxAt en b').isSome:=by
 grind [setCell,zDA,zBw]
theorem zOb {i:IT} {x:i.t.T U.S} {b:Nat}:(boxAt (putI s i x).en b).isSome=(boxAt s.en b).isSome:=by
 have hp:=(zNR i.t s x).en;have hl:∀ (s2:VS U) (c:CV),(boxAt (putL s2 i.loc c).en b).isSome=(boxAt s2.en b).isSome:=fun s2 c=>by
  cases i.loc with
  | sl n=>rfl
  | ce b o=>exact zO1
 grind [putI,newRow,boxAt]
theorem zNF:∀ {l:List IT} {x:KT U l} {s:VS U} {b:Nat},(boxAt (putTs s l x).en b).isSome=(boxAt s.en b).isSome
 | [],_,_,_=>rfl
 | [_],_,_,_=>zOb
 | _ :: j :: r,_,_,_=>by rw [putTs,zNF (l:=j :: r),zOb]
theorem zNM (hr : RelE w0 H0 s f w E H L) (hr' : RelE w0 H0 s' f' w' E' H' L') {ds : List Nat} (he : Ext s s' ds) (hE : E.le E') (hl : H.le H') {J : JN} (hok : okN s s' J = true) {Ω : Type} {c : KT U J.items → Option Ω} {r : Ω} (hp : pack s' J.items c = some r) :
  ∃ x E2 L2,c x=some r∧E.le E2∧RelE w0 H0 (putTs (bk s ds J) J.items x) f' w' E2 H' L2:=by
 unfold okN okJ at hok;split at hok
 case h_2=>cases hok
 rename_i a b ha hb;simp only [bQ] at hok;obtain ⟨⟨o1,o2⟩,o3⟩:=hok;obtain ⟨d,d1,d2⟩:=he.dt;have hke:∀ e ∈ keepE J.lb (rowIx s J) s.en,∀ p,posE s'.en e=some p→∃ x,L'[p]?=some x∧EnOk (memX d) E H' s.sl e x:=fun e he' p hp=>zUF hr hr' he.sl hE (fun b hb _=>d2 b hb) (zIo he') hp
 have hens:=zRW hb hke;have hS:=hr'.st.pk (a++b) o1;rw [zNx] at hS;have hLV:∀ i ∈ J.items,∀ v,LV E' f' L' i.loc v→LV E f' (pick L' [] b) i.loc v:=by
  intro i hi v hv;unfold ceOk at o3;rw [List.all_eq_true] at o3;have hi3:=o3 i hi;cases hloc:i.loc with
  | sl n=>rw [hloc] at hv; exact hv
  | ce bb o =>
   rw [hloc] at hv hi3;obtain ⟨k,T,vals,e0,q1,q4,q2,q3⟩:=hv;simp only at hi3;obtain ⟨cs,hcs⟩:=Option.isSome_iff_exists.1 hi3;have hfind:∀ {en:List EI} {M:List Ent},EnsOk (memX d) E H' s.sl en M→boxAt en bb=some cs→∃ T2 vals2 k2 e2,E.bs[bb]?=some k2∧isE k2 T2 vals2 e2∧e2 ∈ M:=by
    intro en
    induction en with
    | nil=>intro M _ h; cases h
    | cons e en ih =>
     intro M h hb2;cases M with
     | nil=>exact h.elim
     | cons x M =>
      cases e with
      | row j T =>
       obtain ⟨T2,v2,k2,e2,z1,z3,z2⟩:=ih h.2 hb2
       grind
      | box b' T' cs' =>
       simp only [boxAt] at hb2;cases hbb:Nat.beq b' bb with
       | true =>
        have:=nQ hbb;subst this;obtain ⟨v2,k2,z1,_,z3⟩:=h.1
        grind
       | false =>
        rw [hbb] at hb2;obtain ⟨T2,v2,k2,e2,z1,z3,z2⟩:=ih h.2 hb2
        grind
   obtain ⟨T2,v2,k2,e2,z1,z3,z2⟩:=hfind hens hcs;have hk:k=k2:=by
    have:=zD8 hE.bs z1
    grind
   subst hk;have hz2:e2 ∈ L':=by
    rcases zLd z2 with h | ⟨j,_,hj⟩
    all_goals grind
   have:=hr'.st.uniq q2 hz2 (zGI q4) (zGI z3);subst this;exact ⟨k,T,vals,e0,z1,q4,z2,q3⟩
 obtain ⟨x,R,hx,hB,hI⟩:=zL1 hr' hp hLV ha;have hP:RelP (memX d) w0 H0 R (bk s ds J) f' w' E H' (pick L' [] b):=by
  refine ⟨hI.st hS,hr'.gl,hr.sls.mono hl,hr.pts.mono (Env.le_refl E) hl,hr.nb,hens,fun t c hc=>?_⟩;obtain ⟨h1,h2⟩:=zI5 hc;have h3:=hr.fr t c h2;have h4:=hr'.fr t c (by rw [he.fr t h1]; exact h2)
  grind [CV.val_mono]
 obtain ⟨E2,L2,hE2,hP2⟩:=zHm hP hB;refine ⟨x,E2,L2,hx,hE2,hP2.all fun b' o' hb'=>?_⟩;rw [zNF] at hb';have hb2:(boxAt (keepE J.lb (rowIx s J) s.en) b').isSome=true:=hb';rw [zD1] at hb2;cases hm:memb J.lb b' with
 | true=>grind
 | false =>
  rw [hm,cond_false] at hb2;obtain ⟨cs,hcs⟩:=Option.isSome_iff_exists.1 hb2;obtain ⟨_,_,_,k,_,_,hk,_⟩:=zKB hcs hr.ens;have hnb:b'<s.nb:=by rw [← hr.nb]; grind
  cases hoff:offIs (memX d) J.items b' o' with
  | false=>rfl
  | true =>
   obtain ⟨h1,h2⟩:=zNE hoff;unfold zSy at o2;rw [List.all_eq_true] at o2;have hmem:=o2 (b',o') (by
    grind [List.take_left,zRe])
   simp only [hm,h2,Bool.or_false] at hmem;have:=nL hmem;omega
theorem zHq {ds:List Nat} {J:JN} {x:KT U J.items} (h:inW J.items ds=true):Ext s (putTs (bk s ds J) J.items x) ds:=ext_bk.same (zOG h)
end
section
variable {U:UV}
abbrev OD (U:UV):={R:Type}→Option Nat→Op→VS U→(VS U→Option R)→Option R
def zWU (t:Nat) (o:Oper):Bool:=match o.op with | .pick (.tmp u) _ _=>Nat.beq u t | _=>false
def zOX (t:Nat):List Oper→Option (List Oper×Oper×List Oper)
 | []=>none
 | o :: r=>bif zWU t o then some ([],o,r) else (zOX t r).map fun x=>(o :: x.1,x.2)
def zT5 (s:VS U) (t:Nat):Option Bool:=match look s.fr t with | some (.boo z)=>some z | _=>none
def opg {R:Type} (od:OD U) (N:Nat) (ops:Array Oper) (o:Oper) (s:VS U) (k:VS U→Option R):Option R :=
 match o.guard with
 | none=>od o.dst o.op s k
 | some (j,b) =>
  match (ops[j]?).bind (·.dst) with
  | none=>none
  | some t=>bif Nat.blt t N then (match look s.fr t with | some (.boo g)=>bif g==b then od o.dst o.op s k else none | _=>none) else none
def JG (dp:Nat):JN:={ items:=[⟨.sl dp,.boo,none⟩] }
def back (s:VS U) (ds:List Nat) (dp:Nat) (x:Bool):VS U:=putTs (bk s ds (JG dp)) (JG dp).items (show KT U (JG dp).items from x)
def gend (s:VS U) (dp:Nat) (s':VS U):Option Bool:=bif okN s s' (JG dp) then zT5 s' dp else none
def zZB (P:Program) (o:Oper):Bool :=
 match o.op with
 | .move _=>true | .assign _=>true | .pick _ _ _=>true | .extract _ _=>true | .unOp _ _ _=>true | .convert _ _ _=>true | .field _ _ _=>true | .build _ _=>true
 | .fieldAddr _ _ _=>true | .load _ _=>true | .nilCheck _=>true
 | .binOp op T _ _ _=>match op with | .quo=>false | .rem=>false | .add=>!isStr P T | _=>true
 | .call c=>match c.callee with | .builtin .len=>true | _=>false
 | _=>false
def orand (P:Program) (seg:List Oper) (pk:Oper):Nat :=
 bif seg.all (zZB P) then (match pk.op with | .pick _ (.const (.bool true)) _=>1 | .pick _ _ (.const (.bool false))=>2 | _=>0) else 0
def hasPo (s:VS U) (seg:List Oper):Bool :=
 seg.any fun o=>match o.op with
  | .move (.tmp u)=>(match look s.fr u with | some (.ref i)=>(poOf s.sl i).isSome | _=>false)
  | .nilCheck (.tmp u)=>(match look s.fr u with | some (.ref i)=>(poOf s.sl i).isSome | _=>false)
  | _=>false
def zWS (P:Program) (s:VS U) (seg:List Oper) (pk:Oper):Nat:=bif hasPo s seg then 0 else orand P seg pk
def toPk (ld:Oper→Bool) (t:Nat) (l:List Oper):Option (List Oper×Oper×List Oper) :=
 match zOX t l with
 | some (a,p,b)=>bif a.any ld then none else some (a,p,b)
 | none=>none
def opsd {R:Type} (P:Program) (od:OD U) (ld:Oper→Bool) (N:Nat) (ops:Array Oper):Nat→List Oper→VS U→(VS U→Option R)→Option R
  | 0,_,_,_=>none
  | _+1,[],s,k=>k s
  | n+1,o :: r,s,k =>
    match o.guard with
    | none=>od o.dst o.op s fun s=>opsd P od ld N ops n r s k
    | some (j,b) =>
      match (ops[j]?).bind (·.dst) with
      | none=>none
      | some t =>
        bif Nat.blt t N then
        match look s.fr t with
        | some .und=>opsd P od ld N ops n r (setd s o.dst .und) k
        | some (.boo g) =>
          match toPk ld t (o :: r) with
          | some (seg,pk,rest) =>
            match pk.dst with
            | none=>none
            | some dp =>
              match zWS P s seg pk with
              | 0 =>
                (bif g then opsd P od ld N ops n seg { s with fr:=(t,.boo true) :: s.fr } (fun s'=>opg od N ops pk s' fun s'=>gend s dp s')
                 else opsd P od ld N ops n seg { s with fr:=(t,.boo false) :: s.fr } (fun s'=>opg od N ops pk s' fun s'=>gend s dp s')).bind fun x =>
                opsd P od ld N ops n rest (back s (dsts (seg++[pk])) dp x) k
              | 1 =>
                match opsd P od ld N ops n seg { s with fr:=(t,.boo true) :: s.fr } (fun s'=>opg od N ops pk s' fun s'=>gend s dp s'),opsd P od ld N ops n seg { s with fr:=(t,.boo false) :: s.fr } (fun s'=>opg od N ops pk s' fun s'=>gend s dp s') with
                | some true,some b=>opsd P od ld N ops n rest (back s (dsts (seg++[pk])) dp (g||b)) k
                | _,_=>(bif g then opsd P od ld N ops n seg { s with fr:=(t,.boo true) :: s.fr } (fun s'=>opg od N ops pk s' fun s'=>gend s dp s')
                 else opsd P od ld N ops n seg { s with fr:=(t,.boo false) :: s.fr } (fun s'=>opg od N ops pk s' fun s'=>gend s dp s')).bind fun x =>
                opsd P od ld N ops n rest (back s (dsts (seg++[pk])) dp x) k
              | _ =>
                match opsd P od ld N ops n seg { s with fr:=(t,.boo true) :: s.fr } (fun s'=>opg od N ops pk s' fun s'=>gend s dp s'),opsd P od ld N ops n seg { s with fr:=(t,.boo false) :: s.fr } (fun s'=>opg od N ops pk s' fun s'=>gend s dp s') with
                | some a,some false=>opsd P od ld N ops n rest (back s (dsts (seg++[pk])) dp (g&&a)) k
                | _,_=>(bif g then opsd P od ld N ops n seg { s with fr:=(t,.boo true) :: s.fr } (fun s'=>opg od N ops pk s' fun s'=>gend s dp s')
                 else opsd P od ld N ops n seg { s with fr:=(t,.boo false) :: s.fr } (fun s'=>opg od N ops pk s' fun s'=>gend s dp s')).bind fun x =>
                opsd P od ld N ops n rest (back s (dsts (seg++[pk])) dp x) k
          | none =>
            bif g then (bif b then od o.dst o.op s fun s=>opsd P od ld N ops n r s k else opsd P od ld N ops n r (setd s o.dst .und) k)
            else (bif b then opsd P od ld N ops n r (setd s o.dst .und) k else od o.dst o.op s fun s=>opsd P od ld N ops n r s k)
        | _=>none
        else none
end
section
variable {U:UV} {P:Program} {G:Gam U} {N:Frm} {s s':VS U} {f:Fr} {w w0:World} {H0 H:Hp} {E:Env} {L:List Ent} {Ω:Type}
variable {dp:Nat} {ds:List Nat} {k:VS U→Option Ω} {ld:Oper→Bool} {ops:Array Oper}
theorem zPt {z:Bool} (h:gend s dp s'=some z):okN s s' (JG dp)=true∧pack s' (JG dp).items some=some (show KT U (JG dp).items from z):=by
 grind [gend,JG,zT5,pack,getL,getT,get1]
theorem zO2 {t:Nat}:∀ {l a:List Oper} {p:Oper} {b:List Oper},zOX t l=some (a,p,b)→l=a++p :: b
 | [],a,p,b,h=>by cases h
 | o :: r,a,p,b,h=>by
  unfold zOX at h;cases hb:zWU t o with
  | true =>
   grind
  | false =>
   rw [hb,cond_false] at h;cases hr:zOX t r with
   | none=>grind
   | some x =>
    obtain ⟨a',p',b'⟩:=x;rw [hr] at h;simp only [Option.map_some,oI,Prod.mk.injEq] at h;obtain ⟨rfl,rfl,rfl⟩:=h;rw [zO2 hr]; rfl
theorem RelE.know (hr:RelE w0 H0 s f w E H L) {n:Nat} {c:CV} (hc:c.val E=some (f n)):RelE w0 H0 { s with fr:=(n,c) :: s.fr } f w E H L:=by
 refine ⟨hr.st,hr.gl,hr.sls,hr.pts,hr.nb,hr.ens,fun u y hu=>?_⟩;simp only [look] at hu;cases hb:Nat.beq u n with
 | true =>
  simp_all
 | false=>rw [hb] at hu; exact hr.fr u y hu
theorem zQb {x:Bool} (h:memb ds dp=true):Ext s (back s ds dp x) ds :=
 zHq (J:=JG dp) (x:=show KT U (JG dp).items from x) (by simp [JG,inW,locIn,h])
theorem zOq {a:List Nat}:memb (a++[dp]) dp=true:=by
 induction a <;> simp_all [zDJ]
theorem zUT {t:Nat} {g:Bool} (hl:look s.fr t=some (.boo g)) (h:Ext { s with fr:=(t,.boo g) :: s.fr } s' ds):Ext s s' ds:=by
 refine ⟨h.sl,h.pt,h.nb,fun u hu=>(h.fr u hu).trans ?_,h.dt⟩;simp only [look];cases hb:Nat.beq u t <;> simp_all
theorem Goes.step {es:List Nat} {r:Ω} {Q:Fr→World→Prop} (K:Goes w0 H0 s (ds++es) E H k r Q) {s':VS U} {E':Env} {H':Hp} (he:Ext s s' ds) (hE:E.le E') (hl:H.le H'):Goes w0 H0 s' es E' H' k r Q :=
 fun s2 f2 w2 E2 H2 L2 hk hr he2 hE2 hl2=>K s2 f2 w2 E2 H2 L2 hk hr (he.trans he2) (Env.le_trans hE hE2) (hl.trans hl2)
def OdOk (P:Program) (N:Frm) (od:OD U):Prop :=
 ∀ {Ω:Type} {s:VS U} {f:Fr} {w w0:World} {H0 H:Hp} {E:Env} {L:List Ent} {d:Option Nat} {op:Op} {k:VS U→Option Ω} {r:Ω},od d op s k=some r→RelE w0 H0 s f w E H L→∀ {ty:TypeId} {pos:String} {af:Array Edge} {ops:Array Oper} {rest:List Oper} {Q:Fr→World→Prop},
  Goes w0 H0 s d.toList E H k r (WL P N ops rest Q)→WL P N ops (⟨d,op,ty,pos,af,none⟩ :: rest) Q f w
theorem zSr {od : OD U} (hO : OdOk P N od) {o : Oper} {r : Ω} (h : opg od N.n ops o s k = some r) (hr : RelE w0 H0 s f w E H L) {rest : List Oper} {Q : Fr → World → Prop}
    (K:Goes w0 H0 s o.dst.toList E H k r (WL P N ops rest Q)):WL P N ops (o :: rest) Q f w:=by
  unfold opg at h;obtain ⟨d,op,ty,pos,af,g⟩:=o;cases g with
  | none=>exact hO h hr K
  | some jb =>
    obtain ⟨j,b⟩:=jb;simp only at h;cases hj:(ops[j]?).bind (·.dst) with
    | none=>grind
    | some t =>
      rw [hj] at h;simp only at h;obtain ⟨hN,h⟩:=cT h;have hev:ev N f (.tmp t)=f t:=by grind [ev]
      split at h
      case h_2=>cases h
      rename_i g hl;obtain ⟨hgb,h⟩:=cT h;exact WL.yz hj (by rw [hev]; exact (oJ (hr.fr t _ hl)).symm) (eq_of_beq hgb) (hO h hr K)
theorem zQs {od : OD U} {N : Nat} {n : Nat} {seg : List Oper} {pk : Oper} {rest : List Oper} {t : Nat} {g : Bool} {k : VS U → Option Ω} {r : Ω}
    (h : (match zWS P s seg pk with
              | 0 =>
                (bif g then opsd P od ld N ops n seg { s with fr:=(t,.boo true) :: s.fr } (fun s'=>opg od N ops pk s' fun s'=>gend s dp s')
                 else opsd P od ld N ops n seg { s with fr:=(t,.boo false) :: s.fr } (fun s'=>opg od N ops pk s' fun s'=>gend s dp s')).bind fun x =>
                opsd P od ld N ops n rest (back s (dsts (seg++[pk])) dp x) k
              | 1 =>
                match opsd P od ld N ops n seg { s with fr:=(t,.boo true) :: s.fr } (fun s'=>opg od N ops pk s' fun s'=>gend s dp s'),opsd P od ld N ops n seg { s with fr:=(t,.boo false) :: s.fr } (fun s'=>opg od N ops pk s' fun s'=>gend s dp s') with
                | some true,some b=>opsd P od ld N ops n rest (back s (dsts (seg++[pk])) dp (g||b)) k
                | _,_=>(bif g then opsd P od ld N ops n seg { s with fr:=(t,.boo true) :: s.fr } (fun s'=>opg od N ops pk s' fun s'=>gend s dp s')
                 else opsd P od ld N ops n seg { s with fr:=(t,.boo false) :: s.fr } (fun s'=>opg od N ops pk s' fun s'=>gend s dp s')).bind fun x =>
                opsd P od ld N ops n rest (back s (dsts (seg++[pk])) dp x) k
              | _ =>
                match opsd P od ld N ops n seg { s with fr:=(t,.boo true) :: s.fr } (fun s'=>opg od N ops pk s' fun s'=>gend s dp s'),opsd P od ld N ops n seg { s with fr:=(t,.boo false) :: s.fr } (fun s'=>opg od N ops pk s' fun s'=>gend s dp s') with
                | some a,some false=>opsd P od ld N ops n rest (back s (dsts (seg++[pk])) dp (g&&a)) k
                | _,_=>(bif g then opsd P od ld N ops n seg { s with fr:=(t,.boo true) :: s.fr } (fun s'=>opg od N ops pk s' fun s'=>gend s dp s')
                 else opsd P od ld N ops n seg { s with fr:=(t,.boo false) :: s.fr } (fun s'=>opg od N ops pk s' fun s'=>gend s dp s')).bind fun x =>
                opsd P od ld N ops n rest (back s (dsts (seg++[pk])) dp x) k)=some r) :
    ∃ x,opsd P od ld N ops n seg { s with fr:=(t,.boo g) :: s.fr } (fun s'=>opg od N ops pk s' fun s'=>gend s dp s')=some x∧opsd P od ld N ops n rest (back s (dsts (seg++[pk])) dp x) k=some r:=by
  split at h
  · obtain ⟨x,hx,h⟩:=bindE h
    grind
  · split at h
    · rename_i b ha hb
      refine ⟨_,?_,h⟩;cases g
      all_goals grind
    · obtain ⟨x,hx,h⟩:=bindE h
      grind
  · split at h
    · rename_i a ha hb
      refine ⟨_,?_,h⟩;cases g
      all_goals grind
    · obtain ⟨x,hx,h⟩:=bindE h
      grind
theorem zT1 {t:Nat} {l a:List Oper} {p:Oper} {b:List Oper} (h:toPk ld t l=some (a,p,b)):l=a++p :: b:=by
 grind [toPk,zO2]
theorem zRw {od : OD U} (hO : OdOk P N od) : ∀ {n : Nat} {l : List Oper} {Ω : Type} {s : VS U} {f : Fr} {w : World} {E : Env} {H : Hp} {L : List Ent} {k : VS U → Option Ω} {r : Ω}, opsd P od ld N.n ops n l s k = some r → RelE w0 H0 s f w E H L → ∀ {Q : Fr → World → Prop},
  Goes w0 H0 s (dsts l) E H k r Q→WL P N ops l Q f w:=by
 intro n
 induction n with
 | zero=>intro l Ω s f w E H L k r h; cases h
 | succ n ih =>
  intro l Ω s f w E H L k r h hr Q K;cases l with
  | nil=>exact WL.e (K s f w E H L h hr (Ext.refl s _) (Env.le_refl E) (Hp.le.refl H))
  | cons o l =>
   rw [zHH] at K;obtain ⟨d,op,ty,pos,af,g⟩:=o;simp only at K
   have go:od d op s (fun s=>opsd P od ld N.n ops n l s k)=some r→WL P N ops (⟨d,op,ty,pos,af,none⟩ :: l) Q f w:=fun h =>
    hO h hr fun s' f' w' E' H' L' hk hr' he hE hl=>ih hk hr' (K.step he hE hl)
   unfold opsd at h;cases g with
   | none=>exact go h
   | some jb =>
    obtain ⟨j,b⟩:=jb;simp only at h;cases hj:(ops[j]?).bind (·.dst) with
    | none=>grind
    | some t =>
     rw [hj] at h;simp only at h;obtain ⟨hN,h⟩:=cT h;have hev:ev N f (.tmp t)=f t:=by grind [ev]
     have skip:opsd P od ld N.n ops n l (setd s d .und) k=some r→WL P N ops l Q (updo f d undef) w:=fun h =>
      ih h (hr.set d rfl) (K.step (zIV d .und) (Env.le_refl E) (Hp.le.refl H))
     split at h
     ·rename_i hl
      exact WL.gund hj (by rw [hev]; exact (oJ (hr.fr t _ hl)).symm) (skip h)
     ·rename_i g hl
      have hv:ev N f (.tmp t)=.bool g:=by rw [hev]; exact (oJ (hr.fr t _ hl)).symm
      split at h
      ·rename_i seg pk rest htp
       split at h
       ·cases h
       rename_i dp hdp;obtain ⟨x,hx,h⟩:=zQs h;have hl2:=zT1 htp;have hd:d.toList++dsts l=dsts (seg++[pk])++dsts rest:=by
        grind [dsts,zIy]
       have hpk:dsts [pk]=[dp]:=by rw [zHH,hdp]; rfl
       rw [hl2];refine WL.append (ih hx (hr.know (hr.fr t _ hl)) fun s' f' w' E' H' L' hk hr' he hE hle=>?_);refine zSr hO hk hr' fun s2 f2 w2 E2 H2 L2 hk2 hr2 he2 hE2 hle2=>?_
       obtain ⟨z1,z2⟩:=zPt hk2;have hx1:Ext s s2 (dsts (seg++[pk])):=by
        have h1:=zUT hl (he.trans he2)
        grind [dsts]
       obtain ⟨y,E3,L3,hy,hE3,hr3⟩:=zNM hr hr2 hx1 (Env.le_trans hE hE2) (hle.trans hle2) z1 z2;cases hy;refine ih h hr3 ?_;exact Goes.step (ds:=dsts (seg++[pk])) gR (zQb (by rw [zIy,hpk]; exact zOq)) hE3 (hle.trans hle2)
      grind [WL.yz,WL.n]
     ·cases h
end
section
variable {U:UV} {P:Program} {G:Gam U} {N:Frm} {s s':VS U} {f f':Fr} {w w0:World} {H0 H:Hp} {E E':Env} {L:List Ent} {Ω:Type}
structure Extq (s s':VS U) (ds:List Nat):Prop where
 ext:Ext s s' ds
 en:s'.en=s.en
def Goesq (w0:World) (H0:Hp) (s:VS U) (ds:List Nat) (w:World) (E:Env) (H:Hp) (L:List Ent) (k:VS U→Option Ω) (r:Ω) (Q:Fr→Prop):Prop :=
 ∀ s' f' E',k s'=some r→RelE w0 H0 s' f' w E' H L→Extq s s' ds→E.le E'→Q f'
theorem Extq.refl (s:VS U) (ds:List Nat):Extq s s ds:=⟨Ext.refl s ds,rfl⟩
theorem Extq.trans {s2:VS U} {a b:List Nat} (h:Extq s s' a) (k:Extq s' s2 b):Extq s s2 (a++b):=⟨h.ext.trans k.ext,k.en.trans h.en⟩
theorem zF4 (d:Option Nat) (c:CV):Extq s (setd s d c) d.toList:=⟨zIV d c,by cases d <;> rfl⟩
variable {Q:Fr→Prop} {ds:List Nat} {ops:Array Oper}
theorem Goesq.step {es:List Nat} {k:VS U→Option Ω} {r:Ω} (K:Goesq w0 H0 s (ds++es) w E H L k r Q) (he:Extq s s' ds) (hE:E.le E'):Goesq w0 H0 s' es w E' H L k r Q :=
 fun s2 f2 E2 hk hr he2 hE2=>K s2 f2 E2 hk hr (he.trans he2) (Env.le_trans hE hE2)
theorem zIx {a:List Nat} {x:Nat} (h:x ∈ a):memb a x=true:=by
 induction a with
 | nil=>cases h
 | cons y a ih =>
  rw [zDJ];rcases List.mem_cons.1 h with rfl | h
  all_goals simp_all
theorem zLz {ri:List Nat}:∀ {en:List EI},(∀ i ∈ zJi en,i ∈ ri)→keepE [] ri en=en
 | [],_=>rfl
 | .box b T cs :: r,h=>by
  have:=zLz (en:=r) (ri:=ri) h;simp only [keepE,memb,cond_false,this]
 | .row i T :: r,h=>by
  have h1:=zIx (h i lS);have:=zLz (en:=r) (ri:=ri) fun j hj=>h j (lN _ hj)
  simp only [keepE,h1,cond_true,this]
theorem zMY:∀ {en:List EI},lostD [] en=[]
 | []=>rfl
 | .box b T cs :: r=>by simp only [lostD,memb,cond_false]; exact zMY
 | .row i T :: r=>by simp only [lostD]; exact zMY
theorem zUe {dp:Nat} {x:Bool}:back s ds dp x={ s with fr:=(dp,.boo x) :: del ds s.fr }:=by
 have h1:keepE [] (zJi s.en) s.en=s.en:=zLz fun i h=>h
 show ({ s with fr:=(dp,.boo x) :: del ds s.fr,en:=keepE [] (zJi s.en) s.en,dt:=lostD [] s.en++s.dt }:VS U)=_
 rw [h1,zMY]; rfl
theorem RelE.backq (hr:RelE w0 H0 s f w E H L) (hr':RelE w0 H0 s' f' w E' H L) {dp:Nat} {x:Bool} (he:Extq s s' ds) (hE:E.le E') (hx:look s'.fr dp=some (.boo x)):RelE w0 H0 (back s ds dp x) f' w E H L:=by
 rw [zUe];refine ⟨hr.st,hr.gl,hr.sls,hr.pts,hr.nb,hr.ens,fun t c hc=>?_⟩;simp only [look] at hc;cases hb2:Nat.beq t dp with
 | true =>
  rw [hb2] at hc;simp only [cond_true,oI] at hc;subst hc;rw [nQ hb2];exact hr'.fr dp _ hx
 | false =>
  rw [hb2] at hc;obtain ⟨h1,h2⟩:=zI5 hc;have h3:=hr.fr t c h2;have h4:=hr'.fr t c (by rw [he.ext.fr t h1]; exact h2)
  grind [CV.val_mono]
theorem zUB {dp:Nat} {z:Bool} (h:gend s dp s'=some z):look s'.fr dp=some (.boo z):=by
 grind [gend,zT5]
def OdqOk (P:Program) (N:Frm) (od:OD U):Prop :=
 ∀ {Ω:Type} {s:VS U} {f:Fr} {w w0:World} {H0 H:Hp} {E:Env} {L:List Ent} {d:Option Nat} {op:Op} {k:VS U→Option Ω} {r:Ω},od d op s k=some r→RelE w0 H0 s f w E H L→∀ {ty:TypeId} {pos:String} {af:Array Edge} {ops:Array Oper} {rest:List Oper} {Q:Fr→Prop},
  Goesq w0 H0 s d.toList w E H L k r (WQ P N ops (Cl w0 H0 H L) rest Q)→WQ P N ops (Cl w0 H0 H L) (⟨d,op,ty,pos,af,none⟩ :: rest) Q f
theorem zTc (hG:GamOk P G):OdqOk (U:=U) P N (fun {R}=>opq (R:=R) P G N.n):=by
 intro Ω s f w w0 H0 H E L d op k r h hr ty pos af ops rest Q K;have pure:∀ {op:Op},opr P N.n op s (fun v=>k (setd s d v))=some r→WQ P N ops (Cl w0 H0 H L) (⟨d,op,ty,pos,af,none⟩ :: rest) Q f:=fun h=>by
  obtain ⟨c,v,hk,hc,hrun⟩:=zKc (d:=d) (ty:=ty) (pos:=pos) (af:=af) h hr;exact WQ.val (fun w' ⟨H',hle,S'⟩=>hrun w' H' hle S') (K _ _ _ hk (hr.set d hc) (zF4 d c) (Env.le_refl E))
 replace h:opq P G N.n d op s k=some r:=h;unfold opq at h;split at h
 ·rename_i c
  obtain ⟨cl,⟨args⟩,⟨tys⟩⟩:=c;simp only at h;split at h
  ·rename_i g
   split at h
   case h_2=>cases h
   rename_i S vs hg hvs;obtain ⟨c,v,hk,hc,hC⟩:=(hG g S hg).quiet h hr (zE0 hr hvs);exact WQ.call (xs:=args) rfl (fun w' H' hle S'=>hC w' H' hle S') (K _ _ _ hk (hr.set d hc) (zF4 d c) (Env.le_refl E))
  ·rename_i t
   split at h
   case h_2=>cases h
   rename_i g caps vs hx hvs;split at h
   case h_2=>cases h
   rename_i S hg;obtain ⟨cs,hcs,hv⟩:=zWs hr hx;obtain ⟨c,v,hk,hc,hC⟩:=(hG g S hg).quiet h hr (zGh (zE0 hr hvs) hcs);exact WQ.callv (xs:=args) hv rfl (fun w' H' hle S'=>hC w' H' hle S') (K _ _ _ hk (hr.set d hc) (zF4 d c) (Env.le_refl E))
  ·exact pure h
 ·rename_i T ps
  obtain ⟨ps⟩:=ps;obtain ⟨c,v,hk,hc,hrun⟩:=zMP (d:=d) (ty:=ty) (pos:=pos) (af:=af) h hr;exact WQ.val (fun w' ⟨H',hle,S'⟩=>hrun w' H' hle S') (K _ _ _ hk (hr.set d hc) (zF4 d c) (Env.le_refl E))
 ·rename_i T x y
  split at h
  ·rename_i j hx
   unfold opIdx at h;split at h
   case h_2 =>
    obtain ⟨c,v,hk,hc,hrun⟩:=zJl (ty:=ty) (pos:=pos) (af:=af) hx h hr;exact WQ.val (fun w' ⟨H',hle,S'⟩=>hrun w' H' hle S') (K _ _ _ hk (hr.set d hc) (zF4 d c) (Env.le_refl E))
   rename_i x' hj;split at h
   case h_2=>cases h
   rename_i i d hy;split at h
   case h_2=>cases h
   rename_i e he;obtain ⟨c,hc,h⟩:=bindE h;obtain ⟨v,hv,hs⟩:=hr.sls.gets hj;have hxv:=zAy hr hx;simp only [CV.val,hv,oI] at hxv;letI:=x'.t.enc U;refine WQ.idx hs hxv.symm (zBD hr hy) (zDf he) hc fun a cs hA hcs=>?_
   obtain ⟨E1,p1,hv1⟩:=zHY (s:=s) hr.sls hcs;have hne:cs≠[]:=by
    intro h0;have h1:=Enc.len hcs
    grind [Enc.pos]
   obtain ⟨E2,e2,hr2,hp⟩:=(hr.put p1).newPt hv1 hne hA;have hpt:(putCs s x'.t c).1.pt.length=s.pt.length:=by rw [p1.pt]
   rw [hpt] at hp;refine K _ _ _ h (hr2.set (some d) hp) ⟨Ext.andSet (Ext.trans (a:=[]) (p1.ext []) (zIb _ [])),?_⟩ (Env.le_trans p1.le e2);exact p1.en
  ·exact pure h
 ·split at h
  ·rename_i j hx
   obtain ⟨s',E',v,hk,hr',he,hen,hE,hrun⟩:=zKr (ty:=ty) (pos:=pos) (af:=af) hx h hr;exact WQ.val (fun w' ⟨H',hle,S'⟩=>hrun w' H' hle S') (K _ _ _ hk hr' ⟨he,hen⟩ hE)
  ·exact pure h
 ·obtain ⟨s',E',c,v,hk,hp,hc,hrun⟩:=zK1 (d:=d) (ty:=ty) (pos:=pos) (af:=af) h hr
  exact WQ.val (fun w' ⟨H',hle,S'⟩=>hrun w' H' hle S') (K _ _ _ hk ((hr.put hp).set d hc) ⟨Ext.andSet (hp.ext []),by rw [show (setd s' d c).en=s'.en by cases d <;> rfl]; exact hp.en⟩ hp.le)
 ·obtain ⟨s',E',v,hk,hr',he,hen,hE,hrun⟩:=zZL (ty:=ty) (pos:=pos) (af:=af) h hr
  exact WQ.val (fun w' ⟨H',hle,S'⟩=>hrun w' H' hle S') (K _ _ _ hk hr' ⟨he,hen⟩ hE)
 ·exact pure h
theorem zRt {od : OD U} (hO : OdqOk P N od) {o : Oper} {k : VS U → Option Ω} {r : Ω} (h : opg od N.n ops o s k = some r) (hr : RelE w0 H0 s f w E H L) {rest : List Oper}
    (K:Goesq w0 H0 s o.dst.toList w E H L k r (WQ P N ops (Cl w0 H0 H L) rest Q)):WQ P N ops (Cl w0 H0 H L) (o :: rest) Q f:=by
  unfold opg at h;obtain ⟨d,op,ty,pos,af,g⟩:=o;cases g with
  | none=>exact hO h hr K
  | some jb =>
    obtain ⟨j,b⟩:=jb;simp only at h;cases hj:(ops[j]?).bind (·.dst) with
    | none=>grind
    | some t =>
      rw [hj] at h;simp only at h;obtain ⟨hN,h⟩:=cT h;have hev:ev N f (.tmp t)=f t:=by grind [ev]
      split at h
      case h_2=>cases h
      rename_i g hl;obtain ⟨hgb,h⟩:=cT h;exact WQ.gyes hj (by rw [hev]; exact (oJ (hr.fr t _ hl)).symm) (eq_of_beq hgb) (hO h hr K)
theorem WQ.append {C:World→Prop} {l l':List Oper} (h:WQ P N ops C l (fun f=>WQ P N ops C l' Q f) f):WQ P N ops C (l++l') Q f:=by
 refine ⟨zJN l l' _ (zIn (fun a ⟨f',ha,hq⟩=>?_) l _ h.out)⟩;subst ha;exact hq.out
theorem zSX {od : OD U} {ld : Oper → Bool} (hO : OdqOk P N od) : ∀ {n : Nat} {l : List Oper} {Ω : Type} {s : VS U} {f : Fr} {E : Env} {k : VS U → Option Ω} {r : Ω}, opsd P od ld N.n ops n l s k = some r → RelE w0 H0 s f w E H L → ∀ {Q : Fr → Prop},
  Goesq w0 H0 s (dsts l) w E H L k r Q→WQ P N ops (Cl w0 H0 H L) l Q f:=by
 intro n
 induction n with
 | zero=>intro l Ω s f E k r h; cases h
 | succ n ih =>
  intro l Ω s f E k r h hr Q K;cases l with
  | nil=>exact WQ.nil (K s f E h hr (Extq.refl s _) (Env.le_refl E))
  | cons o l =>
   rw [zHH] at K;obtain ⟨d,op,ty,pos,af,g⟩:=o;simp only at K
   have go:od d op s (fun s=>opsd P od ld N.n ops n l s k)=some r→WQ P N ops (Cl w0 H0 H L) (⟨d,op,ty,pos,af,none⟩ :: l) Q f:=fun h =>
    hO h hr fun s' f' E' hk hr' he hE=>ih hk hr' (K.step he hE)
   unfold opsd at h;cases g with
   | none=>exact go h
   | some jb =>
    obtain ⟨j,b⟩:=jb;simp only at h;cases hj:(ops[j]?).bind (·.dst) with
    | none=>grind
    | some t =>
     rw [hj] at h;simp only at h;obtain ⟨hN,h⟩:=cT h;have hev:ev N f (.tmp t)=f t:=by grind [ev]
     have skip:opsd P od ld N.n ops n l (setd s d .und) k=some r→WQ P N ops (Cl w0 H0 H L) l Q (updo f d undef):=fun h =>
      ih h (hr.set d rfl) (K.step (zF4 d .und) (Env.le_refl E))
     split at h
     ·rename_i hl
      exact WQ.gund hj (by rw [hev]; exact (oJ (hr.fr t _ hl)).symm) (skip h)
     ·rename_i g hl
      have hv:ev N f (.tmp t)=boo g:=by rw [hev]; exact (oJ (hr.fr t _ hl)).symm
      split at h
      ·rename_i seg pk rest htp
       split at h
       ·cases h
       rename_i dp hdp;obtain ⟨x,hx,h⟩:=zQs h;have hl2:=zT1 htp;have hd:d.toList++dsts l=dsts (seg++[pk])++dsts rest:=by
        grind [dsts,zIy]
       have hpk:dsts [pk]=[dp]:=by rw [zHH,hdp]; rfl
       rw [hl2];refine WQ.append (ih hx (hr.know (hr.fr t _ hl)) fun s' f' E' hk hr' he hE=>?_);refine zRt hO hk hr' fun s2 f2 E2 hk2 hr2 he2 hE2=>?_
       have hx1:Extq s s2 (dsts (seg++[pk])):=by
        have h1:=he.trans he2;rw [zIy,show dsts [pk]=pk.dst.toList by grind];exact ⟨zUT hl h1.ext,h1.en⟩
       have hr3:=hr.backq hr2 hx1 (Env.le_trans hE hE2) (zUB hk2);refine ih h hr3 (Goesq.step (ds:=dsts (seg++[pk])) gR ⟨zQb (by rw [zIy,hpk]; exact zOq),?_⟩ (Env.le_refl E));rw [zUe]
      grind [WQ.gyes,WQ.gno]
     ·cases h
end
end Go.VI
namespace Go.Eng
open Go
variable {P:Program} {md:Region.Mode} {ops:Array Oper} {Q:Exit→Act→World→Prop} {C:World→Prop} {nb:Nat}
def wpAnyD (P:Program) (md:Region.Mode) (ops:Array Oper) (nb:Nat) (C:World→Prop) (Q:Exit→Act→World→Prop):Nat→Array Bool→Act→World→Prop
 | 0,listed,a,w=>(listed.getD nb false=false→C w)∧Region.ready md ops listed=[]∧Q .normal a w
 | n + 1, listed, a, w => (listed.getD nb false = false → C w) ∧ (Region.ready md ops listed = [] → Q .normal a w) ∧
   ∀ i ∈ Region.ready md ops listed,wpOp P ops Q i (wpAnyD P md ops nb C Q n (listed.setIfInBounds i true)) a w
theorem wpAnyD.cls:∀ {n:Nat} {listed:Array Bool} {a:Act} {w:World},wpAnyD P md ops nb C Q n listed a w→listed.getD nb false=false→C w
 | 0,_,_,_,h=>h.1
 | _+1,_,_,_,h=>h.1
theorem wpAnyD.any:∀ {n:Nat} {listed:Array Bool} {a:Act} {w:World},wpAnyD P md ops nb C Q n listed a w→wpAny P md ops Q n listed a w
 | 0,_,_,_,h=>h.2
 | _+1,_,_,_,h=>⟨h.2.1,fun i hi=>wpOp_mono (fun _ _ h=>wpAnyD.any h) (h.2.2 i hi)⟩
inductive RB (md:Region.Mode) (ops:Array Oper):Nat→Nat→Prop where
 | one {n:Nat} {o:Oper} {e:Edge} (h:ops[n]?=some o) (he:e ∈ o.after) (hb:Region.binds md e=true):RB md ops n e.on
 | more {n m:Nat} {o:Oper} {e:Edge} (hr:RB md ops n m) (h:ops[m]?=some o) (he:e ∈ o.after) (hb:Region.binds md e=true):RB md ops n e.on
def DC (md:Region.Mode) (ops:Array Oper) (listed:Array Bool):Prop:=∀ j o,ops[j]?=some o→listed.getD j false=true→∀ e ∈ o.after,Region.binds md e=true→listed.getD e.on false=true
theorem zWG {listed:Array Bool} (hd:DC md ops listed) {n i:Nat} (hn:n ∈ Region.ready md ops listed) (h:RB md ops n i):listed.getD i false=true:=by
 induction h with
 | one h he hb =>
  grind [mem_ready]
 | more hr h he hb ih=>exact hd _ _ h ih _ he hb
theorem DC.init {n:Nat}:DC md ops (Array.replicate n false):=fun j o _ h=>by
 simp [Array.getD_eq_getD_getElem?,Array.getElem?_replicate] at h
 grind
theorem zR9 {l:Array Bool} {i j:Nat} (h:l.getD j false=true):(l.setIfInBounds i true).getD j false=true:=by
 by_cases hij:i=j
 ·subst hij
  simp only [Array.getD_eq_getD_getElem?,Array.getElem?_setIfInBounds] at h ⊢
  grind
 simp_all
theorem DC.set {listed:Array Bool} (hd:DC md ops listed) {i:Nat} (hi:i ∈ Region.ready md ops listed):DC md ops (listed.setIfInBounds i true):=fun j o ho hl e he hb=>by
 refine zR9 ?_;by_cases hij:i=j
 ·grind [mem_ready]
 ·refine hd j o ho ?_ e he hb
  simp_all
theorem zOK {l:Array Bool} {i j:Nat} (b:Bool) (h:i≠j):(l.setIfInBounds i b).getD j false=l.getD j false:=by
 simp_all
theorem zIW {i : Nat} {oi : Oper} {v : Value} (hi : ops[i]? = some oi) (hsel : ∀ (j : Nat) (o : Oper) cs b, ops[j]? = some o → o.op ≠ .select cs b)
    (hQ:∀ c a w,Q (.panic c) (a.put oi.dst v) w→Q (.panic c) a w) (hin:i≠nb) (hwait:∀ on,ops[nb]?=some on→RB md ops nb i) :
    ∀ (fuel:Nat) (listed:Array Bool) (a:Act) (w:World),DC md ops listed→listed.getD nb false=false →
      (∀ j oj,ops[j]?=some oj→j≠i→listed.getD j true=false→(∀ e ∈ oj.after,Region.binds md e=true→e.on≠i)→oi.apart ops oj=true) →
      i ∈ Region.ready md ops listed→YieldsC P ops C oi v a →
      wpAnyD P md ops nb C Q fuel (listed.setIfInBounds i true) (a.put oi.dst v) w→wpAnyD P md ops nb C Q (fuel+1) listed a w:=by
  intro fuel
  induction fuel with
  | zero =>
    intro listed a w _ hb _ hr hy H;have hc:C w:=H.cls (by simp_all);refine ⟨fun _=>hc,fun h=>gR,fun j hj=>?_⟩;by_cases hji:j=i
    · subst hji; exact hy.wpOp hi hc H
    · have:=ready_mono hj hji
      rw [H.2.1] at this;cases this
  | succ fuel ih =>
    intro listed a w hdc hb hfree hr hy H;have hc:C w:=H.cls (by simp_all);refine ⟨fun _=>hc,fun h=>gR,fun j hj=>?_⟩;by_cases hji:j=i
    · subst hji; exact hy.wpOp hi hc H
    · have h1:=H.2.2 j (ready_mono hj hji)
      obtain ⟨hjun,oj,hoj,hall⟩:=mem_ready.1 hj;have hnot:∀ e ∈ oj.after,Region.binds md e=true→e.on≠i:=fun e he hb heq=>by
        grind [mem_ready]
      have hjn:j≠nb:=fun h=>by
        grind [zWG,mem_ready]
      have h2:=zOS hoj (hfree j oj hoj hji hjun hnot) (fun cs b=>hsel i oi cs b hi) (fun cs b=>hsel j oj cs b hoj) hQ hy h1
      have hfree' : ∀ k ok, ops[k]? = some ok → k ≠ i → (listed.setIfInBounds j true).getD k true = false →
          (∀ e ∈ ok.after,Region.binds md e=true→e.on≠i)→oi.apart ops ok=true:=fun k ok hk hki hun hno=>by
        refine hfree k ok hk hki ?_ hno;by_cases hjk:j=k
        all_goals simp_all
      refine wpOp_mono (fun a' w' h3=>ih (listed.setIfInBounds j true) a' w' (hdc.set hj) (by simp_all) hfree' (ready_mono hr (Ne.symm hji)) h3.1 ?_) h2
      grind [Array.setIfInBounds_comm]
structure WD (P:Program) (N:Frm) (ops:Array Oper) (nb:Nat) (C:World→Prop) (n:Nat) (listed:Array Bool) (Q:Fr→World→Prop) (f:Fr) (w:World):Prop where
 out:wpAnyD P .any ops nb C (fun e a w'=>∃ f',a=act N f'∧e=.normal∧Q f' w') n listed (act N f) w
section
variable {N:Frm} {f:Fr} {w w0:World} {H0 H:Hp} {L:List Ent} {Q:Fr→World→Prop} {n:Nat} {listed:Array Bool}
theorem WP.drawD {id:Nat} {Q:Exit→Fr→World→Prop} (C:World→Prop) (nb:Nat) (hm:P.follows .mixedOrders=true) (h:WD P N ops nb C ops.size (Array.replicate ops.size false) (Q .normal) f w.drew):WP P N (.region id ops true) Q f w:=by
 refine wp_region_any hm (zHw (fun e a w ⟨f',ha,he,hq⟩=>?_) _ _ _ _ h.out.any)
 grind
variable {af:Array Edge} {d:Option Nat}
theorem WD.take {i : Nat} {op : Op} {ty : TypeId} {pos : String} {v : Value} (hi : ops[i]? = some ⟨d, op, ty, pos, af, none⟩) (hs : Region.noSelect ops = true) (hf : Region.free .any ops listed i = true)
    (hr:i ∈ Region.ready .any ops listed) (hin:i≠nb) (hwait:∀ on,ops[nb]?=some on→RB .any ops nb i) (hdc:DC .any ops listed) (hb:listed.getD nb false=false)
    (hrun:∀ w,C w→(execOp (ev N f) ⟨d,op,ty,pos,af,none⟩).run P w=.ok (.value v) w)
    (h:WD P N ops nb C n (listed.setIfInBounds i true) Q (updo f d v) w):WD P N ops nb C (n+1) listed Q f w:=by
  refine ⟨zIW hi (Region.noSelect_spec hs) (fun c a w ⟨f',_,he,_⟩=>by cases he) hin hwait n listed _ w hdc hb (Region.free_spec hi hf) hr (v:=v) (.inl ⟨by simp [Region.wanted],fun w hw=>?_⟩) ?_⟩
  · rw [zCR]; exact hrun w hw
  · show wpAnyD P .any ops nb C _ n _ ((act N f).put d v) w
    rw [zCK]; exact h.out
theorem WD.takeG {i : Nat} {op : Op} {ty : TypeId} {pos : String} {g : Option (Nat × Bool)} {v : Value} (hi : ops[i]? = some ⟨d, op, ty, pos, af, g⟩) (hs : Region.noSelect ops = true) (hf : Region.free .any ops listed i = true)
    (hr:i ∈ Region.ready .any ops listed) (hin:i≠nb) (hwait:∀ on,ops[nb]?=some on→RB .any ops nb i) (hdc:DC .any ops listed) (hb:listed.getD nb false=false)
    (hw:Region.wanted ⟨d,op,ty,pos,af,g⟩ (yielded ops (act N f).tmps)=true)
    (hrun:∀ w,C w→(execOp (ev N f) ⟨d,op,ty,pos,af,none⟩).run P w=.ok (.value v) w)
    (h:WD P N ops nb C n (listed.setIfInBounds i true) Q (updo f d v) w):WD P N ops nb C (n+1) listed Q f w:=by
  refine ⟨zIW hi (Region.noSelect_spec hs) (fun c a w ⟨f',_,he,_⟩=>by cases he) hin hwait n listed _ w hdc hb (Region.free_spec hi hf) hr (v:=v) (.inl ⟨hw,fun w hw=>?_⟩) ?_⟩
  · rw [zCR]; exact hrun w hw
  · show wpAnyD P .any ops nb C _ n _ ((act N f).put d v) w
    rw [zCK]; exact h.out
theorem WD.skipG {i : Nat} {op : Op} {ty : TypeId} {pos : String} {g : Option (Nat × Bool)} (hi : ops[i]? = some ⟨d, op, ty, pos, af, g⟩) (hs : Region.noSelect ops = true) (hf : Region.free .any ops listed i = true)
    (hr:i ∈ Region.ready .any ops listed) (hin:i≠nb) (hwait:∀ on,ops[nb]?=some on→RB .any ops nb i) (hdc:DC .any ops listed) (hb:listed.getD nb false=false)
    (hw:Region.wanted ⟨d,op,ty,pos,af,g⟩ (yielded ops (act N f).tmps)=false)
    (h:WD P N ops nb C n (listed.setIfInBounds i true) Q (updo f d undef) w):WD P N ops nb C (n+1) listed Q f w:=by
  refine ⟨zIW hi (Region.noSelect_spec hs) (fun c a w ⟨f',_,he,_⟩=>by cases he) hin hwait n listed _ w hdc hb (Region.free_spec hi hf) hr (v:=undef) (.inr ⟨hw,rfl⟩) ?_⟩
  show wpAnyD P .any ops nb C _ n _ ((act N f).put d undef) w
  rw [zCK]; exact h.out
theorem zPi {f:Fr} {j t:Nat} (hj:(ops[j]?).bind (·.dst)=some t) (hv:ev N f (.tmp t)=undef):yielded ops (act N f).tmps j=none:=by
 grind [yielded,act,zHG,ev,zLt,undef]
def NxtD (P:Program) (N:Frm) (ops:Array Oper) (nb:Nat) (C:World→Prop) (n:Nat) (listed:Array Bool) (Q:Fr→World→Prop) (f:Fr) (w:World) (i:Nat):Prop :=
 ∃ o,ops[i]?=some o∧WL P N ops [o] (fun f' w'=>WD P N ops nb C n (listed.setIfInBounds i true) Q f' w') f w
theorem WD.next (hC:listed.getD nb false=false→C w) (hne:Region.ready .any ops listed≠[]) (h:∀ i ∈ Region.ready .any ops listed,NxtD P N ops nb C n listed Q f w i):WD P N ops nb C (n+1) listed Q f w:=by
 refine ⟨hC,fun h0=>absurd h0 hne,fun i hi=>?_⟩;obtain ⟨o,ho,hw⟩:=h i hi;refine wpOp_mono (fun a w' ⟨f',ha,hq⟩=>?_) (zM3 (Q:=Q) ho hw);subst ha; exact hq.out
theorem WD.done (hC:listed.getD nb false=false→C w) (hr:Region.ready .any ops listed=[]) (h:Q f w):WD P N ops nb C n listed Q f w:=by
 refine ⟨?_⟩;cases n with
 | zero=>exact ⟨hC,hr,f,rfl,rfl,h⟩
 | succ n=>exact ⟨hC,fun _=>⟨f,rfl,rfl,h⟩,by rw [hr]; simp⟩
end
theorem wpAnyD.mono {P:Program} {md:Region.Mode} {ops:Array Oper} {nb:Nat} {C C':World→Prop} {Q:Exit→Act→World→Prop} (hC:∀ w,C w→C' w):∀ {n:Nat} {listed:Array Bool} {a:Act} {w:World},wpAnyD P md ops nb C Q n listed a w→wpAnyD P md ops nb C' Q n listed a w
 | 0,_,_,_,h=>⟨fun hb=>hC _ (h.1 hb),h.2⟩
 | _+1,_,_,_,h=>⟨fun hb=>hC _ (h.1 hb),h.2.1,fun i hi=>wpOp_mono (fun _ _ h=>wpAnyD.mono hC h) (h.2.2 i hi)⟩
theorem WD.mono {P:Program} {N:Frm} {ops:Array Oper} {nb n:Nat} {C C':World→Prop} {listed:Array Bool} {Q:Fr→World→Prop} {f:Fr} {w:World} (hC:∀ w,C w→C' w) (h:WD P N ops nb C n listed Q f w):WD P N ops nb C' n listed Q f w:=⟨h.out.mono hC⟩
theorem WL.frame {P : Program} {N : Frm} {ops : Array Oper} {Q : Fr → World → Prop} {f : Fr} {w : World} {d : Option Nat} {op : Op} {ty : TypeId} {pos : String} {af : Array Edge} (h : WL P N ops [⟨d, op, ty, pos, af, none⟩] Q f w) :
  WL P N ops [⟨d,op,ty,pos,af,none⟩] (fun f' w'=>Q f' w'∧∀ t,t<N.n→d≠some t→f' t=f t) f w:=by
 have key : ∀ (a' : Act) (w' : World) (v : Value), a'.tmps = ((act N f).put d v).tmps → wpList P ops (fun e a w' => ∃ f', a = act N f' ∧ e = .normal ∧ Q f' w') [] a' w' →
   wpList P ops (fun e a w'=>∃ f',a=act N f'∧e=.normal∧(Q f' w'∧∀ t,t<N.n→d≠some t→f' t=f t)) [] a' w':=by
  intro a' w' v ha ⟨f',e1,e2,hq⟩;refine ⟨f',e1,e2,hq,fun t ht hd=>?_⟩;rw [e1,zCK] at ha;have h1:(tm N f')[t]?=(tm N (updo f d v))[t]?:=by
   have:tm N f'=tm N (updo f d v):=ha;rw [this]
  rw [zHG,zHG,if_pos ht,if_pos ht] at h1;rw [oJ h1];cases d with
  | none=>rfl
  | some x =>
   have:Nat.beq t x=false:=by
    grind [nQ]
   simp_all [updo,upd]
 have h:=h.out;refine ⟨?_⟩;unfold wpList at h ⊢;split
 ·rename_i hw
  rw [if_pos hw] at h;rcases h with h | ⟨_,a0,w0,f0,_,hc,_⟩
  case inr=>cases hc
  refine .inl ?_;unfold Oper.wp at h ⊢;generalize (execOp (act N f).eval _).run P w=r at h ⊢;cases r with
  | ok n w' =>
   cases n with
   | enter g args =>
    exact Calls.mono h (fun e w'' he=>by
     cases e with
     | returned v=>grind
     | panicked c=>grind
     | outgrown=>obtain ⟨a0,w0,f0,_,hc,_⟩:=he; cases hc)
   | row r args=>exact Rows.mono h (fun v w'' he=>key _ _ v rfl he)
   | value v=>exact key _ _ v rfl h
   | skip=>exact key _ _ undef rfl h
   | defer df=>exact key _ _ undef (by cases d <;> rfl) h
   | _=>exact h
  | halt x w' =>
   cases x with
   | panic v=>obtain ⟨f',_,hc,_⟩:=h; cases hc
   | _=>exact h
 grind
end Go.Eng
