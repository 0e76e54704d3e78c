/- A part. -/
import Derived.Test.YtffangblkofjdaaGreatDoorVr3
set_option linter.unusedVariables false
set_option linter.unusedSimpArgs false
namespace Go.VI
open Go Go.Eng
section
variable {U:UV} {P:Program} {G:Gam U} {N:Frm} {s s':VS U} {f:Fr} {w w' w0:World} {H0 H H':Hp} {E:Env} {L:List Ent} {Ω:Type} {X:Nat→Nat→Bool}
def VR (U:UV) (H:Hp):(t:PT)→Value→t.T U.S→Prop
  | .st T,v,x=>∃ cs,v=Eng.agg cs∧(U.enc T).cells H cs x
  | t,v,x=>CellR U.S U.enc H t v x
theorem zBT (hs:SlsOk H E.vs s.sl):∀ {t:PT} {c:CV} {x:t.T U.S},get1 s t c=some x→∃ v,c.val E=some v∧CellR U.S U.enc H t v x
  | .int,c,x,h=>by cases c <;> simp only [get1] at h <;> first | (cases h; exact ⟨_,rfl,rfl⟩) | cases h
  | .byt,c,x,h=>by cases c <;> simp only [get1] at h <;> first | (cases h; exact ⟨_,rfl,rfl⟩) | cases h
  | .boo,c,x,h=>by cases c <;> simp only [get1] at h <;> first | (cases h; exact ⟨_,rfl,rfl⟩) | cases h
  | .str,c,x,h=>by cases c <;> simp only [get1] at h <;> first | (cases h; exact ⟨_,rfl,rfl⟩) | cases h
  | .sl t,c,x,h=>by
    cases c <;> simp only [get1] at h <;> try (cases h; done)
    · rename_i v
      cases hn:zBR v with
      | false=>rw [hn] at h; cases h
      | true =>
        rw [hn] at h
        cases h
        exact ⟨v,rfl,by rw [zB4 hn]; exact @Sl.nil _ (t.encW U.S U.enc) H⟩
    · rename_i i
      split at h
      case h_2=>cases h
      rename_i t' xs hx
      split at h
      case isFalse=>cases h
      rename_i ht
      subst ht
      obtain ⟨v,hv,hx⟩:=hs.gets hx
      cases h
      exact ⟨v,hv,hx⟩
  | .mr t,c,x,h=>by
    cases c <;> simp only [get1] at h <;> try (cases h; done)
    · rename_i v
      cases hn:zBR v with
      | false=>rw [hn] at h; cases h
      | true =>
        rw [hn] at h
        cases h
        exact ⟨v,rfl,none,0,zB4 hn⟩
    · rename_i i
      split at h
      case h_2=>cases h
      rename_i t' xs hx
      split at h
      case isFalse=>cases h
      rename_i ht
      subst ht
      obtain ⟨a,c,hv⟩:=hs.getm hx
      cases h
      exact ⟨_,hv,a,c,rfl⟩
  | .mp t,c,x,h=>by
    cases c <;> simp only [get1] at h <;> try (cases h; done)
    rename_i i
    split at h
    case h_2=>cases h
    rename_i t' xs hx
    split at h
    case isFalse=>cases h
    rename_i ht
    subst ht
    unfold mpOf at hx
    split at hx
    case h_2=>cases hx
    rename_i t2 m hm
    cases hx
    obtain ⟨v,hv,hR⟩:=hs.get hm
    cases h
    exact ⟨v,hv,hR⟩
  | .st _,c,x,h=>by cases c <;> simp only [get1] at h <;> cases h
theorem zIs {t:PT} {i:Nat} {xs:List (t.T U.S)} (h:get1 s (.sl t) (.ref i)=some xs):s.sl[i]?=some ⟨.sl t,xs⟩:=by
  simp only [get1] at h
  split at h
  case h_2=>cases h
  rename_i t' ys hx
  split at h
  case isFalse=>cases h
  rename_i ht
  subst ht
  cases h
  unfold slOf at hx
  split at hx
  case h_2=>cases hx
  rename_i t2 zs hz
  cases hx
  exact hz
theorem zJK {t:PT} {i:Nat} {xs:List (t.T U.S)} (h:get1 s (.mr t) (.ref i)=some xs):s.sl[i]?=some ⟨.mr t,xs⟩:=by
  simp only [get1] at h
  split at h
  case h_2=>cases h
  rename_i t' ys hx
  split at h
  case isFalse=>cases h
  rename_i ht
  subst ht
  cases h
  unfold mrOf at hx
  split at hx
  case h_2=>cases hx
  rename_i t2 zs hz
  cases hx
  exact hz
theorem zJC (hs:SlsOk H E.vs s.sl):∀ {ts:List PT} {l:List CV} {x:HL U.S ts},getHL s ts l=some x→∃ vs,CV.vals E l=some vs∧zHI U.S U.enc H ts vs x
  | [],[],x,h=>⟨[],rfl,rfl⟩
  | t :: ts,c :: cs,x,h=>by
    simp only [getHL] at h
    split at h
    case h_2=>cases h
    rename_i y hy
    split at h
    case h_2=>cases h
    rename_i z hz
    cases h
    obtain ⟨v,hv,h1⟩:=zBT hs hy
    obtain ⟨vs,hvs,h2⟩:=zJC hs hz
    exact ⟨v :: vs,by simp only [CV.vals,hv,hvs],v,vs,rfl,h1,h2⟩
  | [],_ :: _,x,h=>by simp only [getHL] at h; cases h
  | _ :: _,[],x,h=>by simp only [getHL] at h; cases h
theorem zEF (hs:SlsOk H E.vs s.sl):∀ {t:PT} {c:CV} {x:t.T U.S},getT s t c=some x→∃ v,c.val E=some v∧VR U H t v x
  | .int,c,x,h=>zBT hs h
  | .byt,c,x,h=>zBT hs h
  | .boo,c,x,h=>zBT hs h
  | .str,c,x,h=>zBT hs h
  | .sl t,c,x,h=>zBT hs h
  | .mr t,c,x,h=>zBT hs h
  | .mp t,c,x,h=>zBT hs h
  | .st T,c,x,h=>by
    cases c <;> simp only [getT] at h <;> try (simp only [get1] at h; cases h; done)
    rename_i l
    cases hg:getHL s (U.fs T) l with
    | none=>rw [hg] at h; cases h
    | some y =>
      rw [hg] at h
      cases h
      obtain ⟨vs,hv,hR⟩:=zJC hs hg
      exact ⟨_,by simp only [CV.val,hv]; rfl,vs,rfl,U.cells_mk hR⟩
structure PutOk (s s':VS U) (E E':Env) (H:Hp):Prop where
  fr:s'.fr=s.fr
  pt:s'.pt=s.pt
  nb:s'.nb=s.nb
  en:s'.en=s.en
  dt:s'.dt=s.dt
  sl:∃ l,s'.sl=s.sl++l
  vs:∃ l,E'.vs=E.vs++l
  bs:E'.bs=E.bs
  ps:E'.ps=E.ps
  ok:SlsOk H E'.vs s'.sl
  hs:E'.hs=E.hs
theorem PutOk.refl (h:SlsOk H E.vs s.sl):PutOk s s E E H:=⟨rfl,rfl,rfl,rfl,rfl,zAL _,zAL _,rfl,rfl,h,rfl⟩
theorem PutOk.trans {s2:VS U} {E' E2:Env} (h:PutOk s s' E E' H) (k:PutOk s' s2 E' E2 H):PutOk s s2 E E2 H :=
  ⟨k.fr.trans h.fr,k.pt.trans h.pt,k.nb.trans h.nb,k.en.trans h.en,k.dt.trans h.dt,zBW h.sl k.sl,zBW h.vs k.vs,k.bs.trans h.bs,k.ps.trans h.ps,k.ok,k.hs.trans h.hs⟩
theorem zM1 {α:Type} {a b:List α} (h:b=a):∃ l,b=a++l:=by subst h; exact zAL _
theorem PutOk.le {E':Env} (h:PutOk s s' E E' H):E.le E':=⟨h.vs,zM1 h.bs,zM1 h.ps,h.hs⟩
theorem PutOk.ext {E':Env} (h:PutOk s s' E E' H) (ds:List Nat):Ext s s' ds :=
  ⟨h.sl,zM1 h.pt,Nat.le_of_eq h.nb.symm,fun u _=>by rw [h.fr],[],by rw [h.dt]; rfl,fun b _ o _=>by rw [h.en]⟩
theorem RelX.put {E':Env} (hr:RelX X w0 H0 s f w E H L) (h:PutOk s s' E E' H):RelX X w0 H0 s' f w E' H L :=
  ⟨hr.st,hr.gl,h.ok,by rw [h.ps,h.pt]; exact hr.pts.mono h.le (Hp.le.refl H),by rw [h.bs,h.nb]; exact hr.nb,by rw [h.en]; exact hr.ens.mono h.le (Hp.le.refl H) h.sl,fun t c hc=>CV.val_mono h.le (hr.fr t c (by rw [← h.fr]; exact hc))⟩
theorem zAh (hs:SlsOk H E.vs s.sl):∀ {t:PT} {v:Value} {x:t.T U.S},CellR U.S U.enc H t v x→∃ E',PutOk s (put1 s t x).1 E E' H∧(put1 s t x).2.val E'=some v
  | .int,v,x,h=>⟨E,PutOk.refl hs,by rw [show v=Eng.int x from h]; rfl⟩
  | .byt,v,x,h=>⟨E,PutOk.refl hs,by rw [show v=Eng.byt x from h]; rfl⟩
  | .boo,v,x,h=>⟨E,PutOk.refl hs,by rw [show v=Eng.boo x from h]; rfl⟩
  | .str,v,x,h=>⟨E,PutOk.refl hs,by rw [show v=Eng.str x from h]; rfl⟩
  | .sl t,v,x,h=>⟨{ E with vs:=E.vs++[v] },⟨rfl,rfl,rfl,rfl,rfl,⟨[⟨.sl t,x⟩],rfl⟩,⟨[v],rfl⟩,rfl,rfl,hs.snoc (x:=⟨.sl t,x⟩) h,rfl⟩,zBf hs.len⟩
  | .mr t,v,x,h=>⟨{ E with vs:=E.vs++[v] },⟨rfl,rfl,rfl,rfl,rfl,⟨[⟨.mr t,x⟩],rfl⟩,⟨[v],rfl⟩,rfl,rfl,hs.snoc (x:=⟨.mr t,x⟩) h,rfl⟩,zBf hs.len⟩
  | .mp t,v,x,h=>⟨{ E with vs:=E.vs++[v] },⟨rfl,rfl,rfl,rfl,rfl,⟨[⟨.mp t,x⟩],rfl⟩,⟨[v],rfl⟩,rfl,rfl,hs.snoc (x:=⟨.mp t,x⟩) h,rfl⟩,zBf hs.len⟩
  | .st _,v,x,h=>h.elim
  | .hid,v,x,h=>⟨E,PutOk.refl hs,by rw [show v=Eng.int 0 from h]; rfl⟩
theorem zHB:∀ {ts:List PT} {s:VS U} {E:Env} {vs:List Value} {x:HL U.S ts},SlsOk H E.vs s.sl→zHI U.S U.enc H ts vs x→∃ E',PutOk s (putHL s ts x).1 E E' H∧CV.vals E' (putHL s ts x).2=some vs
  | [],s,E,vs,x,hs,h=>⟨E,PutOk.refl hs,by rw [show vs=[] from h]; rfl⟩
  | t :: ts,s,E,vs,x,hs,⟨v,r,e,h1,h2⟩=>by
    subst e
    obtain ⟨E1,p1,v1⟩:=zAh hs h1
    obtain ⟨E2,p2,v2⟩:=zHB p1.ok h2
    exact ⟨E2,p1.trans p2,by simp only [putHL,CV.vals,CV.val_mono p2.le v1,v2]⟩
theorem zGP (hs:SlsOk H E.vs s.sl):∀ {t:PT} {v:Value} {x:t.T U.S},VR U H t v x→∃ E',PutOk s (putV s t x).1 E E' H∧(putV s t x).2.val E'=some v
  | .int,v,x,h=>zAh hs h
  | .byt,v,x,h=>zAh hs h
  | .boo,v,x,h=>zAh hs h
  | .str,v,x,h=>zAh hs h
  | .sl t,v,x,h=>zAh hs h
  | .mr t,v,x,h=>zAh hs h
  | .mp t,v,x,h=>zAh hs h
  | .hid,v,x,h=>zAh hs h
  | .st T,v,x,⟨cs,e,h⟩=>by
    subst e
    obtain ⟨E',p,hv⟩:=zHB hs (U.cells_get h)
    exact ⟨E',p,by simp only [putV,CV.val,hv]; rfl⟩
theorem zG1 (hs:SlsOk H E.vs s.sl):∀ {t:PT} {cs:List Value} {x:t.T U.S},(t.enc U).cells H cs x→∃ E',PutOk s (putCs s t x).1 E E' H∧CV.vals E' (putCs s t x).2=some cs
  | .int,cs,x,h=>⟨E,PutOk.refl hs,by rw [show cs=[Eng.int x] from h]; rfl⟩
  | .byt,cs,x,h=>⟨E,PutOk.refl hs,by rw [show cs=[Eng.byt x] from h]; rfl⟩
  | .boo,cs,x,h=>⟨E,PutOk.refl hs,by rw [show cs=[Eng.boo x] from h]; rfl⟩
  | .str,cs,x,h=>⟨E,PutOk.refl hs,by rw [show cs=[Eng.str x] from h]; rfl⟩
  | .sl t,cs,x,⟨v,e,h⟩=>by
    subst e
    obtain ⟨E',p,hv⟩:=zAh (t:=.sl t) hs h
    exact ⟨E',p,by simp only [putCs,CV.vals,hv]⟩
  | .st T,cs,x,h=>zHB hs (U.cells_get h)
  | .mr t,cs,x,h=>h.elim
  | .mp t,cs,x,h=>h.elim
theorem zNH:∀ {t:PT} {v:Value} {x:t.T U.S},cellT t=true→VR U H t v x→v.cells.size=@Enc.sz _ (t.enc U)∧(t.enc U).cells H v.cells.toList x
  | .int,v,x,_,h=>by rw [show v=Eng.int x from h]; exact ⟨rfl,rfl⟩
  | .byt,v,x,_,h=>by rw [show v=Eng.byt x from h]; exact ⟨rfl,rfl⟩
  | .boo,v,x,_,h=>by rw [show v=Eng.boo x from h]; exact ⟨rfl,rfl⟩
  | .str,v,x,_,h=>by rw [show v=Eng.str x from h]; exact ⟨rfl,rfl⟩
  | .sl t,v,x,_,h=>by
    obtain ⟨a,c,e,h'⟩:=id h
    subst e
    exact ⟨rfl,_,rfl,h⟩
  | .mr _,v,x,h,_=>by cases h
  | .mp _,v,x,h,_=>by cases h
  | .st T,v,x,_,⟨cs,e,h⟩=>by
    subst e
    exact ⟨(U.enc T).len h,h⟩
theorem RelX.step (hr:RelX X w0 H0 s f w E H L) (S:St w0 H0 w' H' L) (hl:H.le H'):RelX X w0 H0 s f w' E H' L :=
  ⟨S,hr.gl.mono hl,hr.sls.mono hl,hr.pts.mono (Env.le_refl E) hl,hr.nb,hr.ens.mono (Env.le_refl E) hl (zAL _),hr.fr⟩
theorem RelX.step' (hr:RelX X w0 H0 s f w E H L) {L':List Ent} {is:List EI} {d2:List (Nat×Nat)} (S:St w0 H0 w' H' L') (hl:H.le H') (he:EnsOk X E H' s.sl is L'):RelX X w0 H0 { s with en:=is,dt:=d2 } f w' E H' L' :=
  ⟨S,hr.gl.mono hl,hr.sls.mono hl,hr.pts.mono (Env.le_refl E) hl,hr.nb,he,hr.fr⟩
theorem RelX.set (hr:RelX X w0 H0 s f w E H L) (d:Option Nat) {c:CV} {v:Value} (hc:c.val E=some v):RelX X w0 H0 (setd s d c) (updo f d v) w E H L:=by
  cases d with
  | none=>exact hr
  | some d =>
    refine ⟨hr.st,hr.gl,hr.sls,hr.pts,hr.nb,hr.ens,fun t x hx=>?_⟩
    simp only [setd,look] at hx
    simp only [updo,upd]
    cases hb:Nat.beq t d with
    | true=>rw [hb] at hx; simp only [cond_true,Option.some.injEq] at hx; rw [← hx]; exact hc
    | false=>rw [hb] at hx; exact hr.fr t x hx
theorem zID (d:Option Nat) (c:CV):Ext s (setd s d c) d.toList:=by
  cases d with
  | none=>exact Ext.refl s _
  | some d =>
    refine ⟨zAL _,zAL _,Nat.le_refl _,fun u hu=>?_,[],rfl,fun _ _ _ _=>rfl⟩
    have:Nat.beq u d=false:=by
      rw [show (some d).toList=[d] from rfl,zB2,Bool.or_eq_false_iff] at hu
      exact hu.1
    simp only [setd,look,this,cond_false]
theorem Ext.andSet {d:Option Nat} {c:CV} (h:Ext s s' []):Ext s (setd s' d c) d.toList:=Ext.trans (a:=[]) h (zID d c)
theorem RelX.newPt (hr : RelX X w0 H0 s f w E H L) {a : Addr} {cs : List CV} {vs : List Value} (hv : CV.vals E cs = some vs) (hn : vs ≠ []) (hA : At H a vs) :
    ∃ E',E.le E'∧RelX X w0 H0 (newPt s cs) f w E' H L∧(CV.pa s.pt.length 0).val E'=some (.pointer (some a)):=by
  have hE:E.le { E with ps:=E.ps++[a] }:=⟨zAL _,zAL _,⟨[a],rfl⟩,rfl⟩
  refine ⟨_,hE,⟨hr.st,hr.gl,hr.sls,?_,hr.nb,hr.ens.mono hE (Hp.le.refl H) (zAL _),fun t c hc=>CV.val_mono hE (hr.fr t c hc)⟩,?_⟩
  · exact (hr.pts.mono hE (Hp.le.refl H)).snoc ⟨vs,CV.vals_mono hE hv,hn,hA⟩
  · simp only [CV.val,zBf hr.pts.len,Option.map_some]; rfl
theorem zJX (cs:List CV) (ds:List Nat):Ext s (newPt s cs) ds:=⟨zAL _,⟨[cs],rfl⟩,Nat.le_refl _,fun _ _=>rfl,[],rfl,fun _ _ _ _=>rfl⟩
theorem RelX.newSl (hr : RelX X w0 H0 s f w E H L) {t : PT} {xs : List (t.T U.S)} {v : Value} (h : @Sl (t.T U.S) (t.enc U) H v xs) :
    ∃ E',E.le E'∧RelX X w0 H0 (newSl s t xs) f w E' H L∧(CV.ref s.sl.length).val E'=some v:=by
  obtain ⟨E',p,hv⟩:=zAh (s:=s) (t:=.sl t) hr.sls h
  exact ⟨E',p.le,hr.put p,hv⟩
theorem zFO (t:PT) (xs:List (t.T U.S)) (ds:List Nat):Ext s (newSl s t xs) ds:=⟨⟨[⟨.sl t,xs⟩],rfl⟩,zAL _,Nat.le_refl _,fun _ _=>rfl,[],rfl,fun _ _ _ _=>rfl⟩
theorem RelX.newBox (hr : RelX X w0 H0 s f w E H L) {k : Nat} {T : TypeId} {cs : List CV} {vs : List Value} (hv : CV.vals E cs = some vs) (S : St w0 H0 w' H (.box k T vs :: L)) :
    ∃ E',E.le E'∧RelX X w0 H0 (newBox s T cs) f w' E' H (.box k T vs :: L)∧(CV.ptr s.nb 0).val E'=some (Eng.ptr k 0):=by
  have hE:E.le { E with bs:=E.bs++[k] }:=⟨zAL _,⟨[k],rfl⟩,zAL _,rfl⟩
  refine ⟨_,hE,⟨S,hr.gl,hr.sls,hr.pts.mono hE (Hp.le.refl H),?_,⟨⟨vs,k,zBf hr.nb,CsOk.of_vals (CV.vals_mono hE hv),rfl⟩,hr.ens.mono hE (Hp.le.refl H) (zAL _)⟩,fun t c hc=>CV.val_mono hE (hr.fr t c hc)⟩,?_⟩
  · show (E.bs++[k]).length=s.nb+1
    rw [List.length_append,hr.nb]; rfl
  · simp only [CV.val,zBf hr.nb,Option.map_some]
theorem zH4 (T:TypeId) (cs:List CV) (ds:List Nat):Ext s (newBox s T cs) ds:=by
  refine ⟨zAL _,zAL _,Nat.le_succ _,fun _ _=>rfl,[],rfl,fun b hb o _=>?_⟩
  have:Nat.beq s.nb b=false:=by
    cases h:Nat.beq s.nb b with
    | false=>rfl
    | true=>rw [Nat.eq_of_beq_eq_true h] at hb; exact absurd hb (Nat.lt_irrefl _)
  simp only [newBox,zAy,boxAt,this,cond_false]
theorem zEI (i:Nat) (T:TypeId) (ds:List Nat):Ext s (newRow s i T) ds:=⟨zAL _,zAL _,Nat.le_refl _,fun _ _=>rfl,[],rfl,fun _ _ _ _=>rfl⟩
theorem zHy:∀ {en:List EI} {b:Nat} {cs cs':List CV},bxAt en b=some cs→∃ (i T:Nat),en[i]?=some (EI.box b (T+1) cs)∧zBY en b cs'=en.set i (.box b (T+1) cs')∧(∀ j,j<i→∀ T cs,en[j]?≠some (EI.box b T cs))
  | [],_,_,_,h=>by cases h
  | .box b' T cs0 :: en,b,cs,cs',h=>by
    simp only [bxAt] at h
    cases hb:Nat.beq b' b with
    | true =>
      rw [hb,cond_true] at h
      have:=Nat.eq_of_beq_eq_true hb
      subst this
      cases T with
      | zero=>cases h
      | succ T =>
      cases h
      exact ⟨0,T,rfl,by simp [zBY,hb],fun j hj=>absurd hj (Nat.not_lt_zero _)⟩
    | false =>
      rw [hb] at h
      obtain ⟨i,T',h1,h2,h3⟩:=zHy (cs':=cs') h
      refine ⟨i+1,T',by simpa using h1,by simp [zBY,hb,h2],fun j hj T2 c2 hc=>?_⟩
      cases j with
      | zero =>
        simp only [List.getElem?_cons_zero,Option.some.injEq,EI.box.injEq] at hc
        rw [hc.1] at hb
        simp at hb
      | succ j=>exact h3 j (by omega) T2 c2 (by simpa using hc)
  | .row i0 T0 :: en,b,cs,cs',h=>by
    simp only [bxAt] at h
    obtain ⟨i,T',h1,h2,h3⟩:=zHy (cs':=cs') h
    refine ⟨i+1,T',by simpa using h1,by simp [zBY,h2],fun j hj T2 c2 hc=>?_⟩
    cases j with
    | zero=>simp at hc
    | succ j=>exact h3 j (by omega) T2 c2 (by simpa using hc)
theorem zBq:∀ {en:List EI} {b b':Nat} {cs':List CV},b≠b'→boxAt (zBY en b cs') b'=boxAt en b'
  | [],_,_,_,_=>rfl
  | .box b0 T cs0 :: en,b,b',cs',h=>by
    simp only [zBY]
    cases hb:Nat.beq b0 b with
    | true =>
      have:=Nat.eq_of_beq_eq_true hb
      subst this
      have hne:Nat.beq b0 b'=false:=by
        cases h2:Nat.beq b0 b' with
        | false=>rfl
        | true=>exact absurd (Nat.eq_of_beq_eq_true h2) h
      simp only [cond_true,boxAt,hne,cond_false]
    | false=>simp only [cond_false,boxAt,zBq h]
  | .row i T :: en,b,b',cs',h=>by simp only [zBY,boxAt,zBq h]
theorem zCy:∀ {en:List EI} {b:Nat} {cs cs':List CV},boxAt en b=some cs→boxAt (zBY en b cs') b=some cs'
  | [],_,_,_,h=>by cases h
  | .box b0 T cs0 :: en,b,cs,cs',h=>by
    simp only [boxAt] at h
    simp only [zBY]
    cases hb:Nat.beq b0 b with
    | true=>simp only [cond_true,boxAt,hb]
    | false=>rw [hb] at h; simp only [cond_false,boxAt,hb,zCy h]
  | .row i T :: en,b,cs,cs',h=>by
    simp only [boxAt] at h
    simp only [zBY,boxAt,zCy h]
theorem zCt:∀ {en:List EI} {i j b:Nat},boxAt (setRow en i j) b=boxAt en b
  | [],_,_,_=>rfl
  | .box b0 T cs0 :: en,i,j,b=>by simp only [setRow,boxAt,zCt]
  | .row k T :: en,i,j,b=>by
    simp only [setRow]
    cases Nat.beq k i with
    | true=>rfl
    | false=>simp only [cond_false,boxAt,zCt]
theorem zEH:∀ {en:List EI} {i j:Nat} {T:TypeId},rowAt en i=some T→∃ p:Nat,en[p]?=some (EI.row i T)∧setRow en i j=en.set p (.row j T)
  | [],_,_,_,h=>by cases h
  | .box b0 T cs0 :: en,i,j,T',h=>by
    obtain ⟨p,h1,h2⟩:=zEH (j:=j) (show rowAt en i=some T' from h)
    exact ⟨p+1,by simpa using h1,by simp [setRow,h2]⟩
  | .row k T :: en,i,j,T',h=>by
    simp only [rowAt] at h
    cases hb:Nat.beq k i with
    | true =>
      rw [hb] at h
      cases h
      have:=Nat.eq_of_beq_eq_true hb
      subst this
      exact ⟨0,rfl,by simp [setRow,hb]⟩
    | false =>
      rw [hb] at h
      obtain ⟨p,h1,h2⟩:=zEH (j:=j) h
      exact ⟨p+1,by simpa using h1,by simp [setRow,hb,h2]⟩
theorem zGV:∀ {n b o o':Nat},memX (spots b o n) b o'=false→¬ (o≤o'∧o'<o+n)
  | 0,_,_,_,_=>by omega
  | n+1,b,o,o',h=>by
    simp only [spots,memX,Bool.or_eq_false_iff,Bool.and_eq_false_iff] at h
    have h1:=zGV h.2
    have h2:o≠o':=by
      rintro rfl
      rcases h.1 with h | h <;> simp at h
    omega
theorem zMP {cs l:List CV} {o o':Nat} (h:o+l.length≤cs.length) (ho:¬ (o≤o'∧o'<o+l.length)):(zDy cs o l)[o']?=cs[o']?:=by
  unfold zDy
  by_cases h1:o'<o
  · rw [List.append_assoc,List.getElem?_append_left (by rw [List.length_take]; omega),List.getElem?_take_of_lt h1]
  · rw [List.getElem?_append_right (by simp; omega),List.getElem?_drop]
    congr 1
    simp; omega
theorem zN3 (hs:SlsOk H E.vs s.sl) {c:CV} {v:Value} (hv:c.val E=some v) (h:oneB c=true):v.oneCell'=true:=by
  cases c <;> simp only [oneB] at h <;> try (cases h; done)
  case ref i =>
    simp only [CV.val] at hv
    have hi:i<s.sl.length:=by rw [← hs.len]; exact (List.getElem?_eq_some_iff.1 hv).1
    obtain ⟨u,hu,hS⟩:=hs.get (List.getElem?_eq_getElem hi)
    rw [hv] at hu
    cases hu
    exact (zPz hS).1
  case ptr i o =>
    simp only [CV.val] at hv
    cases hb:E.bs[i]? with
    | none=>rw [hb] at hv; cases hv
    | some b=>rw [hb] at hv; cases hv; rfl
  case pa i o =>
    simp only [CV.val] at hv
    cases hb:E.ps[i]? with
    | none=>rw [hb] at hv; cases hv
    | some b=>rw [hb] at hv; cases hv; rfl
  case ifc T c =>
    simp only [CV.val] at hv
    cases hb:c.val E with
    | none=>rw [hb] at hv; cases hv
    | some b=>rw [hb] at hv; cases hv; rfl
  case bm k l =>
    simp only [CV.val] at hv
    cases hb:CV.vals E l with
    | none=>rw [hb] at hv; cases hv
    | some b=>rw [hb] at hv; cases hv; rfl
  case fn k l =>
    simp only [CV.val] at hv
    cases hb:CV.vals E l with
    | none=>rw [hb] at hv; cases hv
    | some b=>rw [hb] at hv; cases hv; rfl
  case mp i =>
    simp only [CV.val] at hv
    cases hb:E.bs[i]? with
    | none=>rw [hb] at hv; cases hv
    | some b=>rw [hb] at hv; cases hv; rfl
  case raw u=>cases hv; exact h
  all_goals (cases hv; rfl)
theorem zJY (hs:SlsOk H E.vs s.sl):∀ {l:List CV} {vs:List Value},CV.vals E l=some vs→l.all oneB=true→vs.all Value.oneCell'=true
  | [],vs,h,_=>by cases h; rfl
  | c :: l,vs,h,ho=>by
    simp only [CV.vals] at h
    rw [List.all_cons,Bool.and_eq_true] at ho
    cases hc:c.val E with
    | none=>rw [hc] at h; cases h
    | some v =>
      cases hv:CV.vals E l with
      | none=>rw [hc,hv] at h; cases h
      | some us =>
        rw [hc,hv] at h
        cases h
        rw [List.all_cons,Bool.and_eq_true]
        exact ⟨zN3 hs hc ho.1,zJY hs hv ho.2⟩
theorem zMe {cs l:List CV} {vs us:List Value} {o:Nat} (h:CV.vals E cs=some vs) (k:CV.vals E l=some us):CV.vals E (zDy cs o l)=some (zC9 vs o us):=by
  unfold zDy zC9
  rw [← zBv k]
  exact zEr (zEr (zFH h) k) (zE9 h)
theorem zKX {d : Option Nat} {T : TypeId} {a x : Operand} {k : VS U → Option Ω} {r : Ω} (h : zMn P N.n d T a x s k = some r) (hr : RelE w0 H0 s f w E H L) {ty : TypeId} {pos : String} {af : Array Edge} {ops : Array Oper} {rest : List Oper} {Q : Fr → World → Prop}
    (K:Goes w0 H0 s d.toList E H k r (WL P N ops rest Q)):WL P N ops (⟨d,.store T a x,ty,pos,af,none⟩ :: rest) Q f w:=by
  unfold zMn at h
  split at h
  case h_2=>cases h
  rename_i b o c bb n ha hx hl
  split at h
  case h_2=>cases h
  rename_i l cs hcl hcs
  cases hc:Nat.beq l.length n&&Nat.ble (o+n) cs.length&&l.all oneB with
  | false=>rw [hc] at h; cases h
  | true =>
    rw [hc,cond_true] at h
    simp only [Bool.and_eq_true] at hc
    obtain ⟨⟨c1,c2⟩,c3⟩:=hc
    have c1:=Nat.eq_of_beq_eq_true c1
    have c2:=Nat.le_of_ble_eq_true c2
    obtain ⟨kb,hb,hv⟩:=zC4 hr ha
    have hxv:=zAw hr hx
    obtain ⟨us,hus,hcells⟩:=zEg hr.sls hxv hcl
    obtain ⟨i,T',g1,g2,g3⟩:=zHy (cs':=zDy cs o l) hcs
    obtain ⟨e,e1,vals,k2,e2,e3,e4⟩:=hr.ens.get g1
    rw [hb] at e2
    cases e2
    have e4:e=.box kb T' vals:=e4
    subst e4
    have hvals:=e3.vals
    have hlen:=zBv hvals
    have hul:=zBv hus
    refine W.store (zC9 vals o us) hr.st hv rfl e1 hl (by rw [hcells]; simpa [hul] using c1) (by rw [hcells]; exact zJY hr.sls hus c3) (by omega) (by rw [hcells]) fun w2 S2=>?_
    have hr2:RelE w0 H0 { s with en:=zBY s.en b (zDy cs o l),dt:=spots b o n++s.dt } f w2 E H (L.set i (.box kb T' (zC9 vals o us))) :=
      ⟨S2,hr.gl,hr.sls,hr.pts,hr.nb,by rw [g2]; exact hr.ens.set ⟨_,kb,hb,CsOk.of_vals (zMe hvals hus),rfl⟩,hr.fr⟩
    refine K _ _ _ _ _ _ h (hr2.set d rfl) (Ext.andSet ⟨zAL _,zAL _,Nat.le_refl _,fun _ _=>rfl,spots b o n,rfl,fun b' _ o' hm=>?_⟩) (Env.le_refl E) (Hp.le.refl H)
    by_cases hbb:b=b'
    · subst hbb
      show zAy (zBY s.en b (zDy cs o l)) b o'=_
      unfold zAy
      rw [zCy (zKP hcs),zKP hcs]
      exact zMP (by omega) (by rw [c1]; exact zGV hm)
    · show zAy (zBY s.en b (zDy cs o l)) b' o'=_
      unfold zAy
      rw [zBq hbb]
theorem zDU {T:TypeId} {t:PT} {e:TypeId} (h:elOk (U:=U) P T t=some e):Elem P T e (@Enc.sz _ (t.enc U)):=by
  unfold elOk at h
  split at h
  case h_2=>cases h
  rename_i e' he
  cases hb:elemB P T e' (@Enc.sz _ (t.enc U)) with
  | false=>rw [hb] at h; cases h
  | true=>rw [hb] at h; cases h; exact zEu hb
theorem zMW {d : Option Nat} {T : TypeId} {j : Nat} {x y : Operand} {k : VS U → Option Ω} {r : Ω} (hx : opn N.n s x = some (.ref j)) (h : opIdx P N.n d T j y s k = some r) (hr : RelE w0 H0 s f w E H L) {ty : TypeId} {pos : String} {af : Array Edge} {ops : Array Oper} {rest : List Oper} {Q : Fr → World → Prop}
    (K:Goes w0 H0 s d.toList E H k r (WL P N ops rest Q)):WL P N ops (⟨d,.indexAddr T x y,ty,pos,af,none⟩ :: rest) Q f w:=by
  unfold opIdx at h
  split at h
  case h_2=>cases h
  rename_i x' i d hj hy
  split at h
  case h_2=>cases h
  rename_i e he
  obtain ⟨c,hc,h⟩:=bindE h
  obtain ⟨v,hv,hs⟩:=hr.sls.gets hj
  have hxv:=zAw hr hx
  simp only [CV.val,hv,Option.some.injEq] at hxv
  letI:=x'.t.enc U
  refine W.idx hs hxv.symm (zA1 hr hy) (zDU he) hc fun a cs hA hcs=>?_
  obtain ⟨E1,p1,hv1⟩:=zG1 (s:=s) hr.sls hcs
  have hne:cs≠[]:=by
    intro h0
    have h1:=Enc.len hcs
    have h2:=Enc.pos (α:=x'.t.T U.S)
    rw [h0] at h1
    simp at h1
    omega
  obtain ⟨E2,e2,hr2,hp⟩:=(hr.put p1).newPt hv1 hne hA
  have hpt:(putCs s x'.t c).1.pt.length=s.pt.length:=by rw [p1.pt]
  rw [hpt] at hp
  exact K _ _ _ _ _ _ h (hr2.set (some d) hp) (Ext.andSet (Ext.trans (a:=[]) (p1.ext []) (zJX _ []))) (Env.le_trans p1.le e2) (Hp.le.refl H)
theorem zLO (hs:SlsOk H E.vs s.sl) {T:TypeId} {c:CV} {x:SLL U} (h:slV P T s c=some x):∃ v,c.val E=some v∧@Sl (x.t.T U.S) (x.t.enc U) H v x.xs:=by
  cases c <;> simp only [slV] at h <;> try (cases h; done)
  · rename_i v
    cases hn:zBR v with
    | false=>rw [hn] at h; cases h
    | true =>
      rw [hn,cond_true] at h
      split at h
      case h_2=>cases h
      split at h
      case h_2=>cases h
      rename_i t _
      cases h
      rw [zB4 hn]
      exact ⟨_,rfl,@Sl.nil _ (t.enc U) H⟩
  · exact hs.gets h
theorem zI1 {d : Option Nat} {T : TypeId} {cv : CV} {x : Operand} {lo hi : Option Operand} {k : VS U → Option Ω} {r : Ω} (hx : opn N.n s x = some cv) (h : opSub P N.n d T cv lo hi s k = some r) (hr : RelE w0 H0 s f w E H L) {ty : TypeId} {pos : String} {af : Array Edge} {ops : Array Oper} {rest : List Oper} {Q : Fr → World → Prop}
    (K:Goes w0 H0 s d.toList E H k r (WL P N ops rest Q)):WL P N ops (⟨d,.slice T x lo hi none,ty,pos,af,none⟩ :: rest) Q f w:=by
  unfold opSub at h
  split at h
  case h_2=>cases h
  rename_i x' d hj
  split at h
  case h_2=>cases h
  rename_i e he
  obtain ⟨v,hv,hs⟩:=zLO hr.sls hj
  have hxv:=zAw hr hx
  rw [hv] at hxv
  have hxv:=Option.some.inj hxv
  letI:=x'.t.enc U
  have fin:∀ ys:List (x'.t.T U.S),k (setd (newSl s x'.t ys) (some d) (.ref s.sl.length))=some r→∀ v',Sl H v' ys→WL P N ops rest Q (upd f d v') w:=fun ys h v' hR=>by
    obtain ⟨E2,e2,hr2,hp⟩:=hr.newSl hR
    exact K _ _ _ _ _ _ h (hr2.set (some d) hp) (Ext.andSet (zFO _ _ [])) e2 (Hp.le.refl H)
  simp only at h
  split at h
  · split at h
    case h_2=>cases h
    rename_i hi hj
    obtain ⟨ys,hy,h⟩:=bindE h
    exact W.sub hs hxv.symm (zA1 hr hi) (zA1 hr hj) (zDU he) hy (fin ys h)
  · split at h
    case h_2=>cases h
    rename_i hi
    obtain ⟨ys,hy,h⟩:=bindE h
    exact W.subLo hs hxv.symm (zA1 hr hi) (zDU he) hy (fin ys h)
  · split at h
    case h_2=>cases h
    rename_i hj
    obtain ⟨ys,hy,h⟩:=bindE h
    exact W.subHi hs hxv.symm (zA1 hr hj) (zDU he) hy (fin ys h)
  · cases h
theorem zFz:∀ {en:List EI} {b:Nat} {cs:List CV},bxAt en b=some cs→∃ (i T:Nat),en[i]?=some (EI.box b (T+1) cs)∧zEN en b=en.eraseIdx i
  | [],_,_,h=>by cases h
  | .box b' T cs0 :: en,b,cs,h=>by
    simp only [bxAt] at h
    cases hb:Nat.beq b' b with
    | true =>
      rw [hb,cond_true] at h
      have:=Nat.eq_of_beq_eq_true hb
      subst this
      cases T with
      | zero=>cases h
      | succ T =>
      cases h
      exact ⟨0,T,rfl,by simp [zEN]⟩
    | false =>
      rw [hb] at h
      obtain ⟨i,T',h1,h2⟩:=zFz h
      exact ⟨i+1,T',by simpa using h1,by simp [zEN,hb,h2]⟩
  | .row i0 T0 :: en,b,cs,h=>by
    simp only [bxAt] at h
    obtain ⟨i,T',h1,h2⟩:=zFz h
    exact ⟨i+1,T',by simpa using h1,by simp [zEN,h2]⟩
theorem zEX:∀ {en:List EI} {b b':Nat},b≠b'→boxAt (zEN en b) b'=boxAt en b'
  | [],_,_,_=>rfl
  | .box b0 T cs0 :: en,b,b',h=>by
    simp only [zEN]
    cases hb:Nat.beq b0 b with
    | true =>
      have:=Nat.eq_of_beq_eq_true hb
      subst this
      have hne:Nat.beq b0 b'=false:=by
        cases h2:Nat.beq b0 b' with
        | false=>rfl
        | true=>exact absurd (Nat.eq_of_beq_eq_true h2) h
      simp only [cond_true,boxAt,hne,cond_false]
    | false=>simp only [cond_false,boxAt,zEX h]
  | .row i T :: en,b,b',h=>by simp only [zEN,boxAt,zEX h]
theorem zJ9 (S:St w0 H0 w H L) {k:Nat} {e0:Ent} (he0:e0.blk=some k) {b:Nat} (hb:E.bs[b]?=some k):∀ {en:List EI} {A K:List Ent},EnsOk noX E H s.sl en K→A++K=L→e0 ∈ A→boxAt en b=none
  | [],_,_,_,_,_=>rfl
  | _ :: _,_,[],h,_,_=>h.elim
  | i :: en,A,e :: K,⟨h1,h2⟩,hA,hm=>by
    have ih:=zJ9 S he0 hb h2 (A:=A++[e]) (by rw [List.append_assoc]; exact hA) (List.mem_append_left _ hm)
    cases i with
    | row j T=>exact ih
    | box b' T' cs' =>
      simp only [boxAt]
      cases hbb:Nat.beq b' b with
      | false=>exact ih
      | true =>
        have:=Nat.eq_of_beq_eq_true hbb
        subst this
        obtain ⟨v1,k1,g1,_,g3⟩:=h1
        rw [hb] at g1
        cases g1
        obtain ⟨j,hj⟩:=List.mem_iff_getElem?.1 hm
        subst hA
        have hjl:=(List.getElem?_eq_some_iff.1 hj).1
        have h0:(A++e :: K)[A.length]?=some e:=by simp
        have h1':(A++e :: K)[j]?=some e0:=by rw [List.getElem?_append_left hjl]; exact hj
        exact absurd rfl (S.blk_ne h0 h1' (zEM g3) he0 (by omega))
theorem zJM (S:St w0 H0 w H L) {b:Nat}:∀ {en:List EI} {A K:List Ent},EnsOk noX E H s.sl en K→A++K=L→∀ {cs:List CV},boxAt en b=some cs→boxAt (zEN en b) b=none
  | [],_,_,_,_,_,h=>by cases h
  | _ :: _,_,[],h,_,_,_=>h.elim
  | i :: en,A,e :: K,⟨h1,h2⟩,hA,cs,h=>by
    have hA':(A++[e])++K=L:=by rw [List.append_assoc]; exact hA
    cases i with
    | row j T=>simp only [zEN,boxAt] at h ⊢; exact zJM S h2 hA' h
    | box b' T' cs' =>
      simp only [boxAt] at h
      simp only [zEN]
      cases hbb:Nat.beq b' b with
      | true =>
        have:=Nat.eq_of_beq_eq_true hbb
        subst this
        obtain ⟨v1,k1,g1,_,g3⟩:=h1
        exact zJ9 S (zEM g3) g1 h2 hA' (List.mem_append_right _ List.mem_cons_self)
      | false =>
        rw [hbb] at h
        simp only [cond_false,boxAt,hbb]
        exact zJM S h2 hA' h
theorem zMb {d : Option Nat} {T : TypeId} {b : Nat} {x j : Operand} {k : VS U → Option Ω} {r : Ω} (hx : opn N.n s x = some (.ptr b 0)) (h : opArr P N.n d T b j s k = some r) (hr : RelE w0 H0 s f w E H L) {ty : TypeId} {pos : String} {af : Array Edge} {ops : Array Oper} {rest : List Oper} {Q : Fr → World → Prop}
    (K:Goes w0 H0 s d.toList E H k r (WL P N ops rest Q)):WL P N ops (⟨d,.slice T x none (some j) none,ty,pos,af,none⟩ :: rest) Q f w:=by
  unfold opArr at h
  split at h
  case h_2=>cases h
  rename_i cs m d hcs hj
  split at h
  case h_2=>cases h
  rename_i l n e hl hT
  cases hc:Nat.beq l.length n&&Nat.ble n 16777216&&(P.info? e).isSome with
  | false=>rw [hc] at h; cases h
  | true =>
    rw [hc,cond_true] at h
    simp only [Bool.and_eq_true] at hc
    obtain ⟨⟨c1,c2⟩,c3⟩:=hc
    have c1:=Nat.eq_of_beq_eq_true c1
    have c2:=Nat.le_of_ble_eq_true c2
    obtain ⟨ys,hy,h⟩:=bindE h
    obtain ⟨kb,hb,hv⟩:=zC4 hr hx
    obtain ⟨i,T',g1,g2⟩:=zFz hcs
    obtain ⟨en,e1,vals,k2,e2,e3,e4⟩:=hr.ens.get g1
    rw [hb] at e2
    cases e2
    have e4:en=.box kb T' vals:=e4
    subst e4
    have hvals:vals=l.map Eng.int:=by
      have h1:=e3.vals
      rw [zI3 hl] at h1
      exact (Option.some.inj h1).symm
    subst hvals
    obtain ⟨H',hle,hs,_,S'⟩:=hr.st.settle e1
    have hA:At H' ⟨kb,0,none⟩ (l.map Eng.int):=⟨T',_,rfl,hs,[],by simp⟩
    refine W.arrHi hA (Cells.ints (xs:=l)) hv (zA1 hr hj) hT (Option.isSome_iff_exists.1 c3) c1 (by simp only [maxLen]; omega) hy fun v' hR=>?_
    obtain ⟨E2,e2',hr2,hp⟩:=(hr.step' S' hle (is:=zEN s.en b) (d2:=spots b 0 cs.length++s.dt) (by rw [g2]; exact (hr.ens.mono (Env.le_refl E) hle (zAL _)).erase)).newSl (t:=.int) hR
    have hd:∀ o,zAy s.en b o=cs[o]?:=fun o=>by simp only [zAy,zKP hcs]
    refine K _ _ _ _ _ _ h (hr2.set (some d) hp) (Ext.andSet ⟨⟨[⟨.sl .int,ys⟩],rfl⟩,zAL _,Nat.le_refl _,fun _ _=>rfl,spots b 0 cs.length,rfl,fun b' _ o hm=>?_⟩) e2' hle
    show zAy (zEN s.en b) b' o=_
    by_cases hbb:b=b'
    · subst hbb
      have:=zGV hm
      rw [hd,List.getElem?_eq_none (by omega)]
      simp only [zAy,zJM hr.st (A:=[]) hr.ens rfl (zKP hcs)]
    · simp only [zAy,zEX hbb]
theorem zGy (hs:SlsOk H E.vs s.sl) {t:PT}:∀ {cs:List CV} {xs:List (t.T U.S)},getTs s t cs=some xs→∃ vs,CV.vals E cs=some vs∧vs.length=xs.length∧∀ (i:Nat) (v:Value) (x:t.T U.S),vs[i]?=some v→xs[i]?=some x→VR U H t v x
  | [],xs,h=>by cases h; exact ⟨[],rfl,rfl,fun i v x h=>by simp at h⟩
  | c :: cs,xs,h=>by
    simp only [getTs] at h
    split at h
    case h_2=>cases h
    rename_i y hy
    split at h
    case h_2=>cases h
    rename_i ys hys
    cases h
    obtain ⟨v,hv,h1⟩:=zEF hs hy
    obtain ⟨vs,hvs,hl,h2⟩:=zGy hs hys
    refine ⟨v :: vs,by simp only [CV.vals,hv,hvs],by rw [List.length_cons,List.length_cons,hl],fun i u x hu hx=>?_⟩
    cases i with
    | zero=>simp at hu hx; subst hu; subst hx; exact h1
    | succ i=>exact h2 i u x (by simpa using hu) (by simpa using hx)
theorem zII {g:Operand→Value}:∀ {ps:List (Nat×Operand)} {n:Nat},zG6 n ps=true→(ps.map fun p=>(p.1,g p.2))=(((ps.map Prod.snd).map g).zipIdx n).map fun x=>(x.2,x.1)
  | [],n,_=>rfl
  | p :: l,n,h=>by
    simp only [zG6,Bool.and_eq_true] at h
    rw [List.map_cons,zII h.2,Nat.eq_of_beq_eq_true h.1]
    rfl
theorem zMK {d : Option Nat} {T : TypeId} {n : Nat} {ps : List (Nat × Operand)} {k : VS U → Option Ω} {r : Ω} (h : opBsl P N.n d T n ps s k = some r) (hr : RelE w0 H0 s f w E H L) {ty : TypeId} {pos : String} {af : Array Edge} {ops : Array Oper} {rest : List Oper} {Q : Fr → World → Prop}
    (K:Goes w0 H0 s d.toList E H k r (WL P N ops rest Q)):WL P N ops (⟨d,.buildSlice T n ps.toArray,ty,pos,af,none⟩ :: rest) Q f w:=by
  unfold opBsl at h
  split at h
  case h_2=>cases h
  rename_i t d ht
  split at h
  case h_2=>cases h
  rename_i e cs he hcs
  split at h
  case h_2=>cases h
  rename_i xs hxs
  cases hc:zG6 0 ps&&Nat.beq ps.length n&&Nat.ble (n*@Enc.sz _ (t.enc U)) 16777216&&cellT t with
  | false=>rw [hc] at h; cases h
  | true =>
    rw [hc,cond_true] at h
    simp only [Bool.and_eq_true] at hc
    obtain ⟨⟨⟨c1,c2⟩,c3⟩,c0⟩:=hc
    have c2:=Nat.eq_of_beq_eq_true c2
    obtain ⟨vs,hvs,hl,hR⟩:=zGy hr.sls hxs
    have hev:=zDw hr hcs
    rw [hvs] at hev
    cases hev
    letI:=t.enc U
    have hlen:((ps.map Prod.snd).map (ev N f)).length=n:=by simp [c2]
    refine W.bslice ((ps.map Prod.snd).map (ev N f)) xs hr.st (zDU he) (zII c1) hlen (by rw [← hl]; exact hlen) (Nat.le_of_ble_eq_true c3) (fun i v x hv hx=>zNH c0 (hR i v x hv hx)) fun u w' H' hle hu S'=>?_
    have hr2:RelE w0 H0 s f w E H L:=hr
    have hens:=hr.ens
    obtain ⟨E',p,hv⟩:=zAh (s:=s) (t:=.sl t) (hr.sls.mono hle) hu
    have hr3:RelE w0 H0 (newRow (newSl s t xs) s.sl.length e) f w' E' H' (.row u e (Enc.sz (t.T U.S)) xs.length :: L) :=
      ⟨S',hr.gl.mono hle,p.ok,by rw [p.ps]; exact hr.pts.mono p.le hle,by rw [p.bs]; exact hr.nb,⟨⟨⟨.sl t,xs⟩,u,zBf rfl,hv,rfl⟩,hr.ens.mono p.le hle p.sl⟩,fun t c hc=>CV.val_mono p.le (hr.fr t c hc)⟩
    exact K _ _ _ _ _ _ h (hr3.set (some d) hv) (Ext.andSet (Ext.trans (a:=[]) (zFO t xs []) (zEI _ _ []))) p.le hle
theorem zLb {d : Option Nat} {T T' : TypeId} {x y : Operand} {k : VS U → Option Ω} {r : Ω} (h : zOh P N.n d x y T T' s k = some r) (hr : RelE w0 H0 s f w E H L) {ty : TypeId} {pos : String} {af : Array Edge} {ops : Array Oper} {rest : List Oper} {Q : Fr → World → Prop}
    (K:Goes w0 H0 s d.toList E H k r (WL P N ops rest Q)):WL P N ops (⟨d,.call ⟨.builtin .append,#[x,y],#[T,T']⟩,ty,pos,af,none⟩ :: rest) Q f w:=by
  unfold zOh at h
  split at h
  case h_2=>cases h
  rename_i ys d e hy he
  cases hst:isStr P T' with
  | false=>rw [hst] at h; cases h
  | true =>
  rw [hst,cond_true] at h
  have hE:Elem P T e 1:=zDU he
  split at h
  · rename_i v hx
    cases hn:zBR v with
    | false=>rw [hn] at h; cases h
    | true =>
      rw [hn,cond_true] at h
      obtain ⟨zs,hz,h⟩:=bindE h
      have hxv:=zCr hr hx
      rw [zB4 hn] at hxv
      refine W.appStr (xs:=[]) (i:=0) (hr.st.addNil e 1) hE (zEC hst) rfl hxv (zDW hr hy) Sl.nil hz fun v' w' H' hle hv' S'=>?_
      obtain ⟨E',p,hv⟩:=zAh (s:=s) (t:=.sl .byt) (hr.sls.mono hle) hv'
      have hr3:RelE w0 H0 (newRow (newSl s .byt zs) s.sl.length e) f w' E' H' (.row v' e 1 zs.length :: L) :=
        ⟨S',hr.gl.mono hle,p.ok,by rw [p.ps]; exact hr.pts.mono p.le hle,by rw [p.bs]; exact hr.nb,⟨⟨⟨.sl .byt,zs⟩,v',zBf rfl,hv,rfl⟩,hr.ens.mono p.le hle p.sl⟩,fun t c hc=>CV.val_mono p.le (hr.fr t c hc)⟩
      exact K _ _ _ _ _ _ h (hr3.set (some d) hv) (Ext.andSet (Ext.trans (a:=[]) (zFO .byt zs []) (zEI _ _ []))) p.le hle
  · rename_i i hx
    split at h
    case h_2=>cases h
    rename_i xs e' hxs hrow
    cases hee:Nat.beq e e' with
    | false=>rw [hee] at h; cases h
    | true =>
      rw [hee,cond_true] at h
      have hee:=Nat.eq_of_beq_eq_true hee
      subst hee
      obtain ⟨zs,hz,h⟩:=bindE h
      have hxv:=zAw hr hx
      obtain ⟨v,hv,hX⟩:=zBT hr.sls hxs
      rw [hv] at hxv
      cases hxv
      obtain ⟨p,hp,hset⟩:=zEH (j:=s.sl.length) hrow
      obtain ⟨en,he1,x2,v2,g1,g2,g3⟩:=hr.ens.get hp
      simp only [CV.val] at hv
      rw [hv] at g2
      cases g2
      rw [zIs hxs] at g1
      cases g1
      have g3:en=.row (ev N f x) e 1 (List.length xs):=g3
      subst g3
      refine W.appStr (xs:=xs) (i:=p) hr.st hE (zEC hst) he1 rfl (zDW hr hy) hX hz fun v' w' H' hle hv' S'=>?_
      obtain ⟨E',q,hvq⟩:=zAh (s:=s) (t:=.sl .byt) (hr.sls.mono hle) hv'
      have hr3:RelE w0 H0 { newSl s .byt zs with en:=setRow s.en i s.sl.length } f w' E' H' (L.set p (.row v' e 1 zs.length)) :=
        ⟨S',hr.gl.mono hle,q.ok,by rw [q.ps]; exact hr.pts.mono q.le hle,by rw [q.bs]; exact hr.nb,by rw [hset]; exact (hr.ens.mono q.le hle q.sl).set ⟨⟨.sl .byt,zs⟩,v',zBf rfl,hvq,rfl⟩,fun t c hc=>CV.val_mono q.le (hr.fr t c hc)⟩
      exact K _ _ _ _ _ _ h (hr3.set (some d) hvq) (Ext.andSet ⟨⟨[⟨.sl .byt,zs⟩],rfl⟩,zAL _,Nat.le_refl _,fun _ _=>rfl,[],rfl,fun b _ o _=>by simp only [zAy,zCt]⟩) q.le hle
  · cases h
theorem zN2 {d : Option Nat} {T : TypeId} {x y : Operand} {k : VS U → Option Ω} {r : Ω} (h : opMs P N.n d T x y s k = some r) (hr : RelE w0 H0 s f w E H L) {ty : TypeId} {pos : String} {af : Array Edge} {ops : Array Oper} {rest : List Oper} {Q : Fr → World → Prop}
    (K:Goes w0 H0 s d.toList E H k r (WL P N ops rest Q)):WL P N ops (⟨d,.makeSlice T x y,ty,pos,af,none⟩ :: rest) Q f w:=by
  unfold opMs at h
  split at h
  case h_2=>cases h
  rename_i t d ht
  split at h
  case h_2=>cases h
  rename_i e a n he hx hy
  cases hc:decide (a=0)&&Nat.beq (@Enc.sz _ (t.enc U)) 1 with
  | false=>rw [hc] at h; cases h
  | true =>
    rw [hc,cond_true] at h
    rw [Bool.and_eq_true,decide_eq_true_eq] at hc
    obtain ⟨c1,c2⟩:=hc
    subst c1
    have c2:=Nat.eq_of_beq_eq_true c2
    split at h
    case h_2=>cases h
    rename_i zv hz
    obtain ⟨u,hu,h⟩:=bindE h
    letI:=t.enc U
    have hE:=zDU he
    rw [c2] at hE
    refine W.makeRow (α:=t.T U.S) hr.st hE c2 (zA1 hr hx) (zA1 hr hy) hz hu fun v w' H' hle hu' S'=>?_
    obtain ⟨E',p,hv⟩:=zAh (s:=s) (t:=.sl t) (hr.sls.mono hle) hu'
    have hr3:RelE w0 H0 (newRow (newSl s t []) s.sl.length e) f w' E' H' (.row v e 1 0 :: L) :=
      ⟨S',hr.gl.mono hle,p.ok,by rw [p.ps]; exact hr.pts.mono p.le hle,by rw [p.bs]; exact hr.nb,⟨⟨⟨.sl t,[]⟩,v,zBf rfl,hv,by rw [← c2]; rfl⟩,hr.ens.mono p.le hle p.sl⟩,fun t c hc=>CV.val_mono p.le (hr.fr t c hc)⟩
    exact K _ _ _ _ _ _ h (hr3.set (some d) hv) (Ext.andSet (Ext.trans (a:=[]) (zFO t [] []) (zEI _ _ []))) p.le hle
theorem zMG {d : Option Nat} {T : TypeId} {x y : Operand} {k : VS U → Option Ω} {r : Ω} (h : opApp P N.n d x y T s k = some r) (hr : RelE w0 H0 s f w E H L) {ty : TypeId} {pos : String} {af : Array Edge} {ops : Array Oper} {rest : List Oper} {Q : Fr → World → Prop}
    (K:Goes w0 H0 s d.toList E H k r (WL P N ops rest Q)):WL P N ops (⟨d,.call ⟨.builtin .append,#[x,y],#[T,T]⟩,ty,pos,af,none⟩ :: rest) Q f w:=by
  unfold opApp at h
  split at h
  case h_2=>cases h
  rename_i j d hy
  split at h
  case h_2=>cases h
  rename_i ys hj
  split at h
  case h_2=>cases h
  rename_i e he
  obtain ⟨u,hu,hsY⟩:=zLO hr.sls hj
  have hyv:=zAw hr hy
  rw [hu] at hyv
  have hyv:=Option.some.inj hyv
  letI:=ys.t.enc U
  split at h
  · rename_i v hx
    cases hn:zBR v with
    | false=>rw [hn] at h; cases h
    | true =>
      rw [hn,cond_true] at h
      obtain ⟨zs,hz,h⟩:=bindE h
      have hxv:=zCr hr hx
      rw [zB4 hn] at hxv
      refine W.app (i:=0) (hr.st.addNil e (Enc.sz (ys.t.T U.S))) (zDU he) rfl hxv hyv.symm Sl.nil hsY hz fun v' w' H' hle hv' S'=>?_
      obtain ⟨E',p,hv⟩:=zAh (s:=s) (t:=.sl ys.t) (hr.sls.mono hle) hv'
      have hr3:RelE w0 H0 (newRow (newSl s ys.t zs) s.sl.length e) f w' E' H' (.row v' e (Enc.sz (ys.t.T U.S)) zs.length :: L) :=
        ⟨S',hr.gl.mono hle,p.ok,by rw [p.ps]; exact hr.pts.mono p.le hle,by rw [p.bs]; exact hr.nb,⟨⟨⟨.sl ys.t,zs⟩,v',zBf rfl,hv,rfl⟩,hr.ens.mono p.le hle p.sl⟩,fun t c hc=>CV.val_mono p.le (hr.fr t c hc)⟩
      exact K _ _ _ _ _ _ h (hr3.set (some d) hv) (Ext.andSet (Ext.trans (a:=[]) (zFO ys.t zs []) (zEI _ _ []))) p.le hle
  · rename_i i hx
    split at h
    case h_3=>cases h
    · rename_i xs e' hxs hrow
      cases hee:Nat.beq e e' with
      | false=>rw [hee] at h; cases h
      | true =>
        rw [hee,cond_true] at h
        have hee:=Nat.eq_of_beq_eq_true hee
        subst hee
        obtain ⟨zs,hz,h⟩:=bindE h
        have hxv:=zAw hr hx
        obtain ⟨v,hv,hX⟩:=zBT hr.sls hxs
        rw [hv] at hxv
        cases hxv
        obtain ⟨p,hp,hset⟩:=zEH (j:=s.sl.length) hrow
        obtain ⟨en,he1,x2,v2,g1,g2,g3⟩:=hr.ens.get hp
        simp only [CV.val] at hv
        rw [hv] at g2
        cases g2
        rw [zIs hxs] at g1
        cases g1
        have g3:en=.row (ev N f x) e (Enc.sz (ys.t.T U.S)) xs.length:=g3
        subst g3
        refine W.app (i:=p) hr.st (zDU he) he1 rfl hyv.symm hX hsY hz fun v' w' H' hle hv' S'=>?_
        obtain ⟨E',q,hvq⟩:=zAh (s:=s) (t:=.sl ys.t) (hr.sls.mono hle) hv'
        have hr3:RelE w0 H0 { newSl s ys.t zs with en:=setRow s.en i s.sl.length } f w' E' H' (L.set p (.row v' e (Enc.sz (ys.t.T U.S)) zs.length)) :=
          ⟨S',hr.gl.mono hle,q.ok,by rw [q.ps]; exact hr.pts.mono q.le hle,by rw [q.bs]; exact hr.nb,by rw [hset]; exact (hr.ens.mono q.le hle q.sl).set ⟨⟨.sl ys.t,zs⟩,v',zBf rfl,hvq,rfl⟩,fun t c hc=>CV.val_mono q.le (hr.fr t c hc)⟩
        exact K _ _ _ _ _ _ h (hr3.set (some d) hvq) (Ext.andSet ⟨⟨[⟨.sl ys.t,zs⟩],rfl⟩,zAL _,Nat.le_refl _,fun _ _=>rfl,[],rfl,fun b _ o _=>by simp only [zAy,zCt]⟩) q.le hle
    · rename_i e' hnone hrow
      split at h
      case h_2=>cases h
      rename_i xs hxs
      cases hee:Nat.beq e e' with
      | false=>rw [hee] at h; cases h
      | true =>
        rw [hee,cond_true] at h
        have hee:=Nat.eq_of_beq_eq_true hee
        subst hee
        obtain ⟨zs,hz,h⟩:=bindE h
        have hxv:=zAw hr hx
        obtain ⟨v,hv,hX⟩:=zBT hr.sls hxs
        rw [hv] at hxv
        cases hxv
        obtain ⟨p,hp,hset⟩:=zEH (j:=s.sl.length) hrow
        obtain ⟨en,he1,x2,v2,g1,g2,g3⟩:=hr.ens.get hp
        simp only [CV.val] at hv
        rw [hv] at g2
        cases g2
        rw [zJK hxs] at g1
        cases g1
        have g3:MR H en e (ev N f x) xs:=g3
        refine W.appM (i:=p) hr.st (zDU he) he1 rfl hyv.symm g3 hsY hz fun v' en' w' hm S'=>?_
        obtain ⟨a',c',hsh,_⟩:=hm.shape
        obtain ⟨E',q,hvq⟩:=zAh (s:=s) (t:=.mr ys.t) (v:=v') (x:=zs) hr.sls ⟨a',c',hsh⟩
        have hr3:RelE w0 H0 { newMr s ys.t zs with en:=setRow s.en i s.sl.length } f w' E' H (L.set p en') :=
          ⟨S',hr.gl,q.ok,by rw [q.ps]; exact hr.pts.mono q.le (Hp.le.refl H),by rw [q.bs]; exact hr.nb,by rw [hset]; exact (hr.ens.mono q.le (Hp.le.refl H) q.sl).set ⟨⟨.mr ys.t,zs⟩,v',zBf rfl,hvq,hm⟩,fun t c hc=>CV.val_mono q.le (hr.fr t c hc)⟩
        exact K _ _ _ _ _ _ h (hr3.set (some d) hvq) (Ext.andSet ⟨⟨[⟨.mr ys.t,zs⟩],rfl⟩,zAL _,Nat.le_refl _,fun _ _=>rfl,[],rfl,fun b _ o _=>by simp only [zAy,zCt]⟩) q.le (Hp.le.refl H)
  · cases h
end
end Go.VI
