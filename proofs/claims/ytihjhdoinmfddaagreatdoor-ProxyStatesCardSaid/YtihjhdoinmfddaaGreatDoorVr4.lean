/- A part. -/
import Derived.Test.YtihjhdoinmfddaaGreatDoorVr3
set_option linter.unusedVariables false
set_option linter.unusedSimpArgs false
namespace Go.VI
open Go Go.Eng
section
variable {U:UV} {P:Program} {G:Gam U} {N:Frm} {s s':VS U} {f:Fr} {w w' w0:World} {H0 H H':Hp} {E:Env} {L:List Ent} {Ω:Type} {X:Nat→Nat→Bool}
def VR (U:UV) (H:Hp):(t:PT)→Value→t.T U.S→Prop
 | .st T,v,x=>∃ cs,v=Eng.agg cs∧(U.enc T).cells H cs x
 | t,v,x=>CellR U.S U.enc H t v x
theorem zBX (hs:SlsOk H E.vs s.sl):∀ {t:PT} {c:CV} {x:t.T U.S},get1 s t c=some x→∃ v,c.val E=some v∧CellR U.S U.enc H t v x
 | .int,c,x,h=>by cases c <;> simp only [get1] at h <;> first | (cases h; exact ⟨_,rfl,rfl⟩) | cases h
 | .byt,c,x,h=>by cases c <;> simp only [get1] at h <;> first | (cases h; exact ⟨_,rfl,rfl⟩) | cases h
 | .boo,c,x,h=>by cases c <;> simp only [get1] at h <;> first | (cases h; exact ⟨_,rfl,rfl⟩) | cases h
 | .str,c,x,h=>by cases c <;> simp only [get1] at h <;> first | (cases h; exact ⟨_,rfl,rfl⟩) | cases h
 | .sl t,c,x,h=>by
  cases c <;> simp only [get1] at h <;> try (cases h; done)
  ·rename_i v
   cases hn:zBc v with
   | false=>rw [hn] at h; cases h
   | true =>
    rw [hn] at h;cases h;exact ⟨v,rfl,by rw [zB5 hn]; exact @Sl.nil _ (t.encW U.S U.enc) H⟩
  ·rename_i i
   split at h
   case h_2=>cases h
   rename_i t' xs hx;split at h
   case isFalse=>cases h
   rename_i ht;subst ht;obtain ⟨v,hv,hx⟩:=hs.gets hx;cases h;exact ⟨v,hv,hx⟩
 | .mr t,c,x,h=>by
  cases c <;> simp only [get1] at h <;> try (cases h; done)
  ·rename_i v
   cases hn:zBc v with
   | false=>rw [hn] at h; cases h
   | true =>
    rw [hn] at h;cases h;exact ⟨v,rfl,none,0,zB5 hn⟩
  ·rename_i i
   split at h
   case h_2=>cases h
   rename_i t' xs hx;split at h
   case isFalse=>cases h
   rename_i ht;subst ht;obtain ⟨a,c,hv⟩:=hs.getm hx;cases h;exact ⟨_,hv,a,c,rfl⟩
 | .mp t,c,x,h=>by
  cases c <;> simp only [get1] at h <;> try (cases h; done)
  rename_i i;split at h
  case h_2=>cases h
  rename_i t' xs hx;split at h
  case isFalse=>cases h
  rename_i ht;subst ht;unfold mpOf at hx;split at hx
  case h_2=>cases hx
  rename_i t2 m hm;cases hx;obtain ⟨v,hv,hR⟩:=hs.get hm;cases h;exact ⟨v,hv,hR⟩
 | .po T,c,x,h=>by
  cases c <;> simp only [get1] at h <;> try (cases h; done)
  ·rename_i v
   cases hn:zNg v with
   | false=>rw [hn] at h; cases h
   | true =>
    rw [hn] at h;cases h;exact ⟨v,rfl,zR8 hn⟩
  ·rename_i i
   split at h
   case h_2=>cases h
   rename_i t' xs hx;split at h
   case isFalse=>cases h
   rename_i ht;subst ht;unfold poOf at hx;split at hx
   case h_2=>cases hx
   rename_i t2 m hm;cases hx;obtain ⟨v,hv,hR⟩:=hs.get hm;cases h;exact ⟨v,hv,hR⟩
 | .st _,c,x,h=>by cases c <;> simp only [get1] at h <;> cases h
variable {Q:Fr→World→Prop} {T:TypeId} {af:Array Edge} {c:CV} {cs:List CV} {d:Option Nat} {j:Nat} {k:VS U→Option Ω} {ops:Array Oper} {pos:String} {r:Ω} {rest:List Oper} {t:PT} {ty:TypeId} {v:Value} {vs:List Value} {x:Operand} {xs:List (t.T U.S)}
theorem zKa {i:Nat} (h:get1 s (.sl t) (.ref i)=some xs):s.sl[i]?=some ⟨.sl t,xs⟩:=by
 grind [get1,slOf]
theorem zJ8 {i:Nat} (h:get1 s (.mr t) (.ref i)=some xs):s.sl[i]?=some ⟨.mr t,xs⟩:=by
 grind [get1,mrOf]
theorem zJj (hs:SlsOk H E.vs s.sl):∀ {ts:List PT} {l:List CV} {x:HL U.S ts},getHL s ts l=some x→∃ vs,CV.vals E l=some vs∧zJw U.S U.enc H ts vs x
 | [],[],x,h=>⟨[],rfl,rfl⟩
 | t :: ts,c :: cs,x,h=>by
  simp only [getHL] at h;split at h
  case h_2=>cases h
  rename_i y hy;split at h
  case h_2=>cases h
  rename_i z hz;cases h;obtain ⟨v,hv,h1⟩:=zBX hs hy;obtain ⟨vs,hvs,h2⟩:=zJj hs hz;exact ⟨v :: vs,by simp only [CV.vals,hv,hvs],v,vs,rfl,h1,h2⟩
 | [],_ :: _,x,h=>by simp only [getHL] at h; cases h
 | _ :: _,[],x,h=>by simp only [getHL] at h; cases h
theorem zEL (hs:SlsOk H E.vs s.sl):∀ {t:PT} {c:CV} {x:t.T U.S},getT s t c=some x→∃ v,c.val E=some v∧VR U H t v x
 | .int,c,x,h=>zBX hs h
 | .byt,c,x,h=>zBX hs h
 | .boo,c,x,h=>zBX hs h
 | .str,c,x,h=>zBX hs h
 | .sl t,c,x,h=>zBX hs h
 | .mr t,c,x,h=>zBX hs h
 | .mp t,c,x,h=>zBX hs h
 | .po T,c,x,h=>zBX hs h
 | .er,c,x,h=>zBX hs h
 | .st T,c,x,h=>by
  cases c <;> simp only [getT] at h <;> try grind [get1]
  rename_i l;cases hg:getHL s (U.fs T) l with
  | none=>grind
  | some y =>
   rw [hg] at h;cases h;obtain ⟨vs,hv,hR⟩:=zJj hs hg;exact ⟨_,by simp only [CV.val,hv]; rfl,vs,rfl,U.cells_mk hR⟩
structure PutOk (s s':VS U) (E E':Env) (H:Hp):Prop where
 fr:s'.fr=s.fr
 pt:s'.pt=s.pt
 nb:s'.nb=s.nb
 en:s'.en=s.en
 dt:s'.dt=s.dt
 sl:∃ l,s'.sl=s.sl++l
 vs:∃ l,E'.vs=E.vs++l
 bs:E'.bs=E.bs
 ps:E'.ps=E.ps
 ok:SlsOk H E'.vs s'.sl
 hs:E'.hs=E.hs
theorem PutOk.refl (h:SlsOk H E.vs s.sl):PutOk s s E E H:=⟨rfl,rfl,rfl,rfl,rfl,zAI _,zAI _,rfl,rfl,h,rfl⟩
theorem PutOk.trans {s2:VS U} {E' E2:Env} (h:PutOk s s' E E' H) (k:PutOk s' s2 E' E2 H):PutOk s s2 E E2 H :=
 ⟨k.fr.trans h.fr,k.pt.trans h.pt,k.nb.trans h.nb,k.en.trans h.en,k.dt.trans h.dt,zB9 h.sl k.sl,zB9 h.vs k.vs,k.bs.trans h.bs,k.ps.trans h.ps,k.ok,k.hs.trans h.hs⟩
theorem zRg {α:Type} {a b:List α} (h:b=a):∃ l,b=a++l:=by simp_all
theorem PutOk.le {E':Env} (h:PutOk s s' E E' H):E.le E':=⟨h.vs,zRg h.bs,zRg h.ps,h.hs⟩
theorem PutOk.ext {E':Env} (h:PutOk s s' E E' H) (ds:List Nat):Ext s s' ds :=
 ⟨h.sl,zRg h.pt,Nat.le_of_eq h.nb.symm,fun u _=>by rw [h.fr],[],by rw [h.dt]; rfl,fun b _ o _=>by rw [h.en]⟩
theorem RelX.put {E':Env} (hr:RelX X w0 H0 s f w E H L) (h:PutOk s s' E E' H):RelX X w0 H0 s' f w E' H L :=
 ⟨hr.st,hr.gl,h.ok,by rw [h.ps,h.pt]; exact hr.pts.mono h.le (Hp.le.refl H),by rw [h.bs,h.nb]; exact hr.nb,by rw [h.en]; exact hr.ens.mono h.le (Hp.le.refl H) h.sl,fun t c hc=>CV.val_mono h.le (hr.fr t c (by rw [← h.fr]; exact hc))⟩
theorem zAQ (hs:SlsOk H E.vs s.sl):∀ {t:PT} {v:Value} {x:t.T U.S},CellR U.S U.enc H t v x→∃ E',PutOk s (put1 s t x).1 E E' H∧(put1 s t x).2.val E'=some v
 | .int,v,x,h=>⟨E,PutOk.refl hs,by rw [show v=Eng.int x from h]; rfl⟩
 | .byt,v,x,h=>⟨E,PutOk.refl hs,by rw [show v=Eng.byt x from h]; rfl⟩
 | .boo,v,x,h=>⟨E,PutOk.refl hs,by rw [show v=Eng.boo x from h]; rfl⟩
 | .str,v,x,h=>⟨E,PutOk.refl hs,by rw [show v=Eng.str x from h]; rfl⟩
 | .sl t,v,x,h=>⟨{ E with vs:=E.vs++[v] },⟨rfl,rfl,rfl,rfl,rfl,⟨[⟨.sl t,x⟩],rfl⟩,⟨[v],rfl⟩,rfl,rfl,hs.snoc (x:=⟨.sl t,x⟩) h,rfl⟩,zBd hs.len⟩
 | .mr t,v,x,h=>⟨{ E with vs:=E.vs++[v] },⟨rfl,rfl,rfl,rfl,rfl,⟨[⟨.mr t,x⟩],rfl⟩,⟨[v],rfl⟩,rfl,rfl,hs.snoc (x:=⟨.mr t,x⟩) h,rfl⟩,zBd hs.len⟩
 | .mp t,v,x,h=>⟨{ E with vs:=E.vs++[v] },⟨rfl,rfl,rfl,rfl,rfl,⟨[⟨.mp t,x⟩],rfl⟩,⟨[v],rfl⟩,rfl,rfl,hs.snoc (x:=⟨.mp t,x⟩) h,rfl⟩,zBd hs.len⟩
 | .st _,v,x,h=>h.elim
 | .hid,v,x,h=>⟨E,PutOk.refl hs,by rw [show v=Eng.int 0 from h]; rfl⟩
 | .po T,v,x,h=>⟨{ E with vs:=E.vs++[v] },⟨rfl,rfl,rfl,rfl,rfl,⟨[⟨.po T,x⟩],rfl⟩,⟨[v],rfl⟩,rfl,rfl,hs.snoc (x:=⟨.po T,x⟩) h,rfl⟩,zBd hs.len⟩
 | .er,v,x,h=>⟨{ E with vs:=E.vs++[v] },⟨rfl,rfl,rfl,rfl,rfl,⟨[⟨.er,x⟩],rfl⟩,⟨[v],rfl⟩,rfl,rfl,hs.snoc (x:=⟨.er,x⟩) h,rfl⟩,zBd hs.len⟩
theorem zJg:∀ {ts:List PT} {s:VS U} {E:Env} {vs:List Value} {x:HL U.S ts},SlsOk H E.vs s.sl→zJw U.S U.enc H ts vs x→∃ E',PutOk s (putHL s ts x).1 E E' H∧CV.vals E' (putHL s ts x).2=some vs
 | [],s,E,vs,x,hs,h=>⟨E,PutOk.refl hs,by rw [show vs=[] from h]; rfl⟩
 | t :: ts,s,E,vs,x,hs,⟨v,r,e,h1,h2⟩=>by
  subst e;obtain ⟨E1,p1,v1⟩:=zAQ hs h1;obtain ⟨E2,p2,v2⟩:=zJg p1.ok h2;exact ⟨E2,p1.trans p2,by simp only [putHL,CV.vals,CV.val_mono p2.le v1,v2]⟩
theorem zHA (hs:SlsOk H E.vs s.sl):∀ {t:PT} {v:Value} {x:t.T U.S},VR U H t v x→∃ E',PutOk s (putV s t x).1 E E' H∧(putV s t x).2.val E'=some v
 | .int,v,x,h=>zAQ hs h
 | .byt,v,x,h=>zAQ hs h
 | .boo,v,x,h=>zAQ hs h
 | .str,v,x,h=>zAQ hs h
 | .sl t,v,x,h=>zAQ hs h
 | .mr t,v,x,h=>zAQ hs h
 | .mp t,v,x,h=>zAQ hs h
 | .hid,v,x,h=>zAQ hs h
 | .po _,v,x,h=>zAQ hs h
 | .er,v,x,h=>zAQ hs h
 | .st T,v,x,⟨cs,e,h⟩=>by
  subst e;obtain ⟨E',p,hv⟩:=zJg hs (U.cells_get h)
  grind [putV,CV.val]
theorem zHY (hs:SlsOk H E.vs s.sl):∀ {t:PT} {cs:List Value} {x:t.T U.S},(t.enc U).cells H cs x→∃ E',PutOk s (putCs s t x).1 E E' H∧CV.vals E' (putCs s t x).2=some cs
 | .int,cs,x,h=>⟨E,PutOk.refl hs,by rw [show cs=[Eng.int x] from h]; rfl⟩
 | .byt,cs,x,h=>⟨E,PutOk.refl hs,by rw [show cs=[Eng.byt x] from h]; rfl⟩
 | .boo,cs,x,h=>⟨E,PutOk.refl hs,by rw [show cs=[Eng.boo x] from h]; rfl⟩
 | .str,cs,x,h=>⟨E,PutOk.refl hs,by rw [show cs=[Eng.str x] from h]; rfl⟩
 | .sl t,cs,x,⟨v,e,h⟩=>by
  subst e;obtain ⟨E',p,hv⟩:=zAQ (t:=.sl t) hs h
  grind [putCs,CV.vals]
 | .st T,cs,x,h=>zJg hs (U.cells_get h)
 | .mr t,cs,x,h=>h.elim
 | .mp t,cs,x,h=>h.elim
theorem zRF:∀ {t:PT} {v:Value} {x:t.T U.S},cellT t=true→VR U H t v x→v.cells.size=@Enc.sz _ (t.enc U)∧(t.enc U).cells H v.cells.toList x
 | .int,v,x,_,h=>by rw [show v=Eng.int x from h]; exact ⟨rfl,rfl⟩
 | .byt,v,x,_,h=>by rw [show v=Eng.byt x from h]; exact ⟨rfl,rfl⟩
 | .boo,v,x,_,h=>by rw [show v=Eng.boo x from h]; exact ⟨rfl,rfl⟩
 | .str,v,x,_,h=>by rw [show v=Eng.str x from h]; exact ⟨rfl,rfl⟩
 | .sl t,v,x,_,h=>by
  obtain ⟨a,c,e,h'⟩:=id h;subst e;exact ⟨rfl,_,rfl,h⟩
 | .mr _,v,x,h,_=>by cases h
 | .mp _,v,x,h,_=>by cases h
 | .st T,v,x,_,⟨cs,e,h⟩=>by
  subst e;exact ⟨(U.enc T).len h,h⟩
theorem RelX.step (hr:RelX X w0 H0 s f w E H L) (S:St w0 H0 w' H' L) (hl:H.le H'):RelX X w0 H0 s f w' E H' L :=
 ⟨S,hr.gl.mono hl,hr.sls.mono hl,hr.pts.mono (Env.le_refl E) hl,hr.nb,hr.ens.mono (Env.le_refl E) hl (zAI _),hr.fr⟩
theorem RelX.step' (hr:RelX X w0 H0 s f w E H L) {L':List Ent} {is:List EI} {d2:List (Nat×Nat)} (S:St w0 H0 w' H' L') (hl:H.le H') (he:EnsOk X E H' s.sl is L'):RelX X w0 H0 { s with en:=is,dt:=d2 } f w' E H' L' :=
 ⟨S,hr.gl.mono hl,hr.sls.mono hl,hr.pts.mono (Env.le_refl E) hl,hr.nb,he,hr.fr⟩
theorem RelX.set (hr:RelX X w0 H0 s f w E H L) (d:Option Nat) (hc:c.val E=some v):RelX X w0 H0 (setd s d c) (updo f d v) w E H L:=by
 cases d with
 | none=>exact hr
 | some d =>
  refine ⟨hr.st,hr.gl,hr.sls,hr.pts,hr.nb,hr.ens,fun t x hx=>?_⟩;simp only [setd,look] at hx;simp only [updo,upd];cases hb:Nat.beq t d with
  | true=>grind
  | false=>rw [hb] at hx; exact hr.fr t x hx
theorem zIV (d:Option Nat) (c:CV):Ext s (setd s d c) d.toList:=by
 cases d with
 | none=>exact Ext.refl s _
 | some d =>
  refine ⟨zAI _,zAI _,nR _,fun u hu=>?_,[],rfl,fun _ _ _ _=>rfl⟩
  grind [zDJ,setd,look]
theorem Ext.andSet (h:Ext s s' []):Ext s (setd s' d c) d.toList:=Ext.trans (a:=[]) h (zIV d c)
theorem RelX.newPt (hr : RelX X w0 H0 s f w E H L) {a : Addr} (hv : CV.vals E cs = some vs) (hn : vs ≠ []) (hA : At H a vs) :
  ∃ E',E.le E'∧RelX X w0 H0 (newPt s cs) f w E' H L∧(CV.pa s.pt.length 0).val E'=some (.pointer (some a)):=by
 have hE:E.le { E with ps:=E.ps++[a] }:=⟨zAI _,zAI _,⟨[a],rfl⟩,rfl⟩;refine ⟨_,hE,⟨hr.st,hr.gl,hr.sls,?_,hr.nb,hr.ens.mono hE (Hp.le.refl H) (zAI _),fun t c hc=>CV.val_mono hE (hr.fr t c hc)⟩,?_⟩
 ·exact (hr.pts.mono hE (Hp.le.refl H)).snoc ⟨vs,CV.vals_mono hE hv,hn,hA⟩
 ·simp only [CV.val,zBd hr.pts.len,Option.map_some]; rfl
theorem zIb (cs:List CV) (ds:List Nat):Ext s (newPt s cs) ds:=⟨zAI _,⟨[cs],rfl⟩,nR _,fun _ _=>rfl,[],rfl,fun _ _ _ _=>rfl⟩
theorem RelX.newSl (hr : RelX X w0 H0 s f w E H L) (h : @Sl (t.T U.S) (t.enc U) H v xs) :
  ∃ E',E.le E'∧RelX X w0 H0 (newSl s t xs) f w E' H L∧(CV.ref s.sl.length).val E'=some v:=by
 obtain ⟨E',p,hv⟩:=zAQ (s:=s) (t:=.sl t) hr.sls h;exact ⟨E',p.le,hr.put p,hv⟩
theorem zUs (t:PT) (xs:List (t.T U.S)) (ds:List Nat):Ext s (newMr s t xs) ds:=⟨⟨[⟨.mr t,xs⟩],rfl⟩,zAI _,nR _,fun _ _=>rfl,[],rfl,fun _ _ _ _=>rfl⟩
theorem zFa (t:PT) (xs:List (t.T U.S)) (ds:List Nat):Ext s (newSl s t xs) ds:=⟨⟨[⟨.sl t,xs⟩],rfl⟩,zAI _,nR _,fun _ _=>rfl,[],rfl,fun _ _ _ _=>rfl⟩
theorem RelX.newBox (hr : RelX X w0 H0 s f w E H L) {k : Nat} (hv : CV.vals E cs = some vs) (S : St w0 H0 w' H (.box k T vs :: L)) :
  ∃ E',E.le E'∧RelX X w0 H0 (newBox s T cs) f w' E' H (.box k T vs :: L)∧(CV.ptr s.nb 0).val E'=some (Eng.ptr k 0):=by
 have hE:E.le { E with bs:=E.bs++[k] }:=⟨zAI _,⟨[k],rfl⟩,zAI _,rfl⟩;refine ⟨_,hE,⟨S,hr.gl,hr.sls,hr.pts.mono hE (Hp.le.refl H),?_,⟨⟨vs,k,zBd hr.nb,CsOk.of_vals (CV.vals_mono hE hv),rfl⟩,hr.ens.mono hE (Hp.le.refl H) (zAI _)⟩,fun t c hc=>CV.val_mono hE (hr.fr t c hc)⟩,?_⟩
 ·show (E.bs++[k]).length=s.nb+1
  rw [lA,hr.nb]; rfl
 ·simp only [CV.val,zBd hr.nb,Option.map_some]
theorem zKn (T:TypeId) (cs:List CV) (ds:List Nat):Ext s (newBox s T cs) ds:=by
 refine ⟨zAI _,zAI _,Nat.le_succ _,fun _ _=>rfl,[],rfl,fun b hb o _=>?_⟩;have:Nat.beq s.nb b=false:=by
  cases h:Nat.beq s.nb b <;> simp_all
 grind [newBox,zAi,boxAt]
theorem zE5 (i:Nat) (T:TypeId) (ds:List Nat):Ext s (newRow s i T) ds:=⟨zAI _,zAI _,nR _,fun _ _=>rfl,[],rfl,fun _ _ _ _=>rfl⟩
theorem zKx:∀ {en:List EI} {b:Nat} {cs cs':List CV},bxAt en b=some cs→∃ (i T:Nat),en[i]?=some (EI.box b (T+1) cs)∧zBg en b cs'=en.set i (.box b (T+1) cs')∧(∀ j,j<i→∀ T cs,en[j]?≠some (EI.box b T cs))
 | [],_,_,_,h=>by cases h
 | .box b' T cs0 :: en,b,cs,cs',h=>by
  simp only [bxAt] at h;cases hb:Nat.beq b' b with
  | true =>
   rw [hb,cond_true] at h;have:=nQ hb;subst this;cases T with
   | zero=>cases h
   | succ T =>
   cases h;exact ⟨0,T,rfl,by simp [zBg,hb],fun j hj=>absurd hj (Nat.not_lt_zero _)⟩
  | false =>
   rw [hb] at h;obtain ⟨i,T',h1,h2,h3⟩:=zKx (cs':=cs') h;refine ⟨i+1,T',by simpa using h1,by simp [zBg,hb,h2],fun j hj T2 c2 hc=>?_⟩;cases j <;> simp_all
 | .row i0 T0 :: en,b,cs,cs',h=>by
  simp only [bxAt] at h;obtain ⟨i,T',h1,h2,h3⟩:=zKx (cs':=cs') h;refine ⟨i+1,T',by simpa using h1,by simp [zBg,h2],fun j hj T2 c2 hc=>?_⟩
  grind
theorem zBw:∀ {en:List EI} {b b':Nat} {cs':List CV},b≠b'→boxAt (zBg en b cs') b'=boxAt en b'
 | [],_,_,_,_=>rfl
 | .box b0 T cs0 :: en,b,b',cs',h=>by
  simp only [zBg];cases hb:Nat.beq b0 b with
  | true =>
   have:=nQ hb;subst this;have hne:Nat.beq b0 b'=false:=by
    cases h2:Nat.beq b0 b' with
    | false=>rfl
    | true=>simp_all
   simp only [cond_true,boxAt,hne,cond_false]
  | false=>simp only [cond_false,boxAt,zBw h]
 | .row i T :: en,b,b',cs',h=>by simp only [zBg,boxAt,zBw h]
theorem zDA:∀ {en:List EI} {b:Nat} {cs cs':List CV},boxAt en b=some cs→boxAt (zBg en b cs') b=some cs'
 | [],_,_,_,h=>by cases h
 | .box b0 T cs0 :: en,b,cs,cs',h=>by
  simp only [boxAt] at h;simp only [zBg];cases hb:Nat.beq b0 b with
  | true=>simp only [cond_true,boxAt,hb]
  | false=>rw [hb] at h; simp only [cond_false,boxAt,hb,zDA h]
 | .row i T :: en,b,cs,cs',h=>by
  simp only [boxAt] at h;simp only [zBg,boxAt,zDA h]
theorem zCb:∀ {en:List EI} {i j b:Nat},boxAt (setRow en i j) b=boxAt en b
 | [],_,_,_=>rfl
 | .box b0 T cs0 :: en,i,j,b=>by simp only [setRow,boxAt,zCb]
 | .row k T :: en,i,j,b=>by
  simp only [setRow];cases Nat.beq k i with
  | true=>rfl
  | false=>simp only [cond_false,boxAt,zCb]
theorem zEC:∀ {en:List EI} {i j:Nat} {T:TypeId},rowAt en i=some T→∃ p:Nat,en[p]?=some (EI.row i T)∧setRow en i j=en.set p (.row j T)
 | [],_,_,_,h=>by cases h
 | .box b0 T cs0 :: en,i,j,T',h=>by
  obtain ⟨p,h1,h2⟩:=zEC (j:=j) (show rowAt en i=some T' from h);exact ⟨p+1,by simpa using h1,by simp [setRow,h2]⟩
 | .row k T :: en,i,j,T',h=>by
  simp only [rowAt] at h;cases hb:Nat.beq k i with
  | true =>
   rw [hb] at h;cases h;have:=nQ hb;subst this;exact ⟨0,rfl,by simp [setRow,hb]⟩
  | false =>
   rw [hb] at h;obtain ⟨p,h1,h2⟩:=zEC (j:=j) h;exact ⟨p+1,by simpa using h1,by simp [setRow,hb,h2]⟩
theorem zF8:∀ {n b o o':Nat},memX (spots b o n) b o'=false→¬ (o≤o'∧o'<o+n)
 | 0,_,_,_,_=>by omega
 | n+1,b,o,o',h=>by
  simp only [spots,memX,Bool.or_eq_false_iff,Bool.and_eq_false_iff] at h;have h1:=zF8 h.2;have h2:o≠o':=by
   rintro rfl;simp_all
  omega
theorem zIs (hs:SlsOk H E.vs s.sl) (hv:c.val E=some v) (h:oneB c=true):v.oneCell'=true:=by
 cases c <;> simp only [oneB] at h <;> try (cases h; done)
 case ref i =>
  simp only [CV.val] at hv;have hi:i<s.sl.length:=by rw [← hs.len]; grind
  obtain ⟨u,hu,hS⟩:=hs.get (List.getElem?_eq_getElem hi)
  grind [zUR]
 case ptr i o =>
  simp only [CV.val] at hv;cases hb:E.bs[i]? with
  | none=>grind
  | some b=>rw [hb] at hv; cases hv; rfl
 case pa i o =>
  simp only [CV.val] at hv;cases hb:E.ps[i]? with
  | none=>grind
  | some b=>rw [hb] at hv; cases hv; rfl
 case ifc T c =>
  simp only [CV.val] at hv;cases hb:c.val E with
  | none=>grind
  | some b=>rw [hb] at hv; cases hv; rfl
 case bm k l =>
  simp only [CV.val] at hv;cases hb:CV.vals E l with
  | none=>grind
  | some b=>rw [hb] at hv; cases hv; rfl
 case fn k l =>
  simp only [CV.val] at hv;cases hb:CV.vals E l with
  | none=>grind
  | some b=>rw [hb] at hv; cases hv; rfl
 case mp i =>
  simp only [CV.val] at hv;cases hb:E.bs[i]? with
  | none=>grind
  | some b=>rw [hb] at hv; cases hv; rfl
 case raw u=>cases hv; exact h
 all_goals (cases hv; rfl)
theorem zMA (hs:SlsOk H E.vs s.sl):∀ {l:List CV} {vs:List Value},CV.vals E l=some vs→l.all oneB=true→vs.all Value.oneCell'=true
 | [],vs,h,_=>by cases h; rfl
 | c :: l,vs,h,ho=>by
  simp only [CV.vals] at h;rw [List.all_cons,bQ] at ho;cases hc:c.val E with
  | none=>grind
  | some v =>
   cases hv:CV.vals E l with
   | none=>grind
   | some us =>
    rw [hc,hv] at h;cases h;rw [List.all_cons,bQ];exact ⟨zIs hs hc ho.1,zMA hs hv ho.2⟩
theorem zQD {l:List CV} {us:List Value} {o:Nat} (h:CV.vals E cs=some vs) (k:CV.vals E l=some us):CV.vals E (zHl cs o l)=some (zEH vs o us):=by
 grind [zHl,zEH,zCN,zGh,zHE,zHJ]
theorem zDf {e:TypeId} (h:elOk (U:=U) P T t=some e):Elem P T e (@Enc.sz _ (t.enc U)):=by
 grind [elOk,zFg]
theorem zKr (hx : opn N.n s x = some (.ref j)) (h : opNc d j s k = some r) (hr : RelE w0 H0 s f w E H L) :
  ∃ s' E' v,k s'=some r∧RelE w0 H0 s' (updo f d v) w E' H L∧Ext s s' d.toList∧s'.en=s.en∧E.le E'∧Runs P N f w0 H0 H L ⟨d,.nilCheck x,ty,pos,af,none⟩ v:=by
 unfold opNc at h;split at h
 case h_2=>cases h
 rename_i x' d hj;obtain ⟨T1,x1⟩:=x';cases x1 with
 | none=>cases h
 | some y =>
 obtain ⟨v,hv,a,cs,e,hne,hA,hcs⟩:=zYA hr.sls hj;subst e;have hxv:=zAy hr hx;simp only [CV.val,hv,oI] at hxv;obtain ⟨E1,p1,hv1⟩:=zHY (t:=.st T1) (s:=s) hr.sls hcs;obtain ⟨E2,e2,hr2,hp⟩:=(hr.put p1).newPt hv1 hne hA;have hpt:(putCs s (.st T1) y).1.pt.length=s.pt.length:=by rw [p1.pt]
 rw [hpt] at hp;exact ⟨_,E2,_,h,hr2.set (some d) hp,Ext.andSet (Ext.trans (a:=[]) (p1.ext []) (zIb _ [])),p1.en,Env.le_trans p1.le e2,fun _ _ _ _=>R.nilCheck hxv.symm⟩
theorem zKy {g : Nat} (hx : erAt U x = some g) (h : opEr P d T g s k = some r) (hr : RelE w0 H0 s f w E H L) :
  ∃ s' E' v,k s'=some r∧RelE w0 H0 s' (updo f d v) w E' H L∧Ext s s' d.toList∧s'.en=s.en∧E.le E'∧Runs P N f w0 H0 H L ⟨d,.load T x,ty,pos,af,none⟩ v:=by
 unfold opEr at h;split at h
 case h_2=>cases h
 rename_i d hl;obtain ⟨g',e⟩:∃ g',x=.global g':=by
  unfold erAt at hx
  grind
 subst e;simp only [erAt] at hx;cases hg:U.se g' with
 | false=>grind
 | true =>
 rw [hg] at hx;cases hx;obtain ⟨v,hv⟩:=hr.gl.gl.s g hg;obtain ⟨E1,p1,hv1⟩:=zHA (t:=.er) (s:=s) hr.sls hv;exact ⟨_,E1,v,h,(hr.put p1).set (some d) hv1,Ext.andSet (p1.ext []),p1.en,p1.le,fun _ _ hle S'=>R.loadH S' (x:=.global g) rfl (hv.2.mono hle sI) hl rfl⟩
theorem zJl {y : Operand} (hx : opn N.n s x = some (.ref j)) (h : opIdm P N.n d T j y s k = some r) (hr : RelE w0 H0 s f w E H L) :
  ∃ c v,k (setd s d c)=some r∧c.val E=some v∧Runs P N f w0 H0 H L ⟨d,.indexAddr T x y,ty,pos,af,none⟩ v:=by
 unfold opIdm at h;split at h
 case h_2=>cases h
 rename_i t xs i d hj hy;split at h
 case h_2=>cases h
 rename_i e' e hrow he;obtain ⟨c,hc,h⟩:=bindE h;have hs:=zKq hj;obtain ⟨p,en,x',v,g1,g2,g3,g4⟩:=zK0 hrow hr.ens;rw [hs] at g2;cases g2;unfold xnth at hc;split at hc
 case isFalse=>cases hc
 rename_i h0;letI:Enc (t.T U.S):=t.enc U;have hlt:=(List.getElem?_eq_some_iff.1 hc).1;rcases (show MR (α:=t.T U.S) H en e' v xs from g4) with ⟨h1,h2,h3⟩ | ⟨b,cap,cur,cs,rfl,rfl,h3,h4,h5,h6,h7⟩
 ·exact absurd hlt (by rw [h2]; exact Nat.not_lt_zero _)
 have hxv:=zAy hr hx;simp only [CV.val,g3,oI] at hxv;refine ⟨.pe j i.toNat (@Enc.sz _ (t.enc U)),_,h,?_,fun _ _ _ _=>R.idxN hxv.symm (zBD hr hy) (zDf he) ⟨h0,(Int.toNat_lt h0).1 hlt⟩⟩;simp only [CV.val,g3];rw [Addr.add_lit,Nat.zero_add];rfl
theorem zZO {cs:List Value} {x:t.T U.S} (ht:oneT t=true) (h:(t.enc U).cells H cs x):∃ v,cs=[v]∧CellR U.S U.enc H t v x:=by
 cases t <;> first | exact ⟨_,h,rfl⟩ | exact h | cases ht
theorem zZT (ht:oneT t=true):@Enc.sz _ (t.enc U)=1:=by
 cases t <;> first | rfl | cases ht
theorem zZN {x:t.T U.S} (ht:oneT t=true) (h:VR U H t v x):(t.enc U).cells H [v] x:=by
 have h1:CellR U.S U.enc H t v x:=by cases t <;> first | exact h | cases ht
 have h2:=(zRF (by cases t <;> first | rfl | cases ht) h).2;rw [(zUR h1).2] at h2;exact h2
theorem zZL {d : Option Nat} {T : TypeId} {x : Operand} {k : VS U → Option Ω} {r : Ω} (h : opLd P N.n d T x s k = some r) (hr : RelE w0 H0 s f w E H L) {ty : TypeId} {pos : String} {af : Array Edge} :
  ∃ s' E' v,k s'=some r∧RelE w0 H0 s' (updo f d v) w E' H L∧Ext s s' d.toList∧s'.en=s.en∧E.le E'∧Runs P N f w0 H0 H L ⟨d,.load T x,ty,pos,af,none⟩ v:=by
 unfold opLd at h;split at h
 ·exact zKy (by assumption) h hr
 split at h
 ·rename_i j q n hx
  unfold opLe at h;split at h
  case h_2=>cases h
  rename_i t xs e' d hm hrow hl;replace h:=cT h;obtain ⟨hc,h⟩:=h;rw [bQ] at hc;obtain ⟨c,hc1,h⟩:=bindE h;have hn:=nQ hc.2;subst hn;have hs:=zKq hm;obtain ⟨p,en,x',v,g1,g2,g3,g4⟩:=zK0 hrow hr.ens;rw [hs] at g2;cases g2;letI:Enc (t.T U.S):=t.enc U;obtain ⟨b,cap,cur,u,rfl,rfl,hcur,hcu⟩:=zZU (zZT hc.1) (show MR (α:=t.T U.S) H en e' v xs from g4) hc1;obtain ⟨u',e,hR⟩:=zZO hc.1 hcu;cases e;have hxv:=zAy hr hx;simp only [CV.val,g3,oI] at hxv;obtain ⟨E1,p1,hv1⟩:=zAQ (s:=s) hr.sls hR;exact ⟨_,E1,u,h,(hr.put p1).set (some d) hv1,Ext.andSet (p1.ext []),p1.en,p1.le,fun _ _ _ S'=>R.loadO1 S' (by rw [← hxv,Addr.add_lit,Nat.zero_add,Nat.mul_one]; rfl) g1 hl hcur⟩
 ·obtain ⟨c,v,hk,hc,hrun⟩:=zKc (d:=d) (ty:=ty) (pos:=pos) (af:=af) h hr
  exact ⟨_,E,v,hk,hr.set d hc,zIV d c,by cases d <;> rfl,Env.le_refl E,hrun⟩
theorem zPv {y : Operand} (hx : opn N.n s x = some (.ref j)) (h : opIdx P N.n d T j y s k = some r) (hr : RelE w0 H0 s f w E H L)
    (K:Goes w0 H0 s d.toList E H k r (WL P N ops rest Q)):WL P N ops (⟨d,.indexAddr T x y,ty,pos,af,none⟩ :: rest) Q f w:=by
  unfold opIdx at h;split at h
  case h_2 =>
    obtain ⟨c,v,hk,hc,hrun⟩:=zJl (ty:=ty) (pos:=pos) (af:=af) hx h hr;exact WL.wz (hrun w H (Hp.le.refl H) hr.st) (K _ _ _ _ _ _ hk (hr.set d hc) (zIV d c) (Env.le_refl E) (Hp.le.refl H))
  rename_i x' hj;split at h
  case h_2=>cases h
  rename_i i d hy;split at h
  case h_2=>cases h
  rename_i e he;obtain ⟨c,hc,h⟩:=bindE h;obtain ⟨v,hv,hs⟩:=hr.sls.gets hj;have hxv:=zAy hr hx;simp only [CV.val,hv,oI] at hxv;letI:=x'.t.enc U;refine W.idx hs hxv.symm (zBD hr hy) (zDf he) hc fun a cs hA hcs=>?_
  obtain ⟨E1,p1,hv1⟩:=zHY (s:=s) hr.sls hcs;have hne:cs≠[]:=by
    intro h0;have h1:=Enc.len hcs
    grind [Enc.pos]
  obtain ⟨E2,e2,hr2,hp⟩:=(hr.put p1).newPt hv1 hne hA;have hpt:(putCs s x'.t c).1.pt.length=s.pt.length:=by rw [p1.pt]
  rw [hpt] at hp;exact K _ _ _ _ _ _ h (hr2.set (some d) hp) (Ext.andSet (Ext.trans (a:=[]) (p1.ext []) (zIb _ []))) (Env.le_trans p1.le e2) (Hp.le.refl H)
theorem zO7 (hs:SlsOk H E.vs s.sl) {x:SLL U} (h:slV P T s c=some x):∃ v,c.val E=some v∧@Sl (x.t.T U.S) (x.t.enc U) H v x.xs:=by
 cases c <;> simp only [slV] at h <;> try (cases h; done)
 ·rename_i v
  obtain ⟨hn,h⟩:=cT h;split at h
  case h_2=>cases h
  split at h
  case h_2=>cases h
  rename_i t _;cases h;rw [zB5 hn];exact ⟨_,rfl,@Sl.nil _ (t.enc U) H⟩
 ·exact hs.gets h
theorem zL0 {cv : CV} {lo hi : Option Operand} (hx : opn N.n s x = some cv) (h : opSub P N.n d T cv lo hi s k = some r) (hr : RelE w0 H0 s f w E H L)
    (K:Goes w0 H0 s d.toList E H k r (WL P N ops rest Q)):WL P N ops (⟨d,.slice T x lo hi none,ty,pos,af,none⟩ :: rest) Q f w:=by
  unfold opSub at h;split at h
  case h_2=>cases h
  rename_i x' d hj;split at h
  case h_2=>cases h
  rename_i e he;obtain ⟨v,hv,hs⟩:=zO7 hr.sls hj;have hxv:=zAy hr hx;rw [hv] at hxv;have hxv:=oJ hxv;letI:=x'.t.enc U;have fin:∀ ys:List (x'.t.T U.S),k (setd (newSl s x'.t ys) (some d) (.ref s.sl.length))=some r→∀ v',Sl H v' ys→WL P N ops rest Q (upd f d v') w:=fun ys h v' hR=>by
    obtain ⟨E2,e2,hr2,hp⟩:=hr.newSl hR;exact K _ _ _ _ _ _ h (hr2.set (some d) hp) (Ext.andSet (zFa _ _ [])) e2 (Hp.le.refl H)
  simp only at h;split at h
  · split at h
    case h_2=>cases h
    rename_i hi hj;obtain ⟨ys,hy,h⟩:=bindE h;exact W.sub hs hxv.symm (zBD hr hi) (zBD hr hj) (zDf he) hy (fin ys h)
  · split at h
    case h_2=>cases h
    rename_i hi;obtain ⟨ys,hy,h⟩:=bindE h;exact W.subLo hs hxv.symm (zBD hr hi) (zDf he) hy (fin ys h)
  · split at h
    case h_2=>cases h
    rename_i hj;obtain ⟨ys,hy,h⟩:=bindE h;exact W.subHi hs hxv.symm (zBD hr hj) (zDf he) hy (fin ys h)
  · cases h
theorem zOn {d : Option Nat} {T : TypeId} {j : Nat} {x hi : Operand} {k : VS U → Option Ω} {r : Ω} (hx : opn N.n s x = some (.ref j)) (h : zU1 P N.n d T j hi s k = some r) (hr : RelE w0 H0 s f w E H L) {ty : TypeId} {pos : String} {af : Array Edge} {ops : Array Oper} {rest : List Oper} {Q : Fr → World → Prop}
    (K:Goes w0 H0 s d.toList E H k r (WL P N ops rest Q)):WL P N ops (⟨d,.slice T x none (some hi) none,ty,pos,af,none⟩ :: rest) Q f w:=by
  unfold zU1 at h;split at h
  case h_2=>cases h
  rename_i x' m d hm hj;split at h
  case h_2=>cases h
  rename_i e' e hrow hel;replace h:=cT h;obtain ⟨hee,h⟩:=h;have hee:=nQ hee;subst hee;obtain ⟨ys,hy,h⟩:=bindE h;obtain ⟨t,xs⟩:=x';letI:=t.enc U;have hs:=zKq hm;obtain ⟨p,hp,hset⟩:=zEC (j:=s.sl.length) hrow;obtain ⟨en,he1,x2,v2,g1,g2,g3⟩:=hr.ens.get hp;rw [hs] at g1;cases g1;have hxv:=zAy hr hx;simp only [CV.val,g2,oI] at hxv;have g3:MR H en e v2 xs:=g3;obtain ⟨v',hrun,hm'⟩:=MR.front (od:=some d) (ty:=ty) (pos:=pos) (af:=af) (g:=none) g3 hxv.symm (zBD hr hj) (zDf hel) hy;obtain ⟨a',c',hsh,_⟩:=hm'.shape;obtain ⟨E',q,hvq⟩:=zAQ (s:=s) (t:=.mr t) (v:=v') (x:=ys) hr.sls ⟨a',c',hsh⟩;have hpl:(L.set p en)=L:=zNc he1
  have hr3:RelE w0 H0 { newMr s t ys with en:=setRow s.en j s.sl.length } f w E' H L :=
    ⟨hr.st,hr.gl,q.ok,by rw [q.ps]; exact hr.pts.mono q.le (Hp.le.refl H),by rw [q.bs]; exact hr.nb,by rw [hset,← hpl]; exact (hr.ens.mono q.le (Hp.le.refl H) q.sl).set ⟨⟨.mr t,ys⟩,v',zBd rfl,hvq,hm'.mono (Hp.le.refl H)⟩,fun t c hc=>CV.val_mono q.le (hr.fr t c hc)⟩
  exact WL.wz (hrun w) (K _ _ _ _ _ _ h (hr3.set (some d) hvq) (Ext.andSet ⟨⟨[⟨.mr t,ys⟩],rfl⟩,zAI _,nR _,fun _ _=>rfl,[],rfl,fun b _ o _=>by simp only [zAi,zCb]⟩) q.le (Hp.le.refl H))
theorem zOV {lo hi : Option Operand} (hx : opn N.n s x = some (.ref j)) (h : zTy P N.n d T j lo hi s k = some r) (hr : RelE w0 H0 s f w E H L)
    (K:Goes w0 H0 s d.toList E H k r (WL P N ops rest Q)):WL P N ops (⟨d,.slice T x lo hi none,ty,pos,af,none⟩ :: rest) Q f w:=by
  unfold zTy at h
  grind [zOn,zL0]
theorem zGr:∀ {en:List EI} {b:Nat} {cs:List CV},bxAt en b=some cs→∃ (i T:Nat),en[i]?=some (EI.box b (T+1) cs)∧zEu en b=en.eraseIdx i
 | [],_,_,h=>by cases h
 | .box b' T cs0 :: en,b,cs,h=>by
  simp only [bxAt] at h;cases hb:Nat.beq b' b with
  | true =>
   rw [hb,cond_true] at h;have:=nQ hb;subst this;cases T with
   | zero=>cases h
   | succ T =>
   cases h;exact ⟨0,T,rfl,by simp [zEu]⟩
  | false =>
   rw [hb] at h;obtain ⟨i,T',h1,h2⟩:=zGr h;exact ⟨i+1,T',by simpa using h1,by simp [zEu,hb,h2]⟩
 | .row i0 T0 :: en,b,cs,h=>by
  simp only [bxAt] at h;obtain ⟨i,T',h1,h2⟩:=zGr h;exact ⟨i+1,T',by simpa using h1,by simp [zEu,h2]⟩
theorem zEq:∀ {en:List EI} {b b':Nat},b≠b'→boxAt (zEu en b) b'=boxAt en b'
 | [],_,_,_=>rfl
 | .box b0 T cs0 :: en,b,b',h=>by
  simp only [zEu];cases hb:Nat.beq b0 b with
  | true =>
   have:=nQ hb;subst this;have hne:Nat.beq b0 b'=false:=by
    cases h2:Nat.beq b0 b' with
    | false=>rfl
    | true=>simp_all
   simp only [cond_true,boxAt,hne,cond_false]
  | false=>simp only [cond_false,boxAt,zEq h]
 | .row i T :: en,b,b',h=>by simp only [zEu,boxAt,zEq h]
theorem zMz (S:St w0 H0 w H L) {k:Nat} {e0:Ent} (he0:e0.blk=some k) {b:Nat} (hb:E.bs[b]?=some k):∀ {en:List EI} {A K:List Ent},EnsOk noX E H s.sl en K→A++K=L→e0 ∈ A→boxAt en b=none
 | [],_,_,_,_,_=>rfl
 | _ :: _,_,[],h,_,_=>h.elim
 | i :: en,A,e :: K,⟨h1,h2⟩,hA,hm=>by
  have ih:=zMz S he0 hb h2 (A:=A++[e]) gR (List.mem_append_left _ hm);cases i with
  | row j T=>exact ih
  | box b' T' cs' =>
   simp only [boxAt];cases hbb:Nat.beq b' b with
   | false=>exact ih
   | true =>
    have:=nQ hbb;subst this;obtain ⟨v1,k1,g1,_,g3⟩:=h1;rw [hb] at g1;cases g1;obtain ⟨j,hj⟩:=lI.1 hm;subst hA;have hjl:=(List.getElem?_eq_some_iff.1 hj).1;have h0:(A++e :: K)[A.length]?=some e:=by simp
    have h1':(A++e :: K)[j]?=some e0:=by grind
    exact absurd rfl (S.blk_ne h0 h1' (zGI g3) he0 om)
theorem zKY (S:St w0 H0 w H L) {b:Nat}:∀ {en:List EI} {A K:List Ent},EnsOk noX E H s.sl en K→A++K=L→∀ {cs:List CV},boxAt en b=some cs→boxAt (zEu en b) b=none
 | [],_,_,_,_,_,h=>by cases h
 | _ :: _,_,[],h,_,_,_=>h.elim
 | i :: en,A,e :: K,⟨h1,h2⟩,hA,cs,h=>by
  have hA':(A++[e])++K=L:=by grind
  cases i with
  | row j T=>simp only [zEu,boxAt] at h ⊢; exact zKY S h2 hA' h
  | box b' T' cs' =>
   simp only [boxAt] at h;simp only [zEu];cases hbb:Nat.beq b' b with
   | true =>
    have:=nQ hbb;subst this;obtain ⟨v1,k1,g1,_,g3⟩:=h1;exact zMz S (zGI g3) g1 h2 hA' (List.mem_append_right _ lS)
   | false =>
    rw [hbb] at h;simp only [cond_false,boxAt,hbb];exact zKY S h2 hA' h
theorem zQi:∀ {en:List EI} {b T:Nat} {cs:List CV},bxT en b=some (T,cs)→bxAt en b=some cs
 | [],_,_,_,h=>by cases h
 | .box b' T' cs' :: en,b,T,cs,h=>by
  simp only [bxT,bxAt] at h ⊢;cases hb:Nat.beq b' b with
  | true =>
   grind
  | false =>
   rw [hb,cond_false] at h;rw [cond_false];exact zQi h
 | .row _ _ :: en,b,T,cs,h=>by
  simp only [bxT,bxAt] at h ⊢;exact zQi h
theorem zTB (hr : RelE w0 H0 s f w E H L) (hv : c.val E = some v) :
  ∃ E1 H1 L1,RelE w0 H0 (stl s c).1 f w E1 H1 L1∧(stl s c).2.val E1=some v∧Ext s (stl s c).1 []∧E.le E1∧H.le H1:=by
 have idle:∀ c':CV,c'=c→∃ E1 H1 L1,RelE w0 H0 s f w E1 H1 L1∧c'.val E1=some v∧Ext s s []∧E.le E1∧H.le H1:=fun c' e=>by
  subst e;exact ⟨E,H,L,hr,hv,⟨zAI _,zAI _,nR _,fun _ _=>rfl,[],rfl,fun _ _ _ _=>rfl⟩,Env.le_refl E,Hp.le.refl H⟩
 unfold stl;split
 ·rename_i b
  split
  ·rename_i T cs hT
   cases hp:U.po T with
   | false=>exact idle _ rfl
   | true =>
    rw [cond_true];split
    ·rename_i y hy
     have hcs:=zQi hT;obtain ⟨i,T',g1,g2⟩:=zGr hcs;obtain ⟨en,e1,vals,k2,e2,e3,e4⟩:=hr.ens.get g1;have e4:en=.box k2 T' vals:=e4;subst e4;have hvals:=e3.vals;obtain ⟨vs,hvs,hR⟩:=zJj hr.sls hy;rw [hvals] at hvs;cases hvs;have hC:=U.cells_mk hR;have hne:vals≠[]:=by
      intro h0;have h1:=(U.enc T).len hC;have h2:=(U.enc T).pos
      grind
     obtain ⟨H',hle,hs,_,S'⟩:=hr.st.settle e1;have hA:At H' ⟨k2,0,none⟩ vals:=⟨T',_,rfl,hs,[],sI⟩;have hP:CellR U.S U.enc H' (.po T) (.pointer (some ⟨k2,0,none⟩)) (some (U.put T y)):=⟨_,vals,rfl,hne,hA,(U.enc T).mono hC hle⟩;have hr1:=hr.step' S' hle (is:=zEu s.en b) (d2:=spots b 0 cs.length++s.dt) (by rw [g2]; exact (hr.ens.mono (Env.le_refl E) hle (zAI _)).erase);obtain ⟨E2,p,hv2⟩:=zAQ (t:=.po T) hr1.sls hP;have hvv:v=.pointer (some ⟨k2,0,none⟩):=by
      simp only [CV.val,e2,Option.map_some,oI] at hv;exact hv.symm
     have hd:∀ o,zAi s.en b o=cs[o]?:=fun o=>by simp only [zAi,zJ9 hcs]
     refine ⟨E2,H',_,hr1.put p,by rw [hvv]; exact hv2,⟨⟨[⟨.po T,some (U.put T y)⟩],rfl⟩,zAI _,nR _,fun _ _=>rfl,spots b 0 cs.length,rfl,fun b' _ o hm=>?_⟩,p.le,hle⟩
     show zAi (zEu s.en b) b' o=_
     by_cases hbb:b=b'
     ·subst hbb
      have:=zF8 hm;rw [hd,List.getElem?_eq_none om];simp only [zAi,zKY hr.st (A:=[]) hr.ens rfl (zJ9 hcs)]
     ·simp only [zAi,zEq hbb]
    ·exact idle _ rfl
  ·exact idle _ rfl
 grind
theorem zWL {E:Env} {n:Nat} (h:E.vs[n]?=E.vs[j]?):∀ c:CV,(subC j n c).val E=c.val E:=by
 intro c;cases c <;> grind [subC,nQ,CV.val]
theorem CsOk.sub' {E:Env} {j n b:Nat} (h:E.vs[n]?=E.vs[j]?):∀ {o:Nat} {cs:List CV} {vs:List Value},CsOk E noX b o cs vs→CsOk E noX b o (cs.map (subC j n)) vs
 | _,[],[],_=>trivial
 | _,_ :: _,_ :: _,⟨h1,r⟩=>⟨h1.elim .inl fun h2=>.inr (by rw [zWL h]; exact h2),CsOk.sub' h r⟩
 | _,[],_ :: _,h=>h.elim
 | _,_ :: _,[],h=>h.elim
theorem EnsOk.sub' {E:Env} {H:Hp} {sl:List (SLV U)} {j n:Nat} (h:E.vs[n]?=E.vs[j]?):∀ {is:List EI} {es:List Ent},EnsOk noX E H sl is es→EnsOk noX E H sl (subR j n is) es
 | [],[],_=>trivial
 | .box b T cs :: _,_ :: _,⟨⟨vals,k,h1,h2,h3⟩,r⟩=>⟨⟨vals,k,h1,h2.sub' h,h3⟩,EnsOk.sub' h r⟩
 | .row i T :: _,_ :: _,⟨h1,r⟩=>⟨h1,EnsOk.sub' h r⟩
 | [],_ :: _,h=>h.elim
 | _ :: _,[],h=>h.elim
theorem zKm {j n:Nat}:∀ {en:List EI} {b:Nat},boxAt (subR j n en) b=(boxAt en b).map (List.map (subC j n))
 | [],_=>rfl
 | .box b' T cs :: en,b=>by
  simp only [subR,boxAt];cases Nat.beq b' b with
  | true=>rfl
  | false=>exact zKm
 | .row i T :: en,b=>by simp only [subR,boxAt]; exact zKm
theorem zRb {j b:Nat}:∀ {cs:List CV} {o q:Nat},cs[q]?=some (.ref j)→memX (refS j b o cs) b (o+q)=true
 | [],_,_,h=>by simp at h
 | c :: cs,o,0,h=>by
  simp only [List.getElem?_cons_zero,oI] at h;subst h;simp only [refS,Nat.beq_refl,cond_true,memX,Nat.add_zero,Bool.and_true,Bool.true_or]
 | c :: cs,o,q+1,h=>by
  have ih:=zRb (cs:=cs) (o:=o+1) (b:=b) (show cs[q]?=some (.ref j) from by simpa using h);have e:o+1+q=o+(q+1):=by omega
  rw [e] at ih;unfold refS;split
  ·rename_i h1; cases h1
  ·rename_i h1
   cases h1;cases Nat.beq _ j with
   | true=>simp only [cond_true,memX,ih,Bool.or_true]
   | false=>exact ih
  grind
theorem zQP {a b:List (Nat×Nat)} {u v:Nat}:memX (a++b) u v=(memX a u v||memX b u v):=by
 induction a <;> grind [memX]
theorem zNV {j:Nat}:∀ {en:List EI} {b o:Nat},zAi en b o=some (.ref j)→memX (refD j en) b o=true
 | [],_,_,h=>by cases h
 | .box b' T cs :: en,b,o,h=>by
  simp only [refD,zQP];simp only [zAi,boxAt] at h;cases hb:Nat.beq b' b with
  | true =>
   rw [hb,cond_true] at h;have:=nQ hb;subst this;have:=zRb (b:=b') (o:=0) (show cs[o]?=some (.ref j) from h)
   grind
  | false =>
   rw [hb,cond_false] at h;rw [zNV (en:=en) (show zAi en b o=some (.ref j) from h),Bool.or_true]
 | .row i T :: en,b,o,h=>by
  simp only [refD];exact zNV (en:=en) (show zAi en b o=some (.ref j) from h)
theorem zQK {n:Nat} {en:List EI} {b o:Nat} (h:memX (refD j en) b o=false):zAi (subR j n en) b o=zAi en b o:=by
 have e:zAi (subR j n en) b o=(zAi en b o).map (subC j n):=by
  grind [zAi,zKm]
 rw [e];cases hc:zAi en b o with
 | none=>rfl
 | some c =>
  cases c <;> grind [subC,nQ,zNV]
theorem zJb {j i n:Nat}:∀ {en:List EI},refD j (setRow en i n)=refD j en
 | []=>rfl
 | .box b T cs :: en=>by simp only [setRow,refD,zJb]
 | .row k T :: en=>by
  simp only [setRow];cases Nat.beq k i with
  | true=>rfl
  | false=>simp only [cond_false,refD,zJb]
theorem MR.bound {α:Type} [Enc α] {H:Hp} {b:Nat} {cur:Array Value} {e:TypeId} {xs:List α} {q:Nat} (h:MR H (.obj b (.cells cur e (0,0))) e v xs) (hq:q<xs.length):q*Enc.sz α+Enc.sz α≤xs.length*Enc.sz α∧xs.length*Enc.sz α≤cur.size:=by
 rcases h with ⟨_,h2,_⟩ | ⟨b',cap,cur0,cs,h1,h2,h3,h4,h5,h6,h7⟩
 ·grind
 ·cases h2
  have hqs:=Nat.mul_le_mul_right (Enc.sz α) (show q+1≤xs.length from hq);rw [Nat.succ_mul] at hqs;refine ⟨hqs,?_⟩;have h8:(cur.toList.take (xs.length*Enc.sz α)).length≤cur.toList.length:=by grind
  rw [h6,h7.length] at h8;exact h8
theorem MR.setAt {α : Type} [Enc α] {H : Hp} {b : Nat} {cur cur' : Array Value} {e : TypeId} {xs : List α} {q : Nat} {x : α} (h : MR H (.obj b (.cells cur e (0, 0))) e v xs) (hq : q < xs.length) (hx : Enc.cells H vs x)
    (hc:cur'.toList=cur.toList.take (q*Enc.sz α)++vs++cur.toList.drop (q*Enc.sz α+Enc.sz α)):MR H (.obj b (.cells cur' e (0,0))) e v (xs.set q x):=by
  obtain ⟨hb1,hb2⟩:=MR.bound h hq;have hlen:=Enc.len hx;rcases h with ⟨_,h2,_⟩ | ⟨b',cap,cur0,cs,h1,h2,h3,h4,h5,h6,h7⟩
  · grind
  · cases h2
    rw [← Array.length_toList] at hb2;generalize hA:q*Enc.sz α=A at hb1 hc;generalize hB:Enc.sz α=B at hb1 hc hlen;generalize hN:xs.length*Enc.sz α=N at h6;have hN':xs.length*B=N:=by grind
    rw [hB] at hb2;rw [hN'] at hb1 hb2;have hlt:(cur.toList.take A).length=A:=by grind
    have l1:(cur.toList.take A++vs).length=A+B:=by grind
    have hcs:cur'.toList.take N=cs.take A++vs++cs.drop (A+B):=by
      grind [List.drop_take,List.take_append,List.take_of_length_le]
    refine .inr ⟨b,cap,cur',cs.take A++vs++cs.drop (A+B),?_,rfl,by simpa using h3,h4,?_,?_,?_⟩
    · rw [h1]; simp
    · have hl:=congrArg List.length hc
      grind
    · grind
    · have hsplit : xs.set q x = xs.take q ++ x :: xs.drop (q + 1) := by
        rw [List.set_eq_take_append_cons_drop,if_pos hq]
      rw [hsplit];have c1:=h7.take q om;have c3:=h7.drop (q+1) om;rw [Nat.succ_mul] at c3;rw [hA] at c1 c3;rw [hB] at c3;rw [List.append_assoc];exact c1.append ⟨vs,_,rfl,hx,c3⟩
theorem zPb {d : Option Nat} {T : TypeId} {a x : Operand} {j q n m : Nat} {bb : Bool} {c : CV} {k : VS U → Option Ω} {r : Ω} (ha : opn N.n s a = some (.pe j q n)) (hx : opn N.n s x = some c) (hl : lay P T = some (bb, m)) (h : opStE d j q n m c s k = some r) (hr : RelE w0 H0 s f w E H L) {ty : TypeId} {pos : String} {af : Array Edge} {ops : Array Oper} {rest : List Oper} {Q : Fr → World → Prop}
    (K:Goes w0 H0 s d.toList E H k r (WL P N ops rest Q)):WL P N ops (⟨d,.store T a x,ty,pos,af,none⟩ :: rest) Q f w:=by
  unfold opStE at h;split at h
  case h_2=>cases h
  rename_i t xs e hm hrow;split at h
  case h_2=>cases h
  rename_i v hv;replace h:=cT h;obtain ⟨hc,h⟩:=h;rw [bQ,bQ] at hc;have hn:=nQ hc.1.1;have hmn:=nQ hc.1.2;subst hmn;obtain ⟨x0,hx0,h⟩:=bindE h;letI:Enc (t.T U.S):=t.enc U;have hq:=(List.getElem?_eq_some_iff.1 hx0).1;have hs:=zKq hm;obtain ⟨p,hp,hset⟩:=zEC (j:=s.sl.length) hrow;obtain ⟨en,he1,x2,v2,g1,g2,g3⟩:=hr.ens.get hp;rw [hs] at g1;cases g1;have g3:MR (α:=t.T U.S) H en e v2 xs:=g3;have g3':=g3;rcases g3 with ⟨_,h2,_⟩ | ⟨b,cap,cur,cs,h1,h2,h3,h4,h5,h6,h7⟩
  · exact absurd hq (by rw [h2]; exact Nat.not_lt_zero _)
  subst h1;subst h2;have hav:=zAy hr ha;simp only [CV.val,g2,oI] at hav;obtain ⟨vv,hvv,hR⟩:=zEL hr.sls hv;obtain ⟨hvs,hcs'⟩:=zRF hc.2 hR;have hxv:=zAy hr hx;rw [hvv] at hxv;cases hxv;have hsz:@Enc.sz _ (t.enc U)=Enc.sz (t.T U.S):=rfl;generalize hcc:(ev N f x).cells.toList=cs' at hcs';have hlen:cs'.length=m:=by rw [hn]; exact (t.enc U).len hcs'
  have hcells:(ev N f x).cells=⟨cs'⟩:=by rw [← hcc]
  have hqs:q*m+m≤cur.size:=by
    obtain ⟨hb1,hb2⟩:=MR.bound g3' hq
    grind
  refine W.storeO hr.st (ha:=hav.symm.trans (by rw [Addr.add_lit,Nat.zero_add]; rfl)) rfl he1 hl (by grind) (by rw [hcells]; exact List.all_eq_true.2 fun u hu=>(t.enc U).one hcs' u hu) hqs fun w' cur' hcur' S'=>?_
  rw [hcells] at hcur';have hm':MR (α:=t.T U.S) H (.obj b (.cells cur' e (0,0))) e (.slice (some ⟨b,0,none⟩) xs.length cap) (xs.set q v):=MR.setAt g3' hq hcs' (by rw [hcur',hn]);obtain ⟨a',c',hsh,_⟩:=hm'.shape;obtain ⟨E',qq,hvq⟩:=zAQ (s:=s) (t:=.mr t) (v:=.slice (some ⟨b,0,none⟩) xs.length cap) (x:=xs.set q v) hr.sls ⟨a',c',hsh⟩;have hvn:E'.vs[s.sl.length]?=E'.vs[j]?:=by
    rw [show E'.vs[s.sl.length]?=some (.slice (some ⟨b,0,none⟩) xs.length cap) from hvq,zD8 qq.le.vs g2]
  have hr3:RelE w0 H0 { s with sl:=s.sl++[⟨.mr t,xs.set q v⟩],en:=subR j s.sl.length (setRow s.en j s.sl.length),dt:=refD j s.en++s.dt } f w' E' H (L.set p (.obj b (.cells cur' e (0,0)))) :=
    ⟨S',hr.gl,qq.ok,by rw [qq.ps]; exact hr.pts.mono qq.le (Hp.le.refl H),by rw [qq.bs]; exact hr.nb,by
      refine EnsOk.sub' hvn ?_;rw [hset]; exact (hr.ens.mono qq.le (Hp.le.refl H) qq.sl).set ⟨⟨.mr t,xs.set q v⟩,_,zBd rfl,hvq,hm'⟩,fun t c hc=>CV.val_mono qq.le (hr.fr t c hc)⟩
  exact K _ _ _ _ _ _ h (hr3.set d rfl) (Ext.andSet ⟨⟨[⟨.mr t,xs.set q v⟩],rfl⟩,zAI _,nR _,fun _ _=>rfl,refD j s.en,rfl,fun b _ o hd=>by
    grind [zAi,zQK,zJb,zCb]⟩) qq.le (Hp.le.refl H)
theorem zNS {a : Operand} (h : zPz P N.n d T a x s k = some r) (hr : RelE w0 H0 s f w E H L)
    (K:Goes w0 H0 s d.toList E H k r (WL P N ops rest Q)):WL P N ops (⟨d,.store T a x,ty,pos,af,none⟩ :: rest) Q f w:=by
  unfold zPz at h;split at h
  case h_3=>cases h
  case h_2 =>
    grind [zPb]
  rename_i b o c bb n ha hx hl;obtain ⟨kb,hb,hv⟩:=zEr hr ha;obtain ⟨E1,H1,L1,hr,hxv,he0,hE0,hl0⟩:=zTB hr (zAy hr hx);have hb:=zD8 hE0.bs hb;generalize (stl s c).1=s1 at h hr he0;generalize (stl s c).2=c1 at h hxv;unfold opStC at h;split at h
  case h_2=>cases h
  rename_i l cs hcl hcs;obtain ⟨hc,h⟩:=cT h;simp only [bQ] at hc;obtain ⟨⟨c1,c2⟩,c3⟩:=hc;have c1:=nQ c1;have c2:=nL c2;obtain ⟨us,hus,hcells⟩:=zFX hr.sls hxv hcl;obtain ⟨i,T',g1,g2,g3⟩:=zKx (cs':=zHl cs o l) hcs;obtain ⟨e,e1,vals,k2,e2,e3,e4⟩:=hr.ens.get g1;rw [hb] at e2;cases e2;have e4:e=.box kb T' vals:=e4;subst e4;have hvals:=e3.vals;have hlen:=zCN hvals;have hul:=zCN hus;refine W.store (zEH vals o us) hr.st hv rfl e1 hl gR (by rw [hcells]; exact zMA hr.sls hus c3) om (by rw [hcells]) fun w2 S2=>?_
  have hr2:RelE w0 H0 { s1 with en:=zBg s1.en b (zHl cs o l),dt:=spots b o n++s1.dt } f w2 E1 H1 (L1.set i (.box kb T' (zEH vals o us))) :=
    ⟨S2,hr.gl,hr.sls,hr.pts,hr.nb,by rw [g2]; exact hr.ens.set ⟨_,kb,hb,CsOk.of_vals (zQD hvals hus),rfl⟩,hr.fr⟩
  refine K _ _ _ _ _ _ h (hr2.set d rfl) (Ext.andSet (Ext.trans (a:=[]) he0 ⟨zAI _,zAI _,nR _,fun _ _=>rfl,spots b o n,rfl,fun b' _ o' hm=>?_⟩)) hE0 hl0
  grind [zAi,zHl,zDA,zJ9,zF8,zBw]
theorem zPj {b : Nat} {j : Operand} (hx : opn N.n s x = some (.ptr b 0)) (h : opArr P N.n d T b j s k = some r) (hr : RelE w0 H0 s f w E H L)
    (K:Goes w0 H0 s d.toList E H k r (WL P N ops rest Q)):WL P N ops (⟨d,.slice T x none (some j) none,ty,pos,af,none⟩ :: rest) Q f w:=by
  unfold opArr at h;split at h
  case h_2=>cases h
  rename_i cs m d hcs hj;split at h
  case h_2=>cases h
  rename_i l n e hl hT;obtain ⟨hc,h⟩:=cT h;simp only [bQ] at hc;obtain ⟨⟨c1,c2⟩,c3⟩:=hc;have c1:=nQ c1;have c2:=nL c2;obtain ⟨ys,hy,h⟩:=bindE h;obtain ⟨kb,hb,hv⟩:=zEr hr hx;obtain ⟨i,T',g1,g2⟩:=zGr hcs;obtain ⟨en,e1,vals,k2,e2,e3,e4⟩:=hr.ens.get g1;rw [hb] at e2;cases e2;have e4:en=.box kb T' vals:=e4;subst e4;have hvals:vals=l.map Eng.int:=by
    have h1:=e3.vals
    grind [zMC]
  subst hvals;obtain ⟨H',hle,hs,_,S'⟩:=hr.st.settle e1;have hA:At H' ⟨kb,0,none⟩ (l.map Eng.int):=⟨T',_,rfl,hs,[],sI⟩;refine W.arrHi hA (Cells.ints (xs:=l)) hv (zBD hr hj) hT (Option.isSome_iff_exists.1 c3) c1 (by simp only [maxLen]; omega) hy fun v' hR=>?_
  obtain ⟨E2,e2',hr2,hp⟩:=(hr.step' S' hle (is:=zEu s.en b) (d2:=spots b 0 cs.length++s.dt) (by rw [g2]; exact (hr.ens.mono (Env.le_refl E) hle (zAI _)).erase)).newSl (t:=.int) hR;have hd:∀ o,zAi s.en b o=cs[o]?:=fun o=>by simp only [zAi,zJ9 hcs]
  refine K _ _ _ _ _ _ h (hr2.set (some d) hp) (Ext.andSet ⟨⟨[⟨.sl .int,ys⟩],rfl⟩,zAI _,nR _,fun _ _=>rfl,spots b 0 cs.length,rfl,fun b' _ o hm=>?_⟩) e2' hle
  show zAi (zEu s.en b) b' o=_
  by_cases hbb:b=b'
  · subst hbb
    have:=zF8 hm;rw [hd,List.getElem?_eq_none om];simp only [zAi,zKY hr.st (A:=[]) hr.ens rfl (zJ9 hcs)]
  · simp only [zAi,zEq hbb]
theorem zJm (hs:SlsOk H E.vs s.sl) {t:PT}:∀ {cs:List CV} {xs:List (t.T U.S)},getTs s t cs=some xs→∃ vs,CV.vals E cs=some vs∧vs.length=xs.length∧∀ (i:Nat) (v:Value) (x:t.T U.S),vs[i]?=some v→xs[i]?=some x→VR U H t v x
 | [],xs,h=>by cases h; exact ⟨[],rfl,rfl,fun i v x h=>by simp at h⟩
 | c :: cs,xs,h=>by
  simp only [getTs] at h;split at h
  case h_2=>cases h
  rename_i y hy;split at h
  case h_2=>cases h
  rename_i ys hys;cases h;obtain ⟨v,hv,h1⟩:=zEL hs hy;obtain ⟨vs,hvs,hl,h2⟩:=zJm hs hys;refine ⟨v :: vs,by simp only [CV.vals,hv,hvs],by rw [lC,lC,hl],fun i u x hu hx=>?_⟩
  grind
theorem zI9 {g:Operand→Value}:∀ {ps:List (Nat×Operand)} {n:Nat},zHU n ps=true→(ps.map fun p=>(p.1,g p.2))=(((ps.map Prod.snd).map g).zipIdx n).map fun x=>(x.2,x.1)
 | [],n,_=>rfl
 | p :: l,n,h=>by
  simp only [zHU,bQ] at h;rw [List.map_cons,zI9 h.2,nQ h.1];rfl
structure RawN (m:Nat) where
 val:List Value
 len:val.length=m+1
 one:∀ v ∈ val,v.oneCell'=true
@[reducible] def zWu (m:Nat):Enc (RawN m) where
 sz:=m+1
 cells _ cs x:=cs=x.val
 pos:=Nat.succ_pos m
 len {_ _ x} h:=by rw [h]; exact x.len
 mono h _:=h
 one {_ _ x} h v hv:=by rw [h] at hv; exact x.one v hv
theorem zL7 {m : Nat} (hs : SlsOk H E.vs s.sl) : ∀ {cs l : List CV} {vs : List Value}, flatC (m + 1) cs = some l → CV.vals E cs = some vs → l.all oneB = true →
  ∃ xs:List (RawN m),CV.vals E l=some (xs.flatMap RawN.val)∧xs.length=vs.length∧∀ (i:Nat) (v:Value) (x:RawN m),vs[i]?=some v→xs[i]?=some x→v.cells=x.val.toArray
 | [],l,vs,h,hv,ho=>by cases h; cases hv; exact ⟨[],rfl,rfl,fun i v x h=>by simp at h⟩
 | c :: r,l,vs,h,hv,ho=>by
  simp only [flatC] at h;split at h
  case h_2=>cases h
  rename_i l1 l2 h1 h2;obtain ⟨hb,h⟩:=cT h;cases h;rw [List.all_append,bQ] at ho;simp only [CV.vals] at hv;cases hc:c.val E with
  | none=>grind
  | some v =>
   cases hr:CV.vals E r with
   | none=>grind
   | some ws =>
    rw [hc,hr] at hv;cases hv;obtain ⟨us,hu,hcell⟩:=zFX hs hc h1;obtain ⟨xs,k1,k2,k3⟩:=zL7 hs h2 hr ho.2;have hone:∀ {l:List CV} {us:List Value},CV.vals E l=some us→l.all oneB=true→us.length=l.length∧∀ u ∈ us,u.oneCell'=true:=by
     intro l
     induction l with
     | nil=>intro us h _; cases h; simp
     | cons c l ih =>
      intro us h ho;simp only [CV.vals] at h;cases hc:c.val E with
      | none=>rw [hc] at h; cases h
      | some v =>
       cases hr:CV.vals E l with
       | none=>rw [hc,hr] at h; cases h
       | some ws =>
        rw [hc,hr] at h;cases h;rw [List.all_cons,bQ] at ho;obtain ⟨i1,i2⟩:=ih hr ho.2;exact ⟨by simp [i1],fun u hu=>by
         rcases List.mem_cons.1 hu with rfl | hu
         ·exact zIs hs hc ho.1
         ·exact i2 u hu⟩
    obtain ⟨o1,o2⟩:=hone hu ho.1;refine ⟨⟨us,by rw [o1]; exact nQ hb,o2⟩ :: xs,?_,by show xs.length+1=ws.length+1; rw [k2],fun i v' x' hv' hx'=>?_⟩ <;> grind [zGh]
theorem zO8 {m:Nat}:∀ {xs:List (RawN m)} {cs:List Value},@Cells (RawN m) (zWu m) H cs xs→cs=xs.flatMap RawN.val
 | [],cs,h=>h
 | x :: xs,cs,h=>by
  obtain ⟨c1,r,rfl,h1,h2⟩:=h;rw [List.flatMap_cons,← zO8 h2];rw [show c1=x.val from h1]
theorem zQE {d : Nat} {n : Nat} {ps : List (Nat × Operand)} (hcs : opns N.n s (ps.map Prod.snd) = some cs) (h : opBsk P d T n ps cs s k = some r) (hr : RelE w0 H0 s f w E H L)
    (K:Goes w0 H0 s [d] E H k r (WL P N ops rest Q)):WL P N ops (⟨some d,.buildSlice T n ps.toArray,ty,pos,af,none⟩ :: rest) Q f w:=by
  unfold opBsk at h;split at h
  case h_2=>cases h
  rename_i e he;split at h
  case h_2=>cases h
  rename_i bb m hl;split at h
  case h_2=>cases h
  rename_i l hfl;obtain ⟨hc,h⟩:=cT h;simp only [bQ] at hc;obtain ⟨⟨⟨⟨⟨c1,c2⟩,c3⟩,c4⟩,c5⟩,c6⟩:=hc;have c2:=nQ c2;have c3:=nL c3;have hev:=zE0 hr hcs;obtain ⟨xs,k1,k2,k3⟩:=zL7 hr.sls hfl hev c6;letI:=zWu m;have hlen:((ps.map Prod.snd).map (ev N f)).length=n:=by simp [c2]
  refine W.bslice ((ps.map Prod.snd).map (ev N f)) xs hr.st (zFg c4) (zI9 c1) hlen (by rw [k2]; exact hlen) (nL c5) (fun i v x hv hx=>?_) fun u w' H' hle hu S'=>?_
  · have:=k3 i v x hv hx
    exact ⟨by rw [this]; show x.val.toArray.size=m+1; rw [List.size_toArray]; exact x.len,by rw [this]; rfl⟩
  · obtain ⟨a,c,hue,_,_,hat⟩:=hu
    have hxl:xs.length=n:=by rw [k2]; exact hlen
    rcases hat with h0 | ⟨b,off,cs',ha,hA,hC⟩
    · rw [h0] at hxl; simp at hxl; omega
    subst ha;have hcs':=zO8 hC;subst hcs';have hne:xs.flatMap RawN.val≠[]:=by
      cases xs with
      | nil=>simp at hxl; omega
      | cons x xs =>
        rw [List.flatMap_cons];intro h0;have:=congrArg List.length h0;rw [lA,x.len] at this;simp at this
    obtain ⟨E1,p1,hv1⟩:=zAQ (s:=s) (t:=.mr .hid) (v:=u) (x:=List.replicate n ()) (hr.sls.mono hle) ⟨some ⟨b,off,none⟩,c,by rw [hue,hxl]; show _=Value.slice _ (List.replicate n ()).length _; rw [List.length_replicate]⟩
    have hr1:RelE w0 H0 (newMr s .hid (List.replicate n ())) f w' E1 H' L :=
      ⟨S'.drop _ (List.sublist_cons_self ..),hr.gl.mono hle,p1.ok,by rw [p1.ps]; exact hr.pts.mono p1.le hle,by rw [p1.bs]; exact hr.nb,hr.ens.mono p1.le hle p1.sl,fun t c hc=>CV.val_mono p1.le (hr.fr t c hc)⟩
    obtain ⟨E2,e2,hr2,hp⟩:=hr1.newPt (CV.vals_mono p1.le k1) hne hA;have hv2:E2.vs[s.sl.length]?=some u:=zD8 e2.vs hv1;have hp2:E2.ps[s.pt.length]?=some ⟨b,off,none⟩:=by
      simp only [CV.val] at hp;cases hq:E2.ps[(newMr s .hid (List.replicate n ())).pt.length]? with
      | none=>rw [hq] at hp; simp at hp
      | some q =>
        rw [hq] at hp;have:q.add 0=⟨b,off,none⟩:=by simpa using hp
        rw [add_zero'] at this;rw [← this]; exact hq
    refine K _ _ _ _ _ _ h (hr2.set (some d) ?_) (Ext.andSet (Ext.trans (a:=[]) (zUs .hid (List.replicate n ()) []) (zIb _ []))) (Env.le_trans p1.le e2) hle <;> grind [CV.val]
theorem zPg {n : Nat} {ps : List (Nat × Operand)} (h : opBsl P N.n d T n ps s k = some r) (hr : RelE w0 H0 s f w E H L)
    (K:Goes w0 H0 s d.toList E H k r (WL P N ops rest Q)):WL P N ops (⟨d,.buildSlice T n ps.toArray,ty,pos,af,none⟩ :: rest) Q f w:=by
  unfold opBsl at h;split at h
  case h_2=>cases h
  rename_i t d ht;split at h
  case h_3=>cases h
  case h_2 =>
    grind [zQE]
  rename_i e cs he hcs;split at h
  case h_2=>cases h
  rename_i xs hxs;obtain ⟨hc,h⟩:=cT h;simp only [bQ] at hc;obtain ⟨⟨⟨c1,c2⟩,c3⟩,c0⟩:=hc;have c2:=nQ c2;obtain ⟨vs,hvs,hl,hR⟩:=zJm hr.sls hxs;have hev:=zE0 hr hcs;rw [hvs] at hev;cases hev;letI:=t.enc U;have hlen:((ps.map Prod.snd).map (ev N f)).length=n:=by simp [c2]
  refine W.bslice ((ps.map Prod.snd).map (ev N f)) xs hr.st (zDf he) (zI9 c1) hlen om (nL c3) (fun i v x hv hx=>zRF c0 (hR i v x hv hx)) fun u w' H' hle hu S'=>?_
  have hr2:RelE w0 H0 s f w E H L:=hr;have hens:=hr.ens;obtain ⟨E',p,hv⟩:=zAQ (s:=s) (t:=.sl t) (hr.sls.mono hle) hu
  have hr3:RelE w0 H0 (newRow (newSl s t xs) s.sl.length e) f w' E' H' (.row u e (Enc.sz (t.T U.S)) xs.length :: L) :=
    ⟨S',hr.gl.mono hle,p.ok,by rw [p.ps]; exact hr.pts.mono p.le hle,by rw [p.bs]; exact hr.nb,⟨⟨⟨.sl t,xs⟩,u,zBd rfl,hv,rfl⟩,hr.ens.mono p.le hle p.sl⟩,fun t c hc=>CV.val_mono p.le (hr.fr t c hc)⟩
  exact K _ _ _ _ _ _ h (hr3.set (some d) hv) (Ext.andSet (Ext.trans (a:=[]) (zFa t xs []) (zE5 _ _ []))) p.le hle
theorem zOW {d : Option Nat} {T T' : TypeId} {x y : Operand} {k : VS U → Option Ω} {r : Ω} (h : zSk P N.n d x y T T' s k = some r) (hr : RelE w0 H0 s f w E H L) {ty : TypeId} {pos : String} {af : Array Edge} {ops : Array Oper} {rest : List Oper} {Q : Fr → World → Prop}
    (K:Goes w0 H0 s d.toList E H k r (WL P N ops rest Q)):WL P N ops (⟨d,.call ⟨.builtin .append,#[x,y],#[T,T']⟩,ty,pos,af,none⟩ :: rest) Q f w:=by
  unfold zSk at h;split at h
  case h_2=>cases h
  rename_i ys d e hy he;replace h:=cT h;obtain ⟨hst,h⟩:=h;have hE:Elem P T e 1:=zDf he;split at h
  · rename_i v hx
    replace h:=cT h;obtain ⟨hn,h⟩:=h;obtain ⟨zs,hz,h⟩:=bindE h;have hxv:=zDb hr hx;rw [zB5 hn] at hxv;refine W.appStr (xs:=[]) (i:=0) (hr.st.addNil e 1) hE (zF7 hst) rfl hxv (zE3 hr hy) Sl.nil hz fun v' w' H' hle hv' S'=>?_
    obtain ⟨E',p,hv⟩:=zAQ (s:=s) (t:=.sl .byt) (hr.sls.mono hle) hv'
    have hr3:RelE w0 H0 (newRow (newSl s .byt zs) s.sl.length e) f w' E' H' (.row v' e 1 zs.length :: L) :=
      ⟨S',hr.gl.mono hle,p.ok,by rw [p.ps]; exact hr.pts.mono p.le hle,by rw [p.bs]; exact hr.nb,⟨⟨⟨.sl .byt,zs⟩,v',zBd rfl,hv,rfl⟩,hr.ens.mono p.le hle p.sl⟩,fun t c hc=>CV.val_mono p.le (hr.fr t c hc)⟩
    exact K _ _ _ _ _ _ h (hr3.set (some d) hv) (Ext.andSet (Ext.trans (a:=[]) (zFa .byt zs []) (zE5 _ _ []))) p.le hle
  · rename_i i hx
    split at h
    case h_2=>cases h
    rename_i xs e' hxs hrow;replace h:=cT h;obtain ⟨hee,h⟩:=h;have hee:=nQ hee;subst hee;obtain ⟨zs,hz,h⟩:=bindE h;have hxv:=zAy hr hx;obtain ⟨v,hv,hX⟩:=zBX hr.sls hxs;rw [hv] at hxv;cases hxv;obtain ⟨p,hp,hset⟩:=zEC (j:=s.sl.length) hrow;obtain ⟨en,he1,x2,v2,g1,g2,g3⟩:=hr.ens.get hp;simp only [CV.val] at hv;rw [hv] at g2;cases g2;rw [zKa hxs] at g1;cases g1;have g3:en=.row (ev N f x) e 1 (List.length xs):=g3;subst g3;refine W.appStr (xs:=xs) (i:=p) hr.st hE (zF7 hst) he1 rfl (zE3 hr hy) hX hz fun v' w' H' hle hv' S'=>?_
    obtain ⟨E',q,hvq⟩:=zAQ (s:=s) (t:=.sl .byt) (hr.sls.mono hle) hv'
    have hr3:RelE w0 H0 { newSl s .byt zs with en:=setRow s.en i s.sl.length } f w' E' H' (L.set p (.row v' e 1 zs.length)) :=
      ⟨S',hr.gl.mono hle,q.ok,by rw [q.ps]; exact hr.pts.mono q.le hle,by rw [q.bs]; exact hr.nb,by rw [hset]; exact (hr.ens.mono q.le hle q.sl).set ⟨⟨.sl .byt,zs⟩,v',zBd rfl,hvq,rfl⟩,fun t c hc=>CV.val_mono q.le (hr.fr t c hc)⟩
    exact K _ _ _ _ _ _ h (hr3.set (some d) hvq) (Ext.andSet ⟨⟨[⟨.sl .byt,zs⟩],rfl⟩,zAI _,nR _,fun _ _=>rfl,[],rfl,fun b _ o _=>by simp only [zAi,zCb]⟩) q.le hle
  · cases h
theorem zZP:∀ {x y:Operand},sameT x y=true→x=y
 | x,y,h=>by cases x <;> cases y <;> simp_all [sameT]
theorem zSF {d : Option Nat} {T : TypeId} {x y : Operand} {k : VS U → Option Ω} {r : Ω} (h : opMs P N.n d T x y s k = some r) (hr : RelE w0 H0 s f w E H L) {ty : TypeId} {pos : String} {af : Array Edge} {ops : Array Oper} {rest : List Oper} {Q : Fr → World → Prop}
    (K:Goes w0 H0 s d.toList E H k r (WL P N ops rest Q)):WL P N ops (⟨d,.makeSlice T x y,ty,pos,af,none⟩ :: rest) Q f w:=by
  unfold opMs at h;split at h
  case h_2=>cases h
  rename_i t d ht;split at h
  case h_2=>cases h
  rename_i e a n he hx hy;replace h:=cT h;obtain ⟨c2,h⟩:=h;have c2:=nQ c2;split at h
  case h_2=>cases h
  rename_i zv hz;letI:=t.enc U;have hE:=zDf he;rw [c2] at hE;cases c0:sameT x y with
  | true =>
    rw [c0,cond_true] at h;obtain rfl:x=y:=zZP c0;rw [hx] at hy;cases hy;split at h
    case h_2=>cases h
    rename_i z hzz;replace h:=cT h;obtain ⟨c3,h⟩:=h;obtain ⟨zs,hzs,h⟩:=bindE h;obtain ⟨v,hv,hR⟩:=zEL hr.sls hzz;rw [zN1 zv] at hv;cases hv;refine W.makeMr (α:=t.T U.S) hr.st hE c2 (zBD hr hx) (zBD hr hx) hz (zZN c3 hR) hzs fun v en w' hM S'=>?_
    obtain ⟨a',c',hsh,_⟩:=hM.shape;obtain ⟨E',p,hv⟩:=zAQ (s:=s) (t:=.mr t) (v:=v) (x:=zs) hr.sls ⟨a',c',hsh⟩
    have hr3:RelE w0 H0 (newRow (newMr s t zs) s.sl.length e) f w' E' H (en :: L) :=
      ⟨S',hr.gl,p.ok,by rw [p.ps]; exact hr.pts.mono p.le (Hp.le.refl H),by rw [p.bs]; exact hr.nb,⟨⟨⟨.mr t,zs⟩,v,zBd rfl,hv,hM⟩,hr.ens.mono p.le (Hp.le.refl H) p.sl⟩,fun t c hc=>CV.val_mono p.le (hr.fr t c hc)⟩
    exact K _ _ _ _ _ _ h (hr3.set (some d) hv) (Ext.andSet ⟨⟨[⟨.mr t,zs⟩],rfl⟩,zAI _,nR _,fun _ _=>rfl,[],rfl,fun _ _ _ _=>rfl⟩) p.le (Hp.le.refl H)
  | false =>
    rw [c0,cond_false] at h;replace h:=cT h;obtain ⟨c1,h⟩:=h;have c1:=dT c1;subst c1;obtain ⟨u,hu,h⟩:=bindE h;refine W.makeRow (α:=t.T U.S) hr.st hE c2 (zBD hr hx) (zBD hr hy) hz hu fun v w' H' hle hu' S'=>?_
    obtain ⟨E',p,hv⟩:=zAQ (s:=s) (t:=.sl t) (hr.sls.mono hle) hu'
    have hr3:RelE w0 H0 (newRow (newSl s t []) s.sl.length e) f w' E' H' (.row v e 1 0 :: L) :=
      ⟨S',hr.gl.mono hle,p.ok,by rw [p.ps]; exact hr.pts.mono p.le hle,by rw [p.bs]; exact hr.nb,⟨⟨⟨.sl t,[]⟩,v,zBd rfl,hv,by rw [← c2]; rfl⟩,hr.ens.mono p.le hle p.sl⟩,fun t c hc=>CV.val_mono p.le (hr.fr t c hc)⟩
    exact K _ _ _ _ _ _ h (hr3.set (some d) hv) (Ext.andSet (Ext.trans (a:=[]) (zFa t [] []) (zE5 _ _ []))) p.le hle
theorem zQG {d : Option Nat} {T : TypeId} {x y : Operand} {k : VS U → Option Ω} {r : Ω} (h : opApp P N.n d x y T s k = some r) (hr : RelE w0 H0 s f w E H L) {ty : TypeId} {pos : String} {af : Array Edge} {ops : Array Oper} {rest : List Oper} {Q : Fr → World → Prop}
    (K:Goes w0 H0 s d.toList E H k r (WL P N ops rest Q)):WL P N ops (⟨d,.call ⟨.builtin .append,#[x,y],#[T,T]⟩,ty,pos,af,none⟩ :: rest) Q f w:=by
  unfold opApp at h;split at h
  case h_2=>cases h
  rename_i j d hy;split at h
  case h_2=>cases h
  rename_i ys hj;split at h
  case h_2=>cases h
  rename_i e he;obtain ⟨u,hu,hsY⟩:=zO7 hr.sls hj;have hyv:=zAy hr hy;rw [hu] at hyv;have hyv:=oJ hyv;letI:=ys.t.enc U;split at h
  · rename_i v hx
    replace h:=cT h;obtain ⟨hn,h⟩:=h;obtain ⟨zs,hz,h⟩:=bindE h;have hxv:=zDb hr hx;rw [zB5 hn] at hxv;refine W.app (i:=0) (hr.st.addNil e (Enc.sz (ys.t.T U.S))) (zDf he) rfl hxv hyv.symm Sl.nil hsY hz fun v' w' H' hle hv' S'=>?_
    obtain ⟨E',p,hv⟩:=zAQ (s:=s) (t:=.sl ys.t) (hr.sls.mono hle) hv'
    have hr3:RelE w0 H0 (newRow (newSl s ys.t zs) s.sl.length e) f w' E' H' (.row v' e (Enc.sz (ys.t.T U.S)) zs.length :: L) :=
      ⟨S',hr.gl.mono hle,p.ok,by rw [p.ps]; exact hr.pts.mono p.le hle,by rw [p.bs]; exact hr.nb,⟨⟨⟨.sl ys.t,zs⟩,v',zBd rfl,hv,rfl⟩,hr.ens.mono p.le hle p.sl⟩,fun t c hc=>CV.val_mono p.le (hr.fr t c hc)⟩
    exact K _ _ _ _ _ _ h (hr3.set (some d) hv) (Ext.andSet (Ext.trans (a:=[]) (zFa ys.t zs []) (zE5 _ _ []))) p.le hle
  · rename_i i hx
    split at h
    case h_3=>cases h
    · rename_i xs e' hxs hrow
      replace h:=cT h;obtain ⟨hee,h⟩:=h;have hee:=nQ hee;subst hee;obtain ⟨zs,hz,h⟩:=bindE h;have hxv:=zAy hr hx;obtain ⟨v,hv,hX⟩:=zBX hr.sls hxs;rw [hv] at hxv;cases hxv;obtain ⟨p,hp,hset⟩:=zEC (j:=s.sl.length) hrow;obtain ⟨en,he1,x2,v2,g1,g2,g3⟩:=hr.ens.get hp;simp only [CV.val] at hv;rw [hv] at g2;cases g2;rw [zKa hxs] at g1;cases g1;have g3:en=.row (ev N f x) e (Enc.sz (ys.t.T U.S)) xs.length:=g3;subst g3;refine W.app (i:=p) hr.st (zDf he) he1 rfl hyv.symm hX hsY hz fun v' w' H' hle hv' S'=>?_
      obtain ⟨E',q,hvq⟩:=zAQ (s:=s) (t:=.sl ys.t) (hr.sls.mono hle) hv'
      have hr3:RelE w0 H0 { newSl s ys.t zs with en:=setRow s.en i s.sl.length } f w' E' H' (L.set p (.row v' e (Enc.sz (ys.t.T U.S)) zs.length)) :=
        ⟨S',hr.gl.mono hle,q.ok,by rw [q.ps]; exact hr.pts.mono q.le hle,by rw [q.bs]; exact hr.nb,by rw [hset]; exact (hr.ens.mono q.le hle q.sl).set ⟨⟨.sl ys.t,zs⟩,v',zBd rfl,hvq,rfl⟩,fun t c hc=>CV.val_mono q.le (hr.fr t c hc)⟩
      exact K _ _ _ _ _ _ h (hr3.set (some d) hvq) (Ext.andSet ⟨⟨[⟨.sl ys.t,zs⟩],rfl⟩,zAI _,nR _,fun _ _=>rfl,[],rfl,fun b _ o _=>by simp only [zAi,zCb]⟩) q.le hle
    · rename_i e' hnone hrow
      split at h
      case h_2=>cases h
      rename_i xs hxs;replace h:=cT h;obtain ⟨hee,h⟩:=h;have hee:=nQ hee;subst hee;obtain ⟨zs,hz,h⟩:=bindE h;have hxv:=zAy hr hx;obtain ⟨v,hv,hX⟩:=zBX hr.sls hxs;rw [hv] at hxv;cases hxv;obtain ⟨p,hp,hset⟩:=zEC (j:=s.sl.length) hrow;obtain ⟨en,he1,x2,v2,g1,g2,g3⟩:=hr.ens.get hp;simp only [CV.val] at hv;rw [hv] at g2;cases g2;rw [zJ8 hxs] at g1;cases g1;have g3:MR H en e (ev N f x) xs:=g3;refine W.appM (i:=p) hr.st (zDf he) he1 rfl hyv.symm g3 hsY hz fun v' en' w' hm S'=>?_
      obtain ⟨a',c',hsh,_⟩:=hm.shape;obtain ⟨E',q,hvq⟩:=zAQ (s:=s) (t:=.mr ys.t) (v:=v') (x:=zs) hr.sls ⟨a',c',hsh⟩
      have hr3:RelE w0 H0 { newMr s ys.t zs with en:=setRow s.en i s.sl.length } f w' E' H (L.set p en') :=
        ⟨S',hr.gl,q.ok,by rw [q.ps]; exact hr.pts.mono q.le (Hp.le.refl H),by rw [q.bs]; exact hr.nb,by rw [hset]; exact (hr.ens.mono q.le (Hp.le.refl H) q.sl).set ⟨⟨.mr ys.t,zs⟩,v',zBd rfl,hvq,hm⟩,fun t c hc=>CV.val_mono q.le (hr.fr t c hc)⟩
      exact K _ _ _ _ _ _ h (hr3.set (some d) hvq) (Ext.andSet ⟨⟨[⟨.mr ys.t,zs⟩],rfl⟩,zAI _,nR _,fun _ _=>rfl,[],rfl,fun b _ o _=>by simp only [zAi,zCb]⟩) q.le (Hp.le.refl H)
  · cases h
end
end Go.VI
