/- A part. -/
import Derived.Test.YtihjhdoinmfddaaGreatDoorVr17
import Derived.Test.YtihjhdoinmfddaaGreatDoorProg
import Derived.LaidEql
import Derived.Stop.Asserts
import Derived.RowKitTokens
import Derived.Stop.LaidErr
set_option linter.unusedVariables false
set_option linter.unusedSimpArgs false
set_option maxHeartbeats 4000000
set_option maxRecDepth 20000
namespace Go.VI
open Go Go.Eng
section
variable {U:UV} {P:Program}
def zRq (e:TypeId):Spec U where
 run s vs k :=
  match vs with
  | [.raw v]=>bif zBc v then k (newSl s .str []) (.ref s.sl.length) else none
  | [.ref i] =>
   (match get1 s (.mr .str) (.ref i),rowAt s.en i with
   | some xs,some e'=>bif Nat.beq e e' then (xapp [] xs).bind fun zs=>k (newSl s .str zs) (.ref s.sl.length) else none
   | _,_=>none)
  | _=>none
 runq _ _ _:=none
theorem cl_ok {k : FuncId} {e : TypeId}
    (C:∀ {w0 ws:World} {H0 Hs:Hp} {L2:List Ent},St w0 H0 ws Hs L2→∀ {p:Nat} {en:Ent} {v:Value} {xs zs:List Str},L2[p]?=some en→MR (α:=Str) Hs en e v xs→xapp [] xs=some zs →
      ConS P k [v] w0 H0 ws Hs L2 (fun H' v' L'=>L'=[]∧Sl (α:=Str) H' v' zs)):SpecOk P k (zRq (U:=U) e) where
  sound:=by
    intro Ω s vs kk r h w0 H0 f w E H L hr args ha K hK;have fin:∀ {M:List Ent} {p:Nat} {en:Ent} {v:Value} {xs zs:List Str},M.Sublist M→St w0 H0 w H M→(∀ {w' H'},St w0 H0 w' H' M→St w0 H0 w' H' L)→M[p]?=some en→MR (α:=Str) H en e v xs→xapp [] xs=some zs→kk (newSl s .str zs) (.ref s.sl.length)=some r→zPO P k [v].toArray w K:=by
      intro M p en v xs zs _ S hdrop hp hM hz hk;obtain ⟨c1,c2⟩:=C S hp hM hz;refine .inl ⟨c1,Calls.mono c2 fun x w' ⟨v',H',L',hx,hle,hS,hL,hR⟩=>⟨v',hx,?_⟩⟩;subst hL;have S':=hdrop (show St w0 H0 w' H' M from hS);obtain ⟨E',hE,hr3,hv⟩:=(hr.step S' hle).newSl (t:=.str) hR
      grind [zFa]
    unfold zRq at h;simp only at h;split at h
    · rename_i v
      replace h:=cT h;obtain ⟨hn,h⟩:=h;have hv0:=zB5 hn;subst hv0;cases ha;exact fin (List.Sublist.refl _) (hr.st.addNil e 1) (fun S=>S.drop L (List.sublist_cons_self ..)) (p:=0) rfl MR.nil (zs:=[]) rfl h
    · rename_i i
      split at h
      case h_2=>cases h
      rename_i xs e' hxs hrow;replace h:=cT h;obtain ⟨hee,h⟩:=h;have hee:=nQ hee;subst hee;obtain ⟨zs,hz,h⟩:=bindE h;obtain ⟨p,en,x2,v2,g1,z1,z2,z3⟩:=zK0 hrow hr.ens;rw [zJ8 hxs] at z1;cases z1;have hv:args=[v2]:=by
        grind [CV.vals,CV.val]
      subst hv;exact fin (List.Sublist.refl _) hr.st (fun S=>S) g1 (show MR (α:=Str) H en e v2 xs from z3) hz h
    · cases h
  quiet:=by
    intro Ω s vs kk r h;cases h
end
section
variable {U:UV} {P:Program}
def zQt (R Tp:TypeId):Spec U where
 run s vs k :=
  match vs with
  | [.raw .nilIface,_]=>k s (.boo false)
  | [.ifc T (.agg [cn,ce]),.ifc T' (.ptr b 0)] =>
   bif Nat.beq T R&&Nat.beq T' Tp&&oneB cn&&oneB ce then
    (match bxT s.en b with
    | some (T2,[_,_])=>bif Nat.beq T2 R then k { s with en:=zBg s.en b [cn,ce],dt:=spots b 0 2++s.dt } (.boo true) else none
    | _=>none)
   else none
  | _=>none
 runq _ _ _:=none
theorem zNp:∀ {en:List EI} {b T:Nat} {cs cs':List CV},bxT en b=some (T,cs)→∃ i:Nat,en[i]?=some (EI.box b (T+1) cs)∧zBg en b cs'=en.set i (.box b (T+1) cs')
 | [],_,_,_,_,h=>by cases h
 | .box b' T' cs0 :: en,b,T,cs,cs',h=>by
  simp only [bxT] at h;cases hb:Nat.beq b' b with
  | true =>
   rw [hb,cond_true] at h;have e:=nQ hb;subst e;split at h
   ·cases h
   ·cases h; exact ⟨0,rfl,by simp [zBg]⟩
  | false =>
   rw [hb,cond_false] at h;obtain ⟨i,h1,h2⟩:=zNp (cs':=cs') h;exact ⟨i+1,by simpa using h1,by simp [zBg,hb,h2]⟩
 | .row k T' :: en,b,T,cs,cs',h=>by
  simp only [bxT] at h;obtain ⟨i,h1,h2⟩:=zNp (cs':=cs') h;exact ⟨i+1,by simpa using h1,by simp [zBg,h2]⟩
theorem as_ok {k R Tp : TypeId} (hent : ∀ (args : Array Value) (w : World), (callFunc k args).run P w = .ok (.enter k args) w)
    (C0:∀ (t:Value) (w:World),Calls P k #[.nilIface,t] w fun e w'=>e=.returned (.bool false)∧w'=w)
    (C1:∀ {w0 w:World} {H0 H:Hp} {L:List Ent} {q kb:Nat} {o1 o2 n e:Value},U.gw w0→GlOk U H→St w0 H0 w H L→L[q]?=some (.box kb R [o1,o2])→n.oneCell'=true→e.oneCell'=true →
      Calls P k #[.iface R (.agg #[n,e]),.iface Tp (.pointer (some ⟨kb,0,none⟩))] w fun ev w'=>ev=.returned (.bool true)∧St w0 H0 w' H (L.set q (.box kb R [n,e]))):SpecOk P k (zQt (U:=U) R Tp) where
  sound:=by
    intro Ω s vs kk r h w0 H0 f w E H L hr args ha K hK;unfold zQt at h;simp only at h;split at h
    · rename_i c
      have hargs:∃ t,args=[.nilIface,t]:=by
        grind [CV.vals,CV.val]
      obtain ⟨t,rfl⟩:=hargs;refine .inl ⟨hent _,Calls.mono (C0 t w) fun x w' ⟨hx,hw⟩=>⟨_,hx,?_⟩⟩;subst hw;exact hK _ _ _ _ _ _ _ h hr ⟨zAI _,zAI _,nR _,fun _ _=>rfl,[],rfl,fun _ _ _ _=>rfl⟩ (Env.le_refl E) (Hp.le.refl H) rfl
    · rename_i T cn ce T' b
      replace h:=cT h;obtain ⟨hc,h⟩:=h;simp only [bQ] at hc;obtain ⟨⟨⟨c1,c2⟩,c3⟩,c4⟩:=hc;have c1:=nQ c1;have c2:=nQ c2;subst c1;subst c2;split at h
      case h_2=>cases h
      rename_i T2 x1 x2 hbx;replace h:=cT h;obtain ⟨h2,h⟩:=h;have h2:=nQ h2;subst h2;have hcs:=zQi hbx;obtain ⟨i,g1,gset⟩:=zNp (cs':=[cn,ce]) hbx;obtain ⟨en,e1,vals,k2,e2,e3,e4⟩:=hr.ens.get g1;have e4:en=.box k2 T2 vals:=e4;subst e4;have hvals:=e3.vals;have hlen:=zCN hvals;obtain ⟨o1,o2,rfl⟩:∃ o1 o2,vals=[o1,o2]:=by
        match vals,hlen with
        | [o1,o2],_=>grind
      cases hn:cn.val E with
      | none=>simp [CV.vals,CV.val,hn] at ha
      | some n =>
      cases he:ce.val E with
      | none=>simp [CV.vals,CV.val,hn,he] at ha
      | some e =>
      have hargs:args=[.iface T2 (.agg #[n,e]),.iface T' (.pointer (some ⟨k2,0,none⟩))]:=by
        simp only [CV.vals,CV.val,hn,he,e2,Option.map_some,oI] at ha;exact ha.symm
      subst hargs;refine .inl ⟨hent _,Calls.mono (C1 hr.gl.gw hr.gl.gl hr.st e1 (zIs hr.sls hn c3) (zIs hr.sls he c4)) fun x w' ⟨hx,S'⟩=>⟨_,hx,?_⟩⟩
      have hr3:RelE w0 H0 { s with en:=zBg s.en b [cn,ce],dt:=spots b 0 2++s.dt } f w' E H (L.set i (.box k2 T2 [n,e])) :=
        ⟨S',hr.gl,hr.sls,hr.pts,hr.nb,by rw [gset]; exact hr.ens.set ⟨_,k2,e2,CsOk.of_vals (by simp only [CV.vals,hn,he]),rfl⟩,hr.fr⟩
      refine hK _ _ _ _ _ _ _ h hr3 ⟨zAI _,zAI _,nR _,fun _ _=>rfl,spots b 0 2,rfl,fun b' _ o hm=>?_⟩ (Env.le_refl E) (Hp.le.refl H) rfl
      show zAi (zBg s.en b [cn,ce]) b' o=_
      by_cases hbb:b=b'
      · subst hbb
        have:=zF8 hm
        grind [zAi,zDA,zJ9]
      grind [zAi,zBw]
    · cases h
  quiet:=by
    intro Ω s vs kk r h;cases h
end
section
variable {U:UV} {P:Program}
def zM7 (F:TypeId):Spec U where
 run s vs k :=
  match vs with
  | [.ifc T (.agg [cn,.ref i]),.ref j] =>
   bif Nat.beq T F&&oneB cn then
    (match erOf s.sl i,erOf s.sl j with
    | some g,some g'=>bif U.se g&&U.se g' then k s (.boo (Nat.beq g g')) else none
    | _,_=>none)
   else none
  | _=>none
 runq _ _ _:=none
theorem zQu {sl:List (SLV U)} {i g:Nat} (h:erOf sl i=some g):sl[i]?=some ⟨.er,g⟩:=by
 unfold erOf at h
 grind
theorem is_ok {k F : TypeId} (hent : ∀ (args : Array Value) (w : World), (callFunc k args).run P w = .ok (.enter k args) w)
    (C:∀ {w0 w:World} {H0 H:Hp} {L:List Ent} {n v v':Value} {g g':Nat},U.gw w0→St w0 H0 w H L→U.se g=true→U.se g'=true→ErR H v g→ErR H v' g' →
      Calls P k #[.iface F (.agg #[n,v]),v'] w fun ev w'=>ev=.returned (.bool (Nat.beq g g'))∧St w0 H0 w' H L):SpecOk P k (zM7 (U:=U) F) where
  sound:=by
    intro Ω s vs kk r h w0 H0 f w E H L hr args ha K hK;unfold zM7 at h;simp only at h;split at h
    · rename_i T cn i j
      replace h:=cT h;obtain ⟨hc,h⟩:=h;rw [bQ] at hc;have c1:=nQ hc.1;subst c1;split at h
      case h_2=>cases h
      rename_i g g' hg hg';replace h:=cT h;obtain ⟨hse,h⟩:=h;rw [bQ] at hse;obtain ⟨v,hv,hR⟩:=hr.sls.get (zQu hg);obtain ⟨v',hv',hR'⟩:=hr.sls.get (zQu hg');cases hn:cn.val E with
      | none=>simp [CV.vals,CV.val,hn] at ha
      | some n =>
      have hargs:args=[.iface T (.agg #[n,v]),v']:=by
        simp only [CV.vals,CV.val,hn,hv,hv',Option.map_some,oI] at ha;exact ha.symm
      subst hargs;refine .inl ⟨hent _,Calls.mono (C hr.gl.gw hr.st hse.1 hse.2 hR hR') fun x w' ⟨hx,S'⟩=>⟨_,hx,?_⟩⟩;exact hK _ _ _ _ _ _ _ h ⟨S',hr.gl,hr.sls,hr.pts,hr.nb,hr.ens,hr.fr⟩ ⟨zAI _,zAI _,nR _,fun _ _=>rfl,[],rfl,fun _ _ _ _=>rfl⟩ (Env.le_refl E) (Hp.le.refl H) rfl
    · cases h
  quiet:=by
    intro Ω s vs kk r h;cases h
def Sent (w:World) (g:Nat) (T:TypeId) (t:Str):Prop :=
 ∃ (a:Addr) (Tg Te:TypeId) (fz:Nat×Nat) (ca:Array Value),w.heap[g]?=some (.cells #[.iface T (.pointer (some a))] Tg fz)∧w.heap[a.block]?=some (.cells ca Te (0,0))∧w.cell? a=some (Eng.str t)
theorem Sent.post {w0 w:World} {H0 H:Hp} {g:Nat} {T:TypeId} {t:Str} (h:Sent w0 g T t) (p:Post w0 H0 w H):Sent w g T t:=by
 obtain ⟨a,Tg,Te,fz,ca,h1,h2,h3⟩:=h;have e:w.heap[a.block]?=w0.heap[a.block]?:=p.below.block a.block (Array.getElem?_eq_some_iff.1 h2).1;exact ⟨a,Tg,Te,fz,ca,by rw [p.below.block g (Array.getElem?_eq_some_iff.1 h1).1]; exact h1,by rw [e]; exact h2,by grind [World.cell?]⟩
theorem Sent.val {w:World} {H:Hp} {g:Nat} {T:TypeId} {t:Str} {v:Value} (h:Sent w g T t) (hw:Holds w H) (k:ErR H v g):∃ a ca Te,v=.iface T (.pointer (some a))∧w.heap[a.block]?=some (.cells ca Te (0,0))∧w.cell? a=some (Eng.str t):=by
 obtain ⟨a,Tg,Te,fz,ca,h1,h2,h4⟩:=h;refine ⟨a,ca,Te,?_,h2,h4⟩;have h3:=k.2.cell hw (j:=0) (v:=v) rfl;have e:(⟨g,0,none⟩:Addr).add 0=⟨g,0,none⟩:=rfl
 grind [World.cell?]
theorem zYP {k F T : TypeId} {txt : Nat → Str} (hent : ∀ (args : Array Value) (w : World), (callFunc k args).run P w = .ok (.enter k args) w)
    (hs:∀ w g,U.gw w→U.se g=true→Sent w g T (txt g)) (hinj:∀ g g',U.se g=true→U.se g'=true→txt g=txt g'→g=g')
    (C1:∀ (n:Value) (b:Addr) (w:World),Calls P k #[.iface F (.agg #[n,.iface T (.pointer (some b))]),.iface T (.pointer (some b))] w fun e w'=>e=.returned (.bool true)∧∃ o,w'=w.alloc o)
    (C2:∀ (n:Value) (a b:Addr) (ca cb:Array Value) (ta tb:TypeId) (w:World),a≠b→w.heap[a.block]?=some (.cells ca ta (0,0))→w.heap[b.block]?=some (.cells cb tb (0,0)) →
      Calls P k #[.iface F (.agg #[n,.iface T (.pointer (some a))]),.iface T (.pointer (some b))] w fun e w'=>e=.returned (.bool false)∧∃ o,w'=w.alloc o):SpecOk P k (zM7 (U:=U) F) :=
  is_ok hent fun {w0 w H0 H L n v v' g g'} hgw S hg hg' hv hv'=>by
    have hgw':=U.gw_post hgw S.post;obtain ⟨b,cb,Te,e,hb,tb⟩:=(hs w g hgw' hg).val S.holds hv;obtain ⟨b',cb',Te',e',hb',tb'⟩:=(hs w g' hgw' hg').val S.holds hv';subst e;subst e';cases hbe:Nat.beq g g' with
    | true =>
      have:=nQ hbe;subst this;have hbb:b=b':=by
        obtain ⟨b2,Tg,Te2,fz,ca,h1,h2⟩:=hs w g hgw' hg;have key:∀ {c:Addr},ErR H (.iface T (.pointer (some c))) g→c=b2:=fun {c} hc=>by
          have h3:=hc.2.cell S.holds (j:=0) (v:=_) rfl;have e:(⟨g,0,none⟩:Addr).add 0=⟨g,0,none⟩:=rfl
          grind [World.cell?]
        grind
      subst hbb;exact Calls.mono (C1 n _ w) fun x w' ⟨hx,o,hw⟩=>⟨hx,by subst hw; exact S.view o⟩
    | false =>
      have hne:b≠b':=fun h=>by
        subst h;rw [tb] at tb';have ht:txt g=txt g':=by
          grind [Eng.str]
        have:=hinj g g' hg hg' ht;simp_all
      exact Calls.mono (C2 n _ _ _ _ _ _ w hne hb hb') fun x w' ⟨hx,o,hw⟩=>⟨hx,by subst hw; exact S.view o⟩
end
section
variable {U:UV} {P:Program} {s:VS U} {f:Fr} {w w0:World} {H0 H:Hp} {E:Env} {L:List Ent}
def zJQ (s:VS U):CV→VS U×CV
 | .ref i=>(match mrOf s.sl i,rowAt s.en i with
  | some x,some _=>({ newSl s x.t x.xs with en:=zDn s.en i },.ref s.sl.length)
  | _,_=>(s,.ref i))
 | c=>(s,c)
theorem zLQ {c : CV} {v : Value} (hr : RelE w0 H0 s f w E H L) (hc : c.val E = some v) :
  ∃ E' H' L',RelE w0 H0 (zJQ s c).1 f w E' H' L'∧Ext s (zJQ s c).1 []∧E.le E'∧H.le H'∧(zJQ s c).2.val E'=some v∧(zJQ s c).1.fr=s.fr:=by
 have triv:∃ E' H' L',RelE w0 H0 s f w E' H' L'∧Ext s s []∧E.le E'∧H.le H'∧c.val E'=some v∧s.fr=s.fr:=⟨E,H,L,hr,Ext.refl s [],Env.le_refl E,Hp.le.refl H,hc,rfl⟩;cases c with
 | ref i =>
  simp only [zJQ];split
  ·rename_i x T hm hrow
   obtain ⟨t,xs⟩:=x;letI:=t.enc U;have hs:=zKq hm;obtain ⟨p,hp,hdel⟩:=zEB hrow;obtain ⟨en,he1,x2,v2,g1,g2,g3⟩:=hr.ens.get hp;rw [hs] at g1;cases g1;simp only [CV.val,g2,oI] at hc;subst hc;have g3:MR H en T v2 xs:=g3;obtain ⟨H',hle,hSl,S'⟩:=hr.st.settleM he1 g3;obtain ⟨E',q,hvq⟩:=zAQ (s:=s) (t:=.sl t) (v:=v2) (x:=xs) (hr.sls.mono hle) hSl;refine ⟨E',H',L.eraseIdx p,⟨S',hr.gl.mono hle,q.ok,by rw [q.ps]; exact hr.pts.mono q.le hle,by rw [q.bs]; exact hr.nb,?_,fun t c hc=>CV.val_mono q.le (hr.fr t c hc)⟩,⟨⟨[⟨.sl t,xs⟩],rfl⟩,zAI _,nR _,fun _ _=>rfl,[],rfl,fun b _ o _=>by simp only [zAi,zFY]⟩,q.le,hle,hvq,rfl⟩
   show EnsOk noX E' H' _ (zDn s.en i) (L.eraseIdx p)
   rw [hdel];exact (hr.ens.mono q.le hle q.sl).erase
  ·exact triv
 | _=>exact triv
def stl1 (S:Spec U):Spec U where
 run s vs k:=match vs with
  | c :: r=>S.run (zJQ s c).1 ((zJQ s c).2 :: r) k
  | []=>none
 runq _ _ _:=none
theorem zXx {g:FuncId} {S:Spec U} (h:SpecOk P g S):SpecOk P g (stl1 S) where
 sound:=by
  intro Ω s vs k r hrun w0 H0 f w E H L hr args ha K hK;simp only [stl1] at hrun;split at hrun
  case h_2=>cases hrun
  rename_i c vs;have hc:∃ v az,c.val E=some v∧CV.vals E vs=some az∧args=v :: az:=by
   grind [CV.vals]
  obtain ⟨v,az,h1,h2,e⟩:=hc;subst e;obtain ⟨E1,H1,L1,hr1,he1,hE1,hl1,hv1,_⟩:=zLQ hr h1;exact h.sound hrun hr1 (by grind [CV.vals,CV.vals_mono]) fun s' w' E' H' L' c' v' hk hr' he hE hl hc'=>hK _ _ _ _ _ _ _ hk hr' (Ext.trans (a:=[]) (b:=[]) he1 he) (Env.le_trans hE1 hE) (hl1.trans hl) hc'
 quiet:=by
  intro Ω s vs k r hrun;cases hrun
end
end Go.VI
namespace Go.Proofs
open Go Go.RowKit Go.Extern.Stop Go.Stop Go.Extern
theorem zQ6 (v:Value) (w:World):(Extern.ReflectliteType.typeOf #[.iface 437 v]).run Tryz.prog w=.ok (.iface 184 (.agg #[.pointer (some ⟨10,437,none⟩)])) w:=by kernel_rfl
theorem zK8 (w:World):((Extern.ReflectliteType.method fun t=>do Extern.Rtype.noPackHeld "Comparable" t; (fun a=>Value.bool a.comparable) <$> typeInfo t) #[.agg #[.pointer (some ⟨10,437,none⟩)]]).run Tryz.prog w=.ok (.bool true) w:=by kernel_rfl
theorem zGl (v:Value) (w:World):(Go.method 568 184 v "Comparable").run Tryz.prog w=.ok (380,v) w:=by kernel_rfl
theorem zWm:(Tryz.prog.info? 437).map (·.comparable)=some true:=by kernel_rfl
theorem zWd:(Tryz.prog.info? 456).map (·.size)=some 1:=by kernel_rfl
theorem noIsE (v:Value) (xT:TypeId) (w:World):(Instr.typeAssert (.iface 437 v) xT 390 true).run Tryz.prog w=.ok (.tuple #[.nilIface,.bool false]) w:=run_typeAssert_lacksB Tryz.underlying390 (by kernel_rfl) (by kernel_rfl) v xT w
theorem zPS (v:Value) (xT:TypeId) (w:World):(Instr.typeAssert (.iface 437 v) xT 192 true).run Tryz.prog w=.ok (.tuple #[.nilIface,.bool false]) w:=run_typeAssert_lacksB Tryz.underlying192 (by kernel_rfl) (by kernel_rfl) v xT w
theorem zM4 (v:Value) (xT:TypeId) (w:World):(Instr.typeAssert (.iface 437 v) xT 194 true).run Tryz.prog w=.ok (.tuple #[.nilIface,.bool false]) w:=run_typeAssert_lacksB Tryz.underlying194 (by kernel_rfl) (by kernel_rfl) v xT w
theorem noIsF (v:Value) (xT:TypeId) (w:World):(Instr.typeAssert (.iface 334 v) xT 390 true).run Tryz.prog w=.ok (.tuple #[.nilIface,.bool false]) w:=run_typeAssert_lacksB Tryz.underlying390 (by kernel_rfl) (by kernel_rfl) v xT w
theorem zM1 (v:Value) (xT:TypeId) (w:World):(Instr.typeAssert (.iface 334 v) xT 192 true).run Tryz.prog w=.ok (.tuple #[.iface 334 v,.bool true]) w:=by kernel_rfl
theorem zJy (v:Value) (w:World):(Go.method 568 334 v "Unwrap").run Tryz.prog w=.ok (391,v) w:=by kernel_rfl
theorem zNj (a : Value) (b : Addr) (w : World) (ha : a = .iface 437 (.pointer (some b))) (pt : Value) :
  Calls Tryz.prog 248 #[.iface 334 (.agg #[pt,a]),.iface 437 (.pointer (some b))] w fun e w'=>e=.returned (.bool true)∧w'=w.alloc (.cells #[pt,.iface 437 (.pointer (some b))] 334):=by
 subst ha;obtain ⟨i,hi,hcmp⟩:=Option.map_eq_some_iff.1 zWm;obtain ⟨j,hj,hjs⟩:=Option.map_eq_some_iff.1 zWd;have h104:=@run_callFunc_extern Tryz.prog 104 _ Extern.ReflectliteType.typeOf Tryz.func104 (by kernel_rfl) (by kernel_rfl) (by kernel_rfl) (by kernel_rfl);have h380:=@run_callFunc_extern Tryz.prog 380 _ (Extern.ReflectliteType.method fun t=>do Extern.Rtype.noPackHeld "Comparable" t; pure (.bool (← typeInfo t).comparable)) Tryz.func380 (by kernel_rfl) (by kernel_rfl) (by kernel_rfl) (by kernel_rfl);have tT:=zQ6;have cT:=zK8;have mR:=zGl;have nE:=noIsE;have uE:=zPS;have vE:=zM4;have nF:=noIsF;have uF:=zM1;have mU:=zJy;have heq:=fun w=>run_eql_iface_ptr_same (P:=Tryz.prog) w b Tryz.underlying67 Tryz.underlying437 hi hcmp hj
 have hty:=run_eql_iface_types (P:=Tryz.prog) 334 437 (.agg #[pt,.iface 437 (.pointer (some b))]) (.pointer (some b)) Tryz.underlying67 (by decide)
 go_enter Tryz.func248,Tryz.ntmps248
 go_wp2
 refine wp_loop_rounds 2 ?_;rw [rounds_succ]
 go_wp2
 rw [rounds_succ]
 go_wp2
 go_ret
 exact ⟨rfl,rfl⟩
theorem zMw (a b : Addr) (ca cb : Array Value) (ta tb : TypeId) (w : World) (pt : Value) (hne : a ≠ b) (ha : w.heap[a.block]? = some (.cells ca ta (0, 0))) (hb : w.heap[b.block]? = some (.cells cb tb (0, 0))) :
  Calls Tryz.prog 248 #[.iface 334 (.agg #[pt,.iface 437 (.pointer (some a))]),.iface 437 (.pointer (some b))] w fun e w'=>e=.returned (.bool false)∧w'=w.alloc (.cells #[pt,.iface 437 (.pointer (some a))] 334):=by
 obtain ⟨i,hi,hcmp⟩:=Option.map_eq_some_iff.1 zWm;obtain ⟨j,hj,hjs⟩:=Option.map_eq_some_iff.1 zWd;have h104:=@run_callFunc_extern Tryz.prog 104 _ Extern.ReflectliteType.typeOf Tryz.func104 (by kernel_rfl) (by kernel_rfl) (by kernel_rfl) (by kernel_rfl);have h380:=@run_callFunc_extern Tryz.prog 380 _ (Extern.ReflectliteType.method fun t=>do Extern.Rtype.noPackHeld "Comparable" t; pure (.bool (← typeInfo t).comparable)) Tryz.func380 (by kernel_rfl) (by kernel_rfl) (by kernel_rfl) (by kernel_rfl);have tT:=zQ6;have cT:=zK8;have mR:=zGl;have nE:=noIsE;have uE:=zPS;have vE:=zM4;have nF:=noIsF;have uF:=zM1;have mU:=zJy;have hq:∀ {c:Addr} {o:Obj},w.heap[c.block]?=some o→(w.alloc (.cells #[pt,.iface 437 (.pointer (some a))] 334)).heap[c.block]?=some o:=fun {c o} h=>by
  have hl:=(Array.getElem?_eq_some_iff.1 h).1;simp only [World.alloc]
  grind
 have heq:=run_eql_iface_ptr_other (P:=Tryz.prog) (w.alloc (.cells #[pt,.iface 437 (.pointer (some a))] 334)) Tryz.underlying67 Tryz.underlying437 hi hcmp hj (by rw [hjs]; decide) hne (hq ha) (hq hb);have hty:=run_eql_iface_types (P:=Tryz.prog) 334 437 (.agg #[pt,.iface 437 (.pointer (some a))]) (.pointer (some b)) Tryz.underlying67 (by decide)
 go_enter Tryz.func248,Tryz.ntmps248
 go_wp2
 refine wp_loop_rounds 2 ?_;rw [rounds_succ]
 go_wp2
 rw [rounds_succ]
 go_wp2
 go_ret
 exact ⟨rfl,rfl⟩
end Go.Proofs
namespace Go.VI
open Go Go.Eng
section
variable {U:UV} {P:Program}
def zPR (Tt:TypeId) (ta:PT) (Te:TypeId) (g:U.S Tt→Option (List (ta.T U.S)×List (U.S Te))):Spec U where
 run s vs k :=
  match vs with
  | [c]=>(match getT s (.st Tt) c with
   | some x=>(g x).bind fun y=>k { s with sl:=s.sl++[⟨.sl ta,y.1⟩]++[⟨.mr (.st Te),y.2⟩],en:=.row (s.sl.length+1) Te :: s.en } (.agg [.ref s.sl.length,.ref (s.sl.length+1)])
   | none=>none)
  | _=>none
 runq _ _ _:=none
theorem ct_ok {k Tt : TypeId} {ta : PT} {Te : TypeId} {g : U.S Tt → Option (List (ta.T U.S) × List (U.S Te))}
    (C:∀ {w0 ws:World} {H0 Hs:Hp} {L2:List Ent},U.gw w0∧GlOk U H0→St w0 H0 ws Hs L2→∀ {v:Value} {x:U.S Tt} {y},VR U Hs (.st Tt) v x→g x=some y →
      ConS P k [v] w0 H0 ws Hs L2 (fun H' v' L'=>∃ va vb en,L'=[en]∧v'=agg [va,vb]∧@Sl (ta.T U.S) (ta.enc U) H' va y.1∧@MR (U.S Te) (U.enc Te) H' en Te vb y.2)):SpecOk P k (zPR (U:=U) Tt ta Te g) where
  sound:=by
    intro Ω s vs kk r h w0 H0 f w E H L hr args ha K hK;unfold zPR at h;simp only at h;split at h
    case h_2=>cases h
    rename_i c;split at h
    case h_2=>cases h
    rename_i x hx;obtain ⟨y,hy,h⟩:=bindE h;obtain ⟨v,hv,hR⟩:=zEL hr.sls hx;have hargs:args=[v]:=by
      grind [CV.vals]
    subst hargs;obtain ⟨c1,c2⟩:=C ⟨hr.gl.gw,hr.gl.g0⟩ hr.st hR hy;refine .inl ⟨c1,Calls.mono c2 fun x' w' ⟨v',H',L',hx',hle,hS,va,vb,en,hL,hv',hA,hB⟩=>⟨v',hx',?_⟩⟩;subst hL;subst hv';letI:Enc (U.S Te):=U.enc Te;have hS:St w0 H0 w' H' (en :: L):=hS;obtain ⟨E1,p1,h1⟩:=zAQ (s:=s) (t:=.sl ta) (v:=va) (x:=y.1) (hr.sls.mono hle) hA;obtain ⟨a',c',hsh,_⟩:=MR.shape hB;obtain ⟨E2,p2,h2⟩:=zAQ (s:=(put1 s (.sl ta) y.1).1) (t:=.mr (.st Te)) (v:=vb) (x:=y.2) p1.ok ⟨a',c',hsh⟩;have hlen:(put1 s (.sl ta) y.1).1.sl.length=s.sl.length+1:=by simp [put1]
    have h2':(CV.ref (s.sl.length+1)).val E2=some vb:=by rw [← hlen]; exact h2
    have hsl2:(put1 (put1 s (.sl ta) y.1).1 (.mr (.st Te)) y.2).1.sl[s.sl.length+1]?=some ⟨.mr (.st Te),y.2⟩:=by
      rw [← hlen];exact zBd rfl
    have hr3:RelE w0 H0 { s with sl:=s.sl++[⟨.sl ta,y.1⟩]++[⟨.mr (.st Te),y.2⟩],en:=.row (s.sl.length+1) Te :: s.en } f w' E2 H' (en :: L) :=
      ⟨hS,hr.gl.mono hle,p2.ok,by rw [p2.ps,p1.ps]; exact hr.pts.mono (Env.le_trans p1.le p2.le) hle,by rw [p2.bs,p1.bs]; exact hr.nb,
        ⟨⟨⟨.mr (.st Te),y.2⟩,vb,hsl2,h2',hB⟩,hr.ens.mono (Env.le_trans p1.le p2.le) hle ⟨[⟨.sl ta,y.1⟩,⟨.mr (.st Te),y.2⟩],sI⟩⟩,fun t c hc=>CV.val_mono (Env.le_trans p1.le p2.le) (hr.fr t c hc)⟩
    refine hK _ _ _ _ _ _ _ h hr3 ⟨⟨[⟨.sl ta,y.1⟩,⟨.mr (.st Te),y.2⟩],sI⟩,zAI _,nR _,fun _ _=>rfl,[],rfl,fun b _ o _=>rfl⟩ (Env.le_trans p1.le p2.le) hle ?_;simp only [CV.val,CV.vals];have h1':=CV.val_mono p2.le h1
    grind [put1,CV.val]
  quiet:=by
    intro Ω s vs kk r h;cases h
def zIN (s:VS U):List CV→VS U×List CV
 | []=>(s,[])
 | c :: r=>((zIN (zJQ s c).1 r).1,(zJQ s c).2 :: (zIN (zJQ s c).1 r).2)
def stlA (s:VS U):CV→VS U×CV
 | .agg l=>((zIN s l).1,.agg (zIN s l).2)
 | c=>(s,c)
section
variable {s:VS U} {f:Fr} {w w0:World} {H0 H:Hp} {E:Env} {L:List Ent}
theorem zKS : ∀ {l : List CV} {s : VS U} {E : Env} {H : Hp} {L : List Ent} {vs : List Value}, RelE w0 H0 s f w E H L → CV.vals E l = some vs →
  ∃ E' H' L',RelE w0 H0 (zIN s l).1 f w E' H' L'∧Ext s (zIN s l).1 []∧E.le E'∧H.le H'∧CV.vals E' (zIN s l).2=some vs
 | [],s,E,H,L,vs,hr,h=>⟨E,H,L,hr,Ext.refl s [],Env.le_refl E,Hp.le.refl H,h⟩
 | c :: l,s,E,H,L,vs,hr,h=>by
  simp only [CV.vals] at h;cases h1:c.val E with
  | none=>grind
  | some v =>
   cases h2:CV.vals E l with
   | none=>grind
   | some us =>
    rw [h1,h2] at h;cases h;obtain ⟨E1,H1,L1,hr1,he1,hE1,hl1,hv1,_⟩:=zLQ hr h1;obtain ⟨E2,H2,L2,hr2,he2,hE2,hl2,hv2⟩:=zKS hr1 (CV.vals_mono hE1 h2);exact ⟨E2,H2,L2,hr2,Ext.trans (a:=[]) (b:=[]) he1 he2,Env.le_trans hE1 hE2,hl1.trans hl2,by simp only [zIN,CV.vals,CV.val_mono hE2 hv1,hv2]⟩
theorem zSM {c : CV} {v : Value} (hr : RelE w0 H0 s f w E H L) (hc : c.val E = some v) :
  ∃ E' H' L',RelE w0 H0 (stlA s c).1 f w E' H' L'∧Ext s (stlA s c).1 []∧E.le E'∧H.le H'∧(stlA s c).2.val E'=some v:=by
 cases c with
 | agg l =>
  simp only [CV.val] at hc;cases h:CV.vals E l <;> grind [zKS,stlA,CV.val]
 | _=>exact ⟨E,H,L,hr,Ext.refl s [],Env.le_refl E,Hp.le.refl H,hc⟩
end
def stl3 (S:Spec U):Spec U where
 run s vs k:=match vs with
  | [a,b,c]=>S.run (stlA s c).1 [a,b,(stlA s c).2] k
  | _=>none
 runq _ _ _:=none
theorem zW5 {g:FuncId} {S:Spec U} (h:SpecOk P g S):SpecOk P g (stl3 S) where
 sound:=by
  intro Ω s vs k r hrun w0 H0 f w E H L hr args ha K hK;simp only [stl3] at hrun;split at hrun
  case h_2=>cases hrun
  rename_i a b c;simp only [CV.vals] at ha;cases h1:a.val E with
  | none=>grind
  | some va =>
  cases h2:b.val E with
  | none=>grind
  | some vb =>
  cases h3:c.val E with
  | none=>grind
  | some vc =>
  rw [h1,h2,h3] at ha;cases ha;obtain ⟨E1,H1,L1,hr1,he1,hE1,hl1,hv1⟩:=zSM hr h3;exact h.sound hrun hr1 (by grind [CV.vals,CV.val_mono]) fun s' w' E' H' L' c' v' hk hr' he hE hl hc'=>hK _ _ _ _ _ _ _ hk hr' (Ext.trans (a:=[]) (b:=[]) he1 he) (Env.le_trans hE1 hE) (hl1.trans hl) hc'
 quiet:=by
  intro Ω s vs k r hrun;cases hrun
end
end Go.VI
namespace Go.VI
open Go Go.Eng Go.ChangeShapes Go.WideShapes Go.ChangeAt
variable {P:Program} {W:World}
theorem zIM {n nm : String} {text : List UInt8} {l : List (String × DataW Unit)} {g : Nat} {ti tp te ts : TypeId} {ms : Array (String × TypeId)} {f : Field}
    (hm:(n,DataW.iface nm (.ptr (.agg [.lit (.string text)]))) ∈ l) (h:laidMet P l W)
    (hg:P.globalNamed n=some g) (ht:(P.globals[g]?).map (·.type)=some ti) (hi:P.underlying ti=some (.interface ms)) (hrow:∀ u,P.typeName? 3 u=some nm→u=tp)
    (hp:P.underlying tp=some (.pointer te)) (he:P.underlying te=some (.struct #[f])) (hft:f.type=ts) (hfo:f.offset=0) (hs:P.underlying ts=some .string) (hc:P.cellsOf te=1) (hcs:P.cellsOf ts=1) :
    Sent W g tp text∧∃ a,W.var? P n=some #[.iface tp (.pointer (some a))]:=by
  induction l with
  | nil=>cases hm
  | cons x l ih =>
    rcases List.mem_cons.1 hm with hm | hm
    · subst hm
      obtain ⟨ps,⟨g0,t0,cs0,f0,p0,q0,hg0,ht0,hv0,hd0,_,e0⟩,_,hrows⟩:=h;obtain rfl:=oJ (hg.symm.trans hg0);obtain rfl:=oJ (ht.symm.trans ht0);subst e0;obtain ⟨l0⟩:=cs0;have ok0:∀ u v,l0=[.iface u v]→Value.okWide P W .any 0 u v:=fun u v e=>by
        subst e;exact (hrows g 0 (by simp [MemPlace.row])).2 u v (by simpa using World.var?_cell hg0 hv0 0)
      obtain ⟨a0,s0,rfl,hc0,hs0,_,rfl⟩:=errorString_of_trod hi hrow hp he hft hfo hs hc hcs hd0 ok0;obtain ⟨c0,t0,hb0⟩:=(hrows a0.block a0.off (by simp [MemPlace.row])).1;refine ⟨?_,a0,hv0⟩;have hv1:=hv0;unfold World.var? at hv1;rw [hg0,Option.bind_some] at hv1;split at hv1
      case h_2=>cases hv1
      rename_i cs Tg fz hh;cases hv1;refine ⟨a0,Tg,t0,fz,c0,hh,hb0,?_⟩;rw [hc0];subst hs0;rfl
    · exact ih hm (Go.laidMet.tail h)
theorem zTu {n:String} {g:Nat} {cs:Array Value} (hg:P.globalNamed n=some g) (h:W.var? P n=some cs):At (Hp.of W) ⟨g,0,none⟩ cs.toList:=by
 unfold World.var? at h;rw [hg,Option.bind_some] at h;split at h
 case h_2=>cases h
 rename_i cs' Tg fz hh;cases h;exact ⟨Tg,cs.toList,rfl,Hp.of_cells hh,[],sI⟩
theorem zMr {n : String} {s : List UInt8} {l : List (String × DataW Unit)} {u ty : TypeId}
    (hm:(n,DataW.iface "internal/reflectlite.rtype" (.agg [.ptr (.lit (.string s))])) ∈ l) (h:laidMetH P l W)
    (hu:(P.cutTypes.find? (·.1== "internal/reflectlite.rtype")).map (·.2)=some u) (hq:((List.range P.types.size).all fun t=>!(P.rowNamed t s)||t==ty)=true) :
    W.var? P n=some #[.iface u (.agg #[typeHandle P ty])]:=by
  unfold laidMetH at h;have hx:(n,DataW.iface "internal/reflectlite.rtype" (.agg [.ptr (.lit (.string s))])) ∈ l.filter fun x=>x.2.handleName?.isSome:=List.mem_filter.2 ⟨hm,rfl⟩
  split at h
  · grind
  · rename_i e
    rw [e] at hx;have h2:=h.2 _ hx;have e2:(DataW.iface (H:=Unit) "internal/reflectlite.rtype" (.agg [.ptr (.lit (.string s))])).funcsIn?=none:=rfl;simp only [e2] at h2;obtain ⟨name,u',ty',h3,h4,h5,h6,h7⟩:=h2;obtain rfl:=oJ (hu.symm.trans h4);have h3:some s=some name:=h3
    grind
def RdQ (P:Program) (t:TypeId) (α:Type) [Enc α] (Q:α→Prop):Prop :=
 ∀ (X:Type) (enc:TypeId×Value→X) (W:World) (fuel:Nat) (cs:List Value) (x:DataW X×List MemPlace),DataW.trod enc P W 0 (fun _=>true) true fuel t cs=some x→∃ a:α,Enc.cells (Hp.of W) cs a∧Q a
theorem zPd {X : Type} {enc : TypeId × Value → X} {t : TypeId} {fs : Array Field} {α : Type} [Enc α] {Q : α → Prop} {v : Value} {d : DataW X} {p : List MemPlace} {base : Nat} (ht : P.underlying t = some (.struct fs)) (hr : RdQ P t α Q)
    (hv:Value.okWide P W .any base t v) (h:DataW.Trod enc P W 0 (fun _=>true) true t v d p):∃ cs a,v=agg cs∧Enc.cells (α:=α) (Hp.of W) cs a∧Q a:=by
  obtain ⟨cs,rfl,_⟩:=okWide_struct ht hv;obtain ⟨fuel,h⟩:=h;obtain ⟨a,ha,hq⟩:=hr X enc W fuel _ _ h;exact ⟨cs.toList,a,rfl,ha,hq⟩
theorem zXB {t : TypeId} {X : Type} {enc : TypeId × Value → X} {fuel : Nat} {l : Str} {x : DataW X × List MemPlace} (ht : P.underlying t = some .string)
    (h:DataW.trod enc P W 0 (fun _=>true) true fuel t [Eng.str l]=some x):l.length≤9223372036854775807:=by
  obtain ⟨s,e,hs⟩:=DataW.trod_string ht h;have e:Eng.str l=.string s:=by simpa using e
  have e2:s=⟨⟨l⟩⟩:=by
    unfold Eng.str at e
    grind
  subst e2;exact hs.2
theorem Sent.erR {w:World} {g:Nat} {T:TypeId} {t:Str} (h:Sent w g T t):∃ v,ErR (Hp.of w) v g:=by
 obtain ⟨a,Tg,Te,fz,ca,h1,_,_⟩:=h;exact ⟨_,⟨T,a,rfl⟩,Tg,_,rfl,Hp.of_cells h1,[],rfl⟩
end Go.VI
