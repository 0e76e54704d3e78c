/- A part. -/
import Derived.Test.YtihjhdoinmfddaaGreatDoorVr4
set_option linter.unusedVariables false
set_option linter.unusedSimpArgs false
namespace Go.VI
open Go Go.Eng
section
variable {U:UV} {P:Program} {G:Gam U} {N:Frm} {s s':VS U} {f:Fr} {w w' w0:World} {H0 H H':Hp} {E:Env} {L:List Ent} {Ω:Type} {X:Nat→Nat→Bool}
theorem zZF:∀ {t:PT} {v:Value} {x:t.T U.S},stR U.S U.enc H t (CellR U.S U.enc H t) v x→VR U H t v x
 | .int,_,_,h=>h
 | .byt,_,_,h=>h
 | .boo,_,_,h=>h
 | .str,_,_,h=>h
 | .sl _,_,_,h=>h
 | .mr _,_,_,h=>h
 | .mp _,_,_,h=>h
 | .hid,_,_,h=>h
 | .po _,_,_,h=>h
 | .er,_,_,h=>h
 | .st _,_,_,h=>h
theorem zWY:∀ {t:PT} {v:Value} {x:t.T U.S},VR U H t v x→stR U.S U.enc H t (CellR U.S U.enc H t) v x
 | .int,_,_,h=>h
 | .byt,_,_,h=>h
 | .boo,_,_,h=>h
 | .str,_,_,h=>h
 | .sl _,_,_,h=>h
 | .mr _,_,_,h=>h
 | .mp _,_,_,h=>h
 | .hid,_,_,h=>h
 | .po _,_,_,h=>h
 | .er,_,_,h=>h
 | .st _,_,_,h=>h
theorem MapR.get {α:Type} {r:Value→α→Prop} {k:Str} {zc:Value} {z:α} (hz:r zc z):∀ {m:List (Str×Value)} {n:List (Str×α)},MapR r m n→r (mget m k zc).1 (mget n k z).1∧(mget m k zc).2=(mget n k z).2
 | [],[],_=>⟨hz,rfl⟩
 | p :: m,q :: n,⟨h1,h2,h3⟩=>by
  have ih:=MapR.get (k:=k) hz h3
  grind [mget]
 | [],_ :: _,h=>h.elim
 | _ :: _,[],h=>h.elim
theorem MapR.set {α:Type} {r:Value→α→Prop} {k:Str} {v:Value} {x:α} (hv:r v x):∀ {m:List (Str×Value)} {n:List (Str×α)},MapR r m n→MapR r (mset m k v) (mset n k x)
 | [],[],_=>⟨rfl,hv,trivial⟩
 | p :: m,q :: n,⟨h1,h2,h3⟩=>by
  have ih:=MapR.set (k:=k) hv h3;simp only [mset,h1];cases k==q.1 with
  | true=>exact ⟨rfl,hv,h3⟩
  | false=>exact ⟨h1,h2,ih⟩
 | [],_ :: _,h=>h.elim
 | _ :: _,[],h=>h.elim
theorem MapR.del {α:Type} {r:Value→α→Prop} {k:Str}:∀ {m:List (Str×Value)} {n:List (Str×α)},MapR r m n→MapR r (mdel m k) (mdel n k)
 | [],[],_=>trivial
 | p :: m,q :: n,⟨h1,h2,h3⟩=>by
  have ih:=MapR.del (k:=k) h3;simp only [mdel,h1];cases k==q.1 with
  | true=>exact h3
  | false=>exact ⟨h1,h2,ih⟩
 | [],_ :: _,h=>h.elim
 | _ :: _,[],h=>h.elim
theorem zLm:∀ {en:List EI} {b i:Nat},mpAt en b=some i→boxAt en b=some [.ref i]
 | [],_,_,h=>by cases h
 | .row _ _ :: en,b,i,h=>zLm (en:=en) h
 | .box b' T cs :: en,b,i,h=>by
  simp only [mpAt] at h;simp only [boxAt];cases hb:Nat.beq b' b with
  | true =>
   grind
  | false=>rw [hb] at h; exact zLm (en:=en) h
theorem zNv:∀ {en:List EI} {L:List Ent} {b i:Nat},mpAt en b=some i→EnsOk noX E H s.sl en L→∃ (p k:Nat) (m:List (Str×Value)),en[p]?=some (EI.box b 0 [.ref i])∧(∀ cs',zBg en b cs'=en.set p (.box b 0 cs'))∧L[p]?=some (.mp k (encm (fun v=>v) m))∧E.bs[b]?=some k∧E.vs[i]?=some (encM m)
 | [],_,_,_,h,_=>by cases h
 | _ :: _,[],_,_,_,h=>h.elim
 | .row _ _ :: en,e :: L,b,i,h,he=>by
  obtain ⟨p,k,m,h1,h2,h3⟩:=zNv (en:=en) h he.2;exact ⟨p+1,k,m,by simpa using h1,fun cs'=>by simp [zBg,h2],by simpa using h3⟩
 | .box b' T cs :: en,e :: L,b,i,h,he=>by
  simp only [mpAt] at h;cases hb:Nat.beq b' b with
  | true =>
   rw [hb,cond_true] at h;have:=nQ hb;subst this;split at h
   case h_2=>cases h
   cases h;obtain ⟨vals,k,g1,g2,m,g3,g4⟩:=he.1;subst g3;refine ⟨0,k,m,rfl,fun cs'=>by simp [zBg],by rw [g4]; rfl,g1,?_⟩;have:=g2.1;exact this.elim (fun h=>by cases h) fun h=>h
  | false =>
   rw [hb] at h;obtain ⟨p,k,m,h1,h2,h3⟩:=zNv (en:=en) h he.2;exact ⟨p+1,k,m,by simpa using h1,fun cs'=>by simp [zBg,hb,h2],by simpa using h3⟩
theorem zJX (hr:RelE w0 H0 s f w E H L) {b:Nat} {y:SLM U} (h:mapOf s b=some y):∃ (p k i:Nat) (m:List (Str×Value)),mpAt s.en b=some i∧s.en[p]?=some (EI.box b 0 [.ref i])∧(∀ cs',zBg s.en b cs'=s.en.set p (.box b 0 cs'))∧L[p]?=some (.mp k (encm (fun v=>v) m))∧E.bs[b]?=some k∧MapR (stR U.S U.enc H y.t (CellR U.S U.enc H y.t)) m y.m:=by
 unfold mapOf at h;split at h
 case h_2=>cases h
 rename_i i hi;obtain ⟨p,k,m,h1,h2,h3,h4,h5⟩:=zNv hi hr.ens;unfold mpOf at h;split at h
 case h_2=>cases h
 rename_i t n hn;cases h;obtain ⟨v,hv,m2,e,hR⟩:=hr.sls.get hn
 grind [zQh]
variable {T:TypeId} {af:Array Edge} {d:Option Nat}
theorem zRa {e:TypeId} (h:mapTy P T=some e):∃ K,P.underlying T=some (.map K e)∧P.underlying K=some .string:=by
 grind [mapTy,zF7]
theorem zXd {v:Value}:(zcv v).val E=some v:=by
 unfold zcv;split
 ·rename_i a
  obtain ⟨a⟩:=a;simp only [CV.val,zIt,Option.map_some];rfl
 ·exact zN1 _
theorem zR2 {k : VS U → Option Ω} {r : Ω} (h : opMk P d T s k = some r) (hr : RelE w0 H0 s f w E H L) {ty : TypeId} {pos : String} {ops : Array Oper} {rest : List Oper} {Q : Fr → World → Prop}
    (K:Goes w0 H0 s d.toList E H k r (WL P N ops rest Q)):WL P N ops (⟨d,.makeMap T none,ty,pos,af,none⟩ :: rest) Q f w:=by
  unfold opMk at h;split at h
  case h_2=>cases h
  rename_i e d he;split at h
  case h_2=>cases h
  rename_i t ht;refine W.makeMap hr.st fun kb w' S'=>?_
  have hE:E.le { E with vs:=E.vs++[encM []],bs:=E.bs++[kb] }:=⟨⟨_,rfl⟩,⟨_,rfl⟩,zAI _,rfl⟩;have hr2:RelE w0 H0 (newMp s t) f w' { E with vs:=E.vs++[encM []],bs:=E.bs++[kb] } H (.mp kb [] :: L):=by
    refine ⟨S',hr.gl,hr.sls.snoc (x:=⟨.mp t,[]⟩) ⟨[],rfl,trivial⟩,hr.pts.mono hE (Hp.le.refl H),?_,⟨⟨[encM []],kb,zBd hr.nb,⟨.inr (zBd hr.sls.len),trivial⟩,[],rfl,rfl⟩,hr.ens.mono hE (Hp.le.refl H) ⟨_,rfl⟩⟩,fun t c hc=>CV.val_mono hE (hr.fr t c hc)⟩
    show (E.bs++[kb]).length=s.nb+1
    rw [lA,hr.nb]; rfl
  have hp:(CV.mp s.nb).val { E with vs:=E.vs++[encM []],bs:=E.bs++[kb] }=some (mapv kb):=by simp only [CV.val,zBd hr.nb,Option.map_some]
  refine K _ _ _ _ _ _ h (hr2.set (some d) hp) (Ext.andSet ⟨⟨_,rfl⟩,zAI _,Nat.le_succ _,fun _ _=>rfl,[],rfl,fun b hb o _=>?_⟩) hE (Hp.le.refl H);have:Nat.beq s.nb b=false:=by
    cases h:Nat.beq s.nb b <;> simp_all
  grind [newMp,zAi,boxAt]
theorem zK1 {x y : Operand} {ok : Bool} {k : VS U → CV → Option Ω} {r : Ω} (h : opLk P N.n T x y ok s k = some r) (hr : RelE w0 H0 s f w E H L) {ty : TypeId} {pos : String} :
  ∃ s' E' c v,k s' c=some r∧PutOk s s' E E' H∧c.val E'=some v∧Runs P N f w0 H0 H L ⟨d,.lookup T x y ok,ty,pos,af,none⟩ v:=by
 unfold opLk at h;split at h
 case h_2=>cases h
 rename_i b a e hx hy he;split at h
 case h_2=>cases h
 rename_i t m zc hm hz;split at h
 case h_2=>cases h
 rename_i z hzt;obtain ⟨p,kb,i,mv,_,_,_,h3,h4,hR⟩:=zJX hr hm;obtain ⟨k2,hb,hxv⟩:=zRL hr hx;rw [h4] at hb;cases hb;obtain ⟨K,hT,hK⟩:=zRa he;obtain ⟨v,hv,hvz⟩:=zEL hr.sls hzt;rw [zXd] at hv;cases hv;obtain ⟨g1,g2⟩:=MapR.get (k:=a) (zWY hvz) hR;cases hq:mget m a z with | mk x0 o0 =>
 cases hp:mget mv a zc with | mk v0 o1 =>
 rw [hq] at h;simp only at h g1 g2;rw [hq,hp] at g1 g2;simp only at g1 g2;subst g2;obtain ⟨E',p1,hc⟩:=zHA (s:=s) hr.sls (zZF g1);cases ok with
 | true=>exact ⟨_,E',_,_,h,p1,by grind [CV.val,CV.vals],fun w' H' _ S'=>R.lookX S' hxv (zE3 hr hy) h3 hT hK hz hp⟩
 | false=>exact ⟨_,E',_,_,h,p1,hc,fun w' H' _ S'=>R.lookX1 S' hxv (zE3 hr hy) h3 hT hK hz hp⟩
theorem zPB {b:Nat} {t:PT} {m:List (Str×t.T U.S)} {i:Nat} (h:mpAt s.en b=some i) (ds:List Nat):Ext s (setMp s b t m) ds:=by
 refine ⟨⟨_,rfl⟩,zAI _,nR _,fun _ _=>rfl,[(b,0)],rfl,fun b' _ o hm=>?_⟩
 show zAi (zBg s.en b [.ref s.sl.length]) b' o=_
 by_cases hbb:b=b'
 ·subst hbb
  unfold zAi;rw [zDA (zLm h),zLm h];cases o <;> simp_all [memX]
 ·unfold zAi
  rw [zBw hbb]
theorem RelX.setMp (hr : RelE w0 H0 s f w E H L) {b p k i : Nat} {t : PT} {m : List (Str × t.T U.S)} {mv : List (Str × Value)} (h1 : s.en[p]? = some (EI.box b 0 [.ref i])) (h2 : ∀ cs', zBg s.en b cs' = s.en.set p (.box b 0 cs')) (hb : E.bs[b]? = some k) (hR : MapR (stR U.S U.enc H t (CellR U.S U.enc H t)) mv m) (S' : St w0 H0 w' H (L.set p (.mp k (encm (fun v => v) mv)))) :
  RelE w0 H0 (setMp s b t m) f w' { E with vs:=E.vs++[encM mv] } H (L.set p (.mp k (encm (fun v=>v) mv)))∧E.le { E with vs:=E.vs++[encM mv] }:=by
 have hE:E.le { E with vs:=E.vs++[encM mv] }:=⟨⟨_,rfl⟩,zAI _,zAI _,rfl⟩;refine ⟨⟨S',hr.gl,hr.sls.snoc (x:=⟨.mp t,m⟩) ⟨mv,rfl,hR⟩,hr.pts.mono hE (Hp.le.refl H),hr.nb,?_,fun t c hc=>CV.val_mono hE (hr.fr t c hc)⟩,hE⟩
 show EnsOk noX _ H _ (zBg s.en b [.ref s.sl.length]) _
 rw [h2];exact (hr.ens.mono hE (Hp.le.refl H) ⟨_,rfl⟩).set ⟨[encM mv],k,hb,⟨.inr (zBd hr.sls.len),trivial⟩,mv,rfl,rfl⟩
theorem zR7 {x y z : Operand} {k : VS U → Option Ω} {r : Ω} (h : opUp P N.n d T x y z s k = some r) (hr : RelE w0 H0 s f w E H L) {ty : TypeId} {pos : String} {ops : Array Oper} {rest : List Oper} {Q : Fr → World → Prop}
    (K:Goes w0 H0 s d.toList E H k r (WL P N ops rest Q)):WL P N ops (⟨d,.mapUpdate T x y z,ty,pos,af,none⟩ :: rest) Q f w:=by
  unfold opUp at h;split at h
  case h_2=>cases h
  rename_i b a c hx hy hz;split at h
  case h_2=>cases h
  rename_i t m e hm he;split at h
  case h_2=>cases h
  rename_i v hv;obtain ⟨p,kb,i,mv,h0,h1,h2,h3,h4,hR⟩:=zJX hr hm;obtain ⟨k2,hb,hxv⟩:=zRL hr hx;rw [h4] at hb;cases hb;obtain ⟨K',hT,hK⟩:=zRa he;obtain ⟨u,hu,hvz⟩:=zEL hr.sls hv;have hzv:=zAy hr hz;rw [hu] at hzv;cases hzv;refine W.mapUpdate (fun v=>v) (ev N f z) hr.st hxv (zE3 hr hy) rfl rfl h3 hT hK fun w' S'=>?_
  obtain ⟨hr2,hE⟩:=RelX.setMp hr h1 h2 h4 (hR.set (k:=a) (zWY hvz)) S';exact K _ _ _ _ _ _ h (hr2.set d rfl) (Ext.andSet (zPB h0 [])) hE (Hp.le.refl H)
theorem zR4 {d : Option Nat} {T K : TypeId} {x y : Operand} {k : VS U → Option Ω} {r : Ω} (h : opDe P N.n d T K x y s k = some r) (hr : RelE w0 H0 s f w E H L) {ty : TypeId} {pos : String} {af : Array Edge} {ops : Array Oper} {rest : List Oper} {Q : Fr → World → Prop}
    (KK:Goes w0 H0 s d.toList E H k r (WL P N ops rest Q)):WL P N ops (⟨d,.call ⟨.builtin .delete,#[x,y],#[T,K]⟩,ty,pos,af,none⟩ :: rest) Q f w:=by
  unfold opDe at h;split at h
  case h_2=>cases h
  rename_i b a K' e hx hy hT;replace h:=cT h;obtain ⟨hc,h⟩:=h;rw [bQ] at hc;have:=nQ hc.1;subst this;split at h
  case h_2=>cases h
  rename_i t m hm;obtain ⟨p,kb,i,mv,h0,h1,h2,h3,h4,hR⟩:=zJX hr hm;obtain ⟨k2,hb,hxv⟩:=zRL hr hx;rw [h4] at hb;cases hb;refine W.mapDelete (fun v=>v) hr.st hxv (zE3 hr hy) h3 rfl hT (zF7 hc.2) fun w' S'=>?_
  obtain ⟨hr2,hE⟩:=RelX.setMp hr h1 h2 h4 (hR.del (k:=a)) S';exact KK _ _ _ _ _ _ h (hr2.set d rfl) (Ext.andSet (zPB h0 [])) hE (Hp.le.refl H)
end
section
variable {U:UV} {P:Program} {G:Gam U} {N:Frm} {s s':VS U} {f:Fr} {w w' w0:World} {H0 H H':Hp} {E:Env} {L:List Ent} {Ω:Type}
theorem zWs (hr:RelE w0 H0 s f w E H L) {x:Operand} {g:FuncId} {l:List CV} (h:opn N.n s x=some (.fn g l)):∃ vs,CV.vals E l=some vs∧ev N f x=.func (.func g) #[] vs.toArray:=by
 have:=zAy hr h;simp only [CV.val] at this;cases hb:CV.vals E l <;> grind
theorem zYx (hr:RelE w0 H0 s f w E H L) {x:Operand} {g:FuncId} {l:List CV} (h:opn N.n s x=some (.bm g l)):∃ vs,CV.vals E l=some vs∧ev N f x=.func (.func g) vs.toArray #[]:=by
 have:=zAy hr h;simp only [CV.val] at this;cases hb:CV.vals E l <;> grind
theorem zNs {d : Option Nat} {op : Op} {ty : TypeId} {pos : String} {af : Array Edge} {ops : Array Oper} {rest : List Oper} {Q : Fr → World → Prop} {g : FuncId} {args : Array Value} (he : (execOp (ev N f) ⟨d, op, ty, pos, af, none⟩).run P w = (callFunc g args).run P w) (h : zPO P g args w fun w' v => WL P N ops rest Q (updo f d v) w') :
  WL P N ops (⟨d,op,ty,pos,af,none⟩ :: rest) Q f w:=by
 rcases h with ⟨h1,h2⟩ | ⟨v,w',h1,h2⟩
 all_goals grind [WL.enterw,WL.wz]
theorem zPV (hG : GamOk P G) {d : Option Nat} {op : Op} {k : VS U → Option Ω} {r : Ω} (h : opd P G N.n d op s k = some r) (hr : RelE w0 H0 s f w E H L) {ty : TypeId} {pos : String} {af : Array Edge} {ops : Array Oper} {rest : List Oper} {Q : Fr → World → Prop}
    (K:Goes w0 H0 s d.toList E H k r (WL P N ops rest Q)):WL P N ops (⟨d,op,ty,pos,af,none⟩ :: rest) Q f w:=by
  have pure:∀ {op:Op},opr P N.n op s (fun v=>k (setd s d v))=some r→WL P N ops (⟨d,op,ty,pos,af,none⟩ :: rest) Q f w:=fun h=>by
    obtain ⟨c,v,hk,hc,hrun⟩:=zKc (d:=d) (ty:=ty) (pos:=pos) (af:=af) h hr;exact WL.wz (hrun w H (Hp.le.refl H) hr.st) (K _ _ _ _ _ _ hk (hr.set d hc) (zIV d c) (Env.le_refl E) (Hp.le.refl H))
  unfold opd at h;split at h
  · rename_i c
    obtain ⟨cl,⟨args⟩,⟨tys⟩⟩:=c;simp only at h;split at h
    · rename_i g
      split at h
      case h_2=>cases h
      rename_i S vs hg hvs;have hS:=(hG g S hg).sound h hr (zE0 hr hvs) (K:=fun w' v=>WL P N ops rest Q (updo f d v) w') fun s' w' E' H' L' c v hk hr' he hE hl hc=>K _ _ _ _ _ _ hk (hr'.set d hc) he.andSet hE hl
      refine zNs ?_ hS;have:(execOp (ev N f) ⟨d,.call ⟨.value (.func g),⟨args⟩,⟨tys⟩⟩,ty,pos,af,none⟩)=callFunc g (#[]++args.toArray.map (ev N f)++#[]):=rfl
      grind
    · rename_i t
      split at h
      · rename_i g caps vs hx hvs
        split at h
        case h_2=>cases h
        rename_i S hg;obtain ⟨cs,hcs,hv⟩:=zWs hr hx;have hS:=(hG g S hg).sound h hr (zGh (zE0 hr hvs) hcs) (K:=fun w' v=>WL P N ops rest Q (updo f d v) w') fun s' w' E' H' L' c v hk hr' he hE hl hc=>K _ _ _ _ _ _ hk (hr'.set d hc) he.andSet hE hl
        refine zNs ?_ hS;have e:args.toArray.map (ev N f)++cs.toArray=(args.map (ev N f)++cs).toArray:=by simp
        have:(execOp (ev N f) ⟨d,.call ⟨.value (.tmp t),args.toArray,⟨tys⟩⟩,ty,pos,af,none⟩).run P w=(callFunc g (#[]++args.toArray.map (ev N f)++cs.toArray)).run P w:=by
          simp [execOp,resolve,hv,Deferred.ofValue,invoke]
        grind
      · rename_i g fl vs hx hvs
        split at h
        case h_2=>cases h
        rename_i S hg;obtain ⟨cs,hcs,hv⟩:=zYx hr hx;have hS:=(hG g S hg).sound h hr (zGh hcs (zE0 hr hvs)) (K:=fun w' v=>WL P N ops rest Q (updo f d v) w') fun s' w' E' H' L' c v hk hr' he hE hl hc=>K _ _ _ _ _ _ hk (hr'.set d hc) he.andSet hE hl
        refine zNs ?_ hS;have e:cs.toArray++args.toArray.map (ev N f)=(cs++args.map (ev N f)).toArray:=by simp
        have:(execOp (ev N f) ⟨d,.call ⟨.value (.tmp t),args.toArray,⟨tys⟩⟩,ty,pos,af,none⟩).run P w=(callFunc g (cs.toArray++args.toArray.map (ev N f)++#[])).run P w:=by
          simp [execOp,resolve,hv,Deferred.ofValue,invoke]
        grind
      · cases h
    all_goals grind [zOW,nQ,zQG,zR4]
  · rename_i T ps
    obtain ⟨ps⟩:=ps;obtain ⟨c,v,hk,hc,hrun⟩:=zMP (d:=d) (ty:=ty) (pos:=pos) (af:=af) h hr;exact WL.wz (hrun w H (Hp.le.refl H) hr.st) (K _ _ _ _ _ _ hk (hr.set d hc) (zIV d c) (Env.le_refl E) (Hp.le.refl H))
  · rename_i T x
    split at h
    case h_2=>cases h
    rename_i c d hx;split at h
    case h_2=>cases h
    rename_i l hl;obtain ⟨vs,hvs,hc⟩:=zFX hr.sls (zAy hr hx) hl;refine W.box vs hr.st rfl (by rw [hc]) fun b w' S'=>?_
    obtain ⟨E',hE,hr2,hp⟩:=hr.newBox hvs S';exact K _ _ _ _ _ _ h (hr2.set (some d) hp) (Ext.andSet (zKn T l [])) hE (Hp.le.refl H)
  · rename_i T
    split at h
    case h_2=>cases h
    rename_i zs d hz;refine W.alloc zs hr.st hz fun b w' S'=>?_
    obtain ⟨E',hE,hr2,hp⟩:=hr.newBox (zIt (zs:=zs)) S';exact K _ _ _ _ _ _ h (hr2.set (some d) hp) (Ext.andSet (zKn T _ [])) hE (Hp.le.refl H)
  · exact zNS h hr K
  · grind [zPv]
  · split at h
    · rename_i j hx
      obtain ⟨s',E',v,hk,hr',he,_,hE,hrun⟩:=zKr (ty:=ty) (pos:=pos) (af:=af) hx h hr;exact WL.wz (hrun w H (Hp.le.refl H) hr.st) (K _ _ _ _ _ _ hk hr' he hE (Hp.le.refl H))
    · exact pure h
  · obtain ⟨s',E',v,hk,hr',he,_,hE,hrun⟩:=zZL (ty:=ty) (pos:=pos) (af:=af) h hr
    exact WL.wz (hrun w H (Hp.le.refl H) hr.st) (K _ _ _ _ _ _ hk hr' he hE (Hp.le.refl H))
  · grind [zOV,zL0,zPj]
  · rename_i T n ps
    obtain ⟨ps⟩:=ps;exact zPg h hr K
  · exact zR2 h hr K
  · exact zSF h hr K
  · obtain ⟨s',E',c,v,hk,hp,hc,hrun⟩:=zK1 (d:=d) (ty:=ty) (pos:=pos) (af:=af) h hr
    exact WL.wz (hrun w H (Hp.le.refl H) hr.st) (K _ _ _ _ _ _ hk ((hr.put hp).set d hc) (Ext.andSet (hp.ext [])) hp.le (Hp.le.refl H))
  all_goals grind [zR7]
def dsts (l:List Oper):List Nat:=l.filterMap (·.dst)
def del (ds:List Nat):List (Nat×CV)→List (Nat×CV)
 | []=>[]
 | (t,v) :: r=>bif memb ds t then del ds r else (t,v) :: del ds r
theorem zHH {o:Oper} {l:List Oper}:dsts (o :: l)=o.dst.toList++dsts l:=by
 unfold dsts
 grind
theorem zIy {a b:List Oper}:dsts (a++b)=dsts a++dsts b:=List.filterMap_append ..
theorem zI5 {ds:List Nat} {u:Nat}:∀ {s:List (Nat×CV)} {v:CV},look (del ds s) u=some v→memb ds u=false∧look s u=some v
 | [],v,h=>by cases h
 | (t,x) :: r,v,h=>by
  simp only [del] at h;cases hm:memb ds t with
  | true =>
   rw [hm,cond_true] at h;obtain ⟨h1,h2⟩:=zI5 h;refine ⟨h1,?_⟩;simp only [look];cases hb:Nat.beq u t with
   | true=>simp_all
   | false=>exact h2
  | false =>
   rw [hm,cond_false] at h;simp only [look] at h ⊢;cases hb:Nat.beq u t with
   | true=>simp_all
   | false =>
    rw [hb] at h;obtain ⟨h1,h2⟩:=zI5 h;exact ⟨h1,h2⟩
theorem zGV {ds:List Nat} {u:Nat} (h:memb ds u=false):∀ {s:List (Nat×CV)},look (del ds s) u=look s u
 | []=>rfl
 | (t,x) :: r=>by
  simp only [del];cases hm:memb ds t with
  | true =>
   rw [cond_true,zGV h];simp only [look];cases hb:Nat.beq u t with
   | true=>simp_all
   | false=>rfl
  | false =>
   rw [cond_false];simp only [look];rw [zGV h]
end
inductive LC where
 | sl (n:Nat) | ce (b o:Nat)
structure IT where
 loc:LC
 t:PT
 row:Option TypeId
structure JN where
 items:List IT
 kr:Option (List LC):=none
 lb:List Nat:=[]
section
variable {U:UV}
def KT (U:UV):List IT→Type
 | []=>Unit
 | [i]=>i.t.T U.S
 | i :: j :: r=>i.t.T U.S×KT U (j :: r)
def getL (s:VS U):LC→Option CV
 | .sl n=>look s.fr n
 | .ce b o=>zAi s.en b o
def pack {R:Type} (s:VS U):(l:List IT)→(KT U l→Option R)→Option R
 | [],c=>c ()
 | [i],c=>match getL s i.loc with | some v=>(match getT s i.t v with | some x=>c x | none=>none) | none=>none
 | i :: j :: r,c=>match getL s i.loc with | some v=>(match getT s i.t v with | some x=>pack s (j :: r) fun y=>c (x,y) | none=>none) | none=>none
def setCell (en:List EI) (b o:Nat) (c:CV):List EI:=match boxAt en b with | some cs=>zBg en b (cs.set o c) | none=>en
def putL (s:VS U) (l:LC) (c:CV):VS U :=
 match l with
 | .sl n=>{ s with fr:=(n,c) :: s.fr }
 | .ce b o=>{ s with en:=setCell s.en b o c,dt:=(b,o) :: s.dt }
def putI (s:VS U) (i:IT) (x:i.t.T U.S):VS U :=
 match i.row with
 | none=>putL (putV s i.t x).1 i.loc (putV s i.t x).2
 | some T=>putL (newRow (putV s i.t x).1 s.sl.length T) i.loc (putV s i.t x).2
def putTs (s:VS U):(l:List IT)→KT U l→VS U
 | [],_=>s
 | [i],x=>putI s i x
 | i :: j :: r,x=>putTs (putI s i x.1) (j :: r) x.2
def zKI:List EI→Nat→TypeId→Option Nat
 | [],_,_=>none
 | .row k T :: r,i,T'=>bif Nat.beq k i&&Nat.beq T T' then some 0 else (zKI r i T').map (·+1)
 | .box _ _ _ :: r,i,T'=>(zKI r i T').map (·+1)
def zLH:List EI→Nat→TypeId→Nat→Option Nat
 | [],_,_,_=>none
 | .row _ _ :: r,b,T',n=>(zLH r b T' n).map (·+1)
 | .box b T cs :: r,b',T',n=>bif Nat.beq b b' then (bif Nat.beq T T'&&Nat.beq cs.length n then some 0 else none) else (zLH r b' T' n).map (·+1)
def posE (en:List EI):EI→Option Nat
 | .box b T cs=>zLH en b T cs.length
 | .row i T=>zKI en i T
def zRh (en:List EI):List EI→Option (List Nat)
 | []=>some []
 | e :: r=>match posE en e,zRh en r with | some p,some ps=>some (p :: ps) | _,_=>none
def zWl:PT→Bool
 | .sl _=>true
 | .mr _=>true
 | _=>false
def rowPs (s:VS U):List IT→Option (List Nat)
 | []=>some []
 | i :: r =>
  match i.row with
  | none=>rowPs s r
  | some T=>bif zWl i.t then
   (match getL s i.loc with
   | some (.ref k)=>(match zKI s.en k T,rowPs s r with | some p,some ps=>some (p :: ps) | _,_=>none)
   | some (.raw v)=>bif zBc v then rowPs s r else none
   | _=>none) else none
def hasCe:List IT→Nat→Nat→Bool
 | [],_,_=>false
 | i :: r,b,o=>(match i.loc with | .ce b' o'=>Nat.beq b' b&&Nat.beq o' o | .sl _=>false)||hasCe r b o
def zSy (s s':VS U) (lb:List Nat) (items:List IT):Bool :=
 (s'.dt.take (s'.dt.length - s.dt.length)).all fun p=>Nat.ble s.nb p.1||memb lb p.1||hasCe items p.1 p.2
def ceOk (ke:List EI) (items:List IT):Bool:=items.all fun i=>match i.loc with | .sl _=>true | .ce b _=>(boxAt ke b).isSome
def okJ (s s':VS U) (ke:List EI) (lb:List Nat) (items:List IT):Bool :=
 match rowPs s' items,zRh s'.en ke with
 | some a,some b=>okpk (a++b)&&zSy s s' lb items&&ceOk ke items
 | _,_=>false
def zJi:List EI→List Nat
 | []=>[]
 | .row i _ :: r=>i :: zJi r
 | .box _ _ _ :: r=>zJi r
def zLn (s:VS U):List IT→List Nat
 | []=>[]
 | i :: r=>match i.row with
  | none=>zLn s r
  | some _=>(match getL s i.loc with | some (.ref k)=>k :: zLn s r | _=>zLn s r)
def rowIx (s:VS U) (J:JN):List Nat :=
 match J.kr with
 | none=>(match zLn s J.items with | []=>zJi s.en | d=>(zJi s.en).filter fun i=>!memb d i)
 | some l=>l.filterMap fun l=>match getL s l with | some (.ref i)=>some i | _=>none
def keepE (lb ri:List Nat):List EI→List EI
 | []=>[]
 | .box b T cs :: r=>bif memb lb b then keepE lb ri r else .box b T cs :: keepE lb ri r
 | .row i T :: r=>bif memb ri i then .row i T :: keepE lb ri r else keepE lb ri r
def lostD (lb:List Nat):List EI→List (Nat×Nat)
 | []=>[]
 | .box b _ cs :: r=>bif memb lb b then spots b 0 cs.length++lostD lb r else lostD lb r
 | .row _ _ :: r=>lostD lb r
def bk (s:VS U) (ds:List Nat) (J:JN):VS U:={ s with fr:=del ds s.fr,en:=keepE J.lb (rowIx s J) s.en,dt:=lostD J.lb s.en++s.dt }
def locIn (ds:List Nat):LC→Bool
 | .sl n=>memb ds n
 | .ce _ _=>true
def inW (l:List IT) (ds:List Nat):Bool:=l.all fun i=>locIn ds i.loc
def okN (s s':VS U) (J:JN):Bool:=okJ s s' (keepE J.lb (rowIx s J) s.en) J.lb J.items
end
section
variable {U:UV} {P:Program} {G:Gam U} {N:Frm} {s s':VS U} {f f':Fr} {w w' w0:World} {H0 H H':Hp} {E E':Env} {L L':List Ent} {Ω:Type} {X:Nat→Nat→Bool}
theorem _root_.Go.Eng.St.perm (S:St w0 H0 w H L) (h:L.Perm L'):St w0 H0 w H L' :=
 ⟨S.post,fun e he=>S.ents e (h.mem_iff.2 he),fun e he=>S.own e (h.mem_iff.2 he),(h.filterMap Ent.blk).nodup S.nodup⟩
structure RelP (X:Nat→Nat→Bool) (w0:World) (H0:Hp) (R:List Ent) (s:VS U) (f:Fr) (w:World) (E:Env) (H:Hp) (L:List Ent):Prop where
 st:St w0 H0 w H (R++L)
 gl:GlW U w0 H0 H
 sls:SlsOk H E.vs s.sl
 pts:PtsOk E H E.ps s.pt
 nb:E.bs.length=s.nb
 ens:EnsOk X E H s.sl s.en L
 fr:∀ t c,look s.fr t=some c→c.val E=some (f t)
variable {R:List Ent}
theorem RelP.put (hr:RelP X w0 H0 R s f w E H L) (h:PutOk s s' E E' H):RelP X w0 H0 R s' f w E' H L :=
 ⟨hr.st,hr.gl,h.ok,by rw [h.ps,h.pt]; exact hr.pts.mono h.le (Hp.le.refl H),by rw [h.bs,h.nb]; exact hr.nb,by rw [h.en]; exact hr.ens.mono h.le (Hp.le.refl H) h.sl,fun t c hc=>CV.val_mono h.le (hr.fr t c (by rw [← h.fr]; exact hc))⟩
def LV (E:Env) (f:Fr) (L:List Ent):LC→Value→Prop
 | .sl n,v=>f n=v
 | .ce b o,v=>∃ (k T:Nat) (vals:List Value) (e:Ent),E.bs[b]?=some k∧isE k T vals e∧e ∈ L∧vals[o]?=some v
theorem LV.mono (hE:E.le E') (hL:∀ e ∈ L,e ∈ L') {l:LC} {v:Value} (h:LV E f L l v):LV E' f L' l v:=by
 cases l with
 | sl n=>exact h
 | ce b o =>
  obtain ⟨k,T,vals,e,h1,h2,h3,h4⟩:=h;exact ⟨k,T,vals,e,zD8 hE.bs h1,h2,hL _ h3,h4⟩
theorem _root_.Go.Eng.St.uniq (S:St w0 H0 w H L) {k:Nat} {e e':Ent} (h:e ∈ L) (h':e' ∈ L) (hb:e.blk=some k) (hb':e'.blk=some k):e=e':=by
 obtain ⟨i,hi⟩:=lI.1 h;obtain ⟨j,hj⟩:=lI.1 h';by_cases hij:i=j
 ·grind
 ·exact absurd rfl (S.blk_ne hi hj hb hb' hij)
def offX (X:Nat→Nat→Bool) (b o:Nat):Nat→Nat→Bool:=fun b' o'=>X b' o'&&!(Nat.beq b b'&&Nat.beq o o')
theorem CsOk.sub {X':Nat→Nat→Bool} {b:Nat}:∀ {o:Nat} {cs:List CV} {vs:List Value},CsOk E X b o cs vs→(∀ o' c v,o≤o'→cs[o' - o]?=some c→vs[o' - o]?=some v→X b o'=true→X' b o'=true∨c.val E=some v)→CsOk E X' b o cs vs
 | _,[],[],_,_=>trivial
 | o,c :: cs,v :: vs,⟨h,r⟩,hx=>by
  refine ⟨h.elim (fun h=>hx o c v (nR _) sI sI h) .inr,r.sub fun o' c' v' ho hc hv hX=>?_⟩
  grind
 | _,[],_ :: _,h,_=>h.elim
 | _,_ :: _,[],h,_=>h.elim
theorem CsOk.set {b:Nat} {c:CV} {v:Value} (hc:c.val E=some v) {q:Nat}:∀ {o:Nat} {cs:List CV} {vs:List Value},CsOk E X b o cs vs→vs[q]?=some v→CsOk E (offX X b (o+q)) b o (cs.set q c) vs
 | _,[],[],_,h=>by simp at h
 | o,c0 :: cs,v0 :: vs,⟨h,r⟩,hv=>by
  cases q with
  | zero =>
   simp only [List.getElem?_cons_zero,oI] at hv;subst hv;refine ⟨.inr hc,r.sub fun o' c' v' ho _ _ hX=>.inl ?_⟩
   grind [nQ,offX]
  | succ q =>
   have h1:o+(q+1)=(o+1)+q:=by omega
   have h2:=r.set hc (q:=q) (by simpa using hv);refine ⟨h.elim (fun h=>.inl ?_) .inr,by rw [h1]; exact h2⟩;have:Nat.beq (o+(q+1)) o=false:=by
    cases h:Nat.beq (o+(q+1)) o <;> simp_all
   simp [offX,h,this]
 | _,[],_ :: _,h,_=>h.elim
 | _,_ :: _,[],h,_=>h.elim
theorem EnOk.off {sl:List (SLV U)} {i:EI} {e:Ent} {b o:Nat} (h:EnOk X E H sl i e) (hne:∀ T cs,i≠.box b T cs):EnOk (offX X b o) E H sl i e:=by
 cases i with
 | row i T=>exact h
 | box b' T cs =>
  obtain ⟨vals,k,h1,h2,h3⟩:=h;refine ⟨vals,k,h1,h2.sub fun o' c v _ _ _ hX=>.inl ?_,h3⟩;have:Nat.beq b b'=false:=by
   cases hb:Nat.beq b b' <;> simp_all
  simp [offX,hX,this]
theorem EnsOk.setCell {sl:List (SLV U)} {b o k T:Nat} {vals:List Value} {c:CV} {v:Value} {R:List Ent} {e0:Ent} (he0:isE k T vals e0) (hb:E.bs[b]?=some k) (hc:c.val E=some v) (hv:vals[o]?=some v):∀ {en:List EI} {L:List Ent},EnsOk X E H sl en L→St w0 H0 w H (R++L)→e0 ∈ R++L→EnsOk (offX X b o) E H sl (setCell en b o c) L
 | [],[],_,_,_=>trivial
 | [],_ :: _,h,_,_=>h.elim
 | _ :: _,[],h,_,_=>h.elim
 | i :: en,e :: L,⟨h1,h2⟩,S,hm=>by
  have hrec:(∀ T cs,i≠.box b T cs)→VI.setCell (i :: en) b o c=i :: VI.setCell en b o c:=by
   intro hne;cases i with
   | row j T=>grind [VI.setCell,boxAt,zBg]
   | box b' T' cs =>
    have:Nat.beq b' b=false:=by
     cases hb:Nat.beq b' b <;> simp_all
    grind [VI.setCell,boxAt,zBg]
  have S':St w0 H0 w H ((R++[e])++L):=by grind
  by_cases hne:∀ T cs,i≠.box b T cs
  ·rw [hrec hne]
   exact ⟨h1.off hne,h2.setCell he0 hb hc hv S' gR⟩
  ·have:∃ T cs,i=.box b T cs:=Classical.byContradiction fun hn=>hne fun T cs h=>hn ⟨T,cs,h⟩
   obtain ⟨T',cs,rfl⟩:=this;obtain ⟨vals',k',g1,g2,g3⟩:=h1;rw [hb] at g1;cases g1;have hu:=S.uniq hm (List.mem_append_right _ lS) (zGI he0) (zGI g3);subst hu;obtain ⟨rfl,rfl⟩:=zXg he0 g3;have e1:VI.setCell (.box b T cs :: en) b o c=.box b T (cs.set o c) :: en:=by
    simp_all [VI.setCell,boxAt,zBg]
   rw [e1];refine ⟨⟨vals,k,hb,by have:=g2.set hc hv; grind,he0⟩,?_⟩;have:∀ {en:List EI} {L2:List Ent},EnsOk X E H sl en L2→(∀ e2 ∈ L2,e2.blk≠some k)→EnsOk (offX X b o) E H sl en L2:=by
    intro en
    induction en with
    | nil=>intro L2 h _; cases L2 with | nil=>trivial | cons=>exact h.elim
    | cons i en ih =>
     intro L2 h hn;cases L2 with
     | nil=>exact h.elim
     | cons e L2 =>
      refine ⟨h.1.off fun T cs hi=>?_,ih h.2 fun e2 hm=>hn e2 (lN _ hm)⟩;subst hi;obtain ⟨v3,k3,q1,_,q3⟩:=h.1
      grind [lS,zGI]
   refine this h2 fun e2 hm2 hb2=>?_
   obtain ⟨j,hj⟩:=lI.1 hm2;have h0:(R++e0 :: L)[R.length]?=some e0:=by simp
   have hj':(R++e0 :: L)[R.length+1+j]?=some e2:=by
    rw [List.getElem?_append_right om,show R.length+1+j - R.length=j+1 by omega]
    simpa using hj
   exact S.blk_ne h0 hj' (zGI he0) hb2 om rfl
def offL (X:Nat→Nat→Bool):LC→Nat→Nat→Bool
 | .sl _=>X
 | .ce b o=>offX X b o
theorem RelP.putL (hr : RelP X w0 H0 R s f w E H L) {l : LC} {c : CV} {v : Value} (hc : c.val E = some v) (hv : LV E f (R ++ L) l v) :
  RelP (offL X l) w0 H0 R (putL s l c) f w E H L:=by
 cases l with
 | sl n =>
  refine ⟨hr.st,hr.gl,hr.sls,hr.pts,hr.nb,hr.ens,fun t x hx=>?_⟩;simp only [VI.putL,look] at hx;cases hb:Nat.beq t n with
  | true =>
   rw [hb] at hx;simp only [cond_true,oI] at hx;subst hx;rw [nQ hb,hc];exact congrArg some hv.symm
  | false=>rw [hb] at hx; exact hr.fr t x hx
 | ce b o =>
  obtain ⟨k,T,vals,e,h1,h2,h3,h4⟩:=hv;exact ⟨hr.st,hr.gl,hr.sls,hr.pts,hr.nb,hr.ens.setCell h2 h1 hc h4 hr.st h3,hr.fr⟩
def offI (X:Nat→Nat→Bool) (i:IT):Nat→Nat→Bool:=offL X i.loc
def offIs (X:Nat→Nat→Bool):List IT→Nat→Nat→Bool
 | []=>X
 | i :: r=>offIs (offI X i) r
def Br (U:UV) (H:Hp) (E:Env) (f:Fr) (L:List Ent) (i:IT) (x:i.t.T U.S) (R' R:List Ent):Prop :=
 ∃ v,LV E f L i.loc v∧VR U H i.t v x∧match i.row with | none=>R=R' | some T=>∃ e,RowE none H T v ⟨i.t,x⟩ e∧R=e :: R'
def Brings (U:UV) (H:Hp) (E:Env) (f:Fr) (L:List Ent):(l:List IT)→KT U l→List Ent→Prop
 | [],_,R=>R=[]
 | [i],x,R=>Br U H E f L i x [] R
 | i :: j :: r,x,R=>∃ R',Brings U H E f L (j :: r) x.2 R'∧Br U H E f L i x.1 R' R
inductive Ins:List Ent→List Ent→Prop
 | nil:Ins [] []
 | cons {e:Ent} {a b:List Ent}:Ins a b→Ins (e :: a) (e :: b)
 | new {T sz:Nat} {a b:List Ent}:Ins a b→Ins a (.row (.slice none 0 0) T sz 0 :: b)
theorem Ins.st {a b:List Ent} (h:Ins a b):∀ {K:List Ent},St w0 H0 w H (a++K)→St w0 H0 w H (b++K):=by
 induction h with
 | nil=>exact fun h=>h
 | cons _ ih =>
  intro K h;have h1:=ih (h.perm (List.perm_middle.symm));exact h1.perm List.perm_middle
 | new _ ih =>
  intro K h;exact (ih h).addNil _ _
theorem zVJ {T:TypeId} {v:Value}:∀ {t:PT} {x:t.T U.S} {e:Ent},RowE none H T v ⟨t,x⟩ e→(putV s t x).1.sl=s.sl++[⟨t,x⟩]∧(putV s t x).2=.ref s.sl.length
 | .sl _,_,_,_=>⟨rfl,rfl⟩
 | .mr _,_,_,_=>⟨rfl,rfl⟩
 | .int,_,_,h=>h.elim
 | .byt,_,_,h=>h.elim
 | .boo,_,_,h=>h.elim
 | .str,_,_,h=>h.elim
 | .st _,_,_,h=>h.elim
 | .mp _,_,_,h=>h.elim
 | .hid,_,_,h=>by cases h
 | .po _,_,_,h=>h.elim
 | .er,_,_,h=>h.elim
theorem zNH {R' : List Ent} {i : IT} {x : i.t.T U.S} (hr : RelP X w0 H0 R s f w E H L) (hb : Br U H E f L i x R' R) :
  ∃ E' L',E.le E'∧(∀ e ∈ L,e ∈ L')∧RelP (offI X i) w0 H0 R' (putI s i x) f w E' H L':=by
 obtain ⟨v,hl,hv,hm⟩:=hb;obtain ⟨E',p,hc⟩:=zHA hr.sls hv;have hr1:=hr.put p;unfold putI;split at hm
 ·rename_i hrow
  subst hm;refine ⟨E',L,p.le,fun e h=>h,?_⟩;exact hr1.putL hc (hl.mono p.le fun e h=>List.mem_append_right _ h)
 ·rename_i T hrow
  obtain ⟨e,he,hR⟩:=hm;subst hR;obtain ⟨y1,y2⟩:=zVJ (s:=s) he;have hrow:RelP X w0 H0 R' (newRow (putV s i.t x).1 s.sl.length T) f w E' H (e :: L):=by
   refine ⟨hr1.st.perm List.perm_middle.symm,hr1.gl,hr1.sls,hr1.pts,hr1.nb,⟨⟨⟨i.t,x⟩,v,by (show (putV s i.t x).1.sl[_]?=_); grind,?_,he.any⟩,hr1.ens⟩,hr1.fr⟩;rw [y2] at hc;exact hc
  exact ⟨E',_,p.le,fun e h=>lN _ h,hrow.putL hc (hl.mono p.le fun e h=>List.mem_append_right _ (lN _ h))⟩
theorem Br.mono {R':List Ent} {i:IT} {x:i.t.T U.S} (hE:E.le E') (hL:∀ e ∈ L,e ∈ L') (h:Br U H E f L i x R' R):Br U H E' f L' i x R' R:=by
 obtain ⟨v,h1,h2⟩:=h;exact ⟨v,h1.mono hE hL,h2⟩
theorem Brings.mono (hE:E.le E') (hL:∀ e ∈ L,e ∈ L'):∀ {l:List IT} {x:KT U l} {R:List Ent},Brings U H E f L l x R→Brings U H E' f L' l x R
 | [],_,_,h=>h
 | [_],_,_,h=>Br.mono hE hL h
 | _ :: _ :: _,_,_,⟨R',h1,h2⟩=>⟨R',h1.mono hE hL,h2.mono hE hL⟩
theorem zHm:∀ {l:List IT} {x:KT U l} {R:List Ent} {X:Nat→Nat→Bool} {s:VS U} {E:Env} {L:List Ent},RelP X w0 H0 R s f w E H L→Brings U H E f L l x R→∃ E' L',E.le E'∧RelP (offIs X l) w0 H0 [] (putTs s l x) f w E' H L'
 | [],_,_,_,_,_,_,hr,h=>by
  subst h;exact ⟨_,_,Env.le_refl _,hr⟩
 | [i],x,R,X,s,E,L,hr,h=>by
  obtain ⟨E',L',hE,_,h1⟩:=zNH hr h;exact ⟨E',L',hE,h1⟩
 | i :: j :: r,x,R,X,s,E,L,hr,⟨R',h1,h2⟩=>by
  obtain ⟨E',L',hE,hL,h3⟩:=zNH hr h2;obtain ⟨E2,L2,hE2,h4⟩:=zHm h3 (h1.mono hE hL);exact ⟨E2,L2,Env.le_trans hE hE2,h4⟩
theorem zNE:∀ {l:List IT} {X:Nat→Nat→Bool} {b o:Nat},offIs X l b o=true→X b o=true∧hasCe l b o=false
 | [],X,b,o,h=>⟨h,rfl⟩
 | i :: r,X,b,o,h=>by
  obtain ⟨h1,h2⟩:=zNE (l:=r) (X:=offI X i) h;unfold offI at h1;unfold hasCe;cases hi:i.loc with
  | sl n=>rw [hi] at h1; exact ⟨h1,by rw [h2]; rfl⟩
  | ce b' o' =>
   rw [hi] at h1;simp only [offL,offX,bQ,Bool.not_eq_true'] at h1
   grind
theorem RelP.all (hr:RelP X w0 H0 [] s f w E H L) (hX:∀ b o,(boxAt s.en b).isSome=true→X b o=false):RelE w0 H0 s f w E H L:=by
 refine ⟨hr.st,hr.gl,hr.sls,hr.pts,hr.nb,?_,hr.fr⟩;have key:∀ {en:List EI} {L:List Ent},(∀ b o,(boxAt en b).isSome=true→X b o=false)→EnsOk X E H s.sl en L→EnsOk noX E H s.sl en L:=by
  intro en
  induction en with
  | nil=>intro L _ h; cases L with | nil=>trivial | cons=>exact h.elim
  | cons i en ih =>
   intro L hX h;cases L with
   | nil=>exact h.elim
   | cons e L =>
    refine ⟨?_,ih (fun b o hb=>hX b o ?_) h.2⟩
    ·cases i with
     | row j T=>exact h.1
     | box b T cs =>
      obtain ⟨vals,k,h1,h2,h3⟩:=h.1;exact ⟨vals,k,h1,h2.sub (fun o' c v _ _ _ hx=>by simp_all [boxAt]),h3⟩
    ·cases i <;> grind [boxAt]
 exact key hX hr.ens
end
section
variable {U:UV} {P:Program} {G:Gam U} {N:Frm} {s s':VS U} {f f':Fr} {w w' w0:World} {H0 H H':Hp} {E E':Env} {L L':List Ent} {Ω:Type} {X:Nat→Nat→Bool}
variable {a b ds:List Nat}
theorem Ext.same {s2:VS U} (h:Ext s s' a) (k:Ext s' s2 a):Ext s s2 a:=by
 obtain ⟨d,h1,h2⟩:=h.dt;obtain ⟨e,k1,k2⟩:=k.dt;refine ⟨zB9 h.sl k.sl,zB9 h.pt k.pt,nT h.nb k.nb,fun u hu=>(k.fr u hu).trans (h.fr u hu),e++d,gR,fun b hb o ho=>?_⟩;obtain ⟨o1,o2⟩:=zLi ho;exact (k2 b (Nat.lt_of_lt_of_le hb h.nb) o o1).trans (h2 b hb o o2)
theorem Ext.left (h:Ext s s' a):Ext s s' (a++b):=⟨h.sl,h.pt,h.nb,fun u hu=>h.fr u (zLq hu).1,h.dt⟩
theorem Ext.right (h:Ext s s' b):Ext s s' (a++b):=⟨h.sl,h.pt,h.nb,fun u hu=>h.fr u (zLq hu).2,h.dt⟩
theorem Ext.weak (h:Ext s s' a) (hab:∀ u,memb b u=false→memb a u=false):Ext s s' b:=⟨h.sl,h.pt,h.nb,fun u hu=>h.fr u (hab u hu),h.dt⟩
structure PutX (s s':VS U):Prop where
 fr:s'.fr=s.fr
 pt:s'.pt=s.pt
 nb:s'.nb=s.nb
 en:s'.en=s.en
 dt:s'.dt=s.dt
 sl:∃ l,s'.sl=s.sl++l
theorem PutX.refl (s:VS U):PutX s s:=⟨rfl,rfl,rfl,rfl,rfl,zAI _⟩
theorem PutX.trans {s2:VS U} (h:PutX s s') (k:PutX s' s2):PutX s s2:=⟨k.fr.trans h.fr,k.pt.trans h.pt,k.nb.trans h.nb,k.en.trans h.en,k.dt.trans h.dt,zB9 h.sl k.sl⟩
theorem zQg:∀ (t:PT) (s:VS U) (x:t.T U.S),PutX s (put1 s t x).1:=by
 intro t s x;cases t with
 | sl t=>exact ⟨rfl,rfl,rfl,rfl,rfl,⟨[⟨.sl t,x⟩],rfl⟩⟩
 | mr t=>exact ⟨rfl,rfl,rfl,rfl,rfl,⟨[⟨.mr t,x⟩],rfl⟩⟩
 | mp t=>exact ⟨rfl,rfl,rfl,rfl,rfl,⟨[⟨.mp t,x⟩],rfl⟩⟩
 | po T=>exact ⟨rfl,rfl,rfl,rfl,rfl,⟨[⟨.po T,x⟩],rfl⟩⟩
 | er=>exact ⟨rfl,rfl,rfl,rfl,rfl,⟨[⟨.er,x⟩],rfl⟩⟩
 | hid=>exact ⟨rfl,rfl,rfl,rfl,rfl,zAI _⟩
 | _=>exact PutX.refl s
theorem zSe:∀ (ts:List PT) (s:VS U) (x:HL U.S ts),PutX s (putHL s ts x).1:=by
 intro ts
 induction ts with
 | nil=>intro s x; exact PutX.refl s
 | cons t ts ih=>intro s x; exact (zQg t s x.1).trans (ih _ x.2)
theorem zNR:∀ (t:PT) (s:VS U) (x:t.T U.S),PutX s (putV s t x).1:=by
 intro t s x;cases t with
 | st T=>exact zSe _ _ _
 | _=>exact zQg _ _ _
theorem PutX.ext (h:PutX s s') (ds:List Nat):Ext s s' ds:=⟨h.sl,zRg h.pt,Nat.le_of_eq h.nb.symm,fun u _=>by rw [h.fr],[],by rw [h.dt]; rfl,fun b _ o _=>by rw [h.en]⟩
theorem zMt {en:List EI} {b o b' o':Nat} {c:CV} (h:(Nat.beq b b'&&Nat.beq o o')=false):zAi (setCell en b o c) b' o'=zAi en b' o':=by
 grind [setCell,Nat.beq_refl,zAi,zDA,zBw]
theorem zRk {l:LC} {c:CV} (h:locIn ds l=true):Ext s (putL s l c) ds:=by
 cases l with
 | sl n =>
  refine ⟨zAI _,zAI _,nR _,fun u hu=>?_,[],rfl,fun _ _ _ _=>rfl⟩;simp only [putL,look];cases hb:Nat.beq u n with
  | true=>rw [nQ hb] at hu; rw [show memb ds n=true from h] at hu; cases hu
  | false=>rfl
 | ce b o =>
  refine ⟨zAI _,zAI _,nR _,fun u hu=>rfl,[(b,o)],rfl,fun b' _ o' hm=>?_⟩;simp only [memX,Bool.or_false] at hm;exact zMt hm
theorem zRC {i:IT} {x:i.t.T U.S} (h:locIn ds i.loc=true):Ext s (putI s i x) ds:=by
 unfold putI;cases i.row with
 | none=>exact ((zNR _ _ _).ext ds).same (zRk h)
 | some T=>exact ((zNR _ _ _).ext ds).same ((zE5 _ _ ds).same (zRk h))
theorem zOG {ds:List Nat}:∀ {l:List IT} {x:KT U l} {s:VS U},inW l ds=true→Ext s (putTs s l x) ds
 | [],x,s,h=>Ext.refl s ds
 | [i],x,s,h=>zRC (by simpa [inW] using h)
 | i :: j :: r,x,s,h=>by
  unfold inW at h;rw [List.all_cons,bQ] at h;exact (zRC h.1).same (zOG (l:=j :: r) (by unfold inW; exact h.2))
theorem zD1 {lb ri:List Nat} {b:Nat}:∀ {en:List EI},boxAt (keepE lb ri en) b=bif memb lb b then none else boxAt en b
 | []=>by cases memb lb b <;> rfl
 | .box b' T cs :: r=>by
  simp only [keepE];cases hb:Nat.beq b' b with
  | true =>
   have:=nQ hb;subst this;cases hm:memb lb b' with
   | true=>rw [cond_true,zD1,hm]; rfl
   | false=>simp [boxAt]
  | false =>
   cases hm':memb lb b' with
   | true=>rw [cond_true,zD1]; simp only [boxAt,hb,cond_false]
   | false=>simp only [cond_false,boxAt,hb]; exact zD1
 | .row i T :: r=>by
  simp only [keepE];cases memb ri i with
  | true=>exact zD1
  | false=>exact zD1
theorem zK5 {lb:List Nat} {b o:Nat} (hb:memb lb b=true):∀ {en:List EI},memX (lostD lb en) b o=false→zAi en b o=none
 | [],_=>rfl
 | .box b' T cs :: r,h=>by
  simp only [lostD] at h;cases hbb:Nat.beq b' b with
  | true =>
   have:=nQ hbb;subst this;rw [hb,cond_true] at h;have:=zF8 (zLi h).1;simp only [zAi,boxAt,Nat.beq_refl,cond_true]
   grind
  | false =>
   have h2:memX (lostD lb r) b o=false:=by
    cases hm:memb lb b' with
    | true=>rw [hm,cond_true] at h; exact (zLi h).2
    | false=>grind
   have:=zK5 hb h2;simp only [zAi,boxAt,hbb,cond_false] at this ⊢;exact this
 | .row i T :: r,h=>by
  have:=zK5 (en:=r) hb h;exact this
theorem ext_bk {J:JN}:Ext s (bk s ds J) ds:=by
 refine ⟨zAI _,zAI _,nR _,fun u hu=>zGV hu,lostD J.lb s.en,rfl,fun b _ o hm=>?_⟩
 show zAi (keepE _ _ s.en) b o=_
 grind [zK5,zAi,zD1]
theorem zIo {lb ri:List Nat} {e:EI}:∀ {en:List EI},e ∈ keepE lb ri en→e ∈ en
 | [],h=>h
 | .box b T cs :: r,h=>by
  simp only [keepE] at h;cases hm:memb lb b with
  | true=>rw [hm] at h; exact lN _ (zIo h)
  | false =>
   rw [hm] at h;rcases List.mem_cons.1 h with h | h
   ·grind
   ·exact lN _ (zIo h)
 | .row i T :: r,h=>by
  simp only [keepE] at h;cases hm:memb ri i with
  | false=>rw [hm] at h; exact lN _ (zIo h)
  | true =>
   rw [hm] at h;rcases List.mem_cons.1 h with h | h
   ·grind
   ·exact lN _ (zIo h)
theorem zO5 (S:St w0 H0 w H L):∀ {en:List EI} {A K:List Ent},EnsOk noX E H s.sl en K→A++K=L→∀ {b T:Nat} {cs:List CV},EI.box b T cs ∈ en→boxAt en b=some cs
 | [],_,_,_,_,_,_,_,h=>by cases h
 | _ :: _,_,[],h,_,_,_,_,_=>h.elim
 | i :: en,A,e :: K,⟨h1,h2⟩,hA,b,T,cs,hm=>by
  have hA':(A++[e])++K=L:=by grind
  rcases List.mem_cons.1 hm with rfl | hm2
  ·simp_all [boxAt]
  ·have ih:=zO5 S h2 hA' hm2
   cases i with
   | row j T=>exact ih
   | box b' T' cs' =>
    simp only [boxAt];cases hb:Nat.beq b' b with
    | false=>exact ih
    | true =>
     have:=nQ hb;subst this;obtain ⟨v1,k1,g1,_,g3⟩:=h1;obtain ⟨j,hj⟩:=lI.1 hm2;obtain ⟨e2,he2,v2,k2,q1,_,q3⟩:=h2.get hj;rw [g1] at q1;cases q1;subst hA;have h0:(A++e :: K)[A.length]?=some e:=by simp
     have h1':(A++e :: K)[A.length+1+j]?=some e2:=by
      grind
     exact absurd rfl (S.blk_ne h0 h1' (zGI g3) (zGI q3) om)
theorem zIr:∀ {en:List EI} {i p:Nat} {T:TypeId},zKI en i T=some p→en[p]?=some (EI.row i T)
 | [],_,_,_,h=>by cases h
 | .row k T' :: r,i,p,T,h=>by
  simp only [zKI] at h;cases hb:Nat.beq k i&&Nat.beq T' T with
  | true =>
   rw [hb] at h;cases h;simp_all
  | false =>
   rw [hb,cond_false] at h;cases hp:zKI r i T with
   | none=>grind
   | some q=>rw [hp] at h; cases h; simpa using zIr hp
 | .box _ _ _ :: r,i,p,T,h=>by
  simp only [zKI] at h;cases hp:zKI r i T with
  | none=>grind
  | some q=>rw [hp] at h; cases h; simpa using zIr hp
theorem zKt:∀ {en:List EI} {b p n:Nat} {T:TypeId},zLH en b T n=some p→∃ cs,en[p]?=some (EI.box b T cs)∧cs.length=n∧boxAt en b=some cs
 | [],_,_,_,_,h=>by cases h
 | .row k T' :: r,b,p,n,T,h=>by
  simp only [zLH] at h;cases hp:zLH r b T n with
  | none=>grind
  | some q =>
   rw [hp] at h;cases h;obtain ⟨cs,h1,h2,h3⟩:=zKt hp;exact ⟨cs,by simpa using h1,h2,h3⟩
 | .box b' T' cs' :: r,b,p,n,T,h=>by
  simp only [zLH] at h;cases hb:Nat.beq b' b with
  | true =>
   rw [hb,cond_true] at h;have:=nQ hb;subst this;cases hc:Nat.beq T' T&&Nat.beq cs'.length n with
   | false=>grind
   | true =>
    rw [hc] at h;cases h;rw [bQ] at hc;exact ⟨cs',by simp_all,nQ hc.2,by simp only [boxAt,Nat.beq_refl,cond_true]⟩
  | false =>
   rw [hb,cond_false] at h;cases hp:zLH r b T n with
   | none=>grind
   | some q =>
    rw [hp] at h;cases h;obtain ⟨cs,h1,h2,h3⟩:=zKt hp;exact ⟨cs,by simpa using h1,h2,by simp only [boxAt,hb,cond_false]; exact h3⟩
theorem zNx {L T:List Ent}:∀ {a b:List Nat},pick L T (a++b)=pick L [] a++pick L T b
 | [],b=>rfl
 | i :: a,b=>by
  cases hi:L[i]? with
  | none=>simp only [List.cons_append,pick,hi]; exact zNx
  | some e=>simp only [List.cons_append,pick,hi,zNx (a:=a)]
theorem zRW {en':List EI} {sl:List (SLV U)}:∀ {ke:List EI} {b:List Nat},zRh en' ke=some b→(∀ e ∈ ke,∀ p,posE en' e=some p→∃ x,L'[p]?=some x∧EnOk X E H sl e x)→EnsOk X E H sl ke (pick L' [] b)
 | [],b,h,_=>by cases h; trivial
 | e :: ke,b,h,hk=>by
  simp only [zRh] at h;split at h
  case h_2=>cases h
  rename_i p ps hp hps;cases h;obtain ⟨x,hx,hx2⟩:=hk e lS p hp;have:pick L' [] (p :: ps)=x :: pick L' [] ps:=by rw [pick,hx]
  rw [this];exact ⟨hx2,zRW hps fun e he=>hk e (lN _ he)⟩
theorem zRe {d:List (Nat×Nat)} {b o:Nat} (h:memX d b o=true):(b,o) ∈ d:=by
 induction d with
 | nil=>cases h
 | cons x d ih =>
  obtain ⟨x1,x2⟩:=x;simp only [memX,Bool.or_eq_true,bQ] at h;rcases h with h | h
  all_goals simp_all
theorem zUF (hr : RelE w0 H0 s f w E H L) (hr' : RelE w0 H0 s' f' w' E' H' L') (hsl : ∃ l, s'.sl = s.sl ++ l) (hE : E.le E') {d : List (Nat × Nat)} (hd : ∀ b, b < s.nb → (∃ cs, boxAt s.en b = some cs) → ∀ o, memX d b o = false → zAi s'.en b o = zAi s.en b o) {e : EI} (he : e ∈ s.en) {p : Nat} (hp : posE s'.en e = some p) :
  ∃ x,L'[p]?=some x∧EnOk (memX d) E H' s.sl e x:=by
 obtain ⟨i,hi⟩:=lI.1 he;obtain ⟨x0,_,h0⟩:=hr.ens.get hi;cases e with
 | row i T =>
  obtain ⟨x,hx,y,v,h1,h2,h3⟩:=hr'.ens.get (zIr hp);obtain ⟨y0,v0,g1,g2,g3⟩:=h0;have e2:=zD8 hE.vs g2;rw [h2] at e2;cases e2;have e3:=zD8 hsl g1;rw [h1] at e3;cases e3;exact ⟨x,hx,y,v,g1,g2,by rw [← hE.hs]; exact h3⟩
 | box b T cs =>
  obtain ⟨cs',q1,q2,q3⟩:=zKt hp;obtain ⟨x,hx,vals,k,h1,h2,h3⟩:=hr'.ens.get q1;obtain ⟨vals0,k0,g1,g2,g3⟩:=h0;refine ⟨x,hx,vals,k0,g1,?_,?_⟩
  ·have hb : b < s.nb := by
    rw [← hr.nb]; grind
   have hfirst:boxAt s.en b=some cs:=zO5 hr.st (A:=[]) hr.ens rfl he;have v1:=h2.vals;have v0:=g2.vals;have l1:=zCN v1;have:∀ (o:Nat) (c:CV) (v:Value),cs[o]?=some c→vals[o]?=some v→memX d b o=true∨c.val E=some v:=by
    intro o c v hc hv;cases hm:memX d b o with
    | true=>exact .inl rfl
    | false =>
     have:=hd b hb ⟨_,hfirst⟩ o hm
     grind [zAi,zFL,CV.val_mono]
   have mk:∀ (cs:List CV) (vals:List Value) (o:Nat),cs.length=vals.length→(∀ (q:Nat) (c:CV) (v:Value),cs[q]?=some c→vals[q]?=some v→memX d b (o+q)=true∨c.val E=some v)→CsOk E (memX d) b o cs vals:=by
    intro cs
    induction cs with
    | nil=>intro vals o hl _; cases vals with | nil=>trivial | cons=>simp at hl
    | cons c cs ih =>
     intro vals o hl h;cases vals with
     | nil=>simp at hl
     | cons v vals =>
      refine ⟨h 0 c v rfl rfl,ih vals (o+1) (by simpa using hl) fun q c' v' hc hv=>?_⟩;have:=h (q+1) c' v' (by simpa using hc) (by simpa using hv)
      grind
   grind
  ·have e2:=zD8 hE.bs g1
   grind
end
end Go.VI
