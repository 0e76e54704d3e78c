/- A part. -/
import Derived.Test.YtihjhdoinmfddaaGreatDoorVr10d
set_option linter.unusedVariables false
set_option linter.unusedSimpArgs false
noncomputable section
namespace Go.VI
open Go Go.Eng
section
variable {U:UV} {P:Program} {G:Gam U} {N:Frm} {w0 wb:World} {H0 Hb:Hp} {Eb:Env} {Lc:List Ent} {f0:Fr} {s0:VS U} {ops:Array Oper} {nb:Nat} {Ω:Type}
 {hsf:Nat→Option Ent} {listed:Array Bool} {s s':VS U} {f f':Fr} {w w':World} {E E':Env} {H H':Hp} {L L':List Ent}
theorem zJv {i:Nat} (h:(listed.setIfInBounds i true).getD nb false=false):listed.getD nb false=false:=by
 by_cases hi:i=nb
 all_goals simp_all
theorem zWC {i:Nat} (hi:i ∈ Region.ready .any ops listed):(listed.setIfInBounds i true).getD i false=true:=by
 have h1:=(mem_ready.1 hi).1;have hl:i<listed.size:=by
  grind
 simp_all
theorem IV.loud (hG : GamOk P G) (hb0 : RelE w0 H0 { s0 with en := enC ops nb s0 } f0 wb Eb Hb Lc) (iv : IV ops nb s0 w0 H0 Eb Hb Lc hsf listed s f w E H L) {i : Nat} {d : Option Nat} {op : Op} {ty : TypeId} {pos : String} {af : Array Edge} {g : Option (Nat × Bool)} (ho : ops[i]? = some ⟨d, op, ty, pos, af, g⟩)
    {k:VS U→Option Ω} {r:Ω} (h:opd P G N.n d op s k=some r) (listed':Array Bool) {Q:Fr→World→Prop}
    (K:∀ s' f' w' E' H' L',k s'=some r→(∀ {b:Bool},(b=true→okB ops nb s0 s'=true∨listed'.getD nb false=true)→b=true→IV ops nb s0 w0 H0 Eb Hb Lc hsf listed' s' f' w' E' H' L')→Ext s s' d.toList→E.le E'→H.le H'→(∀ t,t<N.n→d≠some t→f' t=f t)→Q f' w') :
    WL P N ops [⟨d,op,ty,pos,af,none⟩] Q f w:=by
  have h1:WL P N ops [⟨d,op,ty,pos,af,none⟩] (fun f' w'=>(∀ t,t<N.n→d≠some t→f' t=f t)→Q f' w') f w:=by
    refine zPV hG h iv.rel fun s' f' w' E' H' L' hk hr' he hE hl=>WL.e fun hfr=>?_
    refine K s' f' w' E' H' L' hk (fun {b} hb1 hb2=>?_) he hE hl hfr;have hle:({ Eb with hs:=hsf }:Env).le E':=Env.le_trans iv.le hE;refine ⟨hr',iv.ext.same (he.into fun x hx=>zG3 ho (by exact hx)),hle,iv.hl.trans hl,fun hbr=>?_⟩;rcases hb1 hb2 with hok | hok
    · refine keepC hb0 hr' (iv.ext.same (he.into (ds:=dsts ops.toList) fun x hx=>zG3 ho (by exact hx))) ?_ hok
      have:E'.hs=hsf:=hle.hs
      grind
    grind
  exact (WL.frame h1).mono fun f' w' ⟨h2,h3⟩=>h2 h3
theorem zSG {a:Nat} {p:PD U} (h:start P N.n ops nb s a=some p):PF P N.n ops nb p (hide s p)∧p.i0=s.sl.length∧p.a=a:=by
 unfold start at h;split at h
 case h_2=>cases h
 rename_i d op ty pos af ho;split at h
 case h_2=>cases h
 rename_i pa hpa;cases hc:Nat.beq a nb||memb (slotsOf op) d||!(Nat.blt d N.n) with
 | true=>grind
 | false =>
  rw [hc,cond_false] at h;cases h;simp only [Bool.or_eq_false_iff,Bool.not_eq_false'] at hc;refine ⟨⟨⟨op,ty,pos,af,ho,?_⟩,?_,?_,(fun h=>by grind [Nat.beq_refl]),?_⟩,rfl,rfl⟩
  ·refine zQ5 hpa ⟨_,rfl⟩ fun t ht=>?_
   refine zGV ?_;rw [zDJ];cases hb:Nat.beq t d with
   | false=>rfl
   | true=>simp_all
  ·cases hl:look (del [d] s.fr) d with
   | none=>exact hl
   | some c =>
    have:=(zI5 hl).1
    grind [zDJ,Nat.beq_refl]
  ·show (s.sl++[_])[s.sl.length]?=_
   simp
  simp_all
theorem IV.hide {p : PD U} (iv : IV ops nb s0 w0 H0 Eb Hb Lc Eb.hs listed s f w E H L) (hi : p.i0 = s.sl.length) (hdm : memb (dsts ops.toList) p.d = true) :
  ∃ E',IV ops nb s0 w0 H0 Eb Hb Lc (hsOf Eb.hs p.i0 dummy) listed (hide s p) f w E' H (dummy :: L):=by
 have hvl:E.vs.length=s.sl.length:=iv.rel.sls.len;have hE0:E.le { E with vs:=E.vs++[Eng.int 0] }:=⟨⟨_,rfl⟩,zAI _,zAI _,rfl⟩;have hhs:E.hs=Eb.hs:=iv.le.hs;refine ⟨{ E with vs:=E.vs++[Eng.int 0],hs:=hsOf Eb.hs p.i0 dummy },⟨iv.rel.st.addNil 0 1,iv.rel.gl,iv.rel.sls.snoc (x:=⟨.hid,()⟩) rfl,(iv.rel.pts.mono hE0 (Hp.le.refl H)).hs,iv.rel.nb,⟨⟨⟨.hid,()⟩,Eng.int 0,?_,?_,zMd⟩,?_⟩,fun t c hc=>?_⟩,?_,⟨zB9 iv.le.vs ⟨_,rfl⟩,iv.le.bs,iv.le.ps,rfl⟩,iv.hl,fun h e he=>lN _ (iv.own h e he)⟩
 ·rw [hi]; show (s.sl++[_])[s.sl.length]?=_; simp
 ·grind
 ·have h1:EnsOk noX { E with vs:=E.vs++[Eng.int 0] } H (s.sl++[⟨.hid,()⟩]) s.en L:=iv.rel.ens.mono hE0 (Hp.le.refl H) ⟨_,rfl⟩
  refine h1.hs (h:=hsOf Eb.hs p.i0 dummy) fun j T hm=>?_
  obtain ⟨q,hq⟩:=lI.1 hm;obtain ⟨e,_,x,v,g1,_,_⟩:=iv.rel.ens.get hq
  grind [zNW]
 ·obtain ⟨_,h2⟩:=zI5 hc
  have h3:=CV.val_mono hE0 (iv.rel.fr t c h2);have h4:=CV.val_hs { E with vs:=E.vs++[Eng.int 0] } (hsOf Eb.hs p.i0 dummy) c
  grind
 ·refine iv.ext.same ⟨⟨_,rfl⟩,zAI _,nR _,fun u hu=>zGV ?_,[],rfl,fun _ _ _ _=>rfl⟩
  rw [zDJ];cases hb:Nat.beq u p.d with
  | false=>rfl
  | true=>simp_all
theorem Cl.le {Hc:Hp} (hc:Hc.le H):∀ w,Cl w0 H0 H Lc w→Cl w0 H0 Hc Lc w:=fun _ ⟨H',hl,S⟩=>⟨H',hc.trans hl,S⟩
theorem zTs (hG : GamOk P G) (hsel : Region.noSelect ops = true) (hb0 : RelE w0 H0 { s0 with en := enC ops nb s0 } f0 wb Eb Hb Lc) {k : VS U → Option Ω} {r : Ω} {Q : Fr → World → Prop}
    (K:∀ s' f' w' E' H' L',k s'=some r→RelE w0 H0 s' f' w' E' H' L'→Ext s0 s' (dsts ops.toList)→Eb.le E'→Hb.le H'→Q f' w'):∀ pl:List PS,
    (∀ {listed s f w E H L},opP P G N.n ops nb s0 pl none s k=some r→zFq ops nb none listed pl=true→DC .any ops listed→IV ops nb s0 w0 H0 Eb Hb Lc Eb.hs listed s f w E H L→∀ {Hc:Hp},Hc.le H→WD P N ops nb (Cl w0 H0 Hc Lc) (cnt pl) listed Q f w) ∧
    (∀ {p listed s},opP P G N.n ops nb s0 pl (some p) s k=some r→zFq ops nb (some p.a) listed pl=true→PF P N.n ops nb p s→∃ m,cnt pl=m+1 ∧
      (∀ {f w E H L e},DC .any ops (listed.setIfInBounds p.a true)→IV ops nb s0 w0 H0 Eb Hb Lc (hsOf Eb.hs p.i0 e) (listed.setIfInBounds p.a true) s f w E H L→Born E H (f p.d) e p.pa→∀ {Hc:Hp},Hc.le H→WD P N ops nb (Cl w0 H0 Hc Lc) m (listed.setIfInBounds p.a true) Q f w) ∧
      (∀ {f w E H L},DC .any ops listed→IV ops nb s0 w0 H0 Eb Hb Lc (hsOf Eb.hs p.i0 dummy) listed s f w E H L→∀ {Hc:Hp},Hc.le H→WD P N ops nb (Cl w0 H0 Hc Lc) (m+1) listed Q f w)):=by
  intro pl
  induction pl with
  | nil =>
    refine ⟨?_,?_⟩
    · intro listed s f w E H L h hok hdc iv Hc hc
      simp only [opP] at h;exact WD.done (iv.cls hb0 hc) (List.isEmpty_iff.1 hok) (K _ _ _ _ _ _ h iv.rel iv.ext iv.le iv.hl)
    grind [opP]
  | cons x pl ih =>
  refine ⟨?_,?_⟩
  · intro listed s f w E H L h hok hdc iv Hc hc
    cases x with
    | t i =>
      simp only [zFq,bQ] at hok;simp only [opP] at h;obtain ⟨d,op,ty,pos,af,g,ho,hfree,hin,hwait,hbar,hready⟩:=zHb hok.1;rw [ho] at h;obtain ⟨s1,iv,h⟩:=zPF iv h;have yes:Region.wanted ⟨d,op,ty,pos,af,g⟩ (yielded ops (act N f).tmps)=true→opp P N.n d op { s1 with en:=enC ops nb s0 } (fun s'=>opP P G N.n ops nb s0 pl none { s' with en:=s1.en } k)=some r→WD P N ops nb (Cl w0 H0 Hc Lc) (cnt pl+1) listed Q f w:=fun hw h=>by
        obtain ⟨s',E',v,hk,iv',_,_,hrun⟩:=iv.q hb0 hbar h (fun x hx=>zG3 ho (by exact hx)) (listed.setIfInBounds i true) zJv (ty:=ty) (pos:=pos) (af:=af);exact (WD.takeG ho hsel hfree hready hin hwait hdc hbar hw (fun w' ⟨H',hle,S'⟩=>hrun w' H' hle S') (ih.1 hk hok.2 (hdc.set hready) iv' (Hp.le.refl H))).mono (Cl.le hc)
      have no:Region.wanted ⟨d,op,ty,pos,af,g⟩ (yielded ops (act N f).tmps)=false→opP P G N.n ops nb s0 pl none (setd s1 d .und) k=some r→WD P N ops nb (Cl w0 H0 Hc Lc) (cnt pl+1) listed Q f w:=fun hw h =>
        WD.skipG ho hsel hfree hready hin hwait hdc hbar hw (ih.1 h hok.2 (hdc.set hready) (iv.skip (fun x hx=>zG3 ho (by exact hx)) (listed.setIfInBounds i true) zJv) hc)
      rcases h with ⟨rfl,h⟩ | ⟨j,bb,t,z,rfl,hj,hv,⟨rfl,h⟩ | ⟨rfl,h⟩⟩ | ⟨j,bb,t,rfl,hj,hv,h⟩
      · exact yes (by simp [Region.wanted]) h
      · exact yes (by simp [Region.wanted,zEz hj hv]) h
      · exact no (by simp [Region.wanted,zEz hj hv]) h
      · exact no (by simp [Region.wanted,zPi hj hv]) h
    | l i b =>
      simp only [zFq,bQ,Bool.or_eq_true] at hok;obtain ⟨⟨hre,hb0'⟩,hok⟩:=hok;simp only [opP] at h;split at hre
      case h_2=>cases hre
      rename_i j0 hre0;have:=nQ hre;subst this;split at h
      case h_2=>cases h
      rename_i o ho;obtain ⟨d,op,ty,pos,af,g⟩:=o;have him:i ∈ Region.ready .any ops listed:=by grind
      refine WD.next (iv.cls hb0 hc) (by rw [hre0]; simp) fun j hj=>?_
      have hj:j=i:=by grind
      subst hj;refine ⟨_,ho,?_⟩;obtain ⟨s1,iv,h⟩:=zPF iv h
      have yes : opd P G N.n d op s1 (fun s' => bif !b || okB ops nb s0 s' then opP P G N.n ops nb s0 pl none s' k else none) = some r →
          WL P N ops [⟨d,op,ty,pos,af,none⟩] (fun f' w'=>WD P N ops nb (Cl w0 H0 Hc Lc) (cnt pl) (listed.setIfInBounds j true) Q f' w') f w:=fun h=>by
        refine iv.loud hG hb0 ho h (listed.setIfInBounds j true) fun s' f' w' E' H' L' hk hiv _ _ hl _=>?_
        obtain ⟨hb,hk⟩:=cT hk;refine ih.1 hk hok (hdc.set him) (hiv (b:=true) (fun _=>?_) rfl) (hc.trans hl)
        grind [zJv,nQ,zWC]
      have no:opP P G N.n ops nb s0 pl none (setd s1 d .und) k=some r→WL P N ops [] (fun f' w'=>WD P N ops nb (Cl w0 H0 Hc Lc) (cnt pl) (listed.setIfInBounds j true) Q f' w') (updo f d undef) w:=fun h =>
        WL.e (ih.1 h hok (hdc.set him) (iv.skip (fun x hx=>zG3 ho (by exact hx)) (listed.setIfInBounds j true) zJv) hc)
      rcases h with ⟨rfl,h⟩ | ⟨j',bb,t,z,rfl,hj,hv,⟨rfl,h⟩ | ⟨rfl,h⟩⟩ | ⟨j',bb,t,rfl,hj,hv,h⟩
      · exact yes h
      · exact WL.yz hj hv rfl (yes h)
      · exact WL.n hj hv rfl (no h)
      · exact WL.gund hj hv (no h)
    | p a =>
      simp only [zFq] at hok;simp only [opP] at h;split at h
      case h_2=>cases h
      rename_i p hp;obtain ⟨hpf,hi0,hpa⟩:=zSG hp;subst hpa;obtain ⟨op,ty,pos,af,ho,_⟩:=hpf.op;obtain ⟨E',iv'⟩:=iv.hide hi0 (zG3 ho rfl)
      grind [cnt]
    | pt i=>grind [opP]
    | pl b=>grind [opP]
    | r=>grind [opP]
  · intro p listed s h hok hpf
    obtain ⟨opa,tya,posa,afa,hoa,hpre⟩:=hpf.op;have hpdm:memb (dsts ops.toList) p.d=true:=zG3 hoa rfl;have hbarA:∀ {l:Array Bool},(l.setIfInBounds p.a true).getD nb false=l.getD nb false:=fun {l}=>zOK true hpf.nb
    cases x with
    | t i=>grind [opP]
    | l i b=>grind [opP]
    | p a=>grind [opP]
    | pt i =>
      simp only [zFq,bQ] at hok;obtain ⟨⟨⟨t1,t2⟩,tg⟩,hok⟩:=hok;simp only [opP] at h;obtain ⟨d,op,ty,pos,af,g,ho,hfree,hin,hwait,hbar,hready⟩:=zHb t1;obtain ⟨d',op',ty',pos',af',g',ho',hfree',_,_,hbar',hready'⟩:=zHb t2;unfold zNo at tg;rw [ho] at h tg;cases g with
      | some _=>cases tg
      | none =>
      simp only at h;obtain ⟨t3,h⟩:=cT h;refine ⟨cnt pl,rfl,?_,?_⟩
      · intro f w E H L e hdc iv hb Hc hc
        obtain ⟨s',E',v,hk,iv',he,hE,hrun⟩:=iv.q hb0 hbar' h (fun x hx=>zG3 ho (by exact hx)) ((listed.setIfInBounds i true).setIfInBounds p.a true) (fun hx=>by omega) (ty:=ty) (pos:=pos) (af:=af);obtain ⟨m,hm,h1,_⟩:=ih.2 hk hok (hpf.step he t3);rw [hm];refine (WD.take ho hsel hfree' hready' hin hwait hdc hbar' (fun w' ⟨H',hle,S'⟩=>hrun w' H' hle S') ?_).mono (Cl.le hc);have hcomm:(listed.setIfInBounds p.a true).setIfInBounds i true=(listed.setIfInBounds i true).setIfInBounds p.a true:=by
          grind [Array.setIfInBounds_comm]
        have hdc2:=hdc.set hready';rw [hcomm] at hdc2;rw [hcomm];have hpd:updo f d v p.d=f p.d:=by
          cases d with
          | none=>rfl
          | some x =>
            have t3:zKL ops p (some x)=true:=t3;unfold zKL at t3;simp only [bQ,Bool.not_eq_true'] at t3;have:Nat.beq p.d x=false:=by
              cases hb2:Nat.beq p.d x with
              | false=>rfl
              | true=>simp_all
            simp_all [updo,upd]
        exact h1 hdc2 iv' (by rw [hpd]; exact hb.mono hE (Hp.le.refl H)) (Hp.le.refl H)
      · intro f w E H L hdc iv Hc hc
        obtain ⟨s',E',v,hk,iv',he,hE,hrun⟩:=iv.q hb0 hbar h (fun x hx=>zG3 ho (by exact hx)) (listed.setIfInBounds i true) zJv (ty:=ty) (pos:=pos) (af:=af);obtain ⟨m,hm,_,h2⟩:=ih.2 hk hok (hpf.step he t3);refine (WD.take ho hsel hfree hready hin hwait hdc hbar (fun w' ⟨H',hle,S'⟩=>hrun w' H' hle S') ?_).mono (Cl.le hc);rw [hm];exact h2 (hdc.set hready) iv' (Hp.le.refl H)
    | r =>
      simp only [zFq,bQ] at hok;obtain ⟨hre0,hok⟩:=hok;simp only [opP] at h;split at hre0
      case h_2=>cases hre0
      rename_i i hre;have:=nQ hre0;subst this;obtain ⟨hcnd,h⟩:=cT h;obtain ⟨q,T,hq,hd,hun⟩:=zMy hcnd;refine ⟨cnt pl,rfl,?_,?_⟩
      · intro f w E H L e hdc iv hb Hc hc
        obtain ⟨e0,hq0,x0,v0,g1,g2,g3⟩:=iv.rel.ens.get hq;rw [hpf.sl] at g1;cases g1;have g3:E.hs p.i0=some e0:=g3;rw [show E.hs=hsOf Eb.hs p.i0 e from iv.le.hs,zMd] at g3;cases g3;have hp:=zMD hq0;obtain ⟨E',iv'⟩:=iv.resolve hd hun (f':=f) (fun _ _ _=>rfl) (Hp.le.refl H) (iv.rel.st.perm hp) hb hpdm (listed.setIfInBounds p.a true) (fun hx x hm=>hp.subset (iv.own hx x hm))
        grind
      · intro f w E H L hdc iv Hc hc
        refine WD.next (iv.cls hb0 hc) (by rw [hre]; simp) fun j hj=>?_
        have hja:=hj;have hj:j=p.a:=by grind
        subst hj;refine ⟨_,hoa,born hpre iv.rel fun v w' H' e hle S hb=>?_⟩;obtain ⟨e0,hq0,x0,v0,g1,g2,g3⟩:=iv.rel.ens.get hq;rw [hpf.sl] at g1;cases g1;have g3:E.hs p.i0=some e0:=g3;rw [show E.hs=hsOf Eb.hs p.i0 dummy from iv.le.hs,zMd] at g3;cases g3;have hself:Nat.beq p.d p.d=true:=Nat.beq_refl _;obtain ⟨E',iv'⟩:=iv.resolve hd hun (f':=upd f p.d v) (fun t c hc=>by
          have hne:Nat.beq t p.d=false:=by
            cases hb2:Nat.beq t p.d with
            | false=>rfl
            | true=>rw [nQ hb2,hpf.fr] at hc; cases hc
          grind [upd]) hle (S.drop (e :: L.eraseIdx q) ((List.eraseIdx_sublist L q).cons_cons e)) (by grind [upd]) hpdm (listed.setIfInBounds p.a true) (fun hx x hm=>by
            rw [hbarA] at hx;obtain ⟨q',hq'⟩:=lI.1 (iv.own hx x hm);have hne:q'≠q:=fun h2=>by
              subst h2;rw [hq0] at hq';cases hq';exact zQ9 hb0.ens _ hm rfl
            grind [List.mem_eraseIdx_iff_getElem?])
        exact ih.1 h hok (hdc.set hja) iv' (hc.trans hle)
    | pl b =>
      simp only [zFq,bQ,Bool.not_eq_true'] at hok;obtain ⟨⟨⟨⟨⟨hxy,hba⟩,hbn⟩,hbar⟩,tg⟩,hok⟩:=hok;simp only [opP] at h;split at hxy
      case h_2=>cases hxy
      rename_i x y z hre hre2;simp only [bQ,Bool.or_eq_true] at hxy;obtain ⟨hz,hxy⟩:=hxy;have:=nQ hz;subst this;split at h
      case h_2=>cases h
      rename_i o ho;obtain ⟨d,op,ty,pos,af,g⟩:=o;unfold zNo at tg;rw [ho] at tg;cases g with
      | some _=>cases tg
      | none =>
      cases hcnd:zKL ops p d&&hidOk s p with
      | false=>simp_all
      | true =>
      simp only [hcnd,cond_true] at h;rw [bQ] at hcnd;obtain ⟨hsl,hhid⟩:=hcnd;have hbne:z≠p.a:=fun h=>by grind
      have hdp:d≠some p.d:=fun hd=>by
        grind [zKL,Nat.beq_refl]
      obtain ⟨q,T,hq,hd,hun⟩:=zMy hhid;have hcomm:(listed.setIfInBounds p.a true).setIfInBounds z true=(listed.setIfInBounds z true).setIfInBounds p.a true:=Array.setIfInBounds_comm _ _ (Ne.symm hbne);obtain ⟨m,hm⟩:∃ m,cnt pl=m+1:=by
        cases pl with
        | nil=>cases hok
        | cons x pl=>cases x <;> first | exact ⟨_,rfl⟩ | grind [zFq]
      have M1:∀ {f w E H L e},DC .any ops (listed.setIfInBounds p.a true)→IV ops nb s0 w0 H0 Eb Hb Lc (hsOf Eb.hs p.i0 e) (listed.setIfInBounds p.a true) s f w E H L→Born E H (f p.d) e p.pa→∀ {Hc:Hp},Hc.le H→WD P N ops nb (Cl w0 H0 Hc Lc) (cnt pl) (listed.setIfInBounds p.a true) Q f w:=by
        intro f w E H L e hdc iv hb Hc hc;rw [hm];refine WD.next (iv.cls hb0 hc) (by rw [hre2]; simp) fun j hj=>?_
        have hdc2:=hdc.set hj;have hj:j=z:=by grind
        subst hj;refine ⟨_,ho,iv.loud hG hb0 ho h ((listed.setIfInBounds j true).setIfInBounds p.a true) fun s' f' w' E' H' L' hk hiv he hE hl hfr=>?_⟩;obtain ⟨hb2,hk⟩:=cT hk;rw [bQ] at hb2;rw [hcomm] at hdc2;rw [hcomm];obtain ⟨m',hm',h1,_⟩:=ih.2 hk hok (hpf.step he hsl);obtain rfl:m=m':=by omega
        exact h1 hdc2 (hiv (b:=true) (fun _=>.inl hb2.1) rfl) (by rw [hfr p.d hpf.lt hdp]; exact hb.mono hE hl) (hc.trans hl)
      refine ⟨cnt pl,rfl,M1,?_⟩;intro f w E H L hdc iv Hc hc;refine WD.next (iv.cls hb0 hc) (by rw [hre]; simp) fun j hj=>?_
      have hdc2:=hdc.set hj;have hj:j=p.a∨j=z:=by
        rw [hre] at hj;simp only [List.mem_cons,List.not_mem_nil,or_false] at hj;rcases hxy with ⟨h1,h2⟩ | ⟨h1,h2⟩
        all_goals grind [nQ]
      rcases hj with hj | hj
      · subst hj
        refine ⟨_,hoa,born hpre iv.rel fun v w' H' e hle S hb=>?_⟩;have hself:Nat.beq p.d p.d=true:=Nat.beq_refl _;exact M1 hdc2 (iv.switch hb0 hq hun hle S hpf.fr hpf.sl (listed.setIfInBounds p.a true) (fun hx=>by omega)) (by simp only [upd,hself,cond_true]; exact hb.hs) (hc.trans hle)
      · subst hj
        refine ⟨_,ho,iv.loud hG hb0 ho h (listed.setIfInBounds j true) fun s' f' w' E' H' L' hk hiv he hE hl _=>?_⟩;obtain ⟨hb2,hk⟩:=cT hk;rw [bQ] at hb2;obtain ⟨m',hm',_,h2⟩:=ih.2 hk hok (hpf.step he hsl);rw [hm'];exact h2 hdc2 (hiv (b:=true) (fun _=>.inl hb2.1) rfl) (hc.trans hl)
end
section
variable {U:UV}
def wr:Code→List Nat
 | .region _ ops _=>dsts ops.toList
 | .seq a b=>wr a++wr b
 | .cond _ a b=>wr a++wr b
 | .block _ c=>wr c
 | .loop c=>wr c
 | .scope c=>wr c
 | _=>[]
inductive NL where
 | sl (n:Nat) | ce (b o:Nat) | cs (n o:Nat) | cp (n:Nat) (p:List Nat) (o:Nat)
structure NI where
 loc:NL
 t:PT
 row:Option TypeId:=none
abbrev iS (n:Nat) (t:PT):NI:=⟨.sl n,t,none⟩
abbrev iC (n o:Nat) (t:PT):NI:=⟨.cs n o,t,none⟩
abbrev iR (n:Nat) (t:PT) (T:TypeId):NI:=⟨.sl n,t,some T⟩
structure NJ where
 items:List NI
 kr:Option (List NL):=none
 lb:List NL:=[]
def walkE (en:List EI) (z:Nat):Nat→Nat→List Nat→Nat→Nat×Nat
 | b,o,[],q=>(b,o+q)
 | b,o,x :: r,q=>match zAi en b (o+x) with | some (.ptr b' o')=>walkE en z b' o' r q | some (.mp b')=>(b',0) | _=>(z,0)
def nmL (s:VS U):NL→LC
 | .sl n=>.sl n
 | .ce b o=>.ce b o
 | .cs n o=>match look s.fr n with | some (.ptr b o')=>.ce b (o'+o) | some (.mp b)=>.ce b o | _=>.ce s.nb 0
 | .cp n p o=>match look s.fr n with | some (.ptr b o')=>.ce (walkE s.en s.nb b o' p o).1 (walkE s.en s.nb b o' p o).2 | _=>.ce s.nb 0
def nmB (s:VS U) (l:NL):Nat:=match nmL s l with | .ce b _=>b | .sl _=>s.nb
def nm (s:VS U) (J:NJ):JN:={ items:=J.items.map fun i=>⟨nmL s i.loc,i.t,i.row⟩,kr:=J.kr.map fun l=>l.map (nmL s),lb:=J.lb.map (nmB s) }
inductive AT where
 | e | j (J:NJ) (b:Bool) (A:AT) | n (l r:AT) | lp (st:NJ) (out:Option NJ) (ret:Bool) (b:AT) | un (n:Nat) (b:AT) | all (n:Nat)
def AT.lt:AT→AT | .n l _=>l | .all m=>.all m | _=>.e
def AT.rt:AT→AT | .n _ r=>r | .all m=>.all m | _=>.e
def jend {R:Type} (s:VS U) (J:JN) (s':VS U) (c:KT U J.items→Option R):Option R:=bif okN s s' J then pack s' J.items c else none
def jput (s:VS U) (ds:List Nat) (J:JN) (x:KT U J.items):VS U:=putTs (bk s ds J) J.items x
def jnD {R:Type} (ds:List Nat) (s:VS U) (J:JN) (b:Bool) (k:Exit→VS U→Option R) (run:{R:Type}→(Exit→VS U→Option R)→Option R):Option R :=
 match b with
 | false=>bif inW J.items ds then (run fun e s'=>match e with | .normal=>jend s J s' some | _=>none).bind fun x=>k .normal (jput s ds J x) else none
 | true => bif inW J.items ds then (run fun e s' => match e with | .normal => jend s J s' fun x => some (Sum.inl x) | e => (k e s').bind fun r => some (Sum.inr r)).bind fun
   | .inr r=>some r
   | .inl x=>k .normal (jput s ds J x)
   else none
def jn {R:Type} (ds:List Nat) (A:AT) (s:VS U) (k:Exit→VS U→Option R) (run:{R:Type}→AT→(Exit→VS U→Option R)→Option R):Option R :=
 match A with
 | .j J b B=>jnD ds s (nm s J) b k (run B)
 | A=>run A k
def unr {R:Type} (i:Nat) (k:Exit→VS U→Option R) (run:VS U→(Exit→VS U→Option R)→Option R):Nat→VS U→Option R
 | 0,_=>none
 | n+1,s=>run s fun e s'=>match e with
  | .normal=>unr i k run n s'
  | e=>k (blk i e) s'
def lpD {R:Type} (i:Nat) (ds:List Nat) (s:VS U) (st:JN) (out:Option JN) (b:Bool) (k:Exit→VS U→Option R) (run:{R:Type}→VS U→(Exit→VS U→Option R)→Option R):Option R :=
 match out,b with
 | some out,false =>
  bif inW st.items ds&&inW out.items ds then jend s st s fun x0=>(zAB (fun x=>run (jput s ds st x) fun e s'=>match e with
   | .normal=>jend s st s' fun y=>some (Sum.inl y)
   | .exit j=>bif Nat.beq j i then jend s out s' fun y=>some (Sum.inr y) else none
   | _=>none) x0).bind fun y=>k .normal (jput s ds out y)
  else none
 | some out,true =>
  bif inW st.items ds&&inW out.items ds then jend s st s fun x0=>(zAB (fun x=>run (jput s ds st x) fun e s'=>match e with
   | .normal=>jend s st s' fun y=>some (Sum.inl y)
   | .exit j=>bif Nat.beq j i then jend s out s' fun y=>some (Sum.inr (Sum.inl y)) else (k (.exit j) s').bind fun r=>some (Sum.inr (Sum.inr r))
   | .ret=>(k .ret s').bind fun r=>some (Sum.inr (Sum.inr r))
   | _=>none) x0).bind fun
   | .inr r=>some r
   | .inl y=>k .normal (jput s ds out y)
  else none
 | none,_ =>
  bif inW st.items ds then jend s st s fun x0=>(zAB (fun x=>run (jput s ds st x) fun e s'=>match e with
   | .normal=>jend s st s' fun y=>some (Sum.inl y)
   | .exit j=>bif Nat.beq j i then none else (k (.exit j) s').bind fun r=>some (Sum.inr r)
   | .ret=>(k .ret s').bind fun r=>some (Sum.inr r)
   | _=>none) x0).bind fun r=>some r
  else none
def qOk (G:Gam U) (o:Oper):Bool :=
 match o.op with
 | .call c=>(match c.callee with | .value (.func g)=>(match G g with | some S=>S.qt | none=>false) | .value _=>true | .builtin .append=>false | .builtin .delete=>false | .builtin _=>true | _=>false)
 | .store _ _ _=>false | .alloc _=>false | .box _ _=>false | .buildSlice _ _ _=>false | .mapUpdate _ _ _ _=>false | .makeMap _ _=>false | .makeSlice _ _ _=>false
 | _=>true
def PlOk (PL:PLs):Code→Bool
 | .region id ops true=>(match plk PL id with | some p=>Region.noSelect ops&&Nat.beq (cnt p.2) ops.size&&zFq ops p.1 none (Array.replicate ops.size false) p.2 | none=>true)
 | .seq a b=>PlOk PL a&&PlOk PL b
 | .cond _ a b=>PlOk PL a&&PlOk PL b
 | .block _ c=>PlOk PL c
 | .loop c=>PlOk PL c
 | .scope c=>PlOk PL c
 | _=>true
def den (P:Program) (G:Gam U) (N:Nat) (PL:PLs):{R:Type}→AT→Code→VS U→(Exit→VS U→Option R)→Option R
 | _,_,.skip,s,k=>k .normal s
 | _,_,.region id ops draw,s,k=>match draw with
  | false=>opsd P (opd P G N) (ldOf G) N ops (ops.size+1) ops.toList s (k .normal)
  | true=>match plk PL id with
   | some p=>bif P.follows .mixedOrders then opP P G N ops p.1 s p.2 none s (k .normal) else none
   | none=>bif P.follows .mixedOrders&&Region.lexB .any ops&&ops.toList.all (qOk G) then opsd P (opq P G N) (fun _=>false) N ops (ops.size+1) ops.toList s (k .normal) else none
 | _,A,.seq x y,s,k=>jn (wr x) A.lt s (fun e s=>match e with | .normal=>jn (wr y) A.rt s k (fun A k=>den P G N PL A y s k) | e=>k e s) (fun A k=>den P G N PL A x s k)
 | _,A,.cond c x y,s,k=>match opn N s c with | some (.boo b)=>bif b then jn (wr x) A.lt s k (fun A k=>den P G N PL A x s k) else jn (wr y) A.rt s k (fun A k=>den P G N PL A y s k) | _=>none
 | _,.lp st out b A,.block i (.loop c),s,k=>lpD i (wr c) s (nm s st) (out.map (nm s)) b k (fun s k=>jn (wr c) A s k (fun A k=>den P G N PL A c s k))
 | _,.un n A,.block i (.loop c),s,k=>unr i k (fun s k=>jn (wr c) A s k (fun A k=>den P G N PL A c s k)) n s
 | _,.all n,.block i (.loop c),s,k=>unr i k (fun s k=>jn (wr c) (.all n) s k (fun A k=>den P G N PL A c s k)) n s
 | _,A,.block i x,s,k=>jn (wr x) A.lt s (fun e s=>k (blk i e) s) (fun A k=>den P G N PL A x s k)
 | _,A,.scope c,s,k=>jn (wr c) A.lt s (fun e s=>match e with | .goto _=>none | e=>k e s) (fun A k=>den P G N PL A c s k)
 | _,_,.label _,s,k=>k .normal s
 | _,_,.exit i,s,k=>k (.exit i) s
 | _,_,.ret,s,k=>k .ret s
 | _,_,_,_,_=>none
end
section
variable {U:UV} {P:Program} {G:Gam U} {N:Frm} {PL:PLs} {s s':VS U} {f f':Fr} {w w' w0:World} {H0 H H':Hp} {E E':Env} {L L':List Ent} {Ω:Type}
theorem zCZ (hr : RelE w0 H0 s f w E H L) (hr' : RelE w0 H0 s' f' w' E' H' L') {ds : List Nat} (he : Ext s s' ds) (hE : E.le E') (hl : H.le H') {J : JN} {c : KT U J.items → Option Ω} {r : Ω} (h : jend s J s' c = some r) :
  ∃ x E2 L2,c x=some r∧E.le E2∧RelE w0 H0 (jput s ds J x) f' w' E2 H' L2:=by
 unfold jend at h;cases ho:okN s s' J with
 | false=>grind
 | true=>rw [ho,cond_true] at h; exact zNM hr hr' he hE hl ho h
def GoesC (w0:World) (H0:Hp) (s:VS U) (ds:List Nat) (E:Env) (H:Hp) (k:Exit→VS U→Option Ω) (r:Ω) (Q:Exit→Fr→World→Prop):Prop :=
 ∀ e s' f' w' E' H' L',k e s'=some r→RelE w0 H0 s' f' w' E' H' L'→Ext s s' ds→E.le E'→H.le H'→Q e f' w'
structure DenOk (P:Program) (G:Gam U) (N:Frm) (PL:PLs) (c:Code):Prop where
 out:∀ {Ω:Type} {w0:World} {H0:Hp} {A:AT} {s:VS U} {f:Fr} {w:World} {E:Env} {H:Hp} {L:List Ent} {k:Exit→VS U→Option Ω} {r:Ω},den P G N.n PL A c s k=some r→RelE w0 H0 s f w E H L→∀ {Q:Exit→Fr→World→Prop},
  GoesC w0 H0 s (wr c) E H k r Q→WP P N c Q f w
variable {k:Exit→VS U→Option Ω}
theorem zFz {c : Code} (ih : DenOk (U := U) P G N PL c) {A : AT} {r : Ω} (h : jn (wr c) A s k (fun A k => den P G N.n PL A c s k) = some r) (hr : RelE w0 H0 s f w E H L) {Q : Exit → Fr → World → Prop}
    (K:GoesC w0 H0 s (wr c) E H k r Q):WP P N c Q f w:=by
  unfold jn at h;split at h
  · rename_i J b B
    unfold jnD at h;split at h
    · obtain ⟨hin,h⟩:=cT h
      obtain ⟨x,hx,h⟩:=bindE h;refine ih.out hx hr fun e s' f' w' E' H' L' h' hr' he hE hl=>?_
      cases e with
      | normal =>
        obtain ⟨y,E2,L2,hy,hE2,hr2⟩:=zCZ hr hr' he hE hl h';cases hy;exact K _ _ _ _ _ _ _ h hr2 (zHq hin) hE2 hl
      | _=>cases h'
    · obtain ⟨hin,h⟩:=cT h
      obtain ⟨x,hx,h⟩:=bindE h;refine ih.out hx hr fun e s' f' w' E' H' L' h' hr' he hE hl=>?_
      have other:(k e s').bind (fun r=>some (Sum.inr r))=some x→Q e f' w':=fun h'=>by
        obtain ⟨r1,hr1,h2⟩:=bindE h';cases h2;cases h;exact K _ s' f' w' E' H' L' hr1 hr' he hE hl
      cases e with
      | normal =>
        obtain ⟨y,E2,L2,hy,hE2,hr2⟩:=zCZ hr hr' he hE hl h';cases hy;exact K _ _ _ _ _ _ _ h hr2 (zHq hin) hE2 hl
      | _=>exact other h'
  · exact ih.out h hr K
theorem zSZ {c : Code} {i : Nat} {st : JN} {out : Option JN} {b : Bool} {A : AT} {k : Exit → VS U → Option Ω} {r : Ω} (ih : DenOk (U := U) P G N PL c)
    (h:lpD i (wr c) s st out b k (fun s k=>jn (wr c) A s k (fun A k=>den P G N.n PL A c s k))=some r) (hr:RelE w0 H0 s f w E H L) {Q:Exit→Fr→World→Prop}
    (K:GoesC w0 H0 s (wr c) E H k r Q):WP P N (.block i (.loop c)) Q f w:=by
  have key : ∀ {ρ : Type} {kk : VS U → Exit → VS U → Option (KT U st.items ⊕ ρ)} {x0 : KT U st.items} {y : ρ}, inW st.items (wr c) = true → (∃ E0 L0, E.le E0 ∧ RelE w0 H0 (jput s (wr c) st x0) f w E0 H L0) →
      zAB (fun x=>jn (wr c) A (jput s (wr c) st x) (kk (jput s (wr c) st x)) (fun A k=>den P G N.n PL A c (jput s (wr c) st x) k)) x0=some y →
      (∀ x e s' f' w' E' H' L' z,kk (jput s (wr c) st x) e s'=some z→(∀ r',z=.inr r'→r'=y)→RelE w0 H0 s' f' w' E' H' L'→Ext s s' (wr c)→E.le E'→H.le H' →
        (∀ x',z=.inl x'→e=.normal∧(∃ E' H' L',E.le E'∧H.le H'∧RelE w0 H0 (jput s (wr c) st x') f' w' E' H' L'))∧(∀ r',z=.inr r'→e≠.normal∧Q (blk i e) f' w')) →
      WP P N (.block i (.loop c)) Q f w:=by
    intro ρ kk x0 y hin ⟨E0,L0,hE0,hr0⟩ hy hK;refine WP.block (WP.loopM _ (fun x f w=>∃ E' H' L',E.le E'∧H.le H'∧RelE w0 H0 (jput s (wr c) st x) f w E' H' L') x0 y hy ⟨E0,H,L0,hE0,Hp.le.refl H,hr0⟩ fun x f w ⟨E1,H1,L1,e1,l1,hr1⟩ z hz hzy=>?_);refine zFz ih hz hr1 fun e s' f' w' E' H' L' h' hr' he hE hl=>?_
    obtain ⟨k1,k2⟩:=hK x e s' f' w' E' H' L' z h' (fun r' e=>by subst e; exact hzy) hr' ((zHq hin).same he) (Env.le_trans e1 hE) (l1.trans hl)
    grind
  cases out with
  | none =>
    simp only [lpD] at h;obtain ⟨hin,h⟩:=cT h;obtain ⟨x0,E0,L0,h,hE0,hr0⟩:=zCZ hr hr (Ext.refl s (wr c)) (Env.le_refl E) (Hp.le.refl H) h;obtain ⟨y,hy,h⟩:=bindE h;cases h
    refine key (kk:=fun _ e s'=>match e with
      | .normal=>jend s st s' fun y=>some (Sum.inl y)
      | .exit j=>bif Nat.beq j i then none else (k (.exit j) s').bind fun r=>some (Sum.inr r)
      | .ret=>(k .ret s').bind fun r=>some (Sum.inr r)
      | _=>none) hin ⟨E0,L0,hE0,hr0⟩ hy fun x e s' f' w' E' H' L' z h' hzy hr' he hE hl=>?_
    cases e with
    | normal =>
      grind [zCZ]
    | exit j =>
      simp only at h';cases hj:Nat.beq j i with
      | true=>grind
      | false =>
        rw [hj,cond_false] at h';obtain ⟨r1,h1,h2⟩:=bindE h';cases h2;have hzy:=hzy _ rfl;subst hzy;have:=K _ s' f' w' E' H' L' h1 hr' he hE hl
        grind
    | ret =>
      obtain ⟨r1,h1,h2⟩:=bindE h';cases h2;have hzy:=hzy _ rfl;subst hzy;exact ⟨fun x' ex=>(by cases ex),fun r' _=>⟨sI,K _ s' f' w' E' H' L' h1 hr' he hE hl⟩⟩
    | _=>cases h'
  | some out =>
  cases b with
  | false =>
    simp only [lpD] at h;obtain ⟨hin,h⟩:=cT h;rw [bQ] at hin;obtain ⟨x0,E0,L0,h,hE0,hr0⟩:=zCZ hr hr (Ext.refl s (wr c)) (Env.le_refl E) (Hp.le.refl H) h;obtain ⟨y,hy,h⟩:=bindE h
    refine key (kk:=fun _ e s'=>match e with
      | .normal=>jend s st s' fun y=>some (Sum.inl y)
      | .exit j=>bif Nat.beq j i then jend s out s' fun y=>some (Sum.inr y) else none
      | _=>none) hin.1 ⟨E0,L0,hE0,hr0⟩ hy fun x e s' f' w' E' H' L' z h' hzy hr' he hE hl=>?_
    cases e with
    | normal =>
      grind [zCZ]
    | exit j =>
      simp only at h';cases hj:Nat.beq j i with
      | false=>grind
      | true =>
        rw [hj] at h';obtain ⟨x1,E3,L3,hx1,hE3,hr3⟩:=zCZ hr hr' he hE hl h';cases hx1;have hzy:=hzy _ rfl;subst hzy;have:=K _ _ _ _ _ _ _ h hr3 (zHq hin.2) hE3 hl
        grind
    | _=>cases h'
  | true =>
    simp only [lpD] at h;obtain ⟨hin,h⟩:=cT h;rw [bQ] at hin;obtain ⟨x0,E0,L0,h,hE0,hr0⟩:=zCZ hr hr (Ext.refl s (wr c)) (Env.le_refl E) (Hp.le.refl H) h;obtain ⟨y,hy,h⟩:=bindE h
    refine key (kk:=fun _ e s'=>match e with
      | .normal=>jend s st s' fun y=>some (Sum.inl y)
      | .exit j=>bif Nat.beq j i then jend s out s' fun y=>some (Sum.inr (Sum.inl y)) else (k (.exit j) s').bind fun r=>some (Sum.inr (Sum.inr r))
      | .ret=>(k .ret s').bind fun r=>some (Sum.inr (Sum.inr r))
      | _=>none) hin.1 ⟨E0,L0,hE0,hr0⟩ hy fun x e s' f' w' E' H' L' z h' hzy hr' he hE hl=>?_
    cases e with
    | normal =>
      grind [zCZ]
    | exit j =>
      simp only at h';cases hj:Nat.beq j i with
      | false =>
        rw [hj,cond_false] at h';obtain ⟨r1,h1,h2⟩:=bindE h';cases h2;have hzy:=hzy _ rfl;subst hzy;cases h;have:=K _ s' f' w' E' H' L' h1 hr' he hE hl
        grind
      | true =>
        rw [hj] at h';obtain ⟨x1,E3,L3,hx1,hE3,hr3⟩:=zCZ hr hr' he hE hl h';cases hx1;have hzy:=hzy _ rfl;subst hzy;have:=K _ _ _ _ _ _ _ h hr3 (zHq hin.2) hE3 hl
        grind
    | ret =>
      obtain ⟨r1,h1,h2⟩:=bindE h';cases h2;have hzy:=hzy _ rfl;subst hzy;cases h;exact ⟨fun x' ex=>(by cases ex),fun r' _=>⟨sI,K _ s' f' w' E' H' L' h1 hr' he hE hl⟩⟩
    | _=>cases h'
theorem zMj {c : Code} {i : Nat} {A : AT} {r : Ω} (ih : DenOk (U := U) P G N PL c) : ∀ {n : Nat} {s : VS U} {f : Fr} {w : World} {E : Env} {H : Hp} {L : List Ent}, unr i k (fun s k => jn (wr c) A s k (fun A k => den P G N.n PL A c s k)) n s = some r → RelE w0 H0 s f w E H L → ∀ {Q : Exit → Fr → World → Prop},
  GoesC w0 H0 s (wr c) E H k r Q→RD P N c (fun e f w=>Q (blk i e) f w) n f w
 | 0,s,f,w,E,H,L,h,hr,Q,K=>by cases h
 | n+1,s,f,w,E,H,L,h,hr,Q,K=>by
  simp only [unr] at h;refine RD.succ (zFz ih h hr fun e s' f' w' E' H' L' h' hr' he hE hl=>?_);have K':GoesC w0 H0 s' (wr c) E' H' k r Q:=fun e s2 f2 w2 E2 H2 L2 h2 hr2 he2 hE2 hl2=>K e s2 f2 w2 E2 H2 L2 h2 hr2 (he.same he2) (Env.le_trans hE hE2) (hl.trans hl2)
  cases e with
  | normal=>exact zMj ih h' hr' K'
  | _=>exact K _ s' f' w' E' H' L' h' hr' he hE hl
theorem zBi {x:Code} (hx:∀ c,x≠.loop c) (ih:DenOk (U:=U) P G N PL x) {i:Nat}:DenOk (U:=U) P G N PL (.block i x):=by
 refine ⟨@fun Ω w0 H0 A s f w E H L k r h hr Q K=>WP.block ?_⟩;have h':jn (wr x) A.lt s (fun e s=>k (blk i e) s) (fun A k=>den P G N.n PL A x s k)=some r:=by
  simp_all [den]
 exact zFz ih h' hr fun e s' f' w' E' H' L' h' hr' he hE hl=>K _ s' f' w' E' H' L' h' hr' he hE hl
theorem and2 {a b:Bool} (h:(a&&b)=true):a=true∧b=true:=by grind
theorem zAn (hG:GamOk P G):∀ (c:Code),PlOk PL c=true→DenOk (U:=U) P G N PL c
 | .skip,_=>by
  refine ⟨@fun Ω w0 H0 A s f w E H L k r h hr Q K=>?_⟩;exact WP.skip (K _ _ _ _ _ _ _ (by simpa only [den] using h) hr (Ext.refl _ _) (Env.le_refl _) (Hp.le.refl _))
 | .region i ops draw,hp=>by
  refine ⟨@fun Ω w0 H0 A s f w E H L k r h hr Q K=>?_⟩;simp only [den] at h;cases draw with
  | true =>
   simp only at h;split at h
   ·rename_i p hpl
    unfold PlOk at hp;rw [hpl] at hp;simp only [bQ] at hp;obtain ⟨⟨hsel,hcnt⟩,hok⟩:=hp;obtain ⟨hq2,h⟩:=cT h;obtain ⟨M,hM,hens⟩:=zQI (X:=tgt ops p.1 s) hr.ens;have hb0:RelE w0 H0 { s with en:=enC ops p.1 s } f w.drew E H M:=⟨hr.st.drew.drop M hM,hr.gl,hr.sls,hr.pts,hr.nb,hens,hr.fr⟩;have iv:IV ops p.1 s w0 H0 E H M E.hs (Array.replicate ops.size false) s f w.drew E H L:=⟨hr.step hr.st.drew (Hp.le.refl H),Ext.refl s _,Env.le_refl E,Hp.le.refl H,fun _ e he=>hM.subset he⟩;have:=(zTs hG hsel hb0 (fun s' f' w' E' H' L' hk hr' he hE hl=>K _ s' f' w' E' H' L' hk hr' he hE hl) p.2).1 h hok DC.init iv (Hp.le.refl H);rw [nQ hcnt] at this;exact WP.drawD (Cl w0 H0 H M) p.1 hq2 this
   ·obtain ⟨hq,h⟩:=cT h
    rw [bQ,bQ] at hq;refine WP.quiet hr.st hq.1.1 hq.1.2 (zSX (zTc hG) h hr fun s' f' E' h' hr' he hE w' H' hl S'=>?_);exact K _ s' f' w' E' H' _ h' (hr'.step S' hl) he.ext hE hl
  | false=>exact WP.gz (zRw (fun {_}=>zPV hG) h hr fun s' f' w' E' H' L' h' hr' he hE hl=>K _ s' f' w' E' H' _ h' hr' he hE hl)
 | .seq x y,hp=>by
  refine ⟨@fun Ω w0 H0 A s f w E H L k r h hr Q K=>?_⟩;simp only [den] at h;refine WP.s (zFz (zAn hG x (and2 hp).1) h hr fun e s' f' w' E' H' L' h' hr' he hE hl=>?_);cases e with
  | normal=>exact zFz (zAn hG y (and2 hp).2) h' hr' fun e s2 f2 w2 E2 H2 L2 h2 hr2 he2 hE2 hl2=>K _ s2 f2 w2 E2 H2 L2 h2 hr2 (he.trans he2) (Env.le_trans hE hE2) (hl.trans hl2)
  | _=>exact K _ s' f' w' E' H' L' h' hr' he.left hE hl
 | .cond c x y,hp=>by
  refine ⟨@fun Ω w0 H0 A s f w E H L k r h hr Q K=>?_⟩;simp only [den] at h;split at h
  case h_2=>cases h
  rename_i b hb;have hv:=zLy hr hb;cases b with
  | true=>exact WP.condT hv rfl (zFz (zAn hG x (and2 hp).1) h hr fun e s' f' w' E' H' L' h' hr' he hE hl=>K _ s' f' w' E' H' L' h' hr' he.left hE hl)
  | false=>exact WP.condF hv rfl (zFz (zAn hG y (and2 hp).2) h hr fun e s' f' w' E' H' L' h' hr' he hE hl=>K _ s' f' w' E' H' L' h' hr' he.right hE hl)
 | .block i (.loop c),hp=>by
  refine ⟨@fun Ω w0 H0 A s f w E H L k r h hr Q K=>?_⟩;cases A with
  | lp st out b B =>
   simp only [den] at h;exact zSZ (zAn hG c hp) h hr K
  | un n B =>
   simp only [den] at h;exact WP.block (WP.loopRd n (zMj (zAn hG c hp) h hr K))
  | all n =>
   simp only [den] at h;exact WP.block (WP.loopRd n (zMj (zAn hG c hp) h hr K))
  | _=>simp only [den,AT.lt] at h; exact (WP.block (zFz (zAn hG (.loop c) hp) h hr fun e s' f' w' E' H' L' h' hr' he hE hl=>K _ s' f' w' E' H' L' h' hr' he hE hl))
 | .block i (.skip),hp=>zBi (fun _ h=>by cases h) (zAn hG (.skip) hp)
 | .block i (.region a b c),hp=>zBi (fun _ h=>by cases h) (zAn hG (.region a b c) hp)
 | .block i (.seq a b),hp=>zBi (fun _ h=>by cases h) (zAn hG (.seq a b) hp)
 | .block i (.cond a b c),hp=>zBi (fun _ h=>by cases h) (zAn hG (.cond a b c) hp)
 | .block i (.block a b),hp=>zBi (fun _ h=>by cases h) (zAn hG (.block a b) hp)
 | .block i (.exit a),hp=>zBi (fun _ h=>by cases h) (zAn hG (.exit a) hp)
 | .block i (.ret),hp=>zBi (fun _ h=>by cases h) (zAn hG (.ret) hp)
 | .block i (.rangeFunc a b c d),hp=>zBi (fun _ h=>by cases h) (zAn hG (.rangeFunc a b c d) hp)
 | .block i (.scope a),hp=>zBi (fun _ h=>by cases h) (zAn hG (.scope a) hp)
 | .block i (.label a),hp=>zBi (fun _ h=>by cases h) (zAn hG (.label a) hp)
 | .block i (.goto a),hp=>zBi (fun _ h=>by cases h) (zAn hG (.goto a) hp)
 | .block i (.refuse a),hp=>zBi (fun _ h=>by cases h) (zAn hG (.refuse a) hp)
 | .exit i,_=>by
  refine ⟨@fun Ω w0 H0 A s f w E H L k r h hr Q K=>?_⟩;exact WP.exit (K _ _ _ _ _ _ _ (by simpa only [den] using h) hr (Ext.refl _ _) (Env.le_refl _) (Hp.le.refl _))
 | .ret,_=>by
  refine ⟨@fun Ω w0 H0 A s f w E H L k r h hr Q K=>?_⟩;exact WP.ret (K _ _ _ _ _ _ _ (by simpa only [den] using h) hr (Ext.refl _ _) (Env.le_refl _) (Hp.le.refl _))
 | .label l,_=>by
  refine ⟨@fun Ω w0 H0 A s f w E H L k r h hr Q K=>?_⟩;exact WP.label (K _ _ _ _ _ _ _ (by simpa only [den] using h) hr (Ext.refl _ _) (Env.le_refl _) (Hp.le.refl _))
 | .scope c,hp=>by
  refine ⟨@fun Ω w0 H0 A s f w E H L k r h hr Q K=>?_⟩;simp only [den] at h;refine WP.scope (zFz (zAn hG c hp) h hr fun e s' f' w' E' H' L' h' hr' he hE hl=>?_);cases e with
  | goto l=>cases h'
  | _=>exact K _ s' f' w' E' H' L' h' hr' he hE hl
 | .loop c,_=>by refine ⟨@fun Ω w0 H0 A s f w E H L k r h hr Q K=>?_⟩; simp only [den] at h; cases h
 | .rangeFunc ..,_=>by refine ⟨@fun Ω w0 H0 A s f w E H L k r h hr Q K=>?_⟩; simp only [den] at h; cases h
 | .goto c,_=>by refine ⟨@fun Ω w0 H0 A s f w E H L k r h hr Q K=>?_⟩; simp only [den] at h; cases h
 | .refuse c,_=>by refine ⟨@fun Ω w0 H0 A s f w E H L k r h hr Q K=>?_⟩; simp only [den] at h; cases h
theorem zEn:∀ c:Code,PlOk [] c=true
 | .region _ _ true=>rfl
 | .region _ _ false=>rfl
 | .seq a b=>by simp only [PlOk,zEn a,zEn b,Bool.and_self]
 | .cond _ a b=>by simp only [PlOk,zEn a,zEn b,Bool.and_self]
 | .block _ c=>zEn c
 | .loop c=>zEn c
 | .scope c=>zEn c
 | .skip=>rfl
 | .exit _=>rfl
 | .ret=>rfl
 | .rangeFunc ..=>rfl
 | .label _=>rfl
 | .goto _=>rfl
 | .refuse _=>rfl
end
end Go.VI
