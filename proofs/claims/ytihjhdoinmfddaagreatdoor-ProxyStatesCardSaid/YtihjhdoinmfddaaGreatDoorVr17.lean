/- A part. -/
import Derived.Test.YtihjhdoinmfddaaGreatDoorVr11
set_option linter.unusedVariables false
set_option linter.unusedSimpArgs false
noncomputable section
namespace Go.VI
open Go Go.Eng
section
variable {U:UV}
def ar:Nat→List PT→List IT
 | _,[]=>[]
 | n,t :: r=>⟨.sl n,t,none⟩ :: ar (n+1) r
def TR (U:UV) (H:Hp):(l:List IT)→List Value→KT U l→Prop
 | [],vs,_=>vs=[]
 | [i],vs,x=>∃ v,vs=[v]∧VR U H i.t v x
 | i :: b :: r,vs,x=>∃ v vs',vs=v :: vs'∧VR U H i.t v x.1∧TR U H (b :: r) vs' x.2
def resV:List Value→Value
 | [v]=>v
 | vs=>.tuple ⟨vs⟩
def resC:List CV→CV
 | [c]=>c
 | l=>.tup l
def packV {R:Type} (s:VS U):(l:List IT)→List CV→(KT U l→Option R)→Option R
 | [],[],c=>c ()
 | [i],[v],c=>match getT s i.t v with | some x=>c x | none=>none
 | i :: b :: r,v :: vs,c=>match getT s i.t v with | some x=>packV s (b :: r) vs fun y=>c (x,y) | none=>none
 | _,_,_=>none
def putRs (s:VS U):(l:List IT)→KT U l→VS U×List CV
 | [],_=>(s,[])
 | [i],x=>((putV s i.t x).1,[(putV s i.t x).2])
 | i :: b :: r,x=>((putRs (putV s i.t x.1).1 (b :: r) x.2).1,(putV s i.t x.1).2 :: (putRs (putV s i.t x.1).1 (b :: r) x.2).2)
def scal:(t:PT)→t.T U.S→Option CV
 | .int,x=>some (.int x) | .byt,x=>some (.byt x) | .boo,x=>some (.boo x) | .str,x=>some (.str x)
 | _,_=>none
def scals:(l:List IT)→KT U l→Option (List CV)
 | [],_=>some []
 | [i],x=>(scal (U:=U) i.t x).map fun c=>[c]
 | i :: b :: r,x=>match scal (U:=U) i.t x.1,scals (b :: r) x.2 with | some c,some cs=>some (c :: cs) | _,_=>none
structure FE (U:UV) where
 id:FuncId
 ins:List PT
 outs:List PT
 g:KT U (ar 0 ins)→Option (KT U (ar 0 outs))
def scalT:PT→Bool
 | .int=>true | .byt=>true | .boo=>true | .str=>true
 | _=>false
def FE.spec (F:FE U):Spec U where
 run s vs k:=packV s (ar 0 F.ins) vs fun xs=>(F.g xs).bind fun y=>k (putRs s (ar 0 F.outs) y).1 (resC (putRs s (ar 0 F.outs) y).2)
 runq s vs k:=packV s (ar 0 F.ins) vs fun xs=>(F.g xs).bind fun y=>match scals (ar 0 F.outs) y with | some cs=>k (resC cs) | none=>none
 qt:=F.outs.all scalT
def FE.ok (P:Program) (F:FE U):Prop:=∀ {w:World} {H:Hp} {args:List Value} {xs:KT U (ar 0 F.ins)} {y:KT U (ar 0 F.outs)},Holds w H→GlOk U H→U.gw w→TR U H (ar 0 F.ins) args xs→F.g xs=some y →
 Con P F.id args w H (fun H' v=>∃ vs,v=resV vs∧TR U H' (ar 0 F.outs) vs y)
def gam:List (FE U)→Gam U
 | [],_=>none
 | F :: r,k=>bif Nat.beq F.id k then some F.spec else gam r k
def resCV (P:Program) (N:Nat) (s:VS U):ResultVar→Option CV
 | .tmp t=>opn N s (.tmp t)
 | .cell a T=>opr P N (.load T (.tmp a)) s some
def zFr (P:Program) (N:Nat) (s:VS U):List ResultVar→Option (List CV)
 | []=>some []
 | r :: l=>match resCV P N s r,zFr P N s l with | some c,some cs=>some (c :: cs) | _,_=>none
def fin (P:Program) (N:Nat) (rs:List ResultVar) (outs:List PT):Exit→VS U→Option (KT U (ar 0 outs)):=fun e s =>
 match e with
 | .ret=>(match zFr P N s rs with | some cs=>packV s (ar 0 outs) cs some | none=>none)
 | .normal=>(match zFr P N s rs with | some cs=>packV s (ar 0 outs) cs some | none=>none)
 | _=>none
def none0:VS U:=⟨[],[],[],0,[],[]⟩
def numb {α:Type}:Nat→List α→List (Nat×α)
 | _,[]=>[]
 | n,x :: l=>(n,x) :: numb (n+1) l
def inl (P:Program) (G:Gam U) (n:Nat) (rs:List ResultVar) (PL:PLs) (A:AT) (c:Code):Spec U where
 run s vs k:=bif Nat.ble vs.length n then den P G n PL A c { s with fr:=numb 0 vs } fun e s'=>match e with
  | .ret=>(match zFr P n s' rs with | some cs=>k { s' with fr:=s.fr } (resC cs) | none=>none)
  | .normal=>(match zFr P n s' rs with | some cs=>k { s' with fr:=s.fr } (resC cs) | none=>none)
  | _=>none
  else none
 runq _ _ _:=none
end
section
variable {U:UV} {P:Program} {G:Gam U} {N:Frm} {s s':VS U} {f:Fr} {w w0:World} {H0 H:Hp} {E:Env} {L:List Ent}
theorem zEv (hs:SlsOk H E.vs s.sl):∀ {l:List IT} {Ω:Type} {vs:List CV} {c:KT U l→Option Ω} {r:Ω},packV s l vs c=some r→∃ x args,c x=some r∧CV.vals E vs=some args∧TR U H l args x
 | [],Ω,[],c,r,h=>⟨(),[],h,rfl,rfl⟩
 | [i],Ω,[v],c,r,h=>by
  simp only [packV] at h;split at h
  case h_2=>cases h
  rename_i x hx;obtain ⟨u,hu,hR⟩:=zEL hs hx;exact ⟨x,[u],h,by simp only [CV.vals,hu],u,rfl,hR⟩
 | i :: b :: l,Ω,v :: vs,c,r,h=>by
  simp only [packV] at h;split at h
  case h_2=>cases h
  rename_i x hx;obtain ⟨u,hu,hR⟩:=zEL hs hx;obtain ⟨y,args,hy,ha,hR2⟩:=zEv hs h;exact ⟨(x,y),u :: args,hy,by simp only [CV.vals,hu,ha],u,args,rfl,hR,hR2⟩
 | [],Ω,_ :: _,c,r,h=>by simp only [packV] at h; cases h
 | [_],Ω,[],c,r,h=>by simp only [packV] at h; cases h
 | [_],Ω,_ :: _ :: _,c,r,h=>by simp only [packV] at h; cases h
 | _ :: _ :: _,Ω,[],c,r,h=>by simp only [packV] at h; cases h
theorem zMG:∀ {l:List IT} {s:VS U} {E:Env} {vs:List Value} {x:KT U l},SlsOk H E.vs s.sl→TR U H l vs x→∃ E',PutOk s (putRs s l x).1 E E' H∧CV.vals E' (putRs s l x).2=some vs
 | [],s,E,vs,x,hs,h=>⟨E,PutOk.refl hs,by rw [show vs=[] from h]; rfl⟩
 | [i],s,E,vs,x,hs,⟨v,e,h⟩=>by
  grind [zHA,putRs,CV.vals]
 | i :: b :: r,s,E,vs,x,hs,⟨v,vs',e,h,h2⟩=>by
  subst e;obtain ⟨E1,p1,v1⟩:=zHA hs h;obtain ⟨E2,p2,v2⟩:=zMG p1.ok h2;exact ⟨E2,p1.trans p2,by simp only [putRs,CV.vals,CV.val_mono p2.le v1,v2]⟩
theorem zLp {E:Env}:∀ {l:List CV} {vs:List Value},CV.vals E l=some vs→(resC l).val E=some (resV vs)
 | [],vs,h=>by cases h; rfl
 | [c],vs,h=>by
  simp only [CV.vals] at h;cases hc:c.val E with
  | none=>grind
  | some v=>rw [hc] at h; cases h; exact hc
 | c :: d :: l,vs,h=>by
  grind [CV.vals,resC,CV.val,resV]
theorem zQY:∀ {t:PT} {x:t.T U.S} {c:CV} {v:Value},scal (U:=U) t x=some c→VR U H t v x→c.val E=some v
 | .int,x,c,v,h,hv=>by cases h; rw [show v=Eng.int x from hv]; rfl
 | .byt,x,c,v,h,hv=>by cases h; rw [show v=Eng.byt x from hv]; rfl
 | .boo,x,c,v,h,hv=>by cases h; rw [show v=Eng.boo x from hv]; rfl
 | .str,x,c,v,h,hv=>by cases h; rw [show v=Eng.str x from hv]; rfl
 | .sl _,x,c,v,h,_=>by cases h
 | .st _,x,c,v,h,_=>by cases h
theorem zOm:∀ {l:List IT} {x:KT U l} {cs:List CV} {vs:List Value},scals l x=some cs→TR U H l vs x→CV.vals E cs=some vs
 | [],x,cs,vs,h,hv=>by cases h; rw [show vs=[] from hv]; rfl
 | [i],x,cs,vs,h,⟨v,e,hv⟩=>by
  subst e;simp only [scals] at h;cases hc:scal (U:=U) i.t x with
  | none=>grind
  | some c=>rw [hc] at h; cases h; simp only [CV.vals,zQY hc hv]
 | i :: b :: r,x,cs,vs,h,⟨v,vs',e,hv,hr⟩=>by
  subst e;simp only [scals] at h;split at h
  case h_2=>cases h
  rename_i c cs' hc hcs;cases h;simp only [CV.vals,zQY hc hv,zOm hcs hr]
theorem zTw:∀ {l:List IT} {x:KT U l} {cs:List CV},scals l x=some cs→∃ vs,CV.vals E cs=some vs∧∀ H' us,TR U H' l us x→us=vs
 | l,x,cs,h=>by
  have hex:∀ {l:List IT} {x:KT U l} {cs:List CV},scals l x=some cs→∃ vs,CV.vals E cs=some vs:=by
   intro l
   induction l with
   | nil=>intro x cs h; cases h; exact ⟨[],rfl⟩
   | cons i l ih =>
    have one:∀ {t:PT} {x:t.T U.S} {c:CV},scal (U:=U) t x=some c→∃ v,c.val E=some v:=by
     intro t x c h;cases t <;> first | (cases h; exact ⟨_,rfl⟩) | cases h
    intro x cs h;cases l with
    | nil =>
     simp only [scals] at h;cases hc:scal (U:=U) i.t x with
     | none=>grind
     | some c =>
      rw [hc] at h;cases h;obtain ⟨v,hv⟩:=one hc;simp_all [CV.vals]
    | cons b r =>
     grind [scals,CV.vals]
  obtain ⟨vs,hvs⟩:=hex h;refine ⟨vs,hvs,fun H' us hu=>?_⟩;have:=zOm (E:=E) h hu
  grind
variable {F:FE U} {fn:Func}
theorem FE.spec_ok (h:F.ok P):SpecOk P F.id F.spec where
 sound:=by
  intro Ω s vs k r hrun w0 H0 f w E H L hr args ha K hK;obtain ⟨xs,args',hx,ha',hT⟩:=zEv hr.sls hrun;rw [ha] at ha';cases ha';obtain ⟨y,hy,hk⟩:=bindE hx;have hC:=h hr.st.holds hr.gl.gl (U.gw_post hr.gl.gw hr.st.post) hT hy;refine .inl ⟨hC.1,Calls.mono hC.2 fun e w' ⟨v,H',he,hp,us,e1,hR⟩=>⟨v,he,?_⟩⟩;subst e1;have hr':=hr.step (hr.st.call hp) hp.le;obtain ⟨E',p,hv⟩:=zMG (s:=s) hr'.sls hR;exact hK _ _ _ _ _ _ _ hk (hr'.put p) (p.ext []) p.le hp.le (zLp hv)
 quiet:=by
  intro Ω s vs k r hrun w0 H0 f w E H L hr args ha;obtain ⟨xs,args',hx,ha',hT⟩:=zEv hr.sls hrun;rw [ha] at ha';cases ha';obtain ⟨y,hy,hk⟩:=bindE hx;split at hk
  case h_2=>cases hk
  rename_i cs hcs;obtain ⟨us,hus,hdet⟩:=zTw (E:=E) hcs;refine ⟨_,_,hk,zLp hus,fun w' H' hle S'=>?_⟩;have hr':=hr.step S' hle;obtain ⟨xs2,args2,hx2,ha2,hT2⟩:=zEv hr'.sls hrun;have hT':TR U H' (ar 0 F.ins) args xs:=by
   have key:∀ {l:List IT} {az:List Value} {x:KT U l},TR U H l az x→TR U H' l az x:=by
    have one:∀ {t:PT} {v:Value} {x:t.T U.S},VR U H t v x→VR U H' t v x:=by
     intro t v x hv;cases t with
     | sl t=>exact zQn _ hv hle
     | mp t=>exact zJ4 hle (t:=.mp t) hv
     | po T=>exact PoR.mono hle hv
     | er=>exact ErR.mono hv hle
     | st T=>obtain ⟨cs,e,hc⟩:=hv; exact ⟨cs,e,(U.enc T).mono hc hle⟩
     | _=>exact hv
    intro l
    induction l with
    | nil=>intro az x h; exact h
    | cons i l ih =>
     intro az x h;cases l with
     | nil=>obtain ⟨v,e,hv⟩:=h; exact ⟨v,e,one hv⟩
     | cons b r=>obtain ⟨v,vs',e,hv,h2⟩:=h; exact ⟨v,vs',e,one hv,ih h2⟩
   exact key hT
  exact (h S'.holds (hr.gl.gl.mono hle) (U.gw_post hr.gl.gw S'.post) hT' hy).mono fun H2 u ⟨us2,e,hR⟩=>by grind
theorem zPm {T a:Nat} {b:Addr} {v:Value} (hx:ev N f (.tmp a)=.pointer (some b)) (h:(execOp (ev N f) ⟨none,.load T (.tmp a),0,"",#[],none⟩).run P w=.ok (.value v) w):(loadVar T b).run P w=.ok v w:=by
 simp only [execOp,Instr.loadAt,Instr.sureAddr,hx,Sem.run_bind,Sem.run_pure,Result.andThen_ok] at h;generalize (loadVar T b).run P w=r at h ⊢;cases r <;> simp_all
theorem zP8 (hr:RelE w0 H0 s f w E H L) {r:ResultVar} {c:CV} (h:resCV P N.n s r=some c):∃ v,c.val E=some v∧(zL5 (tm N f) r).run P w=.ok v w:=by
 cases r with
 | tmp t=>exact ⟨_,zAy hr (show opn N.n s (.tmp t)=some c from h),zA7 (r:=.tmp t) rfl⟩
 | cell a T =>
  simp only [resCV] at h;obtain ⟨c',v,h1,h2,h3⟩:=zKc (d:=none) (ty:=0) (pos:= "") (af:=#[]) h hr;cases h1;have hrun:=h3 w H (Hp.le.refl H) hr.st;have hx:∃ b,ev N f (.tmp a)=.pointer (some b):=by
   simp only [opr] at h;split at h
   ·rename_i hx _; obtain ⟨k,_,hv⟩:=zEr hr hx; exact ⟨_,hv⟩
   ·rename_i hx _; obtain ⟨k,_,hv⟩:=zEr hr hx; exact ⟨_,hv⟩
   ·grind [zNN]
   ·grind [zNN]
   ·cases h
  obtain ⟨b,hb⟩:=hx;exact ⟨v,h2,zA7 (r:=.cell a T) ⟨b,hb,zPm hb hrun⟩⟩
theorem zDH (hr:RelE w0 H0 s f w E H L):∀ {l:List ResultVar} {cs:List CV},zFr P N.n s l=some cs→∃ vs,CV.vals E cs=some vs∧(List.mapM (zL5 (tm N f)) l).run P w=.ok vs w
 | [],cs,h=>by cases h; exact ⟨[],rfl,by simp_all⟩
 | r :: l,cs,h=>by
  simp only [zFr] at h;split at h
  case h_2=>cases h
  rename_i c cs' hc hcs;cases h;obtain ⟨v,h1,h2⟩:=zP8 hr hc;obtain ⟨vs,h3,h4⟩:=zDH hr hcs;refine ⟨v :: vs,by simp only [CV.vals,h1,h3],?_⟩;simp_all
theorem zGF {l:List ResultVar} {vs:List Value} (hr:fn.results=l.toArray) (h:(List.mapM (zL5 (tm N f)) l).run P w=.ok vs w):(results fn (tm N f)).run P w=.ok (resV vs) w:=by
 rw [zEI,hr];simp only [List.mapM_toArray,Sem.run_bind,Sem.run_map,h,Result.andThen_ok,Sem.run_pure]
 match vs with
 | []=>rfl
 | [t]=>rfl
 | t :: u :: l=>simp [resV]
theorem zKG {n : Nat} {c : Code} {k : FuncId} {args : List Value} {K : World → Value → Prop} (hf : P.funcs[k]? = some fn) (hb : fn.body = some c) (hn : fn.ntmps = n) (hname : (fn.name == "runtime.NumGoroutine") = false)
    (hsz:Nat.ble args.length n=true) (h:WP P ⟨n,[]⟩ c (fun e f w=>(e=.ret∨e=.normal)∧∃ v,(results fn (tm ⟨n,[]⟩ f)).run P w=.ok v w∧K w v) (init args) w) :
    (∀ w,(callFunc k args.toArray).run P w=.ok (.enter k args.toArray) w)∧Calls P k args.toArray w (fun e w'=>∃ v,e=.returned v∧K w' v):=by
  refine ⟨fun w=>?_,?_⟩
  · simp_all [callFunc]
  · refine calls_of_wp hf hb ?_
    have hle:args.length≤n:=nL hsz;have e:({ tmps:=args.toArray++Array.replicate (fn.ntmps - args.toArray.size) undef,defers:=[] }:Act)=act ⟨n,[]⟩ (init args):=by
      simp only [act];congr 1;apply Array.ext_getElem?
      grind [zHG,init]
    rw [e];refine Code.wp_mono (fun e a w' ⟨f',ha,he,v,hv,hK⟩=>?_) h;subst ha;rcases he with rfl | rfl
    · exact ⟨rfl,v,hv,v,rfl,hK⟩
    · exact ⟨rfl,v,hv,v,rfl,hK⟩
theorem zIg:∀ {l:List CV} {n t:Nat} {c:CV},look (numb n l) t=some c→n≤t∧l[t - n]?=some c
 | [],_,_,_,h=>by cases h
 | x :: l,n,t,c,h=>by
  simp only [numb,look] at h;cases hb:Nat.beq t n with
  | true =>
   simp_all
  | false =>
   rw [hb] at h;obtain ⟨h1,h2⟩:=zIg h
   grind
theorem zY1 {n:Nat} {rs:List ResultVar} {PL:PLs} {A:AT} {c:Code} {g:FuncId} (hG:GamOk P G) (hpl:PlOk PL c=true) (hf:P.funcs[g]?=some fn) (hb:fn.body=some c) (hn:fn.ntmps=n) (hname:(fn.name== "runtime.NumGoroutine")=false) (hrs:fn.results=rs.toArray):SpecOk P g (inl P G n rs PL A c) where
 sound:=by
  intro Ω s vs k r hrun w0 H0 f w E H L hr args ha K hK;simp only [inl] at hrun;obtain ⟨hle,hrun⟩:=cT hrun;have hlen:=zCN ha;refine .inl (zKG hf hb hn hname gR ?_);have hr0:RelE w0 H0 { s with fr:=numb 0 vs } (init args) w E H L:=by
   refine ⟨hr.st,hr.gl,hr.sls,hr.pts,hr.nb,hr.ens,fun t c hc=>?_⟩;obtain ⟨_,h2⟩:=zIg hc
   grind [zFL,init]
  refine (zAn (N:=⟨n,[]⟩) hG c hpl).out hrun hr0 fun e s' f' w' E' H' L' hk hr' he hE hl=>?_
  have done:(e=.ret∨e=.normal)→(match zFr P n s' rs with | some cs=>k { s' with fr:=s.fr } (resC cs) | none=>none)=some r→(e=.ret∨e=.normal)∧∃ v,(results fn (tm ⟨n,[]⟩ f')).run P w'=.ok v w'∧K w' v:=fun he' hk=>by
   split at hk
   case h_2=>cases hk
   rename_i cs hcs;obtain ⟨us,h1,h2⟩:=zDH (N:=⟨n,[]⟩) hr' hcs;refine ⟨he',_,zGF hrs h2,hK _ _ _ _ _ _ _ hk ⟨hr'.st,hr'.gl,hr'.sls,hr'.pts,hr'.nb,hr'.ens,fun t c hc=>CV.val_mono hE (hr.fr t c hc)⟩ ⟨he.sl,he.pt,he.nb,fun u _=>rfl,he.dt⟩ hE hl (zLp h1)⟩
  grind
 quiet:=by
  grind [inl]
theorem zWP:∀ {l:List IT} {vs:List Value} {x:KT U l},TR U H l vs x→vs.length=l.length:=by
 intro l
 induction l with
 | nil=>intro vs x h; rw [show vs=[] from h]; rfl
 | cons p l ih =>
  intro vs x h;cases l with
  | nil=>obtain ⟨v,rfl,_⟩:=h; rfl
  | cons b r=>obtain ⟨v,vs',rfl,_,h2⟩:=h; grind
theorem zUw:∀ {l:List PT} {n:Nat},(ar n l).length=l.length
 | [],_=>rfl
 | _ :: l,_=>by rw [ar,lC,zUw,lC]
theorem zMB:∀ {l:List PT} {n:Nat} {vs:List Value} {x:KT U (ar n l)},TR U H (ar n l) vs x→(∀ (j:Nat) (v:Value),vs[j]?=some v→f (n+j)=v)→Brings U H E f L (ar n l) x []
 | [],n,vs,x,h,hf=>rfl
 | [t],n,vs,x,⟨v,e,h⟩,hf=>by
  subst e;exact ⟨v,hf 0 v rfl,h,rfl⟩
 | t :: b :: r,n,vs,x,⟨v,vs',e,h,h2⟩,hf=>by
  subst e;refine ⟨[],zMB (l:=b :: r) h2 fun j u hu=>?_,v,hf 0 v rfl,h,rfl⟩;have:=hf (j+1) u (by simpa using hu)
  grind
theorem FE.ok_of {PL : PLs} {A : AT} {n : Nat} {c : Code} {kf : FuncId} {rs : List ResultVar} (hG : GamOk P G) (hpl : PlOk PL c = true) (hk : F.id = kf) (hf : P.funcs[kf]? = some fn) (hb : fn.body = some c) (hn : fn.ntmps = n) (hname : (fn.name == "runtime.NumGoroutine") = false)
    (hsz:Nat.ble F.ins.length n=true) (hrs:fn.results=rs.toArray) (hd:∀ xs,den P G n PL A c (putTs none0 (ar 0 F.ins) xs) (fin P n rs F.outs)=F.g xs):F.ok P:=by
  subst hk;intro w H args xs y hw hg hgw hT hy;have hlen:args.length=F.ins.length:=by rw [zWP hT,zUw]
  have key:=zKG (P:=P) (w:=w) (args:=args) (K:=fun w' v=>∃ H',Post w H w' H'∧∃ vs,v=resV vs∧TR U H' (ar 0 F.outs) vs y) hf hb hn hname gR ?_
  · exact ⟨key.1,Calls.mono key.2 fun e w' ⟨v,he,H',hp,hv⟩=>⟨v,H',he,hp,hv⟩⟩
  have hB:Brings U H ⟨[],[],[],fun _=>none⟩ (init args) [] (ar 0 F.ins) xs []:=zMB hT fun j v hv=>by grind [init]
  have hP0:RelP noX w H [] (none0 (U:=U)) (init args) w ⟨[],[],[],fun _=>none⟩ H []:=⟨St.start hw,⟨hg,hgw,hg⟩,trivial,trivial,rfl,trivial,fun _ _ h=>by cases h⟩;obtain ⟨E,L,_,hP⟩:=zHm hP0 hB;have hoff:∀ {l:List PT} {n:Nat} {X:Nat→Nat→Bool},offIs X (ar n l)=X:=by
    intro l
    induction l with
    | nil=>intro n X; rfl
    | cons t l ih=>intro n X; exact ih
  have hr0:RelE w H (putTs none0 (ar 0 F.ins) xs) (init args) w E H L:=hP.all fun b o _=>by rw [hoff]; rfl
  refine (zAn (N:=⟨n,[]⟩) hG c hpl).out ((hd xs).trans hy) hr0 fun e s' f' w' E' H' L' hk hr' _ _ _=>?_
  have done:(e=.ret∨e=.normal)→(match zFr P n s' rs with | some cs=>packV s' (ar 0 F.outs) cs some | none=>none)=some y→(e=.ret∨e=.normal)∧∃ v,(results fn (tm ⟨n,[]⟩ f')).run P w'=.ok v w'∧∃ H',Post w H w' H'∧∃ vs,v=resV vs∧TR U H' (ar 0 F.outs) vs y:=fun he' hk=>by
    split at hk
    case h_2=>cases hk
    rename_i cs hcs;obtain ⟨us,h1,h2⟩:=zDH (N:=⟨n,[]⟩) hr' hcs;obtain ⟨z,us2,hz,h3,h4⟩:=zEv hr'.sls hk;cases hz;rw [h1] at h3;cases h3;exact ⟨he',_,zGF hrs h2,H',hr'.st.post,us,rfl,h4⟩
  cases e with
  | ret=>exact done (.inl rfl) hk
  | normal=>exact done (.inr rfl) hk
  | _=>cases hk
theorem gnil:GamOk P (gam (U:=U) []):=fun g S h=>by cases h
def chk (fn:Func) (n:Nat):Bool:=fn.body.isSome&&!(fn.name== "runtime.NumGoroutine")&&Nat.ble n fn.ntmps
theorem mk (hG : GamOk P G) (A : AT) (hf : P.funcs[F.id]? = some fn) (PL : PLs := []) (hc : chk fn F.ins.length = true := by kernel_rfl) (hpl : PlOk PL (fn.body.getD .skip) = true := by first | exact zEn _ | kernel_rfl)
    (hd:∀ xs,den P G fn.ntmps PL A (fn.body.getD .skip) (putTs none0 (ar 0 F.ins) xs) (fin P fn.ntmps fn.results.toList F.outs)=F.g xs:=by intro x; kernel_rfl):F.ok P:=by
  unfold chk at hc;simp only [bQ,Bool.not_eq_true'] at hc;obtain ⟨⟨h1,h2⟩,h3⟩:=hc;obtain ⟨c,hb⟩:=Option.isSome_iff_exists.1 h1;rw [hb] at hd hpl;exact FE.ok_of (rs:=fn.results.toList) hG hpl rfl hf hb rfl h2 h3 sI hd
end
structure SX where
 T:Nat
 S:Type
 enc:Enc S
def nilSX:SX:=⟨0,Int,inferInstanceAs (Enc Int)⟩
def sfind:List SX→Nat→SX
 | [],_=>nilSX
 | a :: r,T=>bif Nat.beq a.T T then a else sfind r T
structure SP (l:List SX) where
 x:SX
 fs:List PT
 get:x.S→HL (fun T=>(sfind l T).S) fs
 put:HL (fun T=>(sfind l T).S) fs→x.S
 cg:∀ {H cs y},x.enc.cells H cs y→zJw (fun T=>(sfind l T).S) (fun T=>(sfind l T).enc) H fs cs (get y)
 cm:∀ {H cs y},zJw (fun T=>(sfind l T).S) (fun T=>(sfind l T).enc) H fs cs y→x.enc.cells H cs (put y)
def mkSP {l : List SX} (x : SX) (fs : List PT) (get : x.S → HL (fun T => (sfind l T).S) fs) (put : HL (fun T => (sfind l T).S) fs → x.S)
    (cg:∀ {H cs y},x.enc.cells H cs y→zJw (fun T=>(sfind l T).S) (fun T=>(sfind l T).enc) H fs cs (get y):=by
      intro H cs y h
      first
        | subst h
        | obtain ⟨_,rfl,h⟩:=h
        | obtain ⟨_,_,rfl,h⟩:=h
        | obtain ⟨_,_,_,rfl,h⟩:=h
        | obtain ⟨_,_,_,_,rfl,h⟩:=h
        | obtain ⟨_,_,_,_,_,rfl,h⟩:=h
      repeat' first
        | rfl
        | exact h
        | exact h.1
        | exact h.2
        | exact h.2.1
        | exact h.2.2
        | exact h.2.2.1
        | exact h.2.2.2
        | exact h.2.2.2.1
        | exact h.2.2.2.2
        | refine ⟨_,_,rfl,?_,?_⟩)
    (cm:∀ {H cs y},zJw (fun T=>(sfind l T).S) (fun T=>(sfind l T).enc) H fs cs y→x.enc.cells H cs (put y):=by
      intro H cs y h
      repeat first
        | obtain ⟨_,_,rfl,rfl,h⟩:=h
        | obtain ⟨_,_,rfl,hv,h⟩:=h
      first
        | rfl
        | exact ⟨_,rfl,by assumption⟩
        | exact ⟨_,_,rfl,by assumption,by assumption⟩
        | exact ⟨_,_,_,rfl,by assumption,by assumption,by assumption⟩
        | exact ⟨_,_,_,_,rfl,by assumption,by assumption,by assumption,by assumption⟩
        | exact ⟨_,_,_,_,_,rfl,by assumption,by assumption,by assumption,by assumption,by assumption⟩):SP l:=⟨x,fs,get,put,cg,cm⟩
def nilSP (l:List SX):SP l where
 x:=nilSX
 fs:=[.int]
 get y:=(y,())
 put y:=y.1
 cg h:=⟨_,_,h,rfl,rfl⟩
 cm:=fun {H cs y} ⟨v,r,e,h1,h2⟩=>by
  have h1:v=Eng.int y.1:=h1;have h2:r=[]:=h2;subst h1 h2 e;rfl
def pfind {l:List SX}:List (SP l)→Nat→SP l
 | [],_=>nilSP l
 | a :: r,T=>bif Nat.beq a.x.T T then a else pfind r T
theorem zQA {l:List SX} (T:Nat):∀ {ps:List (SP l)} {m:List SX},ps.map SP.x=m→(pfind ps T).x=sfind m T
 | [],_,h=>by subst h; rfl
 | a :: r,_,h=>by
  subst h;simp only [pfind,List.map_cons,sfind];cases Nat.beq a.x.T T with
  | true=>rfl
  | false=>exact zQA T rfl
def getC {l:List SX} (p:SP l) (x:SX) (e:p.x=x):x.S→HL (fun T=>(sfind l T).S) p.fs:=fun y=>p.get (cast (congrArg SX.S e.symm) y)
def putC {l:List SX} (p:SP l) (x:SX) (e:p.x=x):HL (fun T=>(sfind l T).S) p.fs→x.S:=fun y=>cast (congrArg SX.S e) (p.put y)
def mkU (l:List SX) (ps:List (SP l)) (h:ps.map SP.x=l) (gl:Nat→Option (List Value)) (gw:World→Prop) (gw_post:∀ {w0 w:World} {H0 H:Hp},gw w0→Post w0 H0 w H→gw w):UV where
 S T:=(sfind l T).S
 enc T:=(sfind l T).enc
 fs T:=(pfind ps T).fs
 get T:=getC (pfind ps T) (sfind l T) (zQA T h)
 put T:=putC (pfind ps T) (sfind l T) (zQA T h)
 gl:=gl
 gw:=gw
 gw_post:=gw_post
 cells_get:=fun {T H cs x} hc=>by
  have key:∀ (p:SP l) (y:SX) (e:p.x=y) (x:y.S),y.enc.cells H cs x→zJw (fun T=>(sfind l T).S) (fun T=>(sfind l T).enc) H p.fs cs (getC p y e x):=by
   intro p y e;subst e;intro x hx;exact p.cg hx
  grind
 cells_mk:=fun {T H cs x} hc=>by
  have key:∀ (p:SP l) (y:SX) (e:p.x=y) (x:HL (fun T=>(sfind l T).S) p.fs),zJw (fun T=>(sfind l T).S) (fun T=>(sfind l T).enc) H p.fs cs x→y.enc.cells H cs (putC p y e x):=by
   intro p y e;subst e;intro x hx;exact p.cm hx
  grind
structure CH where
 a:Nat
 o:Nat
 t:PT
 row:Option TypeId:=none
 p:List Nat:=[]
section
variable {U:UV}
def zNY (s:VS U) (vs:List CV):List CH→Option (List IT)
 | []=>some []
 | c :: r=>match vs[c.a]?,zNY s vs r with | some (.ptr b o),some l=>some (⟨.ce (walkE s.en s.nb b o c.p c.o).1 (walkE s.en s.nb b o c.p c.o).2,c.t,c.row⟩ :: l) | _,_=>none
def looks (s:List (Nat×CV)):List IT→Option (List CV)
 | []=>some []
 | i :: r=>match i.loc with
  | .sl n=>(match look s n,looks s r with | some c,some cs=>some (c :: cs) | _,_=>none)
  | .ce _ _=>none
def inlJ (P:Program) (G:Gam U) (n:Nat) (rs:List ResultVar) (PL:PLs) (A:AT) (c:Code) (outs:List PT) (chg:List CH):Spec U where
 run s vs k:=bif Nat.ble vs.length n then
  (match zNY s vs chg with
  | some cit =>
   (den P G n PL A c { s with fr:=numb 0 vs } fun e s'=>match e with
    | .ret=>(match zFr P n s' rs with | some cs=>bif Nat.beq cs.length outs.length then jend { s with fr:=[] } { items:=ar 0 outs++cit } { s' with fr:=numb 0 cs } some else none | none=>none)
    | .normal=>(match zFr P n s' rs with | some cs=>bif Nat.beq cs.length outs.length then jend { s with fr:=[] } { items:=ar 0 outs++cit } { s' with fr:=numb 0 cs } some else none | none=>none)
    | _=>none).bind fun x =>
   match looks (jput { s with fr:=[] } (List.range outs.length) { items:=ar 0 outs++cit } x).fr (ar 0 outs) with
   | some cs=>k { jput { s with fr:=[] } (List.range outs.length) { items:=ar 0 outs++cit } x with fr:=s.fr } (resC cs)
   | none=>none
  | none=>none)
  else none
 runq _ _ _:=none
end
section
variable {U:UV} {P:Program} {G:Gam U} {s:VS U} {f:Fr} {w w0:World} {H0 H:Hp} {E:Env} {L:List Ent}
theorem zJP:∀ {l:List CV} {n t:Nat},n+l.length≤t→look (numb n l) t=none
 | [],_,_,_=>rfl
 | x :: l,n,t,h=>by
  rw [lC] at h;have:Nat.beq t n=false:=by
   cases hb:Nat.beq t n with
   | false=>rfl
   | true=>have:=nQ hb; omega
  simp only [numb,look,this,cond_false];exact zJP om
theorem zQy:∀ {l:List PT} {n:Nat} {cs:List CV} {fr:List (Nat×CV)},looks fr (ar n l)=some cs→(∀ t c,look fr t=some c→c.val E=some (f t))→CV.vals E cs=some ((List.range' n l.length).map f)
 | [],n,cs,fr,h,_=>by cases h; rfl
 | t :: l,n,cs,fr,h,hf=>by
  simp only [ar,looks] at h;split at h
  case h_2=>cases h
  rename_i c cs' hc hcs;cases h;simp only [CV.vals,hf n c hc,zQy hcs hf,lC,List.range'_succ,List.map_cons]
theorem zWq {vs:List CV}:∀ {chg:List CH} {cit:List IT} {ds:List Nat},zNY s vs chg=some cit→inW cit ds=true
 | [],cit,ds,h=>by cases h; rfl
 | c :: r,cit,ds,h=>by
  simp only [zNY] at h;split at h
  case h_2=>cases h
  rename_i b o l _ hl;cases h;have:=zWq (ds:=ds) hl;unfold inW at this ⊢;rw [List.all_cons,this]; rfl
theorem zWX:∀ {l:List PT} {n:Nat} {ds:List Nat},(∀ i,n≤i→i<n+l.length→memb ds i=true)→inW (ar n l) ds=true
 | [],_,_,_=>rfl
 | t :: l,n,ds,h=>by
  have h2:=zWX (l:=l) (n:=n+1) (ds:=ds) fun i h1 h2=>h i om gR
  unfold inW at h2 ⊢;rw [ar,List.all_cons,h2];simp only [locIn,h n (nR _) gR,Bool.and_true]
theorem zSd {a b:List IT} {ds:List Nat} (h1:inW a ds=true) (h2:inW b ds=true):inW (a++b) ds=true:=by
 grind [inW]
theorem zRv {l:List Nat} {u:Nat} (h:memb l u=false):u ∉ l:=by grind [zIx]
theorem zXe {n:Nat} {rs:List ResultVar} {PL:PLs} {A:AT} {c:Code} {fn:Func} {g:FuncId} {outs:List PT} {chg:List CH} (hG:GamOk P G) (hpl:PlOk PL c=true) (hf:P.funcs[g]?=some fn) (hb:fn.body=some c) (hn:fn.ntmps=n) (hname:(fn.name== "runtime.NumGoroutine")=false) (hrs:fn.results=rs.toArray):SpecOk P g (inlJ P G n rs PL A c outs chg) where
 sound:=by
  intro Ω s vs k r hrun w0 H0 f w E H L hr args ha K hK;simp only [inlJ] at hrun;obtain ⟨hle,hrun⟩:=cT hrun;split at hrun
  case h_2=>cases hrun
  rename_i cit hcit;obtain ⟨x,hx,hk⟩:=bindE hrun;split at hk
  case h_2=>cases hk
  rename_i cs2 hcs2;have hlen:=zCN ha;refine .inl (zKG hf hb hn hname gR ?_);have hr0:RelE w0 H0 { s with fr:=numb 0 vs } (init args) w E H L:=by
   refine ⟨hr.st,hr.gl,hr.sls,hr.pts,hr.nb,hr.ens,fun t c hc=>?_⟩;obtain ⟨_,h2⟩:=zIg hc
   grind [zFL,init]
  refine (zAn (N:=⟨n,[]⟩) hG c hpl).out hx hr0 fun e s' f' w' E' H' L' hk' hr' he hE hl=>?_
  have done:(e=.ret∨e=.normal)→(match zFr P n s' rs with | some cs=>bif Nat.beq cs.length outs.length then jend { s with fr:=[] } { items:=ar 0 outs++cit } { s' with fr:=numb 0 cs } some else none | none=>none)=some x→(e=.ret∨e=.normal)∧∃ v,(results fn (tm ⟨n,[]⟩ f')).run P w'=.ok v w'∧K w' v:=fun he' hk'=>by
   split at hk'
   case h_2=>cases hk'
   rename_i cs hcs;cases hlc:Nat.beq cs.length outs.length with
   | false=>grind
   | true =>
   rw [hlc,cond_true] at hk';have hlc:=nQ hlc;obtain ⟨us,h1,h2⟩:=zDH (N:=⟨n,[]⟩) hr' hcs;have hul:=zCN h1;have hrS:RelE w0 H0 { s with fr:=[] } (init us) w E H L:=⟨hr.st,hr.gl,hr.sls,hr.pts,hr.nb,hr.ens,fun t c hc=>by cases hc⟩;have hrE:RelE w0 H0 { s' with fr:=numb 0 cs } (init us) w' E' H' L':=by
    refine ⟨hr'.st,hr'.gl,hr'.sls,hr'.pts,hr'.nb,hr'.ens,fun t c hc=>?_⟩;obtain ⟨_,h3⟩:=zIg hc
    grind [zFL,init]
   have hext:Ext { s with fr:=[] } { s' with fr:=numb 0 cs } (List.range outs.length):=by
    refine ⟨he.sl,he.pt,he.nb,fun u hu=>?_,he.dt⟩;have hu2:=zRv hu;rw [List.mem_range] at hu2;exact zJP om
   obtain ⟨y,E2,L2,hy,hE2,hr2⟩:=zCZ hrS hrE hext hE hl hk';cases hy;have hin:inW (ar 0 outs++cit) (List.range outs.length)=true:=zSd (zWX fun i _ h2=>zIx (List.mem_range.2 om)) (zWq hcit);have hext2:Ext { s with fr:=[] } (jput { s with fr:=[] } (List.range outs.length) { items:=ar 0 outs++cit } x) (List.range outs.length):=zHq hin;have hv2:=zQy hcs2 hr2.fr;have hus:(List.range' 0 outs.length).map (init us)=us:=by
    apply List.ext_getElem?
    grind [init]
   rw [hus] at hv2;refine ⟨he',_,zGF hrs h2,hK _ _ _ _ _ _ _ hk ⟨hr2.st,hr2.gl,hr2.sls,hr2.pts,hr2.nb,hr2.ens,fun t c hc=>CV.val_mono hE2 (hr.fr t c hc)⟩ ⟨hext2.sl,hext2.pt,hext2.nb,fun u _=>rfl,hext2.dt⟩ hE2 hl (zLp hv2)⟩
  grind
 quiet:=by
  grind [inlJ]
structure GE (U:UV) where
 id:FuncId
 S:Spec U
def gal:List (GE U)→Gam U
 | [],_=>none
 | F :: r,k=>bif Nat.beq F.id k then some F.S else gal r k
theorem anil:GamOk P (gal (U:=U) []):=fun g S h=>by cases h
theorem acons {F:GE U} {l:List (GE U)} (h:SpecOk P F.id F.S) (hG:GamOk P (gal l)):GamOk P (gal (F :: l)):=fun g S hg=>by
 simp only [gal] at hg;cases hb:Nat.beq F.id g with
 | true =>
  simp_all
 | false =>
  rw [hb] at hg;exact hG g S hg
end
section
variable {U:UV} {P:Program}
theorem fcons {F:FE U} {l:List (GE U)} (h:F.ok P) (hG:GamOk P (gal l)):GamOk P (gal (⟨F.id,F.spec⟩ :: l)):=by grind [acons,FE.spec_ok]
structure WE (P:Program) (U:UV) where
 id:FuncId
 S:Spec U
 ok:SpecOk P id S
theorem wcons (W:WE P U) {l:List (GE U)} (hG:GamOk P (gal l)):GamOk P (gal (⟨W.id,W.S⟩ :: l)):=acons (F:=⟨W.id,W.S⟩) W.ok hG
def wJ {G:Gam U} {fn:Func} (id:FuncId) (hG:GamOk P G) (A:AT) (outs:List PT) (chg:List CH) (hf:P.funcs[id]?=some fn) (PL:PLs:=[]) (hc:chk fn 0=true:=by kernel_rfl) (hpl:PlOk PL (fn.body.getD .skip)=true:=by first | exact zEn _ | kernel_rfl):WE P U :=
 ⟨id,inlJ P G fn.ntmps fn.results.toList PL A (fn.body.getD .skip) outs chg,by
  grind [chk,Option.isSome_iff_exists,zXe]⟩
def wI {G:Gam U} {fn:Func} (id:FuncId) (hG:GamOk P G) (A:AT) (hf:P.funcs[id]?=some fn) (PL:PLs:=[]) (hc:chk fn 0=true:=by kernel_rfl) (hpl:PlOk PL (fn.body.getD .skip)=true:=by first | exact zEn _ | kernel_rfl):WE P U :=
 ⟨id,inl P G fn.ntmps fn.results.toList PL A (fn.body.getD .skip),by
  grind [chk,Option.isSome_iff_exists,zY1]⟩
end
section
variable {U:UV} {P:Program}
def zQU:Spec U where
 run s vs k:=match vs with | [c]=>k s c | _=>none
 runq _ _ _:=none
theorem ne_ok {k:FuncId} {fn:Func} (hf:P.funcs[k]?=some fn) (hname:(fn.name== "runtime.NumGoroutine")=false) (hb:fn.body.isNone=true) (hn:Extern.findNext fn=none) (he:Extern.find fn=some Extern.AbiNoEscape.same):SpecOk P k (zQU (U:=U)) where
 sound:=by
  intro Ω s vs kk r h w0 H0 f w E H L hr args ha K hK;unfold zQU at h;simp only at h;split at h
  case h_2=>cases h
  rename_i c;simp only [CV.vals] at ha;cases hc:c.val E with
  | none=>grind
  | some v =>
   rw [hc] at ha;cases ha;refine .inr ⟨v,w,?_,hK s w E H L c v h hr (Ext.refl s []) (Env.le_refl E) (Hp.le.refl H) hc⟩;simp_all [run_callFunc_extern,Lib.run_noEscape]
 quiet:=by
  intro Ω s vs kk r h;cases h
def zTe (b:Nat):CV→Bool
 | .raw (.pointer none)=>true
 | .ptr b' 0=>Nat.beq b b'
 | _=>false
def zQ8 (T e:TypeId):Spec U where
 run s vs k :=
  match vs with
  | [.ptr b 0] =>
   (match bxT s.en b with
   | some (T',[c0,c1]) =>
    bif Nat.beq T T'&&zTe b c0 then
     (match c1 with
     | .raw v=>bif zBc v then k s (.str []) else none
     | .ref i=>(match get1 s (.sl .byt) (.ref i),rowAt s.en i with
      | some xs,some e'=>bif Nat.beq e e' then k { s with en:=zDn s.en i } (.str xs) else none
      | _,_=>none)
     | _=>none)
    else none
   | _=>none)
  | _=>none
 runq _ _ _:=none
 loud:=true
theorem bs_ok {k : FuncId} {T e : TypeId}
    (C:∀ {w0 ws:World} {H0 Hs:Hp} {L2:List Ent},U.gw w0∧GlOk U H0→∀ (xs:Str) {v va:Value} {b:Nat},St w0 H0 ws Hs (.box b T [va,v] :: .row v e 1 xs.length :: L2)→Sl (α:=UInt8) Hs v xs→(va=Value.pointer none∨va=Eng.ptr b 0)→ConS P k [Eng.ptr b 0] w0 H0 ws Hs L2 (fun _ u L'=>L'=[.box b T [va,v]]∧u=Eng.str xs)) :
    SpecOk P k (zQ8 (U:=U) T e) where
  sound:=by
    intro Ω s vs kk r h w0 H0 f w E H L hr args ha K hK;unfold zQ8 at h;simp only at h;split at h
    case h_2=>cases h
    rename_i b;split at h
    case h_2=>cases h
    rename_i T' c0 c1 hbx;replace h:=cT h;obtain ⟨hc,h⟩:=h;rw [bQ] at hc;have:=nQ hc.1;subst this;obtain ⟨q,vals,kb,g1,g2,g3,g4⟩:=zMO hbx hr.ens;simp only [CV.vals,CV.val,g3,Option.map_some] at ha;cases ha;obtain ⟨va,v,hv0,hv1,hvals⟩:∃ va v,c0.val E=some va∧c1.val E=some v∧vals=[va,v]:=by
      grind [CV.vals]
    subst hvals;have hva:va=Value.pointer none∨va=Eng.ptr kb 0:=by
      have h2:=hc.2;unfold zTe at h2
      grind [nQ,CV.val]
    have fin:∀ {xs:Str} {M L1:List Ent} {en:List EI},kk { s with en:=en } (.str xs)=some r→St w0 H0 w H (.box kb T [va,v] :: .row v e 1 xs.length :: M)→Sl (α:=UInt8) H v xs→L1.Perm (.box kb T [va,v] :: M)→EnsOk noX E H s.sl en L1→(∀ b,boxAt en b=boxAt s.en b)→zPO P k [Eng.ptr kb 0].toArray w K:=by
      intro xs M L1 en hk S R hp hens hbx2;obtain ⟨c1',c2'⟩:=C ⟨hr.gl.gw,hr.gl.g0⟩ xs S R hva;refine .inl ⟨c1',Calls.mono c2' fun x w' ⟨u,H',L',hx,hle,hS,hL,hu⟩=>⟨u,hx,?_⟩⟩;subst hL; subst hu;have hr2:RelE w0 H0 { s with en:=en } f w' E H' L1:=⟨hS.perm hp.symm,hr.gl.mono hle,hr.sls.mono hle,hr.pts.mono (Env.le_refl E) hle,hr.nb,hens.mono (Env.le_refl E) hle (zAI _),hr.fr⟩;exact hK _ _ _ _ _ _ _ hk hr2 ⟨zAI _,zAI _,nR _,fun _ _=>rfl,[],rfl,fun b' _ o _=>by simp only [zAi,hbx2]⟩ (Env.le_refl E) hle rfl
    cases c1 <;> simp only at h <;> try (cases h; done)
    · rename_i v'
      replace h:=cT h;obtain ⟨hn,h⟩:=h;cases hv1;have hv:=zB5 hn;subst hv;have hp:=zMD g2;exact fin (en:=s.en) h ((hr.st.addNil e 1).perm ((hp.cons _).trans (List.Perm.swap ..))) Sl.nil hp hr.ens fun _=>rfl
    · rename_i i
      split at h
      case h_2=>cases h
      rename_i xs e' hxs hrow;replace h:=cT h;obtain ⟨hee,h⟩:=h;have hee:=nQ hee;subst hee;obtain ⟨u,hu,hX⟩:=zBX hr.sls hxs;rw [hv1] at hu;cases hu;obtain ⟨p,hp,hdel⟩:=zEB hrow;obtain ⟨en,he1,x2,v2,z1,z2,z3⟩:=hr.ens.get hp;simp only [CV.val] at hv1;rw [hv1] at z2;cases z2;rw [zKa hxs] at z1;cases z1;have z3:en=.row v e 1 (List.length xs):=z3;subst z3;have hpq:q≠p:=by
        grind
      have hm:Ent.box kb T [va,v] ∈ L.eraseIdx p:=List.mem_eraseIdx_iff_getElem?.2 ⟨q,hpq,g2⟩;obtain ⟨m1,m2,hM⟩:=List.append_of_mem hm;have hp2:(L.eraseIdx p).Perm (.box kb T [va,v] :: (m1++m2)):=by simp_all
      have hp1:=zMD he1;exact fin (en:=zDn s.en i) h (hr.st.perm ((hp1.trans (hp2.cons _)).trans (List.Perm.swap ..))) hX hp2 (by rw [hdel]; exact hr.ens.erase) fun _=>zFY
  quiet:=by
    intro Ω s vs kk r h;cases h
structure FR (U:UV) where
 id:FuncId
 ins:List PT
 t:PT
 e:TypeId
 g:KT U (ar 0 ins)→Option (List (t.T U.S))
def FR.spec (F:FR U):Spec U where
 run s vs k:=packV s (ar 0 F.ins) vs fun xs=>(F.g xs).bind fun y=>k (newRow (newSl s F.t y) s.sl.length F.e) (.ref s.sl.length)
 runq _ _ _:=none
def FR.ok (P:Program) (F:FR U):Prop:=∀ {w0 ws:World} {H0 Hs:Hp} {L2:List Ent} {args:List Value} {xs:KT U (ar 0 F.ins)} {y:List (F.t.T U.S)},St w0 H0 ws Hs L2→GlOk U H0→GlOk U Hs→U.gw w0→TR U Hs (ar 0 F.ins) args xs→F.g xs=some y →
 ConS P F.id args w0 H0 ws Hs L2 (fun H' v L'=>L'=[.row v F.e (@Enc.sz _ (F.t.enc U)) y.length]∧@Sl (F.t.T U.S) (F.t.enc U) H' v y)
theorem FR.spec_ok {F:FR U} (h:F.ok P):SpecOk P F.id F.spec where
 sound:=by
  intro Ω s vs k r hrun w0 H0 f w E H L hr args ha K hK;obtain ⟨xs,args',hx,ha',hT⟩:=zEv hr.sls hrun;rw [ha] at ha';cases ha';obtain ⟨y,hy,hk⟩:=bindE hx;obtain ⟨c1,c2⟩:=h hr.st hr.gl.g0 hr.gl.gl hr.gl.gw hT hy;refine .inl ⟨c1,Calls.mono c2 fun x w' ⟨v,H',L',hx,hle,hS,hL,hu⟩=>⟨v,hx,?_⟩⟩;subst hL;letI:=F.t.enc U;obtain ⟨E',p,hv⟩:=zAQ (s:=s) (t:=.sl F.t) (hr.sls.mono hle) hu
  have hr3:RelE w0 H0 (newRow (newSl s F.t y) s.sl.length F.e) f w' E' H' (.row v F.e (Enc.sz (F.t.T U.S)) y.length :: L) :=
   ⟨hS,hr.gl.mono hle,p.ok,by rw [p.ps]; exact hr.pts.mono p.le hle,by rw [p.bs]; exact hr.nb,⟨⟨⟨.sl F.t,y⟩,v,zBd rfl,hv,rfl⟩,hr.ens.mono p.le hle p.sl⟩,fun t c hc=>CV.val_mono p.le (hr.fr t c hc)⟩
  exact hK _ _ _ _ _ _ _ hk hr3 (Ext.trans (a:=[]) (zFa F.t y []) (zE5 _ _ [])) p.le hle hv
 quiet:=by
  intro Ω s vs kk r h;cases h
theorem _root_.Go.Eng.St.callR {w0 w w':World} {H0 H H':Hp} {L M:List Ent} (S:St w0 H0 w H L) (S2:St w H w' H' M):St w0 H0 w' H' (M++L):=by
 have S1:=S.call S2.post;refine ⟨S1.post,fun e he=>?_,fun e he b hb=>?_,?_⟩
 ·rcases List.mem_append.1 he with h | h
  ·exact S2.ents e h
  ·exact S1.ents e h
 ·rcases List.mem_append.1 he with h | h
  ·exact nT S.post.below.size (S2.own e h b hb)
  ·exact S1.own e h b hb
 ·rw [List.filterMap_append]
  refine List.nodup_append.2 ⟨S2.nodup,S.nodup,fun a ha b hb hab=>?_⟩;subst hab;obtain ⟨e,he,h1⟩:=List.mem_filterMap.1 ha;have h2:=S.lt hb;exact absurd h2 (Nat.not_lt.2 (S2.own e he a h1))
def zRJ (P:Program) (N:Nat) (rs:List ResultVar) (t:PT) (e:TypeId) (s:VS U):Option (List (t.T U.S)) :=
 match zFr P N s rs with
 | some [.ref i]=>(match get1 s (.sl t) (.ref i),rowAt s.en i with | some xs,some e'=>bif Nat.beq e e' then some xs else none | _,_=>none)
 | some [.raw v]=>bif zBc v then some [] else none
 | _=>none
def finR (P:Program) (N:Nat) (rs:List ResultVar) (t:PT) (e:TypeId):Exit→VS U→Option (List (t.T U.S)):=fun x s =>
 match x with
 | .ret=>zRJ P N rs t e s
 | .normal=>zRJ P N rs t e s
 | _=>none
theorem FR.ok_of {G : Gam U} {F : FR U} {PL : PLs} {A : AT} {n : Nat} {fn : Func} {c : Code} {rs : List ResultVar} (hG : GamOk P G) (hpl : PlOk PL c = true) (hf : P.funcs[F.id]? = some fn) (hb : fn.body = some c) (hn : fn.ntmps = n) (hname : (fn.name == "runtime.NumGoroutine") = false)
    (hsz:Nat.ble F.ins.length n=true) (hrs:fn.results=rs.toArray) (hd:∀ xs,den P G n PL A c (putTs none0 (ar 0 F.ins) xs) (finR P n rs F.t F.e)=F.g xs):F.ok P:=by
  intro w0 ws H0 Hs L2 args xs y hS _ hg hgw hT hy;have hw:=hS.holds;have hgw2:=U.gw_post hgw hS.post;have hlen:args.length=F.ins.length:=by rw [zWP hT,zUw]
  have key:=zKG (P:=P) (w:=ws) (args:=args) (K:=fun w' v=>∃ H',St ws Hs w' H' [.row v F.e (@Enc.sz _ (F.t.enc U)) y.length]∧@Sl (F.t.T U.S) (F.t.enc U) H' v y) hf hb hn hname gR ?_
  · exact ⟨key.1,Calls.mono key.2 fun e w' ⟨v,he,H',h1,h2⟩=>⟨v,H',_,he,h1.post.le,hS.callR h1,rfl,h2⟩⟩
  have hB:Brings U Hs ⟨[],[],[],fun _=>none⟩ (init args) [] (ar 0 F.ins) xs []:=zMB hT fun j v hv=>by grind [init]
  have hP0:RelP noX ws Hs [] (none0 (U:=U)) (init args) ws ⟨[],[],[],fun _=>none⟩ Hs []:=⟨St.start hw,⟨hg,hgw2,hg⟩,trivial,trivial,rfl,trivial,fun _ _ h=>by cases h⟩;obtain ⟨E,L,_,hP⟩:=zHm hP0 hB;have hoff:∀ {l:List PT} {n:Nat} {X:Nat→Nat→Bool},offIs X (ar n l)=X:=by
    intro l
    induction l with
    | nil=>intro n X; rfl
    | cons t l ih=>intro n X; exact ih
  have hr0:RelE ws Hs (putTs none0 (ar 0 F.ins) xs) (init args) ws E Hs L:=hP.all fun b o _=>by rw [hoff]; rfl
  refine (zAn (N:=⟨n,[]⟩) hG c hpl).out ((hd xs).trans hy) hr0 fun e s' f' w' E' H' L' hk hr' _ _ _=>?_
  have hx:(e=.ret∨e=.normal)∧zRJ P n rs F.t F.e s'=some y:=by
    cases e with
    | ret=>exact ⟨.inl rfl,hk⟩
    | normal=>exact ⟨.inr rfl,hk⟩
    | _=>cases hk
  obtain ⟨hx,hk2⟩:=hx;unfold zRJ at hk2;refine ⟨hx,?_⟩;split at hk2
  · rename_i i hcs
    obtain ⟨us,h1,h2⟩:=zDH (N:=⟨n,[]⟩) hr' hcs;split at hk2
    case h_2=>cases hk2
    rename_i ys e' hxs hrow;obtain ⟨hee,hk2⟩:=cT hk2;cases hk2;have hee:=nQ hee;obtain ⟨v,hv,hX⟩:=zBX hr'.sls hxs;simp only [CV.vals,hv,oI] at h1;subst h1;obtain ⟨p,hp,_⟩:=zEB hrow;obtain ⟨en,he1,x2,v2,z1,z2,z3⟩:=hr'.ens.get hp;simp only [CV.val] at hv;rw [hv] at z2;cases z2;rw [zKa hxs] at z1;cases z1;have z3:en=.row v e' (@Enc.sz _ (F.t.enc U)) (List.length y):=z3;subst z3;rw [← hee] at he1;exact ⟨_,zGF hrs h2,H',hr'.st.drop _ (List.singleton_sublist.2 (lG he1)),hX⟩
  · rename_i v hcs
    obtain ⟨us,h1,h2⟩:=zDH (N:=⟨n,[]⟩) hr' hcs;cases hn':zBc v with
    | false=>grind
    | true =>
      rw [hn',cond_true] at hk2;cases hk2;simp only [CV.vals,CV.val,oI] at h1;subst h1;have hv:=zB5 hn';subst hv;exact ⟨_,zGF hrs h2,H',(hr'.st.addNil _ _).drop _ (List.singleton_sublist.2 lS),@Sl.nil _ (F.t.enc U) _⟩
  · cases hk2
theorem mkR {G : Gam U} {F : FR U} {fn : Func} (hG : GamOk P G) (A : AT) (hf : P.funcs[F.id]? = some fn) (PL : PLs := []) (hc : chk fn F.ins.length = true := by kernel_rfl) (hpl : PlOk PL (fn.body.getD .skip) = true := by first | exact zEn _ | kernel_rfl)
    (hd:∀ xs,den P G fn.ntmps PL A (fn.body.getD .skip) (putTs none0 (ar 0 F.ins) xs) (finR P fn.ntmps fn.results.toList F.t F.e)=F.g xs:=by intro x; kernel_rfl):F.ok P:=by
  unfold chk at hc;simp only [bQ,Bool.not_eq_true'] at hc;obtain ⟨⟨h1,h2⟩,h3⟩:=hc;obtain ⟨c,hb⟩:=Option.isSome_iff_exists.1 h1;rw [hb] at hd hpl;exact FR.ok_of (rs:=fn.results.toList) hG hpl hf hb rfl h2 h3 sI hd
end
def U0:UV:=mkU [] [] rfl (fun _=>none) (fun _=>True) (fun _ _=>trivial)
def finB {U:UV} (P:Program) (N:Nat) (rs:List ResultVar):Exit→VS U→Option Bool:=fun e s =>
 match e with
 | .ret=>(match zFr P N s rs with | some [.boo z]=>some z | _=>none)
 | .normal=>(match zFr P N s rs with | some [.boo z]=>some z | _=>none)
 | _=>none
section
variable {P:Program}
structure EqClo (P:Program) (kd:FuncId):Prop where
 out:∀ {w:World} {H:Hp} {b:Nat} (x key:Str),Holds w H→At H ⟨b,0,none⟩ [Eng.str key]→Con P kd [Eng.str x,Eng.ptr b 0] w H (fun _ v=>v=Eng.boo (x==key))
theorem mkC {fn : Func} {kd : FuncId} (hf : P.funcs[kd]? = some fn) (hc : chk fn 2 = true := by kernel_rfl)
    (hd:∀ (x key:Str),den P (gam (U:=U0) []) fn.ntmps [] .e (fn.body.getD .skip) ⟨numb 0 [.str x,.pa 0 0],[],[[.str key]],0,[],[]⟩ (finB P fn.ntmps fn.results.toList)=some (x==key):=by intro x key; kernel_rfl):EqClo P kd:=by
  refine ⟨@fun w H b x key hw hA=>?_⟩;unfold chk at hc;simp only [bQ,Bool.not_eq_true'] at hc;obtain ⟨⟨h1,h2⟩,h3⟩:=hc;obtain ⟨c,hb⟩:=Option.isSome_iff_exists.1 h1;have hd:=hd x key;rw [hb] at hd;have key1:=zKG (P:=P) (w:=w) (args:=[Eng.str x,Eng.ptr b 0]) (K:=fun w' v=>∃ H',Post w H w' H'∧v=Eng.boo (x==key)) hf hb rfl h2 h3 ?_
  · exact ⟨key1.1,Calls.mono key1.2 fun e w' ⟨v,he,H',hp,hv⟩=>⟨v,H',he,hp,hv⟩⟩
  have hr0:RelE (U:=U0) w H ⟨numb 0 [.str x,.pa 0 0],[],[[.str key]],0,[],[]⟩ (init [Eng.str x,Eng.ptr b 0]) w ⟨[],[],[⟨b,0,none⟩],fun _=>none⟩ H []:=by
    refine ⟨St.start hw,⟨⟨fun _ _ h=>(by cases h),fun _ h=>(by cases h)⟩,trivial,⟨fun _ _ h=>(by cases h),fun _ h=>(by cases h)⟩⟩,trivial,⟨⟨[Eng.str key],rfl,sI,hA⟩,trivial⟩,rfl,trivial,fun t c hc=>?_⟩;obtain ⟨_,h4⟩:=zIg hc;rw [Nat.sub_zero] at h4
    match t,h4 with
    | 0,h4=>cases h4; rfl
    | 1,h4=>cases h4; rfl
    | t+2,h4=>simp at h4
  refine (zAn (N:=⟨fn.ntmps,[]⟩) gnil c (zEn c)).out hd hr0 fun e s' f' w' E' H' L' hk hr' _ _ _=>?_
  have done:(e=.ret∨e=.normal)→(match zFr P fn.ntmps s' fn.results.toList with | some [.boo z]=>some z | _=>none)=some (x==key)→(e=.ret∨e=.normal)∧∃ v,(results fn (tm ⟨fn.ntmps,[]⟩ f')).run P w'=.ok v w'∧∃ H',Post w H w' H'∧v=Eng.boo (x==key):=fun he' hk'=>by
    split at hk'
    case h_2=>cases hk'
    rename_i z hcs;cases hk';obtain ⟨us,h5,h6⟩:=zDH (N:=⟨fn.ntmps,[]⟩) hr' hcs;cases h5;exact ⟨he',_,zGF sI h6,H',hr'.st.post,rfl⟩
  cases e with
  | ret=>exact done (.inl rfl) hk
  | normal=>exact done (.inr rfl) hk
  | _=>cases hk
end
section
variable {U:UV} {P:Program}
def zDE (xs:List Str) (key:Str):List Str:=xs.filter fun x=>!(x==key)
def zQa (T e:TypeId) (cl:List FuncId):Spec U where
 run s vs k :=
  match vs with
  | [c,.fn g [.ptr b 0]] =>
   bif memb cl g then
    (match bxT s.en b with
    | some (T',[.str key]) =>
     bif Nat.beq T T' then
      (match c with
      | .raw v=>bif zBc v then k (newRow (newMr s .str []) s.sl.length e) (.ref s.sl.length) else none
      | .ref i =>
       (match get1 s (.mr .str) (.ref i),rowAt s.en i with
       | some xs,some e'=>bif Nat.beq e e' then k { newMr s .str (zDE xs key) with en:=setRow s.en i s.sl.length } (.ref s.sl.length) else none
       | _,_=>none)
      | _=>none)
     else none
    | _=>none)
   else none
  | _=>none
 runq _ _ _:=none
 loud:=true
theorem clo0:∀ g,memb [] g=true→EqClo P g:=fun g h=>by cases h
theorem cloC {a:FuncId} {l:List FuncId} (h:EqClo P a) (k:∀ g,memb l g=true→EqClo P g):∀ g,memb (a :: l) g=true→EqClo P g:=fun g hg=>by
 rw [zDJ] at hg;cases hb:Nat.beq g a <;> simp_all
theorem MR.len_le {α:Type} [Enc α] {H:Hp} {en:Ent} {T:TypeId} {v:Value} {xs:List α} (h:MR H en T v xs):xs.length≤maxLen:=by
 rcases h with ⟨_,rfl,_⟩ | ⟨b,cap,cur,cs,_,_,h3,h4,_⟩
 ·simp
 ·omega
theorem df_ok {k : FuncId} {T e : TypeId} {cl : List FuncId} {DF : List Str → (Str → Option Bool) → Option (List Str)} (hDF : ∀ xs key, xs.length ≤ maxLen → DF xs (fun x => some (x == key)) = some (zDE xs key)) (hcl : ∀ g, memb cl g = true → EqClo P g)
    (C:∀ {w0 ws:World} {H0 Hs:Hp} {L2:List Ent},U.gw w0∧GlOk U H0→∀ (p_s:List Str) (p_del:Str→Option Bool) {v:Value} {en:Ent} {kd:FuncId} {cd:List Value} {jb bb0:Nat} {Tb:TypeId} {csb:List Value},St w0 H0 ws Hs (en :: L2)→L2[jb]?=some (.box bb0 Tb csb)→csb≠[]→MR (α:=Str) Hs en e v p_s →
      (∀ {w:World} {H:Hp},Hs.le H→Holds w H→At H ⟨bb0,0,none⟩ csb→∀ (x0:Str) (rr:Bool),p_del x0=some rr→Con P kd ([Eng.str x0]++cd) w H (fun _ v=>v=Eng.boo rr)) →
      ∀ {r:List Str},DF p_s p_del=some r→ConS P k [v,(.func (.func kd) #[] cd.toArray)] w0 H0 ws Hs L2 (fun H' v' L'=>∃ en',L'=[en']∧MR (α:=Str) H' en' e v' r)) :
    SpecOk P k (zQa (U:=U) T e cl) where
  sound:=by
    intro Ω s vs kk r h w0 H0 f w E H L hr args ha K hK;unfold zQa at h;simp only at h;split at h
    case h_2=>cases h
    rename_i c g b;replace h:=cT h;obtain ⟨hg,h⟩:=h;split at h
    case h_2=>cases h
    rename_i T' key hbx;replace h:=cT h;obtain ⟨hT,h⟩:=h;obtain ⟨q,vals,kb,g1,g2,g3,g4⟩:=zMO hbx hr.ens;cases g4;have hargs:∃ v,c.val E=some v∧args=[v,.func (.func g) #[] [Eng.ptr kb 0].toArray]:=by
      simp only [CV.vals,CV.val,g3,Option.map_some] at ha
      grind
    obtain ⟨v,hv,rfl⟩:=hargs
    have fin : ∀ {xs : List Str} {en : Ent} {M : List Ent} {jb : Nat}, St w0 H0 w H (en :: M) → M[jb]? = some (.box kb T' [Eng.str key]) → MR (α := Str) H en e v xs →
        (∀ w' H' en' v',H.le H'→St w0 H0 w' H' (en' :: M)→MR (α:=Str) H' en' e v' (zDE xs key)→K w' v')→zPO P k [v,.func (.func g) #[] [Eng.ptr kb 0].toArray].toArray w K:=by
      intro xs en M jb S hj hM hk;have hlen:=MR.len_le hM
      obtain ⟨c1,c2⟩:=C ⟨hr.gl.gw,hr.gl.g0⟩ xs (fun x=>some (x==key)) (cd:=[Eng.ptr kb 0]) S hj (by simp) hM
        (fun {w2 H2} _ hw2 hA2 x0 rr hrr=>by cases hrr; exact (hcl g hg).out x0 key hw2 hA2) (hDF xs key hlen)
      exact .inl ⟨c1,Calls.mono c2 fun x w' ⟨v',H',L',hx,hle,hS,⟨en',hL,hm⟩⟩=>⟨v',hx,by grind⟩⟩
    split at h
    · rename_i v0
      replace h:=cT h;obtain ⟨hn,h⟩:=h;cases hv;have hv0:=zB5 hn;subst hv0;refine fin (hr.st.addNil e 1) g2 MR.nil fun w' H' en' v' hle S' hm=>?_
      obtain ⟨a',c',hsh,_⟩:=hm.shape;obtain ⟨E',p,hvp⟩:=zAQ (s:=s) (t:=.mr .str) (v:=v') (x:=[]) (hr.sls.mono hle) ⟨a',c',hsh⟩
      have hr3:RelE w0 H0 (newRow (newMr s .str []) s.sl.length e) f w' E' H' (en' :: L) :=
        ⟨S',hr.gl.mono hle,p.ok,by rw [p.ps]; exact hr.pts.mono p.le hle,by rw [p.bs]; exact hr.nb,⟨⟨⟨.mr .str,[]⟩,v',zBd rfl,hvp,hm⟩,hr.ens.mono p.le hle p.sl⟩,fun t c hc=>CV.val_mono p.le (hr.fr t c hc)⟩
      exact hK _ _ _ _ _ _ _ h hr3 ⟨⟨_,rfl⟩,zAI _,nR _,fun _ _=>rfl,[],rfl,fun _ _ _ _=>rfl⟩ p.le hle hvp
    · rename_i i
      split at h
      case h_2=>cases h
      rename_i xs e' hxs hrow;replace h:=cT h;obtain ⟨hee,h⟩:=h;have hee:=nQ hee;subst hee;obtain ⟨p,hp,hset⟩:=zEC (j:=s.sl.length) hrow;obtain ⟨en,he1,x2,v2,z1,z2,z3⟩:=hr.ens.get hp;simp only [CV.val] at hv;rw [hv] at z2;cases z2;rw [zJ8 hxs] at z1;cases z1;have z3:MR (α:=Str) H en e v xs:=z3;have hpq:q≠p:=by
        grind
      have hm0:Ent.box kb T' [Eng.str key] ∈ L.eraseIdx p:=List.mem_eraseIdx_iff_getElem?.2 ⟨q,hpq,g2⟩;obtain ⟨jb,hjb⟩:=lI.1 hm0;refine fin (hr.st.perm (zMD he1)) hjb z3 fun w' H' en' v' hle S' hm=>?_
      obtain ⟨a',c',hsh,_⟩:=hm.shape;obtain ⟨E',pp,hvp⟩:=zAQ (s:=s) (t:=.mr .str) (v:=v') (x:=zDE xs key) (hr.sls.mono hle) ⟨a',c',hsh⟩
      have hr3:RelE w0 H0 { newMr s .str (zDE xs key) with en:=setRow s.en i s.sl.length } f w' E' H' (L.set p en') :=
        ⟨S'.perm (zQw he1).symm,hr.gl.mono hle,pp.ok,by rw [pp.ps]; exact hr.pts.mono pp.le hle,by rw [pp.bs]; exact hr.nb,by rw [hset]; exact (hr.ens.mono pp.le hle pp.sl).set ⟨⟨.mr .str,zDE xs key⟩,v',zBd rfl,hvp,hm⟩,fun t c hc=>CV.val_mono pp.le (hr.fr t c hc)⟩
      exact hK _ _ _ _ _ _ _ h hr3 ⟨⟨_,rfl⟩,zAI _,nR _,fun _ _=>rfl,[],rfl,fun b _ o _=>by simp only [zAi,zCb]⟩ pp.le hle hvp
    · cases h
  quiet:=by
    intro Ω s vs kk r h;cases h
end
def idxN:List Nat→Nat→Option Nat
 | [],_=>none
 | a :: l,x=>bif Nat.beq a x then some 0 else (match idxN l x with | some j=>some (j+1) | none=>none)
structure GC where
 F:List Nat
 A:List Nat
 B:List Nat
section
variable {U:UV}
variable {P:Program} {G:Gam U} {N:Frm} {PL:PLs} {s s' s2:VS U} {f f':Fr} {w w' w0:World} {H0 H H':Hp} {E E':Env} {L L':List Ent} {Ω:Type}
structure Go (P:Program) (N:Frm) (Q:World→Hp→Exit→Fr→World→Prop) (c:Code) (s:VS U):Prop where
 out:∀ {w0:World} {H0:Hp} {f:Fr} {w:World} {E:Env} {H:Hp} {L:List Ent},RelE w0 H0 s f w E H L→WP P N c (Q w0 H0) f w
end
end Go.VI
