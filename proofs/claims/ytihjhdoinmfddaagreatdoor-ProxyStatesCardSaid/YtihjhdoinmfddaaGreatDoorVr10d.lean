/- A part. -/
import Derived.Test.YtihjhdoinmfddaaGreatDoorVr10a
set_option linter.unusedVariables false
set_option linter.unusedSimpArgs false
namespace Go.VI
open Go Go.Eng
def zDn:List EI→Nat→List EI
 | [],_=>[]
 | .box b T cs :: r,i=>.box b T cs :: zDn r i
 | .row k T :: r,i=>bif Nat.beq k i then r else .row k T :: zDn r i
theorem zEB:∀ {en:List EI} {i T:Nat},rowAt en i=some T→∃ p,en[p]?=some (EI.row i T)∧zDn en i=en.eraseIdx p
 | [],_,_,h=>by cases h
 | .box b T0 cs :: en,i,T,h=>by
  obtain ⟨p,h1,h2⟩:=zEB (en:=en) (show rowAt en i=some T from h);exact ⟨p+1,by simpa using h1,by simp [zDn,h2]⟩
 | .row k T0 :: en,i,T,h=>by
  simp only [rowAt] at h;cases hb:Nat.beq k i with
  | true =>
   rw [hb] at h;cases h;have:=nQ hb;subst this;exact ⟨0,rfl,by simp [zDn]⟩
  | false =>
   rw [hb] at h;obtain ⟨p,h1,h2⟩:=zEB (en:=en) h;exact ⟨p+1,by simpa using h1,by simp [zDn,hb,h2]⟩
theorem zFY:∀ {en:List EI} {i b:Nat},boxAt (zDn en i) b=boxAt en b
 | [],_,_=>rfl
 | .box b0 T cs :: en,i,b=>by simp only [zDn,boxAt,zFY]
 | .row k T :: en,i,b=>by
  simp only [zDn];cases Nat.beq k i with
  | true=>rfl
  | false=>exact zFY (en:=en)
theorem zMD {α:Type} {l:List α} {p:Nat} {x:α} (h:l[p]?=some x):l.Perm (x :: l.eraseIdx p):=by
 obtain ⟨hlt,hx⟩:=List.getElem?_eq_some_iff.1 h;subst hx;have h1:l=l.take p++l[p] :: l.drop (p+1):=by simp
 grind [List.perm_middle]
theorem zQw {α:Type} {l:List α} {p:Nat} {x y:α} (h:l[p]?=some x):(l.set p y).Perm (y :: l.eraseIdx p):=by
 have h1:(l.set p y)[p]?=some y:=List.getElem?_set_self (List.getElem?_eq_some_iff.1 h).1;have h2:=zMD h1
 grind
mutual
theorem CV.val_hs (E:Env) (h:Nat→Option Ent):∀ c:CV,c.val { E with hs:=h }=c.val E
 | .int x=>rfl
 | .byt c=>rfl
 | .boo b=>rfl
 | .str s=>rfl
 | .raw v=>rfl
 | .und=>rfl
 | .ref i=>rfl
 | .agg l=>by simp only [CV.val,CV.vals_hs E h l]
 | .tup l=>by simp only [CV.val,CV.vals_hs E h l]
 | .ptr i o=>rfl
 | .pa i o=>rfl
 | .fn k l=>by simp only [CV.val,CV.vals_hs E h l]
 | .mp b=>rfl
 | .pe _ _ _=>rfl
 | .sa _ _=>rfl
 | .bm k l=>by simp only [CV.val,CV.vals_hs E h l]
 | .ifc T c=>by simp only [CV.val,CV.val_hs E h c]
theorem CV.vals_hs (E:Env) (h:Nat→Option Ent):∀ l:List CV,CV.vals { E with hs:=h } l=CV.vals E l
 | []=>rfl
 | c :: l=>by simp only [CV.vals,CV.val_hs E h c,CV.vals_hs E h l]
end
section
variable {U:UV}
def opp {R:Type} (P:Program) (N:Nat) (d:Option Nat) (op:Op) (s:VS U) (k:VS U→Option R):Option R :=
 match op with
 | .build T ps=>opb P N T ps.toList s fun v=>k (setd s d v)
 | .indexAddr T x y=>(match opn N s x with | some (.ref j)=>opIdx P N d T j y s k | _=>opr P N (.indexAddr T x y) s fun v=>k (setd s d v))
 | .nilCheck x=>(match opn N s x with | some (.ref j)=>opNc d j s k | _=>opr P N (.nilCheck x) s fun v=>k (setd s d v))
 | .lookup T x y ok=>opLk P N T x y ok s fun s v=>k (setd s d v)
 | .load T x=>opLd P N d T x s k
 | op=>opr P N op s fun v=>k (setd s d v)
def isQ:Op→Bool
 | .move _=>true | .assign _=>true | .pick _ _ _=>true | .binOp _ _ _ _ _=>true | .nilCheck _=>true | .fieldAddr _ _ _=>true | .load _ _=>true | .indexAddr _ _ _=>true | .unOp _ _ _=>true | .index _ _ _=>true
 | .extract _ _=>true | .convert _ _ _=>true | .field _ _ _=>true | .build _ _=>true | .makeFunc _ _ _=>true | .makeInterface _ _=>true | .lookup _ _ _ _=>true
 | .call c=>(match c.callee with | .builtin .len=>true | .builtin .min=>true | .builtin .max=>true | _=>false)
 | _=>false
def isBx (X:List Nat):EI→Bool
 | .box b _ _=>!(memb X b)
 | .row _ _=>false
def bxs (X:List Nat) (en:List EI):List EI:=en.filter (isBx X)
def chs (ops:Array Oper) (s:VS U):Nat→Nat→Option CV
 | 0,t=>look s.fr t
 | n+1,t=>match ops.toList.find? (fun o=>match o.dst with | some d=>Nat.beq d t | none=>false) with
  | some o=>(match o.op with | .move (.tmp u)=>chs ops s n u | .nilCheck (.tmp u)=>chs ops s n u | .fieldAddr _ (.tmp u) _=>chs ops s n u | _=>look s.fr t)
  | none=>look s.fr t
def tgt (ops:Array Oper) (nb:Nat) (s:VS U):List Nat:=(ops.toList.take nb).filterMap fun o=>match o.op with | .store _ (.tmp t) _=>(match chs ops s 8 t with | some (.ptr b _)=>some b | _=>none) | _=>none
def enC (ops:Array Oper) (nb:Nat) (s0:VS U):List EI:=bxs (tgt ops nb s0) s0.en
def waits (ops:Array Oper) (n i:Nat):Bool:=match ops[n]? with | some o=>o.after.any fun e=>Region.binds .any e&&Nat.beq e.on i | none=>true
def deps (ops:Array Oper) (n:Nat):List Nat:=match ops[n]? with | some o=>(o.after.toList.filter fun e=>Region.binds .any e).map fun e=>e.on | none=>[]
def anc (ops:Array Oper):Nat→List Nat→List Nat→List Nat
 | 0,_,seen=>seen
 | _+1,[],seen=>seen
 | f+1,x :: todo,seen=>bif memb seen x then anc ops f todo seen else anc ops f (deps ops x++todo) (x :: seen)
def zSj (ops:Array Oper) (n i:Nat):Bool:=waits ops n i||memb (anc ops (ops.size*ops.size+ops.size+1) (deps ops n) []) i
inductive PA (U:UV) where
 | box (T:TypeId) (cs:List CV) | row (t:PT) (xs:List (t.T U.S)) (e:TypeId)
def pre (P:Program) (N:Nat) (op:Op) (s:VS U):Option (PA U) :=
 match op with
 | .alloc T=>(match zer P T with | some zs=>some (.box T (zs.map con)) | none=>none)
 | .box T x=>(match opn N s x with | some c=>(match zMK c with | some l=>some (.box T l) | none=>none) | none=>none)
 | .buildSlice T n ps =>
  (match (match P.underlying T with | some (.slice e)=>ptOf P 9 e | _=>none) with
  | some t =>
   (match elOk (U:=U) P T t,opns N s (ps.toList.map Prod.snd) with
   | some e,some cs =>
    (match getTs s t cs with
    | some xs=>bif zHU 0 ps.toList&&Nat.beq ps.toList.length n&&Nat.ble (n*@Enc.sz _ (t.enc U)) 16777216&&cellT t then some (.row t xs e) else none
    | none=>none)
   | _,_=>none)
  | none=>none)
 | _=>none
def resol (s:VS U) (d:Nat):PA U→VS U
 | .box T cs=>setd (newBox s T cs) (some d) (.ptr s.nb 0)
 | .row t xs e=>setd (newRow (newSl s t xs) s.sl.length e) (some d) (.ref s.sl.length)
structure PD (U:UV) where
 a:Nat
 d:Nat
 i0:Nat
 pa:PA U
def zJu (ops:Array Oper) (nb:Nat) (listed:Array Bool) (i:Nat):Bool :=
 match ops[i]? with
 | some o=>isQ o.op&&Region.free .any ops listed i&&!(Nat.beq i nb)&&zSj ops nb i&&!(listed.getD nb false)&&(Region.ready .any ops listed).contains i
 | none=>false
def okB (ops:Array Oper) (nb:Nat) (s0 s':VS U):Bool:=((s'.dt.take (s'.dt.length - s0.dt.length)).all fun p=>Nat.ble s0.nb p.1||memb (tgt ops nb s0) p.1)&&(enC ops nb s0).all fun e=>(posE s'.en e).isSome
def slotsOf:Op→List Nat
 | .box _ (.tmp t)=>[t]
 | .buildSlice _ _ ps=>ps.toList.filterMap fun p=>match p.2 with | .tmp t=>some t | _=>none
 | _=>[]
def zKL (ops:Array Oper) (p:PD U) (d:Option Nat):Bool :=
 match d with
 | none=>true
 | some d=>!(Nat.beq d p.d)&&(match ops[p.a]? with | some o=>!(memb (slotsOf o.op) d) | none=>false)
def hidOk (s:VS U) (p:PD U):Bool:=(match rowAt s.en p.i0 with | some _=>true | none=>false)&&(match rowAt (zDn s.en p.i0) p.i0 with | some _=>false | none=>true)
def start (P:Program) (N:Nat) (ops:Array Oper) (nb:Nat) (s:VS U) (a:Nat):Option (PD U) :=
 match ops[a]? with
 | some ⟨some d,op,_,_,_,none⟩=>(match pre P N op s with | some pa=>bif Nat.beq a nb||memb (slotsOf op) d||!(Nat.blt d N) then none else some ⟨a,d,s.sl.length,pa⟩ | none=>none)
 | _=>none
def hide (s:VS U) (p:PD U):VS U:={ s with fr:=del [p.d] s.fr,sl:=s.sl++[⟨.hid,()⟩],en:=.row p.i0 0 :: s.en }
def knw (s:VS U) (t:Nat) (b:Bool):VS U:={ s with fr:=(t,.boo b) :: s.fr }
def gsel {R:Type} (N:Nat) (ops:Array Oper) (s:VS U) (g:Option (Nat×Bool)) (act skip:VS U→Option R):Option R :=
 match g with
 | none=>act s
 | some (j,b)=>match (ops[j]?).bind (·.dst) with
  | none=>none
  | some t=>bif Nat.blt t N then match look s.fr t with | some .und=>skip s | some (.boo z)=>(match z==b with | true=>act (knw s t b) | false=>skip (knw s t (!b))) | _=>none else none
inductive PS where
 | t (i:Nat) | l (i:Nat) (b:Bool) | p (a:Nat) | pt (i:Nat) | pl (b:Nat) | r
def cnt:List PS→Nat
 | []=>0
 | .p _ :: r=>cnt r
 | _ :: r=>cnt r+1
def zNo (ops:Array Oper) (i:Nat):Bool:=match ops[i]? with | some o=>o.guard.isNone | none=>false
def zFq (ops:Array Oper) (nb:Nat):Option Nat→Array Bool→List PS→Bool
 | none,l,[]=>(Region.ready .any ops l).isEmpty
 | none,l,.t i :: r=>zJu ops nb l i&&zFq ops nb none (l.setIfInBounds i true) r
 | none,l,.l i b :: r=>(match Region.ready .any ops l with | [j]=>Nat.beq i j | _=>false)&&(b||l.getD nb false||Nat.beq i nb)&&zFq ops nb none (l.setIfInBounds i true) r
 | none,l,.p a :: r=>zFq ops nb (some a) l r
 | some a,l,.pt i :: r=>zJu ops nb l i&&zJu ops nb (l.setIfInBounds a true) i&&zNo ops i&&zFq ops nb (some a) (l.setIfInBounds i true) r
 | some a,l,.pl b :: r=>(match Region.ready .any ops l,Region.ready .any ops (l.setIfInBounds a true) with | [x,y],[z]=>Nat.beq z b&&((Nat.beq x a&&Nat.beq y b)||(Nat.beq y a&&Nat.beq x b)) | _,_=>false)&&!(Nat.beq b a)&&!(Nat.beq b nb)&&!(l.getD nb false)&&zNo ops b&&zFq ops nb (some a) (l.setIfInBounds b true) r
 | some a,l,.r :: r=>(match Region.ready .any ops l with | [i]=>Nat.beq i a | _=>false)&&zFq ops nb none (l.setIfInBounds a true) r
 | _,_,_=>false
def opP {R:Type} (P:Program) (G:Gam U) (N:Nat) (ops:Array Oper) (nb:Nat) (s0:VS U):List PS→Option (PD U)→VS U→(VS U→Option R)→Option R
 | [],none,s,k=>k s
 | .t i :: pl,none,s,k =>
  (match ops[i]? with
  | some o=>gsel N ops s o.guard (fun s=>opp P N o.dst o.op { s with en:=enC ops nb s0 } fun s'=>opP P G N ops nb s0 pl none { s' with en:=s.en } k) (fun s=>opP P G N ops nb s0 pl none (setd s o.dst .und) k)
  | none=>none)
 | .l i b :: pl,none,s,k =>
  (match ops[i]? with
  | some o=>gsel N ops s o.guard (fun s=>opd P G N o.dst o.op s fun s'=>bif !b||okB ops nb s0 s' then opP P G N ops nb s0 pl none s' k else none) (fun s=>opP P G N ops nb s0 pl none (setd s o.dst .und) k)
  | none=>none)
 | .p a :: pl,none,s,k=>(match start P N ops nb s a with | some p=>opP P G N ops nb s0 pl (some p) (hide s p) k | none=>none)
 | .pt i :: pl,some p,s,k =>
  (match ops[i]? with
  | some o=>bif zKL ops p o.dst then opp P N o.dst o.op { s with en:=enC ops nb s0 } fun s'=>opP P G N ops nb s0 pl (some p) { s' with en:=s.en } k else none
  | none=>none)
 | .pl b :: pl,some p,s,k =>
  (match ops[b]? with
  | some o=>bif zKL ops p o.dst&&hidOk s p then opd P G N o.dst o.op s fun s'=>bif okB ops nb s0 s'&&hidOk s' p then opP P G N ops nb s0 pl (some p) s' k else none else none
  | none=>none)
 | .r :: pl,some p,s,k=>bif hidOk s p then opP P G N ops nb s0 pl none (resol { s with en:=zDn s.en p.i0 } p.d p.pa) k else none
 | _,_,_,_=>none
abbrev PLs:=List (Nat×Nat×List PS)
def plk:PLs→Nat→Option (Nat×List PS)
 | [],_=>none
 | p :: r,i=>bif Nat.beq p.1 i then some p.2 else plk r i
end
section
variable {U:UV} {P:Program} {G:Gam U} {N:Frm} {s s':VS U} {f f':Fr} {w w' w0:World} {H0 H H':Hp} {E E':Env} {L L':List Ent} {Ω:Type} {X:Nat→Nat→Bool}
variable {af:Array Edge} {h:Nat→Option Ent} {pa:PA U}
theorem R.idxAt {α : Type} [Enc α] {T e : TypeId} {x i : Operand} {v : Value} {xs : List α} {n : Int} {c : α} {od : Option Nat} {ty : TypeId} {pos : String} (hR : Sl H v xs) (hx : ev N f x = v) (hi : ev N f i = Eng.int n) (hE : Elem P T e (Enc.sz α)) (h : xnth xs n = some c) :
  ∃ a cs,At H a cs∧Enc.cells H cs c∧∀ w:World,(execOp (ev N f) ⟨od,.indexAddr T x i,ty,pos,af,none⟩).run P w=.ok (.value (.pointer (some a))) w:=by
 unfold xnth at h;split at h
 case isFalse=>cases h
 rename_i h0;obtain ⟨a,cp,rfl,h1,h2,h3⟩:=hR;obtain ⟨hlt,hc⟩:=List.getElem?_eq_some_iff.1 h;rcases h3 with rfl | ⟨b,off,cs,rfl,hat,hC⟩
 ·simp at hlt
 obtain ⟨cs1,r,hr,hcs1⟩:=hC.get h;have hE':=hE;obtain ⟨ht,inf,z,hinf,_,hsize,_⟩:=hE';have hat':At H ⟨b,off+n.toNat*Enc.sz α,none⟩ cs1:=by
  obtain ⟨T',l,_,hH,r',hr'⟩:=hat;refine ⟨T',l,rfl,hH,r++r',?_⟩
  show l.drop (off+n.toNat*Enc.sz α)=_
  have hle:n.toNat*Enc.sz α≤cs.length:=by
   rw [hC.length]; exact Nat.mul_le_mul_right _ om
  rw [← List.drop_drop,show List.drop off l=cs++r' from hr',List.drop_append_of_le_length hle,hr,List.append_assoc]
 refine ⟨_,_,hat',hcs1,fun w=>?_⟩;have hr:0≤n∧n<(xs.length:Int):=⟨h0,om⟩;simp [execOp,Instr.indexAt,asIntOf,hx,hi,Eng.int,run_underlying ht,hr,sizeOf,typeInfo,hinf,hsize,Addr.add_lit]
theorem zTF {d : Option Nat} {op : Op} {k : VS U → Option Ω} {r : Ω} (h : opp P N.n d op s k = some r) (hr : RelE w0 H0 s f w E H L) {ty : TypeId} {pos : String} :
  ∃ s' E' v,k s'=some r∧RelE w0 H0 s' (updo f d v) w E' H L∧Extq s s' d.toList∧E.le E'∧Runs P N f w0 H0 H L ⟨d,op,ty,pos,af,none⟩ v:=by
 have pure:∀ {op:Op},opr P N.n op s (fun v=>k (setd s d v))=some r→∃ s' E' v,k s'=some r∧RelE w0 H0 s' (updo f d v) w E' H L∧Extq s s' d.toList∧E.le E'∧Runs P N f w0 H0 H L ⟨d,op,ty,pos,af,none⟩ v:=fun h=>by
  obtain ⟨c,v,hk,hc,hrun⟩:=zKc (d:=d) (ty:=ty) (pos:=pos) (af:=af) h hr;exact ⟨_,E,v,hk,hr.set d hc,zF4 d c,Env.le_refl E,hrun⟩
 unfold opp at h;split at h
 ·rename_i T ps
  obtain ⟨ps⟩:=ps;obtain ⟨c,v,hk,hc,hrun⟩:=zMP (d:=d) (ty:=ty) (pos:=pos) (af:=af) h hr;exact ⟨_,E,v,hk,hr.set d hc,zF4 d c,Env.le_refl E,hrun⟩
 ·rename_i T x y
  split at h
  ·rename_i j hx
   unfold opIdx at h;split at h
   case h_2 =>
    obtain ⟨c,v,hk,hc,hrun⟩:=zJl (ty:=ty) (pos:=pos) (af:=af) hx h hr;exact ⟨_,E,v,hk,hr.set d hc,zF4 d c,Env.le_refl E,hrun⟩
   rename_i x' hj;split at h
   case h_2=>cases h
   rename_i i d hy;split at h
   case h_2=>cases h
   rename_i e he;obtain ⟨c,hc,h⟩:=bindE h;obtain ⟨v,hv,hs⟩:=hr.sls.gets hj;have hxv:=zAy hr hx;simp only [CV.val,hv,oI] at hxv;letI:=x'.t.enc U;obtain ⟨a,cs,hA,hcs,hrun⟩:=R.idxAt (od:=some d) (ty:=ty) (pos:=pos) (af:=af) hs hxv.symm (zBD hr hy) (zDf he) hc;obtain ⟨E1,p1,hv1⟩:=zHY (s:=s) hr.sls hcs;have hne:cs≠[]:=by
    intro h0;have h1:=Enc.len hcs
    grind [Enc.pos]
   obtain ⟨E2,e2,hr2,hp⟩:=(hr.put p1).newPt hv1 hne hA;have hpt:(putCs s x'.t c).1.pt.length=s.pt.length:=by rw [p1.pt]
   rw [hpt] at hp;exact ⟨_,E2,_,h,hr2.set (some d) hp,⟨Ext.andSet (Ext.trans (a:=[]) (p1.ext []) (zIb _ [])),p1.en⟩,Env.le_trans p1.le e2,fun w' _ _ _=>hrun w'⟩
  ·exact pure h
 ·split at h
  ·rename_i j hx
   obtain ⟨s',E',v,hk,hr',he,hen,hE,hrun⟩:=zKr (ty:=ty) (pos:=pos) (af:=af) hx h hr;exact ⟨_,E',v,hk,hr',⟨he,hen⟩,hE,hrun⟩
  ·exact pure h
 ·obtain ⟨s',E',c,v,hk,hp,hc,hrun⟩:=zK1 (d:=d) (ty:=ty) (pos:=pos) (af:=af) h hr
  exact ⟨_,E',v,hk,(hr.put hp).set d hc,⟨Ext.andSet (hp.ext []),by cases d <;> exact hp.en⟩,hp.le,hrun⟩
 ·obtain ⟨s',E',v,hk,hr',he,hen,hE,hrun⟩:=zZL (ty:=ty) (pos:=pos) (af:=af) h hr
  exact ⟨_,E',v,hk,hr',⟨he,hen⟩,hE,hrun⟩
 ·exact pure h
theorem PtsOk.hs:∀ {az:List Addr} {xs:List (List CV)},PtsOk E H az xs→PtsOk { E with hs:=h } H az xs
 | [],[],_=>trivial
 | _ :: _,_ :: _,⟨⟨cs,h1,h2⟩,r⟩=>⟨⟨cs,by rw [CV.vals_hs]; exact h1,h2⟩,PtsOk.hs r⟩
 | [],_ :: _,h=>h.elim
 | _ :: _,[],h=>h.elim
theorem CsOk.hs {b:Nat}:∀ {o:Nat} {cs:List CV} {vs:List Value},CsOk E X b o cs vs→CsOk { E with hs:=h } X b o cs vs
 | _,[],[],_=>trivial
 | _,_ :: _,_ :: _,⟨h,r⟩=>⟨h.elim .inl fun h=>.inr (by rw [CV.val_hs]; exact h),CsOk.hs r⟩
 | _,[],_ :: _,h=>h.elim
 | _,_ :: _,[],h=>h.elim
theorem EnOk.hs {sl:List (SLV U)} {i:EI} {e:Ent} (hk:EnOk X E H sl i e) (hh:∀ j T,i=.row j T→h j=E.hs j):EnOk X { E with hs:=h } H sl i e:=by
 cases i with
 | box b T cs=>obtain ⟨vals,k,h1,h2,h3⟩:=hk; exact ⟨vals,k,h1,h2.hs,h3⟩
 | row j T=>obtain ⟨x,v,h1,h2,h3⟩:=hk; exact ⟨x,v,h1,h2,gR⟩
theorem EnsOk.hs {sl:List (SLV U)}:∀ {is:List EI} {es:List Ent},EnsOk X E H sl is es→(∀ j T,EI.row j T ∈ is→h j=E.hs j)→EnsOk X { E with hs:=h } H sl is es
 | [],[],_,_=>trivial
 | _ :: _,_ :: _,⟨h1,r⟩,hh=>⟨h1.hs fun j T e=>hh j T (e ▸ lS),EnsOk.hs r fun j T m=>hh j T (lN _ m)⟩
 | [],_ :: _,h,_=>h.elim
 | _ :: _,[],h,_=>h.elim
theorem RelX.hs (hr:RelX X w0 H0 s f w E H L) (hh:∀ j T,EI.row j T ∈ s.en→h j=E.hs j):RelX X w0 H0 s f w { E with hs:=h } H L :=
 ⟨hr.st,hr.gl,hr.sls,hr.pts.hs,hr.nb,hr.ens.hs hh,fun t c hc=>by rw [CV.val_hs]; exact hr.fr t c hc⟩
theorem EnsOk.swap {sl:List (SLV U)} {i:EI} {e:Ent}:∀ {is:List EI} {es:List Ent} {p:Nat},EnsOk X E H sl is es→is[p]?=some i→EnOk X E' H' sl i e→(∀ q j x,q≠p→is[q]?=some j→EnOk X E H sl j x→EnOk X E' H' sl j x)→EnsOk X E' H' sl is (es.set p e)
 | [],[],_,_,h,_,_=>by simp at h
 | j :: is,x :: es,0,⟨_,r⟩,h,he,ho=>by
  simp only [List.getElem?_cons_zero,oI] at h;subst h;have key:∀ {is:List EI} {es:List Ent},EnsOk X E H sl is es→(∀ j x,j ∈ is→EnOk X E H sl j x→EnOk X E' H' sl j x)→EnsOk X E' H' sl is es:=by
   intro is
   induction is with
   | nil=>intro es h _; cases es with | nil=>trivial | cons _ _=>exact h.elim
   | cons a is ih=>intro es h ho; cases es with | nil=>exact h.elim | cons y es=>exact ⟨ho _ _ lS h.1,ih h.2 fun j x m=>ho j x (lN _ m)⟩
  exact ⟨he,key r fun k y m hk=>by
   obtain ⟨q,hq⟩:=lI.1 m;exact ho (q+1) k y om (by simpa using hq) hk⟩
 | j :: is,x :: es,p+1,⟨h1,r⟩,h,he,ho =>
  ⟨ho 0 j x om rfl h1,EnsOk.swap r (by simpa using h) he fun q k y hq hk=>ho (q+1) k y om (by simpa using hk)⟩
 | [],_ :: _,_,h,_,_,_=>h.elim
 | _ :: _,[],_,h,_,_,_=>h.elim
theorem zMQ:∀ {en:List EI} {i T:Nat},EI.row i T ∈ en→∃ T',rowAt en i=some T'
 | .box b T0 cs :: en,i,T,h=>by
  rcases List.mem_cons.1 h with h | h
  ·cases h
  ·exact zMQ (en:=en) h
 | .row j T0 :: en,i,T,h=>by
  simp only [rowAt];cases hb:Nat.beq j i with
  | true=>grind
  | false =>
   rcases List.mem_cons.1 h with h | h
   ·simp_all
   ·exact zMQ (en:=en) h
theorem zMy {p:PD U} (h:hidOk s p=true):∃ q T,s.en[q]?=some (EI.row p.i0 T)∧zDn s.en p.i0=s.en.eraseIdx q∧∀ q' T',q'≠q→s.en[q']?≠some (EI.row p.i0 T'):=by
 unfold hidOk at h;rw [bQ] at h;obtain ⟨h1,h2⟩:=h;split at h1
 case h_2=>cases h1
 rename_i T hT;obtain ⟨q,hq,hd⟩:=zEB hT;refine ⟨q,T,hq,hd,fun q' T' hne he=>?_⟩;have hm:EI.row p.i0 T' ∈ s.en.eraseIdx q:=List.mem_eraseIdx_iff_getElem?.2 ⟨q',hne,he⟩
 grind [zMQ]
theorem _root_.Go.Eng.St.sub {M:List Ent} (S:St w0 H0 w H L) (h:∀ e ∈ M,e ∈ L) (hn:(M.filterMap Ent.blk).Nodup):St w0 H0 w H M :=
 ⟨S.post,fun e he=>S.ents e (h e he),fun e he=>S.own e (h e he),hn⟩
def Born (E:Env) (H:Hp) (v:Value) (e:Ent):PA U→Prop
 | .box T cs=>∃ k vals,v=Eng.ptr k 0∧e=.box k T vals∧CV.vals E cs=some vals
 | .row t xs T=>e=.row v T (@Enc.sz _ (t.enc U)) (List.length xs)∧@Sl (t.T U.S) (t.enc U) H v xs
theorem Born.mono {v:Value} {e:Ent} (h:Born E H v e pa) (hE:E.le E') (hl:H.le H'):Born E' H' v e pa:=by
 cases pa with
 | box T cs=>obtain ⟨k,vals,h1,h2,h3⟩:=h; exact ⟨k,vals,h1,h2,CV.vals_mono hE h3⟩
 | row t xs T=>exact ⟨h.1,zQn _ h.2 hl⟩
theorem Born.hs {v:Value} {e:Ent} (hb:Born E H v e pa):Born { E with hs:=h } H v e pa:=by
 cases pa with
 | box T cs=>obtain ⟨k,vals,h1,h2,h3⟩:=hb; exact ⟨k,vals,h1,h2,by rw [CV.vals_hs]; exact h3⟩
 | row t xs T=>exact hb
theorem born {op : Op} (hp : pre P N.n op s = some pa) (hr : RelE w0 H0 s f w E H L) {d : Nat} {ty : TypeId} {pos : String} {ops : Array Oper} {Q : Fr → World → Prop}
    (K:∀ v w' H' e,H.le H'→St w0 H0 w' H' (e :: L)→Born E H' v e pa→Q (upd f d v) w'):WL P N ops [⟨some d,op,ty,pos,af,none⟩] Q f w:=by
  unfold pre at hp;split at hp
  · split at hp
    case h_2=>cases hp
    rename_i zs hz;cases hp;exact W.alloc zs hr.st hz fun b w' S'=>WL.e (K _ w' H _ (Hp.le.refl H) S' ⟨b,zs,rfl,rfl,zIt⟩)
  · split at hp
    case h_2=>cases hp
    rename_i c hx;split at hp
    case h_2=>cases hp
    rename_i l hl;cases hp;obtain ⟨vs,hvs,hc⟩:=zFX hr.sls (zAy hr hx) hl;exact W.box vs hr.st rfl (by rw [hc]) fun b w' S'=>WL.e (K _ w' H _ (Hp.le.refl H) S' ⟨b,vs,rfl,rfl,hvs⟩)
  · rename_i T n ps
    obtain ⟨ps⟩:=ps;split at hp
    case h_2=>cases hp
    rename_i t ht;split at hp
    case h_2=>cases hp
    rename_i e cs he hcs;split at hp
    case h_2=>cases hp
    rename_i xs hxs;cases hc:zHU 0 ps&&Nat.beq ps.length n&&Nat.ble (n*@Enc.sz _ (t.enc U)) 16777216&&cellT t with
    | false=>grind
    | true =>
      simp only [hc,cond_true,oI] at hp;subst hp;simp only [bQ] at hc;obtain ⟨⟨⟨c1,c2⟩,c3⟩,c0⟩:=hc;have c2:=nQ c2;obtain ⟨vs,hvs,hl,hR⟩:=zJm hr.sls hxs;have hev:=zE0 hr hcs;rw [hvs] at hev;cases hev;letI:=t.enc U;have hlen:((ps.map Prod.snd).map (ev N f)).length=n:=by simp [c2]
      exact W.bslice ((ps.map Prod.snd).map (ev N f)) xs hr.st (zDf he) (zI9 c1) hlen gR (nL c3) (fun i v x hv hx=>zRF c0 (hR i v x hv hx)) fun u w' H' hle hu S'=>WL.e (K _ w' H' _ hle S' ⟨rfl,hu⟩)
  · cases hp
theorem zUn {e : Ent} {d : Nat} (hr : RelE w0 H0 s f w E H L) (S : St w0 H0 w H (e :: L)) (hb : Born E H (f d) e pa) :
  ∃ E',E.le E'∧RelE w0 H0 (resol s d pa) f w E' H (e :: L)∧Ext s (resol s d pa) [d]:=by
 have fin:∀ {s1:VS U} {E':Env} {c:CV},E.le E'→RelE w0 H0 s1 f w E' H (e :: L)→c.val E'=some (f d)→Ext s s1 []→∃ E',E.le E'∧RelE w0 H0 (setd s1 (some d) c) f w E' H (e :: L)∧Ext s (setd s1 (some d) c) [d]:=by
  intro s1 E' c hE hr1 hc he;exact ⟨E',hE,hr1.know hc,Ext.andSet (d:=some d) he⟩
 cases pa with
 | box T cs =>
  obtain ⟨k,vals,h1,h2,h3⟩:=hb;subst h2;obtain ⟨E',hE,hr2,hp⟩:=hr.newBox h3 S;exact fin hE hr2 (by rw [h1]; exact hp) (zKn T cs [])
 | row t xs T =>
  obtain ⟨h1,h2⟩:=hb;subst h1;obtain ⟨E',p,hv⟩:=zAQ (s:=s) (t:=.sl t) hr.sls h2
  have hr3:RelE w0 H0 (newRow (newSl s t xs) s.sl.length T) f w E' H (.row (f d) T (@Enc.sz _ (t.enc U)) (List.length xs) :: L) :=
   ⟨S,hr.gl,p.ok,by rw [p.ps]; exact hr.pts.mono p.le (Hp.le.refl H),by rw [p.bs]; exact hr.nb,⟨⟨⟨.sl t,xs⟩,f d,zBd rfl,hv,rfl⟩,hr.ens.mono p.le (Hp.le.refl H) p.sl⟩,fun t c hc=>CV.val_mono p.le (hr.fr t c hc)⟩
  exact fin p.le hr3 hv (Ext.trans (a:=[]) (zFa t xs []) (zE5 _ _ []))
end
def hsOf (h:Nat→Option Ent) (i0:Nat) (e:Ent):Nat→Option Ent:=fun j=>bif Nat.beq j i0 then some e else h j
def dummy:Ent:=.row (.slice none 0 0) 0 1 0
section
variable {U:UV} {P:Program} {G:Gam U} {N:Frm} {s s':VS U} {f f':Fr} {w w' w0:World} {H0 H H':Hp} {E E':Env} {L L':List Ent} {Ω:Type}
theorem zXS {i:Nat} {x:SLL U} (hs:∃ l,s'.sl=s.sl++l) (h:slOf s.sl i=some x):slOf s'.sl i=some x:=by
 grind [slOf]
theorem zXa {i:Nat} {x:SLL U} (hs:∃ l,s'.sl=s.sl++l) (h:mrOf s.sl i=some x):mrOf s'.sl i=some x:=by
 grind [mrOf]
theorem zWy {i:Nat} {x:SLM U} (hs:∃ l,s'.sl=s.sl++l) (h:mpOf s.sl i=some x):mpOf s'.sl i=some x:=by
 grind [mpOf]
theorem zW3 {i:Nat} {x:SLP U} (hs:∃ l,s'.sl=s.sl++l) (h:poOf s.sl i=some x):poOf s'.sl i=some x:=by
 grind [poOf]
theorem zUd (hs:∃ l,s'.sl=s.sl++l):∀ {t:PT} {c:CV} {x:t.T U.S},get1 s t c=some x→get1 s' t c=some x:=by
 intro t c x h;unfold get1 at h ⊢;split at h <;> first | exact h | (cases h; done) | skip
 all_goals grind [zXS,zXa,zWy,zW3]
theorem zRH (hs:∃ l,s'.sl=s.sl++l):∀ {ts:List PT} {l:List CV} {x:HL U.S ts},getHL s ts l=some x→getHL s' ts l=some x
 | [],[],_,h=>h
 | t :: ts,c :: cs,x,h=>by
  simp only [getHL] at h ⊢;cases h1:get1 s t c with
  | none=>grind
  | some y =>
   rw [h1] at h;rw [zUd hs h1];cases h2:getHL s ts cs with
   | none=>grind
   | some z=>simp only [h2] at h; simp only [zRH hs h2]; exact h
 | [],_ :: _,_,h=>by cases h
 | _ :: _,[],_,h=>by cases h
theorem zXb (hs:∃ l,s'.sl=s.sl++l) {t:PT} {c:CV} {x:t.T U.S} (h:getT s t c=some x):getT s' t c=some x:=by
 unfold getT at h ⊢;split at h
 ·rename_i T l
  cases h2:getHL s (U.fs T) l <;> grind [zRH]
 grind [zUd]
theorem zQ1 (hs:∃ l,s'.sl=s.sl++l) {t:PT}:∀ {cs:List CV} {xs:List (t.T U.S)},getTs s t cs=some xs→getTs s' t cs=some xs
 | [],xs,h=>h
 | c :: cs,xs,h=>by
  simp only [getTs] at h ⊢;cases h1:getT s t c with
  | none=>grind
  | some y =>
   rw [h1] at h;rw [zXb hs h1];cases h2:getTs s t cs with
   | none=>grind
   | some z=>simp only [h2] at h; simp only [zQ1 hs h2]; exact h
theorem zSq {M:Nat}:∀ {xs:List Operand} {cs:List CV},opns M s xs=some cs→(∀ t,.tmp t ∈ xs→look s'.fr t=look s.fr t)→opns M s' xs=some cs
 | [],cs,h,_=>h
 | x :: xs,cs,h,hf=>by
  simp only [opns] at h ⊢;have e:opn M s' x=opn M s x:=by
   cases x with
   | tmp t=>simp only [opn,hf t lS]
   | _=>rfl
  rw [e];cases h1:opn M s x with
  | none=>grind
  | some c =>
   rw [h1] at h;cases h2:opns M s xs with
   | none=>grind
   | some z=>simp only [h2] at h; simp only [zSq h2 fun t m=>hf t (lN _ m)]; exact h
theorem zQ5 {M:Nat} {op:Op} {pa:PA U} (h:pre P M op s=some pa) (hs:∃ l,s'.sl=s.sl++l) (hf:∀ t,memb (slotsOf op) t=true→look s'.fr t=look s.fr t):pre P M op s'=some pa:=by
 unfold pre at h ⊢;split at h
 ·exact h
 ·rename_i T x
  have e:opn M s' x=opn M s x:=by
   cases x <;> grind [opn,zIx,slotsOf]
  grind
 ·rename_i T n ps
  obtain ⟨ps⟩:=ps;simp only at h ⊢;split at h
  all_goals grind [zSq,zIx,slotsOf,zQ1]
 ·cases h
theorem zKP {X:List Nat}:∀ {en:List EI} {b:Nat} {cs:List CV},boxAt (bxs X en) b=some cs→memb X b=false∧boxAt en b=some cs
 | [],_,_,h=>by cases h
 | .box b0 T cs0 :: en,b,cs,h=>by
  cases hm:memb X b0 with
  | true =>
   have e:bxs X (EI.box b0 T cs0 :: en)=bxs X en:=by simp [bxs,isBx,hm]
   rw [e] at h;obtain ⟨h1,h2⟩:=zKP h;refine ⟨h1,?_⟩;simp only [boxAt];cases hb:Nat.beq b0 b with
   | true=>simp_all
   | false=>exact h2
  | false =>
   have e:bxs X (EI.box b0 T cs0 :: en)=EI.box b0 T cs0 :: bxs X en:=by simp [bxs,isBx,hm]
   rw [e] at h;simp only [boxAt] at h ⊢;cases hb:Nat.beq b0 b with
   | true=>simp_all
   | false=>rw [hb] at h; exact zKP h
 | .row j T :: en,b,cs,h=>by
  have e:bxs X (EI.row j T :: en)=bxs X en:=by simp [bxs,isBx]
  rw [e] at h;exact zKP (en:=en) h
theorem zPn {X:List Nat} {en:List EI} {j T:Nat} (h:EI.row j T ∈ bxs X en):False:=by
 have:=(List.mem_filter.1 h).2;cases this
theorem zQI {X:List Nat}:∀ {en:List EI} {L:List Ent},EnsOk noX E H s.sl en L→∃ M:List Ent,M.Sublist L∧EnsOk noX E H s.sl (bxs X en) M
 | [],[],_=>⟨[],List.Sublist.slnil,trivial⟩
 | .box b T cs :: en,e :: L,⟨h,r⟩=>by
  obtain ⟨M,h1,h2⟩:=zQI (X:=X) r;cases hm:memb X b with
  | true=>grind [bxs,isBx]
  | false=>exact ⟨e :: M,h1.cons_cons e,by rw [show bxs X (EI.box b T cs :: en)=EI.box b T cs :: bxs X en by simp [bxs,isBx,hm]]; exact ⟨h,h2⟩⟩
 | .row j T :: en,e :: L,⟨h,r⟩=>by
  obtain ⟨M,h1,h2⟩:=zQI (X:=X) r
  grind [bxs,isBx]
 | [],_ :: _,h=>h.elim
 | _ :: _,[],h=>h.elim
end
section
variable {U:UV} {P:Program} {G:Gam U} {N:Frm} {w0 wb:World} {H0 Hb:Hp} {Eb:Env} {Lc:List Ent} {f0:Fr} {s0:VS U} {ops:Array Oper} {nb:Nat} {Ω:Type}
structure IV (ops:Array Oper) (nb:Nat) (s0:VS U) (w0:World) (H0:Hp) (Eb:Env) (Hb:Hp) (Lc:List Ent) (hsf:Nat→Option Ent) (listed:Array Bool) (s:VS U) (f:Fr) (w:World) (E:Env) (H:Hp) (L:List Ent):Prop where
 rel:RelE w0 H0 s f w E H L
 ext:Ext s0 s (dsts ops.toList)
 le:({ Eb with hs:=hsf }:Env).le E
 hl:Hb.le H
 own:listed.getD nb false=false→∀ e ∈ Lc,e ∈ L
variable {hsf:Nat→Option Ent} {listed:Array Bool} {s s':VS U} {f f':Fr} {w w':World} {E E':Env} {H H':Hp} {L L':List Ent}
theorem zG3 {i:Nat} {o:Oper} (h:ops[i]?=some o) {x:Nat} (hx:o.dst=some x):memb (dsts ops.toList) x=true:=by
 refine zIx (List.mem_filterMap.2 ⟨o,?_,hx⟩)
 grind
variable {d:Option Nat} {e:Ent}
theorem Ext.into {ds:List Nat} (h:Ext s s' d.toList) (hd:∀ x,d=some x→memb ds x=true):Ext s s' ds:=h.weak fun u hu=>by
 cases d with
 | none=>rfl
 | some x =>
  show memb [x] u=false
  rw [zDJ];cases hb:Nat.beq u x with
  | false=>rfl
  | true =>
   simp_all
theorem IV.cls (hb0:RelE w0 H0 { s0 with en:=enC ops nb s0 } f0 wb Eb Hb Lc) (iv:IV ops nb s0 w0 H0 Eb Hb Lc hsf listed s f w E H L) {Hc:Hp} (hc:Hc.le H) (hb:listed.getD nb false=false):Cl w0 H0 Hc Lc w :=
 ⟨H,hc,iv.rel.st.sub (iv.own hb) hb0.st.nodup⟩
theorem zQ9 {X:List Nat} {sl:List (SLV U)}:∀ {en:List EI} {L:List Ent},EnsOk noX E H sl (bxs X en) L→∀ e ∈ L,e.blk≠none:=by
 have key:∀ {is:List EI} {L:List Ent},EnsOk noX E H sl is L→(∀ i ∈ is,isBx X i=true)→∀ e ∈ L,e.blk≠none:=by
  intro is
  induction is with
  | nil=>intro L h _ e he; cases L with | nil=>cases he | cons _ _=>exact h.elim
  | cons i is ih =>
   intro L h hb e he;cases L with
   | nil=>exact h.elim
   | cons x L =>
    rcases List.mem_cons.1 he with rfl | he
    ·have hi:=hb i lS
     cases i with
     | box b T cs=>obtain ⟨vals,k,_,_,h3⟩:=h.1; rw [zGI h3]; simp
     | row j T=>cases hi
    ·exact ih h.2 (fun j m=>hb j (lN _ m)) e he
 intro en L h;exact key h fun i m=>(List.mem_filter.1 m).2
theorem zXm {k T:Nat} {vals:List Value} {x:Ent} (h:isE k T vals x) (h':isE k T vals e):x=e:=by
 cases T with
 | zero =>
  obtain ⟨m,h1,h2⟩:=h;obtain ⟨n,h3,h4⟩:=h'
  grind [zQh]
 | succ T=>rw [show x=_ from h,show e=_ from h']
theorem keepC (hb0:RelE w0 H0 { s0 with en:=enC ops nb s0 } f0 wb Eb Hb Lc) (hr':RelE w0 H0 s' f' w' E' H' L') {ds:List Nat} (he:Ext s0 s' ds) (hE:({ Eb with hs:=E'.hs }:Env).le E') (hok:okB ops nb s0 s'=true):∀ e ∈ Lc,e ∈ L':=by
 have hb1:RelE w0 H0 { s0 with en:=enC ops nb s0 } f0 wb { Eb with hs:=E'.hs } Hb Lc:=hb0.hs fun j T m=>(zPn m).elim
 unfold okB at hok;rw [bQ] at hok;obtain ⟨hdt,hen⟩:=hok;obtain ⟨d,hd1,hd2⟩:=he.dt;have htk:s'.dt.take (s'.dt.length - s0.dt.length)=d:=by
  simp_all
 rw [htk] at hdt;have hclean:∀ b,b<s0.nb→memb (tgt ops nb s0) b=false→∀ o,memX d b o=false:=by
  intro b hb hx o;cases hm:memX d b o with
  | false=>rfl
  | true =>
   have:=List.all_eq_true.1 hdt _ (zRe hm);simp only [hx,Bool.or_false] at this;have:=nL this;omega
 intro e hel;obtain ⟨j,hj⟩:=lI.1 hel;have hlen:=hb1.ens.len;have hjl:=(List.getElem?_eq_some_iff.1 hj).1;obtain ⟨ei,hei⟩:∃ ei,(enC ops nb s0)[j]?=some ei:=⟨_,List.getElem?_eq_getElem gR⟩;have hmem:=lG hei;have hpos:=List.all_eq_true.1 hen _ hmem;obtain ⟨p,hp⟩:=Option.isSome_iff_exists.1 hpos;obtain ⟨x,hx,hxo⟩:=zUF (d:=[]) hb1 hr' (show ∃ l,s'.sl=s0.sl++l from he.sl) hE (fun b hb ⟨cs,hcs⟩ o _=>by
  obtain ⟨h1,h2⟩:=zKP hcs
  grind [zAi]) hmem hp
 obtain ⟨e2,he2,heo⟩:=hb1.ens.get hei;rw [hj] at he2;cases he2;cases ei with
 | row i T=>exact (zPn hmem).elim
 | box b T cs =>
  obtain ⟨v1,k1,a1,a2,a3⟩:=hxo;obtain ⟨v2,k2,c1,c2,c3⟩:=heo;rw [a1] at c1;cases c1;have h1:CV.vals { Eb with hs:=E'.hs } cs=some v1:=CsOk.vals (b:=b) (o:=0) a2;have h2:=c2.vals
  grind [zXm]
theorem IV.q (hb0 : RelE w0 H0 { s0 with en := enC ops nb s0 } f0 wb Eb Hb Lc) (iv : IV ops nb s0 w0 H0 Eb Hb Lc hsf listed s f w E H L) (hb : listed.getD nb false = false) {op : Op} {k : VS U → Option Ω} {r : Ω} (h : opp P N.n d op { s with en := enC ops nb s0 } k = some r)
    (hd:∀ x,d=some x→memb (dsts ops.toList) x=true) (listed':Array Bool) (hbar:listed'.getD nb false=false→listed.getD nb false=false) {ty:TypeId} {pos:String} {af:Array Edge} :
    ∃ s' E' v,k s'=some r∧IV ops nb s0 w0 H0 Eb Hb Lc hsf listed' { s' with en:=s.en } (updo f d v) w E' H L∧Ext s { s' with en:=s.en } d.toList∧E.le E'∧Runs P N f w0 H0 H Lc ⟨d,op,ty,pos,af,none⟩ v:=by
  have hens:EnsOk noX E H s.sl (enC ops nb s0) Lc:=(hb0.ens.hs (h:=hsf) fun j T m=>(zPn m).elim).mono iv.le iv.hl iv.ext.sl;have hrR:RelE w0 H0 { s with en:=enC ops nb s0 } f w E H Lc:=⟨iv.rel.st.sub (iv.own hb) hb0.st.nodup,iv.rel.gl,iv.rel.sls,iv.rel.pts,iv.rel.nb,hens,iv.rel.fr⟩;obtain ⟨s',E',v,hk,hr',he,hE,hrun⟩:=zTF (ty:=ty) (pos:=pos) (af:=af) h hrR;obtain ⟨dd,hdd,_⟩:=he.ext.dt;have hext:Ext s { s' with en:=s.en } d.toList:=⟨he.ext.sl,he.ext.pt,he.ext.nb,he.ext.fr,dd,hdd,fun _ _ _ _=>rfl⟩;exact ⟨s',E',v,hk,⟨⟨iv.rel.st,iv.rel.gl,hr'.sls,hr'.pts,hr'.nb,iv.rel.ens.mono hE (Hp.le.refl H) he.ext.sl,hr'.fr⟩,iv.ext.same (hext.into hd),Env.le_trans iv.le hE,iv.hl,fun h=>iv.own (hbar h)⟩,hext,hE,hrun⟩
theorem zYC {n m x:Nat} (h:RB .any ops n m) (hx:x ∈ deps ops m):RB .any ops n x:=by
 unfold deps at hx;split at hx
 ·rename_i o ho
  obtain ⟨e,he,rfl⟩:=List.mem_map.1 hx;have:=List.mem_filter.1 he;exact .more h ho (Array.mem_toList_iff.1 this.1) this.2
 ·cases hx
theorem zUx {n:Nat}:∀ {f:Nat} {todo seen:List Nat},(∀ x ∈ todo,RB .any ops n x)→(∀ x ∈ seen,RB .any ops n x)→∀ x ∈ anc ops f todo seen,RB .any ops n x
 | 0,todo,seen,_,h2=>h2
 | f+1,[],seen,_,h2=>h2
 | f+1,y :: todo,seen,h1,h2=>by
  simp only [anc];cases memb seen y with
  | true=>exact zUx (fun x hx=>h1 x (lN _ hx)) h2
  | false =>
   refine zUx (fun x hx=>?_) fun x hx=>?_
   ·rcases List.mem_append.1 hx with hx | hx
    ·exact zYC (h1 y lS) hx
    ·exact h1 x (lN _ hx)
   grind
theorem zXX {l:List Nat} {x:Nat} (h:memb l x=true):x ∈ l:=by
 induction l with
 | nil=>cases h
 | cons y l ih =>
  rw [zDJ] at h;cases hb:Nat.beq x y <;> simp_all
theorem zS3 {n i:Nat} {on:Oper} (hon:ops[n]?=some on) (h:zSj ops n i=true):RB .any ops n i:=by
 unfold zSj at h;rw [Bool.or_eq_true] at h;rcases h with h | h
 ·unfold waits at h
  rw [hon] at h;simp only [Array.any_eq_true,bQ] at h;obtain ⟨j,hj,h8,h9⟩:=h;rw [← nQ h9];exact .one hon (Array.getElem_mem hj) h8
 ·refine zUx (fun x hx=>?_) (fun x hx=>(by cases hx)) i (zXX h)
  unfold deps at hx;rw [hon] at hx;obtain ⟨e,he,rfl⟩:=List.mem_map.1 hx;have:=List.mem_filter.1 he;exact .one hon (Array.mem_toList_iff.1 this.1) this.2
theorem zHb {i:Nat} (h:zJu ops nb listed i=true):∃ d op ty pos af g,ops[i]?=some ⟨d,op,ty,pos,af,g⟩∧Region.free .any ops listed i=true∧i≠nb∧(∀ on,ops[nb]?=some on→RB .any ops nb i)∧listed.getD nb false=false∧i ∈ Region.ready .any ops listed:=by
 unfold zJu at h;split at h
 case h_2=>cases h
 rename_i o ho;simp only [bQ,Bool.not_eq_true'] at h;obtain ⟨⟨⟨⟨⟨h2,h3⟩,h4⟩,h5⟩,h6⟩,h7⟩:=h;obtain ⟨d,op,ty,pos,af,g⟩:=o;refine ⟨d,op,ty,pos,af,g,ho,h3,(fun h=>by simp_all),fun on hon=>?_,h6,by simpa using h7⟩;exact zS3 hon h5
theorem IV.knw (iv:IV ops nb s0 w0 H0 Eb Hb Lc hsf listed s f w E H L) {t:Nat} {b:Bool} (ht:f t=boo b) (hd:memb (dsts ops.toList) t=true):IV ops nb s0 w0 H0 Eb Hb Lc hsf listed (knw s t b) f w E H L:=by
 have hf:updo f (some t) (boo b)=f:=by
  funext u;simp only [updo,upd];cases hu:Nat.beq u t <;> simp_all
 have h1:=iv.rel.set (some t) (c:=.boo b) (v:=boo b) rfl;rw [hf] at h1;exact ⟨h1,iv.ext.same ((zIV (some t) (.boo b)).into fun x hx=>by cases hx; exact hd),iv.le,iv.hl,iv.own⟩
theorem zPF (iv : IV ops nb s0 w0 H0 Eb Hb Lc hsf listed s f w E H L) {g : Option (Nat × Bool)} {x y : VS U → Option Ω} {r : Ω} (h : gsel N.n ops s g x y = some r) :
  ∃ s1,IV ops nb s0 w0 H0 Eb Hb Lc hsf listed s1 f w E H L∧((g=none∧x s1=some r)∨(∃ j b t z,g=some (j,b)∧(ops[j]?).bind (·.dst)=some t∧ev N f (.tmp t)=boo z∧((z=b∧x s1=some r)∨(z=!b∧y s1=some r)))∨(∃ j b t,g=some (j,b)∧(ops[j]?).bind (·.dst)=some t∧ev N f (.tmp t)=undef∧y s1=some r)):=by
 have hrel:=iv.rel.fr;unfold gsel at h;split at h
 ·grind
 ·rename_i j b
  split at h
  case h_1=>cases h
  rename_i t ht;have hd:memb (dsts ops.toList) t=true:=by
   grind [zG3]
  obtain ⟨hl,h⟩:=cT h;have hev:ev N f (.tmp t)=f t:=by grind [ev]
  split at h
  ·rename_i hk
   exact ⟨s,iv,.inr (.inr ⟨j,b,t,rfl,ht,by rw [hev]; exact (oJ (hrel t _ hk)).symm,h⟩)⟩
  ·rename_i z hk
   have hft:f t=boo z:=(oJ (hrel t _ hk)).symm;cases hz:z==b with
   | true =>
    rw [hz] at h;have e:z=b:=by simpa using hz
    exact ⟨_,iv.knw (b:=b) (by rw [hft,e]) hd,.inr (.inl ⟨j,b,t,z,rfl,ht,gR,.inl ⟨e,h⟩⟩)⟩
   | false =>
    rw [hz] at h;have e:z=!b:=by cases z <;> cases b <;> simp_all
    exact ⟨_,iv.knw (b:=!b) (by rw [hft,e]) hd,.inr (.inl ⟨j,b,t,z,rfl,ht,gR,.inr ⟨e,h⟩⟩)⟩
  ·cases h
theorem IV.skip (iv : IV ops nb s0 w0 H0 Eb Hb Lc hsf listed s f w E H L) (hd : ∀ x, d = some x → memb (dsts ops.toList) x = true) (listed' : Array Bool) (hbar : listed'.getD nb false = false → listed.getD nb false = false) :
  IV ops nb s0 w0 H0 Eb Hb Lc hsf listed' (setd s d .und) (updo f d undef) w E H L :=
 ⟨iv.rel.set d rfl,iv.ext.same ((zIV d .und).into hd),iv.le,iv.hl,fun h=>iv.own (hbar h)⟩
structure PF (P:Program) (M:Nat) (ops:Array Oper) (nb:Nat) (p:PD U) (s:VS U):Prop where
 op:∃ op ty pos af,ops[p.a]?=some ⟨some p.d,op,ty,pos,af,none⟩∧pre P M op s=some p.pa
 fr:look s.fr p.d=none
 sl:s.sl[p.i0]?=some ⟨.hid,()⟩
 nb:p.a≠nb
 lt:p.d<M
theorem PF.step {M:Nat} {p:PD U} (h:PF P M ops nb p s) (he:Ext s s' d.toList) (hs:zKL ops p d=true):PF P M ops nb p s':=by
 obtain ⟨op,ty,pos,af,h1,h2⟩:=h.op;have hfr:∀ t,(∀ x,d=some x→t≠x)→look s'.fr t=look s.fr t:=fun t ht=>he.fr t (by
  cases d with
  | none=>rfl
  | some x =>
   show memb [x] t=false
   rw [zDJ];cases hb:Nat.beq t x with
   | false=>rfl
   | true=>simp_all)
 have hd:∀ x,d=some x→x≠p.d∧memb (slotsOf op) x=false:=by
  intro x hx;subst hx;unfold zKL at hs;simp only [h1,bQ,Bool.not_eq_true'] at hs;exact ⟨fun h=>(by simp_all),hs.2⟩
 refine ⟨⟨op,ty,pos,af,h1,zQ5 h2 he.sl fun t ht=>hfr t fun x hx e=>?_⟩,?_,zD8 he.sl h.sl,h.nb,h.lt⟩
 ·grind
 ·rw [hfr p.d fun x hx e=>(hd x hx).1 e.symm]; exact h.fr
theorem zNW {h:Nat→Option Ent} {i0 j:Nat} (hne:j≠i0):hsOf h i0 e j=h j:=by
 unfold hsOf;cases hb:Nat.beq j i0 <;> simp_all
theorem zMd {h:Nat→Option Ent} {i0:Nat}:hsOf h i0 e i0=some e:=by
 unfold hsOf;simp_all
theorem IV.resolve {p : PD U} {ent : Ent} {q : Nat} (iv : IV ops nb s0 w0 H0 Eb Hb Lc (hsOf Eb.hs p.i0 ent) listed s f w E H L) (hd : zDn s.en p.i0 = s.en.eraseIdx q) (hun : ∀ q' T', q' ≠ q → s.en[q']? ≠ some (EI.row p.i0 T'))
    (hf:∀ t c,look s.fr t=some c→f' t=f t) (hle:H.le H') (S:St w0 H0 w' H' (e :: L.eraseIdx q)) (hb:Born E H' (f' p.d) e p.pa) (hdm:memb (dsts ops.toList) p.d=true) (listed':Array Bool)
    (hown:listed'.getD nb false=false→∀ x ∈ Lc,x ∈ e :: L.eraseIdx q):∃ E',IV ops nb s0 w0 H0 Eb Hb Lc Eb.hs listed' (resol { s with en:=zDn s.en p.i0 } p.d p.pa) f' w' E' H' (e :: L.eraseIdx q):=by
  have r1:RelE w0 H0 { s with en:=zDn s.en p.i0 } f' w' E H' (L.eraseIdx q):=⟨S.drop _ (List.sublist_cons_self ..),iv.rel.gl.mono hle,iv.rel.sls.mono hle,iv.rel.pts.mono (Env.le_refl E) hle,iv.rel.nb,
    by rw [hd]; exact (iv.rel.ens.erase (p:=q)).mono (Env.le_refl E) hle (zAI _),fun t c hc=>by rw [hf t c hc]; exact iv.rel.fr t c hc⟩
  have r2:RelE w0 H0 { s with en:=zDn s.en p.i0 } f' w' { E with hs:=Eb.hs } H' (L.eraseIdx q):=r1.hs fun j T' hm=>by
    rw [hd] at hm;obtain ⟨q',hne,hq'⟩:=List.mem_eraseIdx_iff_getElem?.1 hm;have hj:j≠p.i0:=fun h=>by grind
    rw [show E.hs=hsOf Eb.hs p.i0 ent from iv.le.hs,zNW hj]
  obtain ⟨E',hE,hr3,he3⟩:=zUn r2 S hb.hs;have hx:Ext s { s with en:=zDn s.en p.i0 } []:=⟨zAI _,zAI _,nR _,fun _ _=>rfl,[],rfl,fun b _ o _=>by simp only [zAi,zFY]⟩;exact ⟨E',hr3,iv.ext.same (Ext.into (d:=some p.d) (Ext.trans (a:=[]) hx he3) fun x hx=>by grind),⟨zB9 iv.le.vs hE.vs,zB9 iv.le.bs hE.bs,zB9 iv.le.ps hE.ps,hE.hs⟩,iv.hl.trans hle,hown⟩
theorem IV.switch (hb0 : RelE w0 H0 { s0 with en := enC ops nb s0 } f0 wb Eb Hb Lc) {p : PD U} {e : Ent} {q T : Nat} {v : Value} (iv : IV ops nb s0 w0 H0 Eb Hb Lc (hsOf Eb.hs p.i0 dummy) listed s f w E H L) (hq : s.en[q]? = some (EI.row p.i0 T)) (hun : ∀ q' T', q' ≠ q → s.en[q']? ≠ some (EI.row p.i0 T'))
    (hle:H.le H') (S:St w0 H0 w' H' (e :: L)) (hfr:look s.fr p.d=none) (hsl:s.sl[p.i0]?=some ⟨.hid,()⟩) (listed':Array Bool) (hbar:listed'.getD nb false=false→listed.getD nb false=false) :
    IV ops nb s0 w0 H0 Eb Hb Lc (hsOf Eb.hs p.i0 e) listed' s (upd f p.d v) w' { E with hs:=hsOf Eb.hs p.i0 e } H' (L.set q e):=by
  obtain ⟨e0,hq0,x0,v0,g1,g2,g3⟩:=iv.rel.ens.get hq;rw [hsl] at g1;cases g1;have g3:E.hs p.i0=some e0:=g3;have hhs:E.hs=hsOf Eb.hs p.i0 dummy:=iv.le.hs;rw [hhs,zMd] at g3;cases g3;refine ⟨⟨?_,iv.rel.gl.mono hle,iv.rel.sls.mono hle,((iv.rel.pts.mono (Env.le_refl E) hle).hs),iv.rel.nb,?_,fun t c hc=>?_⟩,iv.ext,⟨iv.le.vs,iv.le.bs,iv.le.ps,rfl⟩,iv.hl.trans hle,fun h x hx=>?_⟩
  · exact (S.drop (e :: L.eraseIdx q) ((List.eraseIdx_sublist L q).cons_cons e)).perm (zQw hq0).symm
  · refine EnsOk.swap (E:=E) (H:=H) iv.rel.ens hq ⟨⟨.hid,()⟩,v0,hsl,g2,zMd⟩ fun q' j x hne hj hk=>?_
    refine (hk.mono (Env.le_refl E) hle (zAI _)).hs fun j' T' hjj=>?_
    subst hjj;have hj':j'≠p.i0:=fun h=>by grind
    simp_all [zNW]
  · rw [CV.val_hs]
    have hne:Nat.beq t p.d=false:=by
      cases hb:Nat.beq t p.d <;> simp_all
    simp only [upd,hne,cond_false];exact iv.rel.fr t c hc
  · obtain ⟨q',hq'⟩:=lI.1 (iv.own (hbar h) x hx)
    have hne:q≠q':=fun h2=>by
      subst h2;rw [hq0] at hq';cases hq';exact zQ9 hb0.ens _ hx rfl
    exact lG (i:=q') gR
end
end Go.VI
