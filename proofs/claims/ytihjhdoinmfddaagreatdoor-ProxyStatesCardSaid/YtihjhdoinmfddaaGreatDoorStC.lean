/- A part. -/
import Derived.Test.YtihjhdoinmfddaaGreatDoorTotM
set_option linter.unusedVariables false
set_option linter.unusedSimpArgs false
set_option maxRecDepth 100000
namespace Go.Eng.Pure
open Go Go.Eng Go.VI
variable {N:Nat} {m:Tabs} {order:List Str} {used:Int}
theorem zYI {M:Nat} {t:GTable} (h:tOK N t) (hn:N≤M):tOK M t:=⟨h.n1,h.n2,h.ax,fun e he=>⟨(h.en e he).1,by have:=(h.en e he).2.1; omega,(h.en e he).2.2⟩⟩
theorem zRi {M:Nat} (S:Sto N used order m) (hn:N≤M):Sto M used order m:=⟨S.nd,S.on,S.ok,S.us,S.bd,fun p hp=>zYI (S.tb p hp) hn⟩
theorem zWV (S : Sto N used order m) (hu : used ≤ 100000000000) (ho : order.length ≤ 100000) (key : Str) (t : GTable) (ht : tOK N t) {ρ : Type} (k : Int → List Str → Tabs → Option ρ) (P : ρ → Prop)
    (hk:∀ u o,Sto N u o (mset m key t)→o.getLast?=some key→u≤100000000000000→Tot (k u o (mset m key t)) P) :
    Tot ((zEV used order m key t).bind fun s=>(zE4 s.2.1 key).bind fun o=>k s.1 o s.2.2) P:=by
  have hz:=zNJ t (by have:=ht.n2; omega) (fun e he=>(ht.en e he).1);have hus:=S.us;have hne:t.fEntries≠[]:=List.length_pos_iff.1 ht.n1;refine qB (setT1 S key t (.inr ht) om) fun s hs=>?_
  obtain ⟨s1,s2,_,s4⟩:=hs;obtain ⟨s5,s6,_⟩:=s4 hne;have hle:(zDE order key).length≤order.length:=List.length_filter_le _ _;unfold zE4;refine qA (qB (xappT gR) fun o eo=>qR ?_);rw [s5] at eo;rw [s6] at s1 ⊢;refine hk _ _ ⟨S.nd.mset key t,?_,fun x=>?_,s1,om,fun p hp=>?_⟩ (by rw [eo]; simp) om
  · rw [eo]
    refine List.nodup_append.2 ⟨S.on.filter _,sI,fun a ha b hb=>?_⟩
    grind [zDE]
  · rw [eo,List.mem_append,lO,zKX]
    unfold zDE;rw [List.mem_filter,S.ok x]
    grind
  · rcases zQl p hp with h | h
    · exact S.tb p h
    · rw [h]; exact ht
def axOK (l:List GAxis):Prop:=smAx l∧∀ a ∈ l,smA a∧a.fValues.length≤1000000
theorem zXQ {t:GTable} (h:t=zT∨tOK N t):smTb t:=by
 rcases h with h | h
 ·subst h; exact ⟨⟨sI,sI⟩,sI,sI,sI⟩
 ·exact ⟨h.ax.1,fun a ha=>(h.ax.2 a ha).2,by have:=h.n2; omega,fun e he=>⟨zI3 (h.en e he).1,zKV (h.en e he).1⟩⟩
theorem qP {α:Type} {l:List α} {f:α→Option Bool} (h:∀ x ∈ l,Tot (f x) Any):∃ p:α→Bool,∀ x ∈ l,f x=some (p x) :=
 ⟨fun x=>(f x).getD false,fun x hx=>by obtain ⟨b,e,_⟩:=h x hx; simp [e]⟩
theorem zXK (a b:List GAxis) (ha:smAx a∧∀ x ∈ a,x.fValues.length≤1000000):Tot (zFK a b) Any:=by
 have h1:=ha.1.1;refine qB (Q:=Any) (qC (fun _=>qO trivial) fun h=>qB (Q:=Any) (qH om trivial fun n hn=>?_) fun r _=>by grind [qO]) fun _ _=>qO trivial
 have h:n<b.length:=by simp at h; omega
 exact qE (zAF h) (qB (Q:=Any) (qB (Q:=Any) (qC (fun _=>qE (zIh _ _ gR) (qO trivial)) fun _=>qO trivial) fun _ _=>qO trivial) fun _ _=>qC (fun _=>qO trivial) fun _=>qO rfl)
theorem replT (axes:List GAxis) (e x:GEntry) (h:smAx axes) (he:smE e) (hx:smE x):Tot (zFG axes e x) Any:=by
 obtain ⟨h1,h2,h3,h4,h5⟩:=zI3 he;refine qC (fun _=>qE (zIh _ _ h3) (qB (Q:=Any) (qC (fun _=>qE (zIh _ _ h4) (qO trivial)) fun _=>qO trivial) fun _ _=>qO trivial)) fun _=>?_
 exact qB (hasAT _ _ (zKV he).1 fun k hk=>qB (KHasT axes x k h (zKV hx) ((zKV he).2 k hk).2) fun _ _=>qO trivial) fun _ _=>qO trivial
theorem putT {N:Nat} {t:GTable} (ht:t=zT∨tOK N t) (e:GEntry) (he:enOK N e) (axes:List GAxis) (ha:axOK axes) (V:Int) (h1:1≤V) (h2:V≤64):Tot (zJt t e axes V) fun r=>tOK N r∧r.fEntries[r.fEntries.length - 1]?=some e:=by
 obtain ⟨t1,t2,t3,t4⟩:=zXQ ht;have t5:=t1.1;have ta:axOK t.fAxes∧∀ x ∈ t.fEntries,enOK N x:=by
  rcases ht with rfl | h
  ·simp [axOK,smAx]
  ·exact ⟨h.ax,h.en⟩
 have a1:=ha.1.1;refine qE (zHu t (by omega) (fun a h=>by grind) (by omega) fun x h=>(t4 x h).1) (qB (zXK _ _ ⟨t1,t2⟩) fun b _=>qB (Q:=fun j:List GAxis×List GEntry=>axOK j.1∧j.2.length≤1000000∧∀ x ∈ j.2,enOK N x) (qC (fun _=>qE (zLL axes (by omega) fun a h=>by have:=(ha.2 a h).2; omega) (qO ⟨ha,by simp,by simp⟩)) fun _=>qO ⟨ta.1,t3,ta.2⟩) fun j hj=>?_);obtain ⟨p,hp⟩:=qP fun x hx=>qB (replT axes e x ha.1 he.1 (hj.2.2 x hx).1) fun b _=>qO trivial
 refine qE (zXh _ _ p (by omega) hp) (qE (zFw e (zI3 he.1)) ?_);have hf:=List.length_filter_le (fun x=>!p x) j.2;refine qB (xappT (by simp; omega)) fun l hl=>?_
 have hn:l.length=(j.2.filter fun x=>!p x).length+1:=by rw [hl]; simp
 rw [if_neg (show ¬ V<0 by omega),wrI (by omega) (by omega)];refine qB (xsubT ⟨by split <;> omega,by split <;> omega,by omega⟩) fun r hr=>qO ?_
 have hrl:r.length=l.length - (l.length - V.toNat):=by grind
 have hr2:r=l.drop (l.length - V.toNat):=by rw [hr.2,Int.toNat_natCast,List.take_length]; congr 1; split <;> omega
 refine ⟨⟨by simp only; omega,by simp only; omega,hj.1,fun x hx=>?_⟩,?_⟩
 ·grind
 ·simp only
  rw [hrl,hr2,List.getElem?_drop,show l.length - V.toNat+(l.length - (l.length - V.toNat) - 1)=(j.2.filter fun x=>!p x).length by omega,hl];simp
def limOK (B T:Int) (used:Int) (order:List Str):Prop:=used≤B∧(order.length:Int)≤T
theorem zT8 (S : Sto N used order m) (B V T : Int) (hB : 1 ≤ B) (hB2 : B ≤ 100000000) (hV : 1 ≤ V) (hV2 : V ≤ 64) (hT : 1 ≤ T) (hT2 : T ≤ 1000) (hl : limOK B T used order)
    (key:Str) (e:GEntry) (he:enOK N e) (axes:List GAxis) (ha:axOK axes) :
    Tot (zLw B V T used order m key e axes) fun s=>Sto N s.2.1 s.2.2.1 s.2.2.2∧limOK B T s.2.1 s.2.2.1:=by
  obtain ⟨l1,l2⟩:=hl;unfold zLw;refine qB (Q:=fun j:Unit ⊕ (Bool×Int×List Str×Tabs)=>match j with | .inl _=>(sizeS e:Int)≤B | .inr r=>r=(false,used,order,m)) ?_ fun j hj=>?_
  · refine qE (zPr e he.1) ?_
    refine qC (fun h=>?_) fun _=>qO rfl
    have h:(sizeS e:Int)≤B:=by
      grind
    refine qC (fun _=>?_) fun _=>qO h
    refine qE (zIK axes fun a hm=>(ha.2 a hm).1) ?_
    grind [qO]
  · rcases j with j | j
    · have ht:=zNU S key
      refine qB (putT ht e he axes ha V hV hV2) fun t hp=>?_
      obtain ⟨p1,p2⟩:=hp;refine zWV S (by omega) (by omega) key _ p1 (fun u o m'=>(zEG B T u o m' key (wr ((t.fEntries.length:Int) - 1))).bind fun s=>some (true,s.1,s.2.1,s.2.2)) _ fun u o S2 hlast hu=>?_
      have q1:=p1.n1;have q2:=p1.n2;refine qB (zSf B T hB hB2 hT key _ S2 hu hlast ⟨t.fEntries.length - 1,e,?_,?_,hj⟩) fun s hs=>qO ⟨hs.1,hs.2⟩
      all_goals grind [wrI,zIw]
    · subst hj
      exact qO ⟨S,l1,l2⟩
theorem zWH (S : Sto N used order m) (B T : Int) (hB : 1 ≤ B) (hB2 : B ≤ 100000000) (hT : 1 ≤ T) (hT2 : T ≤ 1000) (hl : limOK B T used order)
    (key:Str) (i:Int) (e:GEntry) (he:enOK N e) :
    Tot (zHd B T used order m key i e) fun s=>Sto N s.2.1 s.2.2.1 s.2.2.2∧limOK B T s.2.1 s.2.2.1:=by
  obtain ⟨l1,l2⟩:=hl;unfold zHd;refine qC (fun _=>qO ⟨S,l1,l2⟩) fun h=>?_
  simp only [Bool.or_eq_false_iff,decide_eq_false_iff_not,Bool.not_eq_false'] at h;obtain ⟨⟨h1,h2⟩,h3⟩:=h;have ht:tOK N (mget m key zT).1:=S.tb _ (zLh h1);have hko:key ∈ order:=(S.ok key).2 (keyM.1 h1);refine qB (xnthT om om) fun old hm=>?_
  have ho:=ht.en old hm;have hn:enOK N ⟨old.fKeys,old.fVary,old.fSnapshot,e.fReason,e.fFields,e.fBody,e.fRequested,e.fReceived⟩:=⟨⟨ho.1.1,ho.1.2.1,ho.1.2.2.1,he.1.2.2.2⟩,he.2⟩;generalize (⟨old.fKeys,old.fVary,old.fSnapshot,e.fReason,e.fFields,e.fBody,e.fRequested,e.fReceived⟩:GEntry)=n at hn;refine qE (zPr n hn.1) ?_;have hnn:=ht.n2;have hus:=S.us;obtain ⟨j,rfl⟩:∃ j:Nat,i=(j:Int):=⟨i.toNat,om⟩;refine qC (fun _=>?_) fun hb=>?_
  · refine qE (zNi ht j om) ?_
    have hr:=zTN ht j om;have hsub:szN (rmT (mget m key zT).1 j)≤szN (mget m key zT).1:=by
      grind [szN,rmT,List.take_append_drop,lD]
    have hbd:=zNJ _ om (fun e he=>(ht.en e he).1);refine qB (setT1 S key _ hr om) fun s hs=>qO ?_
    obtain ⟨s1,s2,s3,s4⟩:=hs;by_cases hE:(rmT (mget m key zT).1 j).fEntries=[]
    · obtain ⟨s5,s6,s7⟩:=s3 hE
      have:(zDE order key).length≤order.length:=List.length_filter_le _ _;exact ⟨s7,by simp only []; omega,gR⟩
    · obtain ⟨s5,s6,s7⟩:=s4 hE
      exact ⟨s7 hko,by simp only []; omega,gR⟩
  · have hb:=dF hb
    refine qE (a:=((mget m key zT).1.fAxes,(mget m key zT).1.fEntries)) (by rw [zP6 ht]; rfl) ?_;refine qE (zFw n (zI3 hn.1)) ?_;refine qB (xnthT om (by simp only []; omega)) fun _ _=>?_
    have hjl:j<(mget m key zT).1.fEntries.length:=by omega
    refine qE (a:=(mget m key zT).1.fEntries[j]) gR ?_;have p1:tOK N ⟨(mget m key zT).1.fAxes,(mget m key zT).1.fEntries.set j n⟩:=by
      refine ⟨gR,gR,ht.ax,fun x hx=>?_⟩;rcases List.mem_or_eq_of_mem_set hx with h | h
      · exact ht.en x h
      · rw [h]; exact hn
    refine zWV S (by omega) (by omega) key _ p1 (fun u o m'=>(zEG B T u o m' key (j:Int)).bind fun s=>some (true,s.1,s.2.1,s.2.2)) _ fun u o S2 hlast hu=>?_
    refine qB (zSf B T hB hB2 hT key _ S2 hu hlast ⟨j,n,rfl,?_,om⟩) fun s hs=>qO ⟨hs.1,hs.2⟩
    grind [zIw]
theorem zY6 (S:Sto N used order m) (ho:order.length≤100000) (key:Str):Tot (zJc order m key) fun r=>Sto N used r.2 m∧r.2.length=order.length:=by
 unfold zJc;refine qC (fun _=>qO ⟨S,rfl⟩) fun h=>?_
 have h1:key ∈ order:=(S.ok key).2 (keyM.1 (by simpa using h));have hle:(zDE order key).length≤order.length:=List.length_filter_le _ _;unfold zE4;refine qA (qB (xappT gR) fun o eo=>qR (qO ⟨⟨S.nd,?_,fun x=>?_,S.us,S.bd,S.tb⟩,?_⟩))
 ·simp only []
  rw [eo];refine List.nodup_append.2 ⟨S.on.filter _,sI,fun a ha b hb=>?_⟩
  grind [zDE]
 ·simp only []
  rw [eo,List.mem_append,lO,← S.ok x]
  grind [zDE]
 ·simp only []
  have e:zDE order key=order.erase key:=by unfold zDE; rw [S.on.erase_eq_filter]; rfl
  grind
end Go.Eng.Pure
namespace Go.Eng.Pure
open Go Go.Eng Go.VI
theorem ent0:enOK 0 zE:=⟨⟨⟨sI,sI⟩,⟨sI,sI⟩,⟨sI,sI⟩,⟨sI,sI⟩,sI,sI⟩,sI,sI⟩
theorem zP0 {N M:Nat} {e:GEntry} (h:enOK N e) (hn:N≤M):enOK M e:=⟨h.1,nT h.2.1 hn,h.2.2⟩
theorem zQd {N:Nat} {e:GEntry} (h:enOK N e):smL e.fFields:=h.1.2.2.2.1
theorem smL_T {l:List GField} (h:smL l):smT l:=⟨by have:=h.1; omega,fun f hf=>h.2 f hf⟩
theorem zXo {N:Nat} {t:GTable} (h:t=zT∨tOK N t) {l:List GField} (hl:smL l):FindOK t l:=by
 rcases h with h | h
 ·subst h; exact ⟨sI,sI,sI,sI,sI,sI,hl⟩
 ·refine ⟨fun a ha=>(h.ax.2 a ha).1,by have:=h.ax.1.1; omega,by have:=h.n2; omega,fun e he=>?_,fun e he=>?_,fun e he=>zKV (h.en e he).1,hl⟩
  ·obtain ⟨_,h3,_⟩:=(h.en e he).1
   exact ⟨by have:=h3.1; omega,fun n hn=>by have:=h3.2 n hn; omega⟩
  ·obtain ⟨_,_,h4,_⟩:=(h.en e he).1
   have:=h4.1; omega
def exOK (N:Nat) (w:Option Gproxy_exchange):Prop:=∀ x,w=some x→rqOK 1500 x.fq∧uOK 1503 x.fu∧enOK N x.fentry
theorem zWv (e:GEntry) (now:Int) (name:Str) (he:smE e) (hn:name.length≤100):Tot (zCt e now name) rwOK:=by
 refine qQ (zOE e now name he.2.2.2.1 om) ?_;have h:-9223372036854775808≤ageE e now∧ageE e now≤9223372036854775807:=by
  have:=zTj e.fFields (smL_F he.2.2.2.1).1 (smL_F he.2.2.2.1).2 e.fRequested e.fReceived now;unfold ageE; omega
 obtain ⟨h1,h2,h3,h4,h5⟩:=zQm e (ageE e now) name he om h.1 h.2;exact ⟨h1,om,om,om,h4⟩
theorem zZM (e:GEntry) (name:Str) (he:smE e) (hn:name.length≤100):Tot (zDo e name) Any:=by
 refine qE (zNA e _ name he.2.2.2.1 om dE dE) (qB (frspT _ _ ?_) fun _ _=>qO trivial);obtain ⟨h1,h2,h3,h4,h5⟩:=zQm e 2147483647 name he om dE dE;exact ⟨h1,om,om,om,h4⟩
variable {q:GRequest}
theorem rq_L (h:rqOK 1500 q):smL q.fFields:=⟨by have:=h.2.2.2.2.1.1; omega,fun f hf=>by have:=h.2.2.2.2.1.2 f hf; exact ⟨by have:=this.1; omega,by have:=this.2; omega⟩⟩
theorem zXY {A B:Nat} (h:rqOK A q) (hn:A≤B):rqOK B q:=by
 obtain ⟨h1,h2,h3,h4,h5,h6,h7⟩:=h;exact ⟨om,om,h3,h4,⟨h5.1,fun f hf=>zLP (h5.2 f hf) hn⟩,om,h7⟩
theorem rq_O (h:rqOK 1500 q):RqO 1503 q:=⟨by have:=h.1; omega,h.2.2.2.2.2.2,⟨by have:=h.2.2.2.2.1.1; omega,fun f hf=>zLP (h.2.2.2.2.1.2 f hf) om⟩,h.2.2.1,h.2.2.2.1⟩
theorem zXZ {N : Nat} {used : Int} {order : List Str} {m : Tabs} (S : Sto N used order m) (cf : GConfig) (hname : cf.fName.length ≤ 100) (ho : order.length ≤ 1000) (now : Int) (s : Str) (hs : s.length ≤ 1500) :
  Tot (zD9 cf now none order m s) fun r=>r.2.1=0∧okO r.1 r.2.2.1∧exOK N r.2.2.1∧Sto N used r.2.2.2 m∧r.2.2.2.length=order.length:=by
 have none_ok:exOK N none:=fun x e=>by cases e
 have rep:∀ (q:GRequest) (st:Int),own st→Tot ((zBK q st).bind fun o=>some (o,(0:Int),(none:Option Gproxy_exchange),order)) fun r=>r.2.1=0∧okO r.1 r.2.2.1∧exOK N r.2.2.1∧Sto N used r.2.2.2 m∧r.2.2.2.length=order.length:=fun q st h=>qB (ownT q st h) fun o hoo=>qO ⟨rfl,okO_c hoo,none_ok,S,rfl⟩
 unfold zD9;refine qC (fun h=>by cases h) fun _=>?_
 refine qB (zUE s om) fun r hr=>?_
 have hr:=zXY hr hs;refine qC (fun _=>qB (statT _) fun st hst=>rep _ _ hst) fun _=>?_
 have hrL:=rq_L hr;have hrT:=smL_T hrL;refine qE (zJD _ _ (smL_F hrL).1 (smL_F hrL).2 dE) ?_;have hv:(zFn r.1.fFields [72,111,115,116]).1.length≤1500:=by
  unfold zFn;split
  ·rename_i v _ e
   exact zGJ r.1.fFields _ 1500 (fun f hf=>(hr.2.2.2.2.1.2 f hf).2) v (by rw [e]; grind)
  ·simp
 refine qB (zUA _ _ 1500 om hr.2.1 hv) fun u hu=>?_
 refine qC (fun _=>qB (statT _) fun st hst=>rep _ _ hst) fun _=>?_
 refine qB (keyT 1503 om u.1 hu) fun key hkey=>?_
 have ht:=zNU S key;refine qE (a:=(mget m key zT).1) ?_ ?_
 ·grind [zHu,zP6]
 generalize htt:(mget m key zT).1=t at ht;have hen:∀ e ∈ t.fEntries,enOK N e:=fun e he=>by
  rcases ht with h | h
  ·grind
  ·exact h.en e he
 refine qB (zXy t r.1 now cf (zXo ht hrL) hrT (fun e he=>zQd (hen e he))) fun d hd=>?_
 have fwd:∀ x:Gproxy_exchange,x.fq=r.1→x.fu=u.1→enOK N x.fentry→Tot (zEl cf.fName r.1 u.1 none order x) fun r=>r.2.1=0∧okO r.1 r.2.2.1∧exOK N r.2.2.1∧Sto N used r.2.2.2 m∧r.2.2.2.length=order.length:=fun x e1 e2 e3=>by
  refine (zVA 1503 om cf.fName r.1 u.1 order x hname (rq_O hr) hu).mono fun z hz=>?_
  obtain ⟨z1,z2,z3,z4⟩:=hz;refine ⟨z1,z2,fun y hy=>?_,by rw [z4]; exact S,by rw [z4]⟩
  grind
 refine qC (fun hk=>?_) fun _=>?_
 ·have hi:=hd (.inl (by simpa using hk))
  refine qB (zY6 S om key) fun o hoo=>?_
  refine qB (xnthT hi.1 hi.2) fun e he=>?_
  refine qB (zWv e now cf.fName (hen e he).1 hname) fun x hx=>?_
  grind [qB,sendT,qO,okO_c]
 refine qC (fun _=>rep _ _ (by unfold own; omega)) fun _=>?_
 refine qC (fun _=>rep _ _ (by unfold own; omega)) fun _=>?_
 refine qC (fun hk=>?_) fun _=>fwd _ rfl rfl (zP0 ent0 om)
 have hi:=hd (.inr (by simpa using hk));refine qB (xnthT hi.1 hi.2) fun e he=>?_
 have hee:=hen e he;refine qB (zPk r.1 e ⟨hr.2.2.2.2.1.1,fun f hf=>zLP (hr.2.2.2.2.1.2 f hf) om⟩ (smL_T (zQd hee)) (fun f hf=>by have:=(hee.2.2 f hf).2; omega)) fun v hv=>?_
 obtain ⟨v1,v2,v3⟩:=hv;have hO:=rq_O hr;refine qB (zOi 1503 om cf.fName v u.1 hname ⟨by rw [v1]; exact hO.lm,by rw [v1]; exact hO.sm,v3,by rw [v2]; exact hO.m0,by rw [v2]; exact hO.m1⟩ hu) fun a _=>?_
 refine qC (fun ha=>?_) fun _=>fwd _ rfl rfl hee
 exact qO ⟨rfl,okO_o (by simpa using ha),fun y hy=>gR,S,rfl⟩
end Go.Eng.Pure
namespace Go.Eng.Pure
open Go Go.Eng Go.VI
structure CfOK (cf:GConfig):Prop where
 b1:1≤cf.fBytes
 b2:cf.fBytes≤100000000
 v1:1≤cf.fVariants
 v2:cf.fVariants≤64
 t1:1≤cf.fTables
 t2:cf.fTables≤1000
 nm:cf.fName.length≤100
theorem zXj {A B:Nat} {q:GResponse} (h:rsOK A q) (hn:A≤B):rsOK B q:=by
 obtain ⟨h1,h2,h3,h4,h5,h6,h7⟩:=h;exact ⟨h1,h2,h3,h4,om,⟨h6.1,fun f hf=>zLP (h6.2 f hf) hn⟩,om⟩
def ansOK (N:Nat) (cf:GConfig) (z:GOutput×Int×List Str×Tabs):Prop:=toC z.1∧Sto N z.2.1 z.2.2.1 z.2.2.2∧limOK cf.fBytes cf.fTables z.2.1 z.2.2.1
variable {order:List Str}
theorem zU3 {N : Nat} (hN : N + 64 ≤ 1100) (cf : GConfig) (hc : CfOK cf) (now : Int) (x : Gproxy_exchange) (hx : exOK N (some x)) {used : Int} {m : Tabs} (S : Sto N used order m) (hl : limOK cf.fBytes cf.fTables used order) (r : GResponse) (hr : rsOK 1500 r) :
  Tot (zHv cf now (some x) used order m r) (ansOK (N+64) cf):=by
 obtain ⟨x1,x2,x3⟩:=hx x rfl;have S2:=zRi S (show N≤N+64 by omega);have c1:=hc.b1;have c2:=hc.b2;have c5:=hc.t1;have c6:=hc.t2;have hrT:smT r.fFields:=smW_T hr.2.2.2.2.2.1 om om;have hqT:=smL_T (rq_L x1);have heT:=smL_T (zQd x3);have bad:∀ {u:Int} {o:List Str} {m':Tabs},Sto (N+64) u o m'→limOK cf.fBytes cf.fTables u o→Tot ((zBK x.fq 502).bind fun z=>some (z,u,o,m')) (ansOK (N+64) cf):=fun S' l'=>qB (ownT x.fq 502 (by unfold own; omega)) fun z hz=>qO ⟨hz,S',l'⟩
 unfold zHv;refine qR (qB (zVl _ r heT hrT) fun b _=>?_);refine qC (fun _=>qR (bad S2 hl)) fun _=>?_
 refine qR (qR ?_);refine qB (zVh _ r x.fsent now (zI3 x3.1) heT hrT) fun e he=>?_
 obtain ⟨l,rfl,l1,l2⟩:=he;have hrl:=hr.2.2.2.2.2.1.1;have he:enOK (N+64) ⟨x.fentry.fKeys,x.fentry.fVary,x.fentry.fSnapshot,x.fentry.fReason,l,x.fentry.fBody,x.fsent,now⟩:=by
  have hf:∀ f ∈ l,smP 1500 f:=fun f hf=>by
   rcases l2 f hf with h | h
   ·exact x3.2.2 f h
   ·exact hr.2.2.2.2.2.1.2 f h
  have hll:=x3.2.1;exact ⟨⟨x3.1.1,x3.1.2.1,x3.1.2.2.1,⟨by simp only []; omega,fun f h=>by have:=hf f h; exact ⟨by have:=this.1; omega,by have:=this.2; omega⟩⟩,x3.1.2.2.2.2.1,x3.1.2.2.2.2.2⟩,by simp only []; omega,hf⟩
 generalize (⟨x.fentry.fKeys,x.fentry.fVary,x.fentry.fSnapshot,x.fentry.fReason,l,x.fentry.fBody,x.fsent,now⟩:GEntry)=e at he;refine qB (zZM e cf.fName he.1 hc.nm) fun _ _=>?_
 obtain ⟨lu,lo⟩:=hl;have rem:Tot (zEF used order m x.fkey) fun s=>Sto (N+64) s.2.1 s.2.2.1 s.2.2.2∧limOK cf.fBytes cf.fTables s.2.1 s.2.2.1:=(zRf S2 om x.fkey).mono fun s hs=>⟨hs.1,gR,gR⟩
 refine qC (fun _=>qR (qB rem fun s hs=>qR (bad hs.1 hs.2))) fun _=>?_
 obtain ⟨f1,f2⟩:=smL_F (zQd he);refine qE (zGa e.fFields f1 f2) ?_;refine qB (Q:=fun s:Int×List Str×Tabs=>Sto (N+64) s.1 s.2.1 s.2.2∧limOK cf.fBytes cf.fTables s.1 s.2.1) (qC (fun _=>qR (qB rem fun s hs=>qO hs)) fun _=>qR (qR ?_)) fun s hs=>?_
 ·exact qB (zWH S2 cf.fBytes cf.fTables c1 c2 c5 c6 ⟨lu,lo⟩ x.fkey x.findex e he) fun s hs=>qO hs
 refine qR (qB (zWv e now cf.fName he.1 hc.nm) fun y hy=>?_);exact qB (sendT x.fq y hqT hy) fun o hoo=>qO ⟨hoo,hs.1,hs.2⟩
theorem zXk {N : Nat} {used : Int} {m : Tabs} (S : Sto N used order m) (B T : Int) (hB : B ≤ 100000000) (hl : limOK B T used order) (l : List Str) (hll : l.length ≤ 1000) :
  Tot (zAB (zG5 l) (0,used,order,m)) fun s=>Sto N s.1 s.2.1 s.2.2∧limOK B T s.1 s.2.1:=by
 refine qL (fun s:Int×Int×List Str×Tabs=>0≤s.1∧s.1≤l.length∧Sto N s.2.1 s.2.2.1 s.2.2.2∧limOK B T s.2.1 s.2.2.1) (fun s:Int×Int×List Str×Tabs=>l.length - s.1.toNat) (fun s hs=>?_) _ ⟨sI,sI,S,hl⟩;obtain ⟨i,u,o,m'⟩:=s;obtain ⟨a1,a2,a3,a4⟩:=hs;simp only [] at a1 a2 a3 a4;unfold zG5;refine qC (fun h=>?_) fun _=>qS ⟨a3,a4⟩
 have h:=dT h;refine qB (xnthT a1 h) fun k _=>?_
 have a41:=a4.1;have a42:=a4.2;refine qB (zRf a3 om k) fun s hs=>?_
 rw [wrI om om];exact qN ⟨by simp only []; omega,by simp only []; omega,hs.1,gR,gR⟩ (by simp only []; omega)
theorem zS6 (l:List GField) (h:smW 64 1500 l) (n:Str):(varyV l n).length≤1000000:=by
 have g1:=zNh l n;have g2:=zLg (getF l n) 1500 (zGJ l n 1500 fun f hf=>(h.2 f hf).2);have a1:=zGx l n;have a2:=zLg (allM l n) 1500 (zHn l n 1500 fun f hf=>(h.2 f hf).2);have h1:=h.1
 grind [varyV,zBn]
theorem makeT (q:GRequest) (r:GResponse) (a b:Int) (hq:rqOK 1500 q) (hr:rsOK 1500 r):Tot (zIu q r a b) fun z=>enOK 64 z.1∧axOK z.2:=by
 have hqL:=rq_L hq;have hrL:smL r.fFields:=⟨by have:=hr.2.2.2.2.2.1.1; omega,fun f hf=>by have:=hr.2.2.2.2.2.1.2 f hf; exact ⟨by have:=this.1; omega,by have:=this.2; omega⟩⟩;obtain ⟨n1,n2⟩:=zRO hrL;have hs:=(zI1 r.fFields).W hr.2.2.2.2.2.1;have hsL:smL (zLN r.fFields):=⟨by have:=hs.1; omega,fun f hf=>by have:=hs.2 f hf; exact ⟨by have:=this.1; omega,by have:=this.2; omega⟩⟩;have hre:r.fReason.length≤1987:=by have:=hr.2.2.2.2.1; omega
 have hbo:r.fBody.length≤100000:=by have:=hr.2.2.2.2.2.2; omega
 refine qE (zLb _ (zUc hrL)) (qB (axesT _ hrL) fun x hx=>qB (keysT _ _ hrL hx) fun k hk=>qC (fun _=>qO ?_) fun _=>qE (zVH _ hrL) (qE (zMI _ _ hqL om fun n hn=>nT (n2 n hn) om) (qO ?_)))
 ·have hA:=smX_A hx
  obtain ⟨x1,x2⟩:=hx;exact ⟨⟨⟨⟨nT hk.1 om,hk.2⟩,⟨sI,sI⟩,⟨sI,sI⟩,hsL,hre,hbo⟩,hs.1,hs.2⟩,⟨⟨nT x1 om,fun a ha=>(hA a ha).1⟩,fun a ha=>⟨hA a ha,nT (x2 a ha).2 om⟩⟩⟩
 ·refine ⟨⟨⟨⟨sI,sI⟩,⟨by simp only []; omega,fun n hn=>gR⟩,⟨by simp only [zNz]; omega,fun v hv=>?_⟩,hsL,hre,hbo⟩,hs.1,hs.2⟩,⟨⟨sI,sI⟩,sI⟩⟩
  simp only [] at hv;unfold snapF at hv;obtain ⟨n,_,rfl⟩:=List.mem_map.1 hv;exact zS6 q.fFields hq.2.2.2.2.1 n
theorem zYv {N : Nat} (hN : N + 64 ≤ 1100) (cf : GConfig) (hc : CfOK cf) (now : Int) (x : Gproxy_exchange) (hx : exOK N (some x)) {used : Int} {m : Tabs} (S : Sto N used order m) (hl : limOK cf.fBytes cf.fTables used order) (r : GResponse) (hr : rsOK 1500 r) :
  Tot (zJo cf now (some x) used order m r) (ansOK (N+64) cf):=by
 obtain ⟨x1,x2,x3⟩:=hx x rfl;have S2:=zRi S (show N≤N+64 by omega);have hrT:smT r.fFields:=smW_T hr.2.2.2.2.2.1 om om;have hrL:smL r.fFields:=⟨by have:=hr.2.2.2.2.2.1.1; omega,fun f hf=>by have:=hr.2.2.2.2.2.1.2 f hf; exact ⟨by have:=this.1; omega,by have:=this.2; omega⟩⟩;have hqT:=smL_T (rq_L x1);have hn:=hc.nm;unfold zJo;refine qE (zLb _ (zPx hrT)) ?_;have hs:=(zI1 r.fFields).W hr.2.2.2.2.2.1;have hsl:=hs.1;have m0:=hr.1;have m1:=hr.2.1;refine qE (zTo _ _ _ om om om om) ?_;have hi:=zGs r.fMinor om om;have hv:smW 65 1500 (viaF (zLN r.fFields) r.fMinor cf.fName):=by
  unfold viaF;refine zK3 hs ⟨by unfold viaN; simp,?_⟩
  grind
 have hw:rwOK ⟨1,r.fStatus,r.fReason,viaF (zLN r.fFields) r.fMinor cf.fName,r.fBody⟩:=⟨rfl,hr.2.2.1,hr.2.2.2.1,by have:=hr.2.2.2.2.1; simp only []; omega,smW_T hv om om⟩;refine qR (qB (zUQ x.fq _ hqT hw) fun text _=>?_);refine qC (fun _=>qR (qB (ownT x.fq 502 (by unfold own; omega)) fun z hz=>qO ⟨hz,S2,hl⟩)) fun ht=>?_
 have htext:toC ⟨text,[]⟩:=⟨by simpa using ht,rfl⟩;refine qR (qB (o:=zC2 x.fq.fMethod r.fStatus) (Q:=Any) (by grind [zC2,zTh,qO]) fun iv _=>?_);refine qB (Q:=fun s:Int×List Str×Tabs=>Sto (N+64) s.1 s.2.1 s.2.2∧limOK cf.fBytes cf.fTables s.1 s.2.1) (qC (fun _=>qR ?_) fun _=>qO ⟨S2,hl⟩) fun s hs=>?_
 ·refine qB (zV3 1503 om x.fu r x2 ⟨hr.2.2.2.2.2.1.1,fun f hf=>zLP (hr.2.2.2.2.2.1.2 f hf) om⟩) fun l hll=>?_
  exact qB (zXk S2 cf.fBytes cf.fTables hc.b2 hl l om) fun s hs=>qO hs
 refine qR (qB (storT x.fq r (zUZ (rq_L x1)) (zUZ hrL)) fun _ _=>?_);refine qC (fun _=>qR (qR ?_)) fun _=>qO ⟨htext,hs.1,hs.2⟩
 refine qB (makeT x.fq r x.fsent now x1 hr) fun z hz=>?_
 obtain ⟨k1,k2⟩:=hz;refine qB (zZM _ cf.fName k1.1 om) fun _ _=>?_
 refine qC (fun _=>qR ?_) fun _=>qO ⟨htext,hs.1,hs.2⟩
 exact qB (zT8 hs.1 cf.fBytes cf.fVariants cf.fTables hc.b1 hc.b2 hc.v1 hc.v2 hc.t1 hc.t2 hs.2 x.fkey _ (zP0 k1 om) _ k2) fun z hz=>qO ⟨htext,hz.1,hz.2⟩
end Go.Eng.Pure
namespace Go.Eng.Pure
open Go Go.Eng
theorem zPK:law32_awake32=some true:=kr
end Go.Eng.Pure
namespace Go.Eng.Pure
open Go Go.Eng Go.VI
def zWn (N:Nat) (cf:GConfig) (o:GOutput) (w:Option Gproxy_exchange) (u:Int) (l:List Str) (m:Tabs):Prop:=okO o w∧exOK N w∧Sto N u l m∧limOK cf.fBytes cf.fTables u l
theorem zOr (N:Nat):exOK N none:=fun x e=>by cases e
theorem zXU {N : Nat} (hN : N + 64 ≤ 1100) (cf : GConfig) (hc : CfOK cf) (now : Int) (x : Gproxy_exchange) (hx : exOK N (some x)) {used : Int} {order : List Str} {m : Tabs} (S : Sto N used order m) (hl : limOK cf.fBytes cf.fTables used order) (s : Str) (hs : s.length ≤ 1500) :
  Tot (zFT cf now (some x) used order m s) fun r=>r.2.1=0∧r.2.2.1=none∧zWn (N+64) cf r.1 r.2.2.1 r.2.2.2.1 r.2.2.2.2.1 r.2.2.2.2.2:=by
 have S2:=zRi S (show N≤N+64 by omega);unfold zFT;refine qC (fun h=>by cases h) fun _=>qR ?_
 refine qB (zUP s _ _ om) fun r hr=>?_
 have hr:=zXj hr hs;have bad:Tot ((zBK x.fq 502).bind fun o=>some (o,(0:Int),(none:Option Gproxy_exchange),used,order,m)) fun r=>r.2.1=0∧r.2.2.1=none∧zWn (N+64) cf r.1 r.2.2.1 r.2.2.2.1 r.2.2.2.2.1 r.2.2.2.2.2:=qB (ownT x.fq 502 (by unfold own; omega)) fun z hz=>qO ⟨rfl,rfl,okO_c hz,zOr _,S2,hl⟩
 refine qC (fun _=>qR bad) fun _=>?_
 refine qB (Q:=Any) (qC (fun _=>qO trivial) fun _=>qO trivial) fun b _=>?_
 refine qC (fun _=>?_) fun _=>?_
 ·exact qB (zU3 hN cf hc now x hx S hl r.1 hr) fun z hz=>qO ⟨rfl,rfl,okO_c hz.1,zOr _,hz.2.1,hz.2.2⟩
 have hq:=rq_L (hx x rfl).1;refine qB (Q:=Any) (qC (fun _=>qR ?_) fun _=>qO trivial) fun b _=>?_
 ·refine qB (o:=zCG x.fq) (Q:=Any) ?_ fun c _=>?_
  ·unfold zCG
   refine qE (zIS _ _ (smL_F hq).1 (smL_F hq).2 dE) ?_;exact qB (Q:=Any) (qC (fun _=>qO trivial) fun _=>qE (zIS _ _ (smL_F hq).1 (smL_F hq).2 dE) (qO trivial)) fun c _=>qO trivial
  grind [qO]
 refine qC (fun _=>qR bad) fun _=>?_
 exact qB (zYv hN cf hc now x hx S hl r.1 hr) fun z hz=>qO ⟨rfl,rfl,okO_c hz.1,zOr _,hz.2.1,hz.2.2⟩
theorem failT {N:Nat} (x:Gproxy_exchange) (b:Bool):Tot (zGD (some x) b) fun r=>r.2.1=0∧r.2.2=none∧toC r.1:=by
 unfold zGD;refine qC (fun h=>by cases h) fun _=>qR ?_
 exact qC (fun _=>qB (ownT x.fq 504 (by unfold own; omega)) fun z hz=>qO ⟨rfl,rfl,hz⟩) fun _=>qB (ownT x.fq 502 (by unfold own; omega)) fun z hz=>qO ⟨rfl,rfl,hz⟩
theorem ofT (st:Gvariantproxykeep_Step):∃ k:Int,zBF st=some k∧0≤k∧k≤4:=by
 unfold zBF xrem;rw [if_neg om,zAA,if_neg om,zAA]
 grind [wrI]
def zE8 (k:Int) (w:Option Gproxy_exchange):Bool:=if k=0 then w.isSome else decide (0<k∧k<4)&&w.isNone
def doOK (N:Nat) (cf:GConfig) (k now:Int) (w:Option Gproxy_exchange) (used:Int) (order:List Str) (r:GOutput×Int×Option Gproxy_exchange×Int×Int×List Str×Tabs):Prop :=
 (exOK N r.2.2.1∧Sto N r.2.2.2.2.1 r.2.2.2.2.2.1 r.2.2.2.2.2.2∧limOK cf.fBytes cf.fTables r.2.2.2.2.1 r.2.2.2.2.2.1) ∧
 ((r.2.1=0∧(k<4→zE8 k w=false∧okO r.1 r.2.2.1))∨(r.2.1≠0∧(k<4→r.2.1=12∧zE8 k w=true)∧r.1=⟨[],[]⟩∧r.2.2.1=w∧r.2.2.2.1=now∧r.2.2.2.2.1=used∧r.2.2.2.2.2.1=order))
theorem doT {N : Nat} (hN : N + 64 ≤ 1100) (cf : GConfig) (hc : CfOK cf) (now : Int) (w : Option Gproxy_exchange) (hw : exOK N w) {used : Int} {order : List Str} {m : Tabs} (S : Sto N used order m) (hl : limOK cf.fBytes cf.fTables used order) (st : Gvariantproxykeep_Step) (hs : st.fText.length ≤ 1500) (k : Int) (hk : zBF st = some k) (h0 : 0 ≤ k) (h4 : k ≤ 4) :
  Tot (zNX cf now w used order m st) (doOK (N+64) cf k now w used order):=by
 have S2:=zRi S (show N≤N+64 by omega);have hw2:exOK (N+64) w:=fun x e=>⟨(hw x e).1,(hw x e).2.1,zP0 (hw x e).2.2 om⟩
 have ho:order.length≤1000:=by have:=hl.2; have:=hc.t2; omega
 unfold zNX;refine qE hk ?_;refine qC (fun h=>?_) fun h=>?_
 ·have h:k=0:=by simpa using h
  subst h;cases w with
  | none =>
   refine qB (zXZ S2 cf hc.nm ho now st.fText hs) fun r hr=>qO ?_
   obtain ⟨r1,r2,r3,r4,r5⟩:=hr;exact ⟨⟨r3,r4,by have:=hl.1; have:=hl.2; exact ⟨by simp only []; omega,by simp only []; omega⟩⟩,.inl ⟨r1,fun _=>⟨rfl,r2⟩⟩⟩
  | some x =>
   unfold zD9;exact qR (qO ⟨⟨hw2,S2,hl⟩,.inr ⟨sI,fun _=>⟨rfl,rfl⟩,rfl,rfl,rfl,rfl,rfl⟩⟩)
 have hk0:k≠0:=by simpa using h
 have rf:∀ x,k<4→zE8 k (some x)=false:=fun x h=>by grind [zE8]
 have rn:k<4→zE8 k none=true:=fun h=>by grind [zE8]
 have fl:∀ b,Tot ((zGD w b).bind fun r=>some (r.1,r.2.1,r.2.2,now,used,order,m)) (doOK (N+64) cf k now w used order):=fun b=>by
  cases w with
  | none =>
   unfold zGD;exact qR (qO ⟨⟨hw2,S2,hl⟩,.inr ⟨sI,fun h=>⟨rfl,rn h⟩,rfl,rfl,rfl,rfl,rfl⟩⟩)
  | some x =>
   refine qB (failT (N:=N) x b) fun r hr=>qO ?_
   obtain ⟨r1,r2,r3⟩:=hr;exact ⟨⟨by grind [zOr],S2,hl⟩,.inl ⟨r1,fun h=>⟨rf x h,by grind [okO_c]⟩⟩⟩
 refine qC (fun h=>?_) fun h=>?_
 ·cases w with
  | none =>
   unfold zFT;exact qR (qO ⟨⟨hw2,S2,hl⟩,.inr ⟨sI,fun h=>⟨rfl,rn h⟩,rfl,rfl,rfl,rfl,rfl⟩⟩)
  | some x =>
   refine qB (zXU hN cf hc now x hw S hl st.fText hs) fun r hr=>qO ?_
   obtain ⟨r1,r2,r3⟩:=hr;exact ⟨⟨r3.2.1,r3.2.2.1,r3.2.2.2⟩,.inl ⟨r1,fun h=>⟨rf x h,r3.1⟩⟩⟩
 refine qC (fun _=>fl false) fun h2=>qC (fun _=>fl true) fun h3=>?_
 have e1:k≠1:=by simpa using h
 have e2:k≠2:=by simpa using h2
 have e3:k≠3:=by simpa using h3
 unfold zK7;refine qB (Q:=fun r:Int×Int=>(r.1=0)∨(r.1≠0∧r.2=now)) (qC (fun _=>qO (.inr ⟨sI,rfl⟩)) fun _=>qO (.inl rfl)) fun r hr=>qO ⟨⟨hw2,S2,hl⟩,?_⟩
 grind
theorem zXn (l:List Gvariantproxykeep_Step):Tot (zHp l) fun b=>b=true→l.length≤16∧∀ s ∈ l,s.fText.length≤1500:=by
 unfold zHp;refine qB (Q:=fun r:Unit ⊕ Bool=>match r with | .inl _=>(l.length≤16→∀ s ∈ l,s.fText.length≤1500) | .inr b=>b=false) (qL (fun i:Int=>∃ n:Nat,i=(n:Int)∧n≤17∧∀ j (h:j<l.length),j<n→(l[j]).fText.length≤1500) (fun i=>17 - i.toNat) (fun i hi=>?_) 0 ⟨0,rfl,om,fun j h h2=>om⟩) fun r hr=>?_
 ·obtain ⟨n,rfl,hn,hI⟩:=hi
  unfold zJR;refine qC (fun h=>?_) fun h=>qS (fun hl s hs=>?_)
  ·simp only [bQ,decide_eq_true_eq] at h
   have hnl:n<l.length:=by omega
   refine qE (zAF hnl) ?_;refine qC (fun _=>qS rfl) fun h2=>?_
   have h2:=dF h2;rw [wrI om om];refine qN ⟨n+1,om,om,fun j hj h3=>?_⟩ om
   grind
  ·simp only [Bool.and_eq_false_iff,decide_eq_false_iff_not] at h
   obtain ⟨j,hj,rfl⟩:=List.mem_iff_getElem.1 hs
   grind
 grind [qO]
theorem zSN (cf : GConfig) (hc : CfOK cf) (l : List Gvariantproxykeep_Step) (hl : l.length ≤ 16) (hs : ∀ s ∈ l, s.fText.length ≤ 1500) :
  Tot (zAB (zDe cf l) (0,none,0,0,[],[])) fun r=>r=.inl ():=by
 refine qL (fun s:Int×Option Gproxy_exchange×Int×Int×List Str×Tabs=>∃ n:Nat,s.1=(n:Int)∧n≤l.length∧exOK (64*n) s.2.1∧Sto (64*n) s.2.2.2.1 s.2.2.2.2.1 s.2.2.2.2.2∧limOK cf.fBytes cf.fTables s.2.2.2.1 s.2.2.2.2.1)
  (fun s:Int×Option Gproxy_exchange×Int×Int×List Str×Tabs=>l.length - s.1.toNat) (fun s hst=>?_) _ ⟨0,rfl,om,zOr _,⟨by simp [ND],sI,sI,by simp [sumT],sI,sI⟩,by have:=hc.b1; have:=hc.t1; exact ⟨gR,gR⟩⟩
 obtain ⟨i,w,now,used,order,m⟩:=s;obtain ⟨n,e,hn,hw,S,hlim⟩:=hst;simp only [] at e hw S hlim;subst e;unfold zDe;refine qC (fun h=>?_) fun h=>qS rfl
 have hnl:n<l.length:=by grind
 have hol:order.length≤1000:=by have:=hlim.2; have:=hc.t2; omega
 refine qE (a:=order) (by grind [zKR,big]) ?_;have ex:=zAF hnl;obtain ⟨k,ek,k0,k4⟩:=ofT l[n];refine qE ex ?_;refine qB (doT om cf hc now w hw S hlim l[n] (hs _ (lM hnl)) k ek k0 k4) fun r hr=>?_
 obtain ⟨⟨r1,r2,r3⟩,hr⟩:=hr;refine qE ex (qE ek ?_)
 have eref : (bif (k == 0) && (!w.isNone) then some true else
   (xnth l (n:Int)).bind fun st2=>(zBF st2).bind fun k2 =>
    (bif decide (0<k2) then (xnth l (n:Int)).bind fun st3=>(zBF st3).bind fun k3=>some (decide (k3<4)) else some false).bind fun b80=>some (b80&&(!(!w.isNone))))=some (zE8 k w):=by
  rw [ex,zAA,ek,zAA,zAA,ek,zAA];unfold zE8;by_cases h0:k=0
  all_goals grind
 refine qE eref ?_;refine qE ex (qE ek ?_)
 have eb : (bif (decide (k < 4)) && (zE8 k w != (r.2.1 == 12)) then some true else
   (xnth l (n:Int)).bind fun st5=>(zBF st5).bind fun k5=>some (((decide (k5<4))&&(!zE8 k w))&&(r.2.1 !=0)))=some false:=by
  grind
 refine qE eb ?_;rw [zAD];refine qB (Q:=fun b=>b=false) ?_ fun b hb=>?_
 ·refine qC (fun h=>?_) fun _=>qO rfl
  have h:r.2.1≠0:=by simpa using h
  rcases hr with ⟨q1,_⟩ | ⟨_,_,q3,q4,q5,q6,q7⟩
  ·exact absurd q1 h
  ·rw [q3,q4,q5,q6,q7]
   grind [qO,zKR,big,zMo]
 subst hb;rw [zAD];refine qB (Q:=fun j:Unit ⊕ ((Int×Option Gproxy_exchange×Int×Int×List Str×Tabs) ⊕ (Unit ⊕ Bool))=>j=.inl ()) ?_ fun j hj=>?_
 ·refine qC (fun h=>?_) fun _=>qO rfl
  have h:r.2.1=0:=by simpa using h
  refine qE ex (qE ek (qC (fun h4=>?_) fun _=>qO rfl));have h4:k<4:=by simpa using h4
  rcases hr with ⟨_,q2⟩ | ⟨q1,_⟩
  ·obtain ⟨o1,o2⟩:=(q2 h4).2
   grind [qO]
  omega
 ·subst hj
  rw [wrI om om];exact qN ⟨n+1,rfl,om,om,om,r3⟩ om
theorem zYg (s:Str) (hs:s.length≤9223372036854775807):Tot (zE1 s) Any:=by
 unfold zE1;refine qB (Q:=Any) (qL (fun i:Int=>0≤i∧i≤s.length) (fun i=>s.length - i.toNat) (fun i hi=>?_) 0 ⟨om,om⟩) fun r _=>by grind [qO]
 unfold zE6;refine qC (fun h=>?_) fun h=>qS trivial
 have h:=dT h;refine qB (xnthT om om) fun c _=>?_
 refine qE (zLC c) ?_;refine qC (fun _=>qS trivial) fun _=>?_
 rw [wr_eq ⟨om,om⟩];exact qN ⟨om,om⟩ om
theorem permT (cf:GConfig) (hn:cf.fName.length≤9223372036854775807):Tot (zET cf) fun b=>b=true→CfOK cf∧tok cf.fName=true∧(cf.fStrict||!cf.fRefuse)=true:=by
 unfold zET;by_cases h100:100<cf.fName.length
 ·grind [qB,zYg,qO]
 refine qE (zS1 cf.fName om) ?_;refine qB (Q:=fun b=>b=true→CfOK cf∧tok cf.fName=true) (qC (fun h=>?_) fun _=>qO sI) fun b hb=>qO fun h=>?_
 ·unfold zHX
  refine qR (qO fun h2=>?_);simp only [bQ,decide_eq_true_eq] at h h2;obtain ⟨⟨⟨⟨⟨a1,a2⟩,a3⟩,a4⟩,a5⟩,a6⟩:=h2;exact ⟨⟨a1,a2,a3,a4,a5,a6,om⟩,h.1⟩
 grind
theorem newK {ρ:Type} (cf:GConfig) (hc:CfOK cf) (ht:tok cf.fName=true) (hs:(cf.fStrict||!cf.fRefuse)=true) (kE kO:Option ρ) (P:ρ→Prop) (h:Tot kO P):Tot (zJC cf kE kO) P:=by
 have b1:=hc.b1;have b2:=hc.b2;have b3:=hc.v1;have b4:=hc.v2;have b5:=hc.t1;have b6:=hc.t2;have b7:=hc.nm
 grind [zJC,zBf]
theorem zLX (cf:GConfig) (l:List Gvariantproxykeep_Step) (hn:cf.fName.length≤9223372036854775807):zCX cf l=some true:=by
 have key:Tot (zCX cf l) fun b=>b=true:=by
  unfold zCX;refine qB (zXn l) fun a ha=>?_
  refine qB (Q:=fun b=>b=false→CfOK cf∧tok cf.fName=true∧(cf.fStrict||!cf.fRefuse)=true∧a=true) (qC (fun _=>qO sI) fun h=>?_) fun b hb=>?_
  all_goals grind [qB,permT,qO,newK,zSN,zPK]
 obtain ⟨b,e,rfl⟩:=key;exact e
end Go.Eng.Pure
namespace Go.Proofs
open Go Go.Eng Go.VI Go.Eng.Pure
structure GlA (w:World):Prop where
 g:GlS w
 o:GlOk UU (Hp.of w)
theorem GlA.mk' {w:World} (gl:Tryz.Gl w) (s0:Sent w 0 437 (zLF 0)) (s2:Sent w 2 437 (zLF 2)) (s3:Sent w 3 437 (zLF 3)) (h:At (Hp.of w) ⟨1,0,none⟩ [.iface 184 (.agg #[.pointer (some ⟨10,67,none⟩)])]):GlA w:=by
 have key:∀ g,errSe g=true→Sent w g 437 (zLF g):=fun g e=>by rcases zTr g e with rfl | rfl | rfl <;> assumption
 refine ⟨⟨gl,key⟩,fun g cs e=>?_,fun g e=>(key g e).erR⟩;have e:glX g=some cs:=e;unfold glX at e;split at e
 ·cases e; exact ⟨by simp,h⟩
 ·cases e
theorem zJE {w0 : World} (hw : Holds w0 (Hp.of w0)) (hG : GlA w0) (p_c : GConfig) (p_l : List Gvariantproxykeep_Step) {vp_l : Value} (Rp_l : Sl (α := Gvariantproxykeep_Step) (Hp.of w0) vp_l p_l) {r : Bool} (h : zCX p_c p_l = some r) :
  Con Tryz.prog 3 [(agg [(str p_c.fName),(int p_c.fBytes),(int p_c.fVariants),(int p_c.fTables),(boo p_c.fStrict),(boo p_c.fRefuse)]),vp_l] w0 (Hp.of w0) (fun _ v=>v=(boo r)):=by
 refine (e3 (xs:=(p_c,p_l)) (y:=r) hw hG.o hG.g ⟨_,_,rfl,⟨_,rfl,rfl⟩,⟨_,rfl,Rp_l⟩⟩ h).mono ?_;rintro _ v ⟨_,rfl,v1,rfl,e⟩;exact e
end Go.Proofs
