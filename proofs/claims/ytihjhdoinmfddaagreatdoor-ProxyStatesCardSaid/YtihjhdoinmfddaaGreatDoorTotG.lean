/- A part. -/
import Derived.Test.YtihjhdoinmfddaaGreatDoorFindB
set_option linter.unusedVariables false
set_option linter.unusedSimpArgs false
set_option maxRecDepth 100000
namespace Go.Eng.Pure
open Go Go.Eng
noncomputable def rngS (k:Int) (v:Str) (ps:List GParam):Str×Bool :=
 if k=1 then (wrtT ⟨(zEO v).1.fType,(zEO v).1.fSub,ps⟩,(zEO v).2)
 else if k=2 then (canS k v,((v==[42])||langS v)&&((ps.length:Int)==0))
 else (canS k v,tok v&&((ps.length:Int)==0))
theorem zTU (k:Int) (v:Str) (ps:List GParam) (hv:v.length≤10000) (hp:smPs ps):zEh k v ps=some (rngS k v ps):=by
 obtain ⟨r1,r2,_,_⟩:=zKF v;unfold zEh rngS;by_cases h1:k=1
 ·rw [if_pos h1,decide_eq_true h1,zAG]
  unfold zGO
  grind [zMf,zSc]
 grind [decide_eq_false,zGW,zQf,zTD,zBf]
theorem zYs {m:Str} (h:m.length≤10000):(parS m).1.length≤10000∧smPs (parS m).2.1:=by
 obtain ⟨l1,l2⟩:=zKU m;have l3:=zRT m;exact ⟨om,om,fun p hp=>gR⟩
def nameF (k:Int):Str:=if k=1 then [65,99,99,101,112,116] else if k=2 then [65,99,99,101,112,116,45,76,97,110,103,117,97,103,101]
 else if k=3 then [65,99,99,101,112,116,45,67,104,97,114,115,101,116] else if k=4 then [65,99,99,101,112,116,45,69,110,99,111,100,105,110,103] else []
theorem zYB (k:Int):zBh k=some (nameF k):=by
 unfold zBh nameF
 grind
theorem zUq (k:Int):(nameF k).length≤100:=by
 unfold nameF;split
 ·decide
 split
 ·decide
 split
 ·decide
 split <;> decide
theorem zUu {l:List GField} (h:smL l):l.length≤1073741824∧∀ f ∈ l,smF f:=⟨by have:=h.1; omega,fun f hf=>by have:=h.2 f hf; exact ⟨om,om⟩⟩
theorem zXs (k:Int) (s:Str):(canS k s).length≤s.length+10:=by
 grind [canS,zBn]
def sumN (l:List Str):Nat:=(l.map fun x=>x.length+1).sum
def sumP (l:List GParam):Nat:=(l.map fun p=>p.fName.length+p.fValue.length+1).sum
theorem zN6 (a:UInt8):∀ (s:Str) (st:Nat) (cur:Str),sumN (segs a st cur s)=cur.length+s.length+1
 | [],st,cur=>by unfold segs sumN; simp
 | c :: r,st,cur=>by
  unfold segs;split
  ·have:=zN6 a r 0 []
   unfold sumN at this ⊢
   grind
  ·rw [zN6 a r _ _]; simp; omega
theorem zXL (m:Str) (h:(oneS m).2.2=true):(oneS m).1.length+(oneS m).2.1.length+1≤m.length:=by
 grind [zN2,oneS,zBn]
theorem zN3:∀ (l:List Str) (acc ps:List GParam),parL l acc=some ps→sumP ps≤sumP acc+sumN l
 | [],acc,ps,h=>by unfold parL at h; grind
 | m :: l,acc,ps,h=>by
  unfold parL at h;have e:sumN (m :: l)=m.length+1+sumN l:=by unfold sumN; grind
  split at h
  ·have:=zN3 l _ _ h; omega
  ·split at h
   ·rename_i h2
    have h3:=zN3 l _ _ h
    grind [zXL,zI8,sumP]
   ·cases h
theorem zVS (s:Str):sumP (parS s).2.1≤s.length+1:=by
 have hs:=zN6 59 s 0 [];unfold parS cutS;cases hc:segs 59 0 [] s with
 | nil=>simp [sumP]
 | cons x l =>
  rw [hc] at hs
  show sumP (parC x l).2.1≤_
  unfold parC;split
  ·simp [sumP]
  ·split
   ·rename_i ps h
    have:=zN3 l [] ps h
    grind [sumN,sumP]
   ·simp [sumP]
theorem zPL:∀ (l:List GParam) (n:Nat),sumP (l.take n)≤sumP l
 | [],n=>by simp
 | p :: l,0=>by simp [sumP]
 | p :: l,n+1=>by
  have:=zPL l n;unfold sumP at this ⊢
  grind
theorem zOL:∀ l:List GParam,(l.flatMap parT).length≤4*sumP l
 | []=>by simp
 | p :: l=>by
  have h2:=zOL l;have h4:=zQM p.fValue;have e:sumP (p :: l)=p.fName.length+p.fValue.length+1+sumP l:=by unfold sumP; rw [List.map_cons,List.sum_cons]
  have h5:(parT p).length≤4*(p.fName.length+p.fValue.length+1):=by
   unfold parT;simp only [lA,lC,List.length_nil];omega
  grind
def smPr (l:List GPref):Prop:=l.length≤1000000∧∀ p ∈ l,p.fRange.length≤1000000
section
variable (Q:Str→Int)
end
theorem zQx {α:Type} (l:List α) (n:Nat) (x:α) (h:n≤l.length) (hl:l.length≤1000000):insS l (n:Int) [x]=some (l.take n++[x]++l.drop n):=by
 grind [insS,big]
theorem zX6 (a:GAxis):valB [a]=axN a:=by
 unfold valB chk okA;simp [chk]
theorem zVO {a:GAxis} (h:axN a=true):1≤a.fValues.length∧a.fValues.length≤16∧chk (okV (domF a.fName)) [] a.fValues=true:=by
 unfold axN axV at h
 grind
theorem zVw {axes:List GAxis} (h:valB axes=true):1≤axes.length∧axes.length≤4:=by
 unfold valB at h
 grind
theorem zI3 {e:GEntry} (h:smE e):smEn e:=by
 obtain ⟨⟨h1,h2⟩,h3,h4,h5,_⟩:=h;exact ⟨om,fun k hk=>by have:=(h2 k hk).1; omega,by have:=h3.1; omega,by have:=h4.1; omega,by have:=h5.1; omega⟩
theorem zKV {e:GEntry} (h:smE e):smKs e.fKeys:=by
 obtain ⟨⟨h1,h2⟩,_⟩:=h;exact ⟨om,fun k hk=>⟨by have:=(h2 k hk).1; omega,fun v hv=>by have:=(h2 k hk).2 v hv; omega⟩⟩
structure FindOK (t:GTable) (l:List GField):Prop where
 ax:∀ a ∈ t.fAxes,smA a
 al:t.fAxes.length≤1000000
 nm:t.fEntries.length≤1000000
 vr:∀ e ∈ t.fEntries,e.fVary.length≤1000∧∀ n ∈ e.fVary,n.length≤1073741824
 sn:∀ e ∈ t.fEntries,e.fSnapshot.length≤1073741824
 ks:∀ e ∈ t.fEntries,smKs e.fKeys
 fl:smL l
theorem zWO (s cs:Str):-1≤Lib.indexAny s cs∧Lib.indexAny s cs<s.length:=by
 grind [zJB]
theorem zLS {α:Type} (p:α→Bool):∀ (s:List α) (h:(s.takeWhile p).length<s.length),p (s[(s.takeWhile p).length])=false
 | [],h=>by cases h
 | a :: s,h=>by
  cases hp:p a with
  | true =>
   simp only [List.takeWhile_cons,hp,if_true,lC] at h ⊢;exact zLS p s om
  | false =>
   simp_all
theorem zYm (s cs:Str) (h0:0≤Lib.indexAny s cs):∃ c,s[(Lib.indexAny s cs).toNat]?=some c∧c ∈ cs:=by
 rcases zJB cs s with ⟨h,_⟩ | ⟨h,h2⟩
 ·omega
 ·refine ⟨_,by rw [h]; exact List.getElem?_eq_getElem h2,?_⟩
  grind [zLS]
theorem crlfT (s:Str) (hs:s.length≤1000000):Tot (zAh s [13,10]) fun r=>-1≤r∧r<s.length∧(0≤r→∃ c,s[r.toNat]?=some c∧(c=13∨c=10)):=by
 grind [zAh,zWO,qO,zYm]
theorem cutT (s:Str) (c:UInt8) (hs:s.length≤1000000):Tot (zAW s [c]) fun r=>r.1.length+r.2.1.length≤s.length∧(r.2.2=true→r.1.length+r.2.1.length<s.length)∧(r.2.2=false→r.2.1=[]):=by
 grind [qQ,zHc]
theorem nextT (s:Str) (hs:s.length≤1000000):Tot (zEw s) fun r=>r.1.length≤2000∧r.1.length≤s.length∧0≤r.2.1∧r.2.1≤s.length∧(r.2.2=0→r.2.1=r.1.length+2):=by
 unfold zEw;refine qB (crlfT s hs) fun r1 hr=>?_
 refine qC (fun _=>qO ⟨sI,sI,sI,sI,sI⟩) fun h1=>?_
 have hb:Tot (bif decide (r1<0) then some true else (xnth s r1).bind fun c13=>some (((c13==13)&&(r1==(wr ((s.length:Int) - 1)))))) fun b=>b=false→0≤r1∧(s[r1.toNat]?=some 13→r1<(s.length:Int) - 1):=by
  refine qC (fun _=>qO sI) fun h2=>?_
  simp only [decide_eq_false_iff_not] at h2;refine qE (zDr (l:=s) (i:=r1) om om) (qO fun h3=>⟨om,fun h4=>?_⟩);rw [List.getElem?_eq_getElem om] at h4;injection h4 with h4
  rw [h4,wrI om om] at h3;simp at h3; omega
 refine qB hb fun b hbb=>?_
 refine qC (fun _=>qO ⟨sI,sI,sI,sI,sI⟩) fun h2=>?_
 obtain ⟨h3,h4⟩:=hbb h2;refine qE (zDr (l:=s) (i:=r1) om om) ?_
 grind [qO,wrI,qB,xnthT,xsubT]
theorem digT (c:UInt8):Tot (zCQ c) Any:=qO trivial
theorem peel {α : Type} {o : Option α} (h : Tot o Any := by
  repeat' first
   | exact qO trivial
   | refine qC (fun _=>?_) (fun _=>?_)
   | refine qB (xnthT om om) (fun _ _=>?_)
   | refine qB (xsubT ⟨om,om,om⟩) (fun _ _=>?_)
   | refine qB (digT _) (fun _ _=>?_)
   | refine qB (Q:=Any) ?_ (fun _ _=>?_)):Tot o Any:=h
theorem zQv {ρ:Type} (s:Str) (kS kV:Option ρ) (k:Int→Option ρ) (P:ρ→Prop) (hS:Tot kS P) (hV:Tot kV P) (hk:∀ m,0≤m→m≤1000→Tot (k m) P):Tot (zJs s kS kV k) P:=by
 unfold zJs;by_cases h8:s.length=8
 ·refine qB (Q:=Any) peel fun _ _=>?_
  refine qB (Q:=Any) peel fun _ _=>?_
  refine qB (Q:=Any) peel fun _ _=>?_
  refine qB (Q:=Any) peel fun _ _=>?_
  refine qC (fun _=>hS) fun _=>?_
  refine qB (xnthT om om) fun _ _=>?_
  refine qB (Q:=Any) peel fun _ _=>?_
  refine qC (fun _=>hV) fun _=>?_
  refine qB (xnthT om om) fun c _=>hk _ om (by have:=(c - 48).toNat_lt; omega)
 grind
theorem zRP (s:Str) (hs:s.length≤1000000):Tot (zDZ s) Any:=by
 unfold zDZ;refine qB (Q:=Any) (qL (fun i:Int=>0≤i∧i≤s.length) (fun i=>s.length - i.toNat) (fun i hi=>?_) 0 ⟨om,om⟩) fun r _=>by grind [qO]
 unfold zFo;refine qC (fun h=>?_) fun h=>qS trivial
 have h:=dT h;refine qB (xnthT om om) fun _ _=>?_
 refine qB (Q:=Any) peel fun _ _=>?_
 refine qC (fun _=>qS trivial) fun _=>?_
 rw [wrI om om];exact qN ⟨om,om⟩ om
theorem zRA (c:UInt8):∀ s:Str,c ∉ s.take (s.idxOf c)
 | []=>by simp
 | a :: s=>by
  rw [List.idxOf_cons];cases h:a==c with
  | true=>simp
  | false =>
   have:=zRA c s
   grind
theorem cutN (s:Str) (c:UInt8) (hs:s.length≤1000000):Tot (zAW s [c]) fun r=>r.1.length+r.2.1.length≤s.length∧c ∉ r.1:=by
 grind [qQ,zHc,zRA]
theorem zUI (s:Str) (hs:s.length≤1000000):Tot (zAf s) fun r=>r.1.length≤s.length∧r.2.1.length≤s.length∧0≤r.2.2.1∧r.2.2.1≤1000∧(32:UInt8) ∉ r.1:=by
 unfold zAf;refine qC (fun _=>qO sI) fun _=>?_
 refine qB (cutN s 32 hs) fun r2 h2=>?_
 have h2l:=h2.1;refine qB (cutT r2.2.1 32 om) fun r7 h7=>?_
 grind [zBf,qB,qO,zRP,zQv]
theorem zQ2:∀ (s:Str) (n m:Int),0≤n→n≤2147483647→numL s n=some m→0≤m∧m≤2147483647
 | [],n,m,h0,h1,e=>by unfold numL at e; grind
 | c :: r,n,m,h0,h1,e=>by
  unfold numL at e;split at e
  ·rename_i hd
   have h:0≤10*n+dvI c:=by
    grind [dvI]
   exact zQ2 r _ m (zPC h).1 (zPC h).2 e
  ·cases e
theorem zS4 (s:Str):0≤(num s).1∧(num s).1≤2147483647:=by
 unfold num;split
 ·rename_i n e; exact zQ2 s 0 n om om e
 ·simp
theorem zUp (s:Str) (hs:s.length≤1000000):Tot (zB4 s) fun r=>0≤r.1∧r.1≤2147483647:=by
 unfold zB4;by_cases h8:s.length=3
 ·refine qB (Q:=Any) peel fun _ _=>?_
  refine qB (Q:=Any) peel fun _ _=>?_
  refine qB (Q:=Any) peel fun _ _=>?_
  refine qB (Q:=Any) peel fun _ _=>?_ <;> grind [qO,zS4,zFb]
 grind [qO]
theorem zUf (s:Str) (hs:s.length≤1000000):Tot (zAY s) fun r=>0≤r.1∧r.1≤1000∧0≤r.2.1∧r.2.1≤2147483647∧r.2.2.1.length≤s.length:=by
 unfold zAY;refine qC (fun _=>qO sI) fun _=>?_
 refine qB (cutT s 32 hs) fun r2 h2=>?_
 refine qB (cutT r2.2.1 32 om) fun r7 h7=>?_
 grind [qB,zUp,qO,zIi,zQv]
def smP (B:Nat) (f:GField):Prop:=f.fName.length≤B∧f.fValue.length≤B
theorem zPy (s:Str) (hs:s.length≤2000):Tot (zBv s) fun r=>smP s.length r.1:=by
 unfold zBv;refine qC (fun _=>qO (by simp [smP])) fun _=>?_
 refine qB (cutT s 58 om) fun r5 h5=>?_
 refine qB (Q:=Any) (qC (fun _=>qO trivial) fun _=>qE (zBf _ om) (qO trivial)) fun _ _=>?_
 refine qB (Q:=Any) (qC (fun _=>qO trivial) fun _=>qE (zIi _ om) (qO trivial)) fun _ _=>?_
 refine qC (fun _=>qO (by simp [smP])) fun _=>?_
 refine qE (zJh _ om) ?_;have ht:=zI8 r5.2.1;refine qE (zOO _ ⟨gR,gR⟩) ?_
 grind [qO,smP]
def smW (N B:Nat) (l:List GField):Prop:=l.length≤N∧∀ f ∈ l,smP B f
def smWs (N B:Nat) (l:List Str):Prop:=l.length≤N∧∀ f ∈ l,f.length≤B
theorem zK3 {N B:Nat} {l:List GField} {f:GField} (h:smW N B l) (hf:smP B f):smW (N+1) B (l++[f]):=by
 refine ⟨by rw [lA]; have:=h.1; simp; omega,fun x hx=>?_⟩;rcases List.mem_append.1 hx with hx | hx
 ·exact h.2 x hx
 grind
theorem zLa {N B:Nat} {l:List Str} {f:Str} (h:smWs N B l) (hf:f.length≤B):smWs (N+1) B (l++[f]):=by
 refine ⟨by rw [lA]; have:=h.1; simp; omega,fun x hx=>?_⟩;rcases List.mem_append.1 hx with hx | hx
 ·exact h.2 x hx
 grind
theorem zLO {N M B:Nat} {l:List GField} (h:smW N B l) (hn:N≤M):smW M B l:=⟨nT h.1 hn,h.2⟩
theorem zFi {N M B:Nat} {l:List Str} (h:smWs N B l) (hn:N≤M):smWs M B l:=⟨nT h.1 hn,h.2⟩
theorem zLP {A B:Nat} {f:GField} (h:smP A f) (hn:A≤B):smP B f:=⟨nT h.1 hn,nT h.2 hn⟩
def hdOK (s:Str) (at_:Int) (fs:List GField) (ls cs:List Str):Prop:=0≤at_∧at_≤s.length∧smW 64 s.length fs∧smWs 64 s.length ls∧smWs 64 s.length cs
theorem foldK (a b:Str) (ha:a.length≤1000000) (hb:b.length≤1000000):Tot (zAe a b) Any:=by grind [qQ,zHo]
theorem zYT (s:Str) (hs:s.length≤1000000):Tot (zHf s) fun r=>hdOK s r.2.1 r.2.2.1 r.2.2.2.1 r.2.2.2.2.1∧r.2.2.2.2.2.1.length≤s.length∧r.2.2.2.2.2.2.1.length≤s.length∧0≤r.2.2.2.2.2.2.2∧r.2.2.2.2.2.2.2≤1000∧(32:UInt8) ∉ r.2.2.2.2.2.1:=by
 unfold zHf
 refine qB (qL (P:=fun r:Int×Int×List GField×List Str×List Str×Str×Str×Int=>hdOK s r.2.1 r.2.2.1 r.2.2.2.1 r.2.2.2.2.1∧r.2.2.2.2.2.1.length≤s.length∧r.2.2.2.2.2.2.1.length≤s.length∧0≤r.2.2.2.2.2.2.2∧r.2.2.2.2.2.2.2≤1000∧(32:UInt8) ∉ r.2.2.2.2.2.1)
  (fun st:Int×Int×List GField×List Str×List Str×Str×Str×Int=>∃ n:Nat,st.1=(n:Int)∧n≤65∧0≤st.2.1∧st.2.1≤s.length∧smW (n - 1) s.length st.2.2.1∧smWs (n - 1) s.length st.2.2.2.1∧smWs (n - 1) s.length st.2.2.2.2.1∧st.2.2.2.2.2.1.length≤s.length∧st.2.2.2.2.2.2.1.length≤s.length∧0≤st.2.2.2.2.2.2.2∧st.2.2.2.2.2.2.2≤1000∧(32:UInt8) ∉ st.2.2.2.2.2.1)
  (fun st:Int×Int×List GField×List Str×List Str×Str×Str×Int=>s.length - st.2.1.toNat) (fun st hst=>?_) _ ⟨0,rfl,om,sI,sI,⟨sI,sI⟩,⟨sI,sI⟩,⟨sI,sI⟩,sI,sI,sI,sI,sI⟩) fun r hr=>qO hr
 obtain ⟨i,at_,fs,ls,cs,m,t,v⟩:=st;obtain ⟨n,e,hn,ha0,ha1,hf,hl,hc,hm,ht,hv0,hv1,hsp⟩:=hst;simp only [] at e ha0 ha1 hf hl hc hm ht hv0 hv1 hsp;subst e;have hd:hdOK s at_ fs ls cs:=⟨ha0,ha1,zLO hf om,zFi hl om,zFi hc om⟩;unfold zH5;refine qB (xsubT ⟨om,om,om⟩) fun s68 h68=>?_
 have h68:=h68.1;refine qB (nextT s68 om) fun r69 h69=>?_
 obtain ⟨k1,k2,k3,k4,k5⟩:=h69;refine qC (fun _=>qS ⟨hd,hm,ht,hv0,hv1,hsp⟩) fun h0=>?_
 have h0:r69.2.2=0:=by simpa using h0
 have k5:=k5 h0;have ew:wr (at_+r69.2.1)=at_+r69.2.1:=wrI om om;rw [ew];have hd2:hdOK s (at_+r69.2.1) fs ls cs:=⟨om,om,hd.2.2⟩;refine qC (fun _=>qS ⟨hd2,hm,ht,hv0,hv1,hsp⟩) fun h1=>?_
 refine qC (fun hz=>?_) fun hz=>?_
 ·have hz:n=0:=by simpa using hz
  subst hz;refine qB (zUI r69.1 om) fun r102 hr=>?_
  obtain ⟨q1,q2,q3,q4,q5⟩:=hr;refine qC (fun _=>qS ⟨hd2,gR,gR,q3,q4,q5⟩) fun _=>?_
  rw [wrI om om];refine qN ⟨1,rfl,om,gR,gR,hf,hl,hc,gR,gR,q3,q4,q5⟩ gR
 ·have hz:n≠0:=by simpa using hz
  refine qC (fun _=>qS ⟨hd2,hm,ht,hv0,hv1,hsp⟩) fun h2=>?_
  have hn2:n≤64:=by
   grind
  have ew2:wr ((n:Int)+1)=((n+1:Nat):Int):=wrI om om;rw [ew2];refine qB (zPy r69.1 om) fun r125 hr=>?_
  have hr:=zLP hr (show r69.1.length≤s.length by omega);refine qC (fun h=>?_) fun _=>?_
  ·rw [h]; exact qS ⟨hd2,hm,ht,hv0,hv1,hsp⟩
  refine qB (foldK _ _ (by have:=hr.1; omega) dE) fun r146 _=>?_
  have e1:n - 1+1=n+1 - 1:=by omega
  refine qC (fun _=>?_) fun _=>?_
  ·refine qB (xappT (by have:=hl.1; grind)) fun l he=>?_
   subst he;exact qN ⟨n+1,rfl,om,gR,gR,zLO hf om,e1 ▸ zLa hl hr.2,zFi hc om,hm,ht,hv0,hv1,hsp⟩ gR
  refine qB (foldK _ _ (by have:=hr.1; omega) dE) fun r146 _=>?_
  refine qC (fun _=>?_) fun _=>?_
  ·refine qB (xappT (by have:=hc.1; grind)) fun l he=>?_
   subst he;exact qN ⟨n+1,rfl,om,gR,gR,zLO hf om,zFi hl om,e1 ▸ zLa hc hr.2,hm,ht,hv0,hv1,hsp⟩ gR
  ·refine qB (xappT (by have:=hf.1; grind)) fun l he=>?_
   subst he;exact qN ⟨n+1,rfl,om,gR,gR,e1 ▸ zK3 hf hr,zFi hl om,zFi hc om,hm,ht,hv0,hv1,hsp⟩ gR
theorem zYn (s:Str) (hs:s.length≤1000000):Tot (zHs s) fun r=>hdOK s r.2.1 r.2.2.1 r.2.2.2.1 r.2.2.2.2.1∧0≤r.2.2.2.2.2.1∧r.2.2.2.2.2.1≤1000∧0≤r.2.2.2.2.2.2.1∧r.2.2.2.2.2.2.1≤2147483647∧r.2.2.2.2.2.2.2.length≤s.length:=by
 unfold zHs
 refine qB (qL (P:=fun r:Int×Int×List GField×List Str×List Str×Int×Int×Str=>hdOK s r.2.1 r.2.2.1 r.2.2.2.1 r.2.2.2.2.1∧0≤r.2.2.2.2.2.1∧r.2.2.2.2.2.1≤1000∧0≤r.2.2.2.2.2.2.1∧r.2.2.2.2.2.2.1≤2147483647∧r.2.2.2.2.2.2.2.length≤s.length)
  (fun st:Int×Int×List GField×List Str×List Str×Int×Int×Str=>∃ n:Nat,st.1=(n:Int)∧n≤65∧0≤st.2.1∧st.2.1≤s.length∧smW (n - 1) s.length st.2.2.1∧smWs (n - 1) s.length st.2.2.2.1∧smWs (n - 1) s.length st.2.2.2.2.1∧0≤st.2.2.2.2.2.1∧st.2.2.2.2.2.1≤1000∧0≤st.2.2.2.2.2.2.1∧st.2.2.2.2.2.2.1≤2147483647∧st.2.2.2.2.2.2.2.length≤s.length)
  (fun st:Int×Int×List GField×List Str×List Str×Int×Int×Str=>s.length - st.2.1.toNat) (fun st hst=>?_) _ ⟨0,rfl,om,sI,sI,⟨sI,sI⟩,⟨sI,sI⟩,⟨sI,sI⟩,sI,sI,sI,sI,sI⟩) fun r hr=>qO hr
 obtain ⟨i,at_,fs,ls,cs,v,st,re⟩:=st;obtain ⟨n,e,hn,ha0,ha1,hf,hl,hc,hv0,hv1,hm,ht,hre⟩:=hst;simp only [] at e ha0 ha1 hf hl hc hv0 hv1 hm ht hre;subst e;have hd:hdOK s at_ fs ls cs:=⟨ha0,ha1,zLO hf om,zFi hl om,zFi hc om⟩;unfold zH1;refine qB (xsubT ⟨om,om,om⟩) fun s68 h68=>?_
 have h68:=h68.1;refine qB (nextT s68 om) fun r69 h69=>?_
 obtain ⟨k1,k2,k3,k4,k5⟩:=h69;refine qC (fun _=>qS ⟨hd,hv0,hv1,hm,ht,hre⟩) fun h0=>?_
 have h0:r69.2.2=0:=by simpa using h0
 have k5:=k5 h0;have ew:wr (at_+r69.2.1)=at_+r69.2.1:=wrI om om;rw [ew];have hd2:hdOK s (at_+r69.2.1) fs ls cs:=⟨om,om,hd.2.2⟩;refine qC (fun _=>qS ⟨hd2,hv0,hv1,hm,ht,hre⟩) fun h1=>?_
 refine qC (fun hz=>?_) fun hz=>?_
 ·have hz:n=0:=by simpa using hz
  subst hz;refine qB (zUf r69.1 om) fun r102 hr=>?_
  obtain ⟨q1,q2,q3,q4,q5⟩:=hr;refine qC (fun _=>qS ⟨hd2,q1,q2,q3,q4,gR⟩) fun _=>?_
  rw [wrI om om];refine qN ⟨1,rfl,om,gR,gR,hf,hl,hc,q1,q2,q3,q4,gR⟩ gR
 ·have hz:n≠0:=by simpa using hz
  refine qC (fun _=>qS ⟨hd2,hv0,hv1,hm,ht,hre⟩) fun h2=>?_
  have hn2:n≤64:=by
   grind
  have ew2:wr ((n:Int)+1)=((n+1:Nat):Int):=wrI om om;rw [ew2];refine qB (zPy r69.1 om) fun r125 hr=>?_
  have hr:=zLP hr (show r69.1.length≤s.length by omega);refine qC (fun h=>?_) fun _=>?_
  ·rw [h]; exact qS ⟨hd2,hv0,hv1,hm,ht,hre⟩
  refine qB (foldK _ _ (by have:=hr.1; omega) dE) fun r146 _=>?_
  have e1:n - 1+1=n+1 - 1:=by omega
  refine qC (fun _=>?_) fun _=>?_
  ·refine qB (xappT (by have:=hl.1; grind)) fun l he=>?_
   subst he;exact qN ⟨n+1,rfl,om,gR,gR,zLO hf om,e1 ▸ zLa hl hr.2,zFi hc om,hv0,hv1,hm,ht,hre⟩ gR
  refine qB (foldK _ _ (by have:=hr.1; omega) dE) fun r146 _=>?_
  refine qC (fun _=>?_) fun _=>?_
  ·refine qB (xappT (by have:=hc.1; grind)) fun l he=>?_
   subst he;exact qN ⟨n+1,rfl,om,gR,gR,zLO hf om,zFi hl om,e1 ▸ zLa hc hr.2,hv0,hv1,hm,ht,hre⟩ gR
  ·refine qB (xappT (by have:=hf.1; grind)) fun l he=>?_
   subst he;exact qN ⟨n+1,rfl,om,gR,gR,e1 ▸ zK3 hf hr,zFi hl om,zFi hc om,hv0,hv1,hm,ht,hre⟩ gR
theorem zRI (ls cs:List Str) (B:Nat) (hB:B≤1000000) (hl:smWs 64 B ls) (hc:smWs 64 B cs):Tot (zEi ls cs) Any:=by
 unfold zEi;refine qB (Q:=Any) ?_ fun b _=>?_
 ·refine qC (fun _=>qO trivial) fun _=>qB (Q:=Any) (qC (fun h=>?_) fun _=>qO trivial) fun _ _=>qO trivial
  have h:(cs.length:Int)=1:=by simpa using h
  refine qB (xnthT om om) fun x hx=>?_
  exact qB (foldK _ _ (by have:=hc.2 x hx; omega) dE) fun _ _=>qO trivial
 refine qC (fun _=>qO trivial) fun _=>qC (fun _=>qO trivial) fun _=>?_
 refine qB (Q:=Any) (qL (fun i:Int=>0≤i∧i≤ls.length) (fun i=>ls.length - i.toNat) (fun i hi=>?_) 0 ⟨om,om⟩) fun r _=>by grind [qO]
 unfold zGt;refine qC (fun h=>?_) fun h=>qS trivial
 have h:=dT h;have h3:=hl.1;refine qB (xnthT om om) fun x hx=>?_
 refine qE (zFb x (by have:=hl.2 x hx; omega)) ?_;refine qC (fun _=>qS trivial) fun _=>?_
 rw [wrI om om];exact qN ⟨om,om⟩ om
theorem nextP (c:Str) (hc:c.length≤1000000) (i:Int) (h0:0≤i) (h1:i≤c.length):Tot (zCU c i) fun r=>r.1.length≤2000∧r.1.length≤c.length∧0≤r.2.2∧r.2.2≤c.length∧(r.2.1=0→i<r.2.2):=by
 grind [zCU,qB,xsubT,nextT,qO,wrI]
theorem zVd (c:Str) (hc:c.length≤1000000) (i:Int) (h0:0≤i) (h1:i≤c.length):Tot (zA9 c i) fun r=>0≤r.2∧r.2≤c.length:=by
 unfold zA9;refine qB (qL (P:=fun r:Int×Int=>0≤r.2∧r.2≤c.length) (fun st:Int×Int=>0≤st.1∧st.1≤64∧0≤st.2∧st.2≤c.length) (fun st:Int×Int=>c.length - st.2.toNat) (fun st hst=>?_) (0,i) ⟨sI,sI,h0,h1⟩) fun r hr=>qO hr
 obtain ⟨n,p⟩:=st;obtain ⟨a1,a2,a3,a4⟩:=hst;simp only [] at a1 a2 a3 a4;unfold zBO;refine qB (nextP c hc p a3 a4) fun r hr=>?_
 obtain ⟨k1,k2,k3,k4,k5⟩:=hr;refine qC (fun _=>qS ⟨k3,k4⟩) fun h=>?_
 have k5:=k5 (by simpa using h);refine qC (fun _=>qS ⟨k3,k4⟩) fun _=>?_
 refine qC (fun _=>qS ⟨k3,k4⟩) fun h64=>?_
 have h64:n≠64:=by simpa using h64
 refine qB (zPy _ k1) fun q _=>?_
 refine qC (fun _=>qS ⟨k3,k4⟩) fun _=>?_
 rw [wrI om om];exact qN ⟨om,om,k3,k4⟩ om
theorem zYW (s:Str) (hs:s.length≤1000000):Tot (zIv s) fun r=>0≤r.1∧r.1<4294967296:=by
 unfold zIv;refine qB (cutT s 59 hs) fun r hr=>?_
 refine qB (Q:=fun b=>b=false→r.1.length≤8) ?_ fun b hb=>?_
 ·refine qC (fun _=>qO sI) fun h=>?_
  simp only [Bool.or_eq_false_iff,decide_eq_false_iff_not] at h;exact qE (zIi _ om) (qO fun _=>by omega)
 refine qC (fun _=>qO sI) fun h=>?_
 have hb:=hb h;refine qE (zBH r.1 om) ?_;have hl:(lower r.1).length≤8:=by rw [zBn]; exact hb
 generalize lower r.1=t at hl;refine qB (qL (P:=fun x:Int ⊕ (Int×Bool)=>match x with | .inl n=>0≤n∧n<4294967296 | .inr e=>0≤e.1∧e.1<4294967296) (fun st:Int×Int=>∃ k m:Nat,st.1=(m:Int)∧st.2=(k:Int)∧k≤t.length∧m<16 ^ k) (fun st:Int×Int=>t.length - st.2.toNat) (fun st hst=>?_) (0,0) ⟨0,0,rfl,rfl,om,dE⟩) fun r hr=>by
  rcases r with r | r
  ·exact qO hr
  ·exact qO hr
 obtain ⟨n,i⟩:=st;obtain ⟨k,m,rfl,rfl,hk,hm⟩:=hst;have h8:16 ^ k≤16 ^ 8:=Nat.pow_le_pow_right om om;have e8:(16:Nat) ^ 8=4294967296:=by decide
 unfold zHy;refine qC (fun h=>?_) fun h=>qS ⟨om,om⟩
 have h:=dT h;refine qB (xnthT om om) fun _ _=>?_
 refine qB (xnthT om om) fun c _=>?_
 unfold strings_IndexByte;refine qR ?_;refine qC (fun _=>qS ⟨sI,sI⟩) fun h2=>?_
 have h2:=dF h2;have h3:Lib.indexByte [48,49,50,51,52,53,54,55,56,57,97,98,99,100,101,102] c<16:=by
  rw [zTk];split
  ·rename_i hm
   have:=List.idxOf_lt_length_of_mem hm;simp only [lC,List.length_nil] at this;omega
  ·omega
 generalize Lib.indexByte [48,49,50,51,52,53,54,55,56,57,97,98,99,100,101,102] c=d at *
 have h9:16 ^ (k+1)=16 ^ k*16:=Nat.pow_succ 16 k;refine qN ⟨k+1,16*m+d.toNat,?_,?_,om,om⟩ ?_
 all_goals grind [wrI]
theorem endT (s:Str):Tot (zIk s) fun r=>r=0→2≤s.length:=by
 grind [zIk,qO,zAj,Go.Eng.Pure.Etag.HasPrefix_eq]
theorem zXu (s:Str) (hs:s.length≤1000000):Tot (zFP s) fun r=>r.1.length≤s.length∧0≤r.2.1∧r.2.1≤s.length:=by
 unfold zFP;refine qB (qL (P:=fun r:Str×Int×Int=>r.1.length≤s.length∧0≤r.2.1∧r.2.1≤s.length) (fun st:Int×List UInt8=>0≤st.1∧st.1≤s.length∧st.2.length≤st.1) (fun st:Int×List UInt8=>s.length - st.1.toNat) (fun st hst=>?_) (0,[]) ⟨sI,sI,sI⟩) fun r hr=>qO hr
 obtain ⟨p,m⟩:=st;obtain ⟨a1,a2,a3⟩:=hst;simp only [] at a1 a2 a3;unfold zGb;refine qB (nextP s hs p a1 a2) fun r hr=>?_
 obtain ⟨k1,k2,k3,k4,k5⟩:=hr;refine qC (fun _=>qS ⟨sI,sI,sI⟩) fun h=>?_
 have k5:=k5 (by simpa using h);refine qB (zYW r.1 om) fun z hz=>?_
 refine qC (fun _=>qS ⟨sI,sI,sI⟩) fun _=>?_
 unfold zBr;refine qR (qC (fun _=>qS ⟨sI,sI,sI⟩) fun _=>?_);refine qC (fun _=>?_) fun hz0=>?_
 ·refine qB (zVd s hs _ k3 k4) fun q hq=>?_
  refine qC (fun _=>qS ⟨sI,sI,sI⟩) fun _=>?_
  unfold zBT;exact qR (qS ⟨gR,hq.1,hq.2⟩)
 rw [wrI (n:=(s.length:Int) - r.2.2) om om];refine qC (fun _=>qS ⟨sI,sI,sI⟩) fun h7=>?_
 have h7:=dF h7;rw [wrI (n:=r.2.2+z.1) om om];refine qB (xsubT ⟨om,om,om⟩) fun q hq=>?_
 refine qE (WS_eq q m om om) ?_;refine qB (xsubT ⟨om,om,om⟩) fun u hu=>?_
 refine qB (endT u) fun e he=>?_
 refine qC (fun _=>qS ⟨sI,sI,sI⟩) fun h8=>?_
 have he:=he (by simpa using h8);rw [wrI om om];refine qN ⟨om,om,gR⟩ om
theorem bodyT (s:Str) (hs:s.length≤1000000) (at_:Int) (fs:List GField) (ls cs:List Str) (h:hdOK s at_ fs ls cs):Tot (zGc s at_ ls cs) fun r=>r.1.length≤s.length∧0≤r.2.2∧r.2.2≤2*s.length:=by
 obtain ⟨h0,h1,_,hl,hc⟩:=h;unfold zGc;refine qB (xsubT ⟨om,om,om⟩) fun q hq=>?_
 have hq:=hq.1;refine qC (fun _=>?_) fun _=>?_
 ·grind [qB,zXu,qO,wrI]
 refine qC (fun h=>?_) fun _=>qO ⟨sI,om,gR⟩
 have h:=dT h;refine qB (xnthT om om) fun x hx=>?_
 have hb:=zS4 x;refine qE (zFb x (by have:=hl.2 x hx; omega)) ?_
 grind [qO,qB,xsubT,wrI]
def rqOK (B:Nat) (q:GRequest):Prop:=q.fMethod.length≤B∧q.fTarget.length≤B∧0≤q.fMinor∧q.fMinor≤1000∧smW 64 B q.fFields∧q.fBody.length≤B∧(32:UInt8) ∉ q.fMethod
def rsOK (B:Nat) (q:GResponse):Prop:=0≤q.fMinor∧q.fMinor≤1000∧0≤q.fStatus∧q.fStatus≤2147483647∧q.fReason.length≤B∧smW 64 B q.fFields∧q.fBody.length≤B
theorem rqZ (B:Nat):rqOK B ⟨[],[],0,[],[]⟩:=⟨sI,sI,sI,sI,⟨sI,sI⟩,sI,sI⟩
theorem rsZ (B:Nat):rsOK B ⟨0,0,[],[],[]⟩:=⟨sI,sI,sI,sI,sI,⟨sI,sI⟩,sI⟩
theorem smW_F {N B:Nat} {l:List GField} (h:smW N B l) (hB:B≤1000000):∀ f ∈ l,smF f:=fun f hf=>by have:=h.2 f hf; exact ⟨by have:=this.1; omega,by have:=this.2; omega⟩
theorem zUE (s:Str) (hs:s.length≤1000000):Tot (zCI s) fun r=>rqOK s.length r.1:=by
 unfold zCI;refine qB (zYT s hs) fun h hh=>?_
 obtain ⟨hd,hm,ht,hv0,hv1,hsp⟩:=hh;refine qC (fun _=>qO (rqZ _)) fun _=>?_
 refine qB (zRI _ _ _ hs hd.2.2.2.1 hd.2.2.2.2) fun e _=>?_
 refine qC (fun _=>qO (rqZ _)) fun _=>?_
 refine qE (zPA _ _ (by have:=hd.2.2.1.1; omega) (smW_F hd.2.2.1 hs) dE) ?_;refine qC (fun _=>qO (rqZ _)) fun _=>?_
 refine qB (bodyT s hs _ _ _ _ hd) fun b hb=>?_
 refine qC (fun _=>qO (rqZ _)) fun _=>qO ⟨hm,ht,hv0,hv1,hd.2.2.1,hb.1,hsp⟩
theorem zUP (s m:Str) (c:Bool) (hs:s.length≤1000000):Tot (zBz s m c) fun r=>rsOK s.length r.1:=by
 unfold zBz;refine qB (zYn s hs) fun h hh=>?_
 obtain ⟨hd,hv0,hv1,hm,ht,hr⟩:=hh;refine qC (fun _=>qO (rsZ _)) fun _=>?_
 refine qB (zRI _ _ _ hs hd.2.2.2.1 hd.2.2.2.2) fun e _=>?_
 refine qC (fun _=>qO (rsZ _)) fun _=>?_
 refine qB (Q:=fun j:Int×Int×Str=>j.2.2.length≤s.length) ?_ fun j hj=>qC (fun _=>qO (rsZ _)) fun _=>qO ⟨hv0,hv1,hm,ht,hr,hd.2.2.1,hj⟩
 unfold zBj;refine qR (qC (fun _=>qO sI) fun _=>?_);refine qC (fun _=>?_) fun _=>?_
 ·grind [qB,bodyT,qO]
 refine qC (fun _=>qO sI) fun _=>?_
 refine qC (fun _=>qO sI) fun _=>?_
 have h0:=hd.1;have h1:=hd.2.1
 grind [qB,xsubT,qO]
theorem zYb (a b:Str) (c:UInt8) (h:c ∉ a):(a++c :: b).idxOf c=a.length:=by
 grind
theorem zSl (a b:Str) (c:UInt8) (h:c ∉ a) (hs:(a++c :: b).length≤1000000):zAW (a++c :: b) [c]=some (a,b,true):=by
 rw [zHc _ _ om,if_pos sI,zYb a b c h];simp
theorem decT (n:Int) (h0:-9223372036854775808≤n) (h1:n≤9223372036854775807):Tot (strconv_Itoa n) fun s=>s.length≤21:=by
 grind [strconv_Itoa,qO,zGs]
theorem zY8 (t:Str) (h:t.length≤900000):Tot (zAY ([72,84,84,80,47,49,46,49]++32 :: t)) Any:=by
 unfold zAY;refine qC (fun _=>qO trivial) fun _=>?_
 refine qE (zSl _ t 32 dE (by simp; omega)) ?_;refine qB (cutT t 32 om) fun r7 h7=>?_
 grind [qB,zUp,qO,zIi,zTO]
theorem zYe (st:Int) (re:Str) (h0:0≤st) (h1:st≤2147483647) (hr:re.length≤100000):Tot (zA6 1 st re) fun s=>s.length≤150000:=by
 unfold zA6;refine qE (a:=[49]) (by unfold strconv_Itoa; rw [if_pos dE,itoa1]) ?_;refine qB (xcatT dE) fun s6 e6=>?_
 refine qB (xcatT (by rw [e6]; decide)) fun s7 e7=>?_
 refine qB (decT st om om) fun r8 h8=>?_
 have l7:s7.length=9:=by rw [e7,e6]; rfl
 refine qB (xcatT om) fun s13 e13=>?_
 have l13:s13.length≤30:=by grind
 refine qB (xcatT gR) fun s14 e14=>?_
 have l14:s14.length≤31:=by grind
 refine qB (xcatT om) fun s15 e15=>?_ <;> grind [qB,zY8,qO]
theorem zVe (l:List GField) (h:smT l) (s:Str) (hs:s.length≤200000):Tot (zAB (zBG l) (0,0,s)) fun r=>∀ m,r=.inl m→m.length≤100000000:=by
 have hlen:=h.1;refine qL (fun st:Int×Int×List UInt8=>0≤st.1∧st.1≤st.2.1∧st.2.1≤l.length∧(st.2.2.length:Int)≤200000+20004*st.2.1) (fun st:Int×Int×List UInt8=>l.length - st.2.1.toNat) (fun st hst=>?_) (0,0,s) ⟨sI,sI,sI,gR⟩;obtain ⟨n,y,m⟩:=st;obtain ⟨a1,a2,a3,a4⟩:=hst;simp only [] at a1 a2 a3 a4;unfold zBG;refine qC (fun hy=>?_) fun _=>qS (fun m' e=>by grind)
 have hy:=dT hy;refine qB (xnthT om om) fun f hf=>?_
 have hg:=h.2 f hf;refine qE (zLk f _ hg dE) ?_;refine qB (Q:=Any) (qC (fun _=>qO trivial) fun _=>qE (zLk f _ hg dE) (qO trivial)) fun b _=>?_
 grind [wrI,zM8,zKM,qB,qO,xcatT,XA_eq,lA]
theorem zS0 (s:Str) (l:List GField) (n:Int) (b:Str) (hs:s.length≤190000) (hl:smT l) (h0:-1≤n) (h1:n≤1000000) (hb:b.length≤1000000):Tot (zBs s l n b) Any:=by
 unfold zBs;refine qC (fun _=>qO trivial) fun _=>?_
 refine qB (xcatT gR) fun s4 e4=>?_
 have l4:s4.length≤190002:=by grind
 refine qE (XA_eq s4 [] om sI) ?_;refine qB (zVe l hl _ gR) fun r hr=>?_
 rcases r with m | e
 ·have hm:=hr m rfl
  refine qB (Q:=fun m':Str=>m'.length≤100000100) ?_ fun m' hm'=>?_
  ·refine qC (fun _=>?_) fun _=>qO om
   refine qE (zGH n om om) ?_ <;> grind [zGs,qB,xcatT,lC,XA_eq,qO]
  grind [XA_eq,qO,qB,xcatT]
 ·exact qO trivial
def rwOK (r:GResponse):Prop:=r.fMinor=1∧0≤r.fStatus∧r.fStatus≤2147483647∧r.fReason.length≤100000∧smT r.fFields
theorem frspT (r:GResponse) (m:Str) (h:rwOK r):Tot (zAJ r m) Any:=by
 obtain ⟨h1,h2,h3,h4,h5⟩:=h
 grind [zAJ,qO,qB,zYe,zBj,zS0]
def own (s:Int):Prop:=s=400∨s=406∨s=413∨s=431∨s=501∨s=502∨s=504∨s=505
theorem zUr (r:GResponse) (m:Str):zAJ r m=zAJ r [72,69,65,68]∨zAJ r m=zAJ r []:=by
 unfold zAJ zBj
 grind
noncomputable def ownR (s:Int) (m:Str):Bool:=((zIc s).bind fun r=>zAJ r m).any fun x=>x !=[]
theorem zXl:([400,406,413,431,501,502,504,505].all fun s=>ownR s [72,69,65,68]&&ownR s [])=true:=kr
theorem ownT (q:GRequest) (s:Int) (h:own s):Tot (zBK q s) fun o=>o.fToClient≠[]∧o.fToOrigin=[]:=by
 have key:ownR s [72,69,65,68]=true∧ownR s []=true:=by
  have:=zXl;simp only [List.all_cons,List.all_nil,bQ,and_true] at this;obtain ⟨a1,a2,a3,a4,a5,a6,a7,a8⟩:=this;rcases h with rfl | rfl | rfl | rfl | rfl | rfl | rfl | rfl
  all_goals omega
 have k2:ownR s q.fMethod=true:=by
  unfold ownR at key ⊢;cases hp:zIc s <;> grind [zUr]
 unfold ownR at k2;unfold zBK;cases hp:zIc s with
 | none=>grind
 | some r =>
  rw [hp,zAA] at k2;cases hf:zAJ r q.fMethod with
  | none=>grind
  | some x =>
   rw [hf] at k2;refine ⟨_,by rw [zAA,hf]; rfl,?_,rfl⟩
   simpa using k2
theorem statT (e:Int):Tot (zFe e) own:=by
 grind [zFe,own,qO]
theorem zS2 (l:List GField) (n:Str) (h:smT l) (hn:n.length≤1000):Tot (zCY l n) fun r=>r.1=(zFn l n).1:=by
 grind [zCY,zJD,smT_F,zMR,qO]
theorem zLc:∀ (m:List Str) (o:List GETag),match run Etag.tagStep (.inl:List GETag→List GETag ⊕ (List GETag×Bool×Bool)) m o with | .inl x=>x.length≤o.length+m.length | .inr r=>r.1.length=0
 | [],o=>by unfold run; simp
 | x :: m,o=>by
  have es:Etag.tagStep o x=if (Etag.parseSpec x).2 then .inl (o++[(Etag.parseSpec x).1]) else .inr (.inr ([],false,false)):=rfl
  unfold run;rw [es];cases h:(Etag.parseSpec x).2 with
  | true =>
   rw [if_pos rfl];have:=zLc m (o++[(Etag.parseSpec x).1])
   grind
  | false=>rfl
theorem zPP (l:List GField) (n:Str):(Etag.listF l n).1.length≤1000000:=by
 grind [Etag.listF,zLc,Etag.tagsOf]
theorem zXR (q:GRequest) (r:GResponse) (hq:smT q.fFields) (hr:smT r.fFields):Tot (zB6 q r) Any:=by
 unfold zB6;refine qC (fun _=>qO trivial) fun _=>?_
 refine qE (zIS _ _ (smT_F hq).1 (smT_F hq).2 dE) ?_;refine qC (fun _=>?_) fun _=>?_
 ·refine qE (Etag.List_eq _ _ (smT_F hq).1 (smT_F hq).2 dE) ?_
  refine qC (fun _=>qO trivial) fun _=>?_
  refine qE (Etag.Of_eq _ (smT_F hr).1 (smT_F hr).2) ?_;have hL:(Etag.listF q.fFields [73,102,45,78,111,110,101,45,77,97,116,99,104]).1.length≤1000000:=by
   exact zPP _ _
  generalize Etag.listF q.fFields [73,102,45,78,111,110,101,45,77,97,116,99,104]=L at *
  refine qB (Q:=Any) (qL (fun i:Int=>0≤i∧i≤L.1.length) (fun i=>L.1.length - i.toNat) (fun i hi=>?_) 0 ⟨om,om⟩) fun r _=>by grind [qO]
  grind [zED,qB,xnthT,Etag.Weak_eq,qO,wrI]
 ·refine qB (zS2 _ _ hq dE) fun _ _=>?_
  exact qB (zS2 _ _ hr dE) fun _ _=>qO trivial
theorem zYJ (n:Str) (l:List Str) (hn:n.length≤1000000) (hl:l.length≤1000) (hs:∀ x ∈ l,x.length≤1000):Tot (zF0 n l) Any:=by
 unfold zF0;refine qB (Q:=Any) (qL (fun i:Int=>0≤i∧i≤l.length) (fun i=>l.length - i.toNat) (fun i hi=>?_) 0 ⟨om,om⟩) fun r _=>by grind [qO]
 unfold zH3;refine qC (fun h=>?_) fun h=>qS trivial
 have h:=dT h;refine qB (xnthT om om) fun x hx=>?_
 refine qB (foldK _ _ hn gR) fun _ _=>?_
 refine qC (fun _=>qS trivial) fun _=>?_
 rw [wrI om om];exact qN ⟨om,om⟩ om
theorem zX5 (r:GResponse) (h:rwOK r):Tot (zDx r) rwOK:=by
 obtain ⟨h1,h2,h3,h4,h5⟩:=h;have hlen:=h5.1;unfold zDx
 refine qB (qL (P:=fun s:Int×Int×Str×List GField×Str=>s.1=1∧s.2.1=304∧s.2.2.1.length≤100∧smT s.2.2.2.1)
  (fun s:Int×Int×Int×Str×List GField×Str=>∃ k:Nat,s.1=(k:Int)∧k≤r.fFields.length∧s.2.1=1∧s.2.2.1=304∧s.2.2.2.1.length≤100∧s.2.2.2.2.1.length≤k∧∀ f ∈ s.2.2.2.2.1,smG f)
  (fun s:Int×Int×Int×Str×List GField×Str=>r.fFields.length - s.1.toNat) (fun s hs=>?_) _ ⟨0,rfl,om,h1,rfl,sI,sI,sI⟩) fun s hs=>?_
 ·obtain ⟨y,a,b,c,l,d⟩:=s
  obtain ⟨k,e,hk,k1,k2,k3,k4,k5⟩:=hs;simp only [] at e k1 k2 k3 k4 k5;subst e;unfold zGQ;refine qC (fun h=>?_) fun h=>qS ⟨k1,k2,k3,by simp only []; omega,k5⟩
  have h:=dT h;refine qB (xnthT om om) fun x hx=>?_
  have hg:=h5.2 x hx;refine qB (zYJ x.fName _ (by have:=hg.1; omega) dE dE) fun _ _=>?_
  have ew:wr ((k:Int)+1)=((k+1:Nat):Int):=wrI om om;rw [ew];refine qC (fun _=>?_) fun _=>qN ⟨k+1,rfl,om,k1,k2,k3,by simp only []; omega,k5⟩ (by simp only []; omega)
  refine qB (xappT gR) fun l' e=>?_
  subst e;refine qN ⟨k+1,rfl,om,k1,k2,k3,by simp; omega,fun f hf=>?_⟩ (by simp only []; omega)
  grind
 ·obtain ⟨a,b,c,d,e⟩:=s
  obtain ⟨k1,k2,k3,k4⟩:=hs;simp only [] at k1 k2 k3 k4;exact qO ⟨k1,gR,gR,gR,k4⟩
theorem zUQ (q:GRequest) (r:GResponse) (hq:smT q.fFields) (hr:rwOK r):Tot (zFU q r) Any:=by
 grind [zFU,qB,zXR,rwOK,zX5,frspT]
def toC (o:GOutput):Prop:=o.fToClient≠[]∧o.fToOrigin=[]
theorem sendT (q:GRequest) (r:GResponse) (hq:smT q.fFields) (hr:rwOK r):Tot (zHP q r) toC:=by
 unfold zHP;refine qB (zUQ q r hq hr) fun x _=>?_
 refine qC (fun h=>qO ⟨by simpa using h,rfl⟩) fun _=>?_
 exact qB (ownT q 502 (by unfold own; omega)) fun o ho=>qO ho
def subL (l' l:List GField):Prop:=l'.length≤l.length∧∀ f ∈ l',f ∈ l
variable {a b l:List GField}
theorem subL.rfl:subL l l:=⟨nR _,fun _ h=>h⟩
theorem subL.trans {c:List GField} (h:subL a b) (k:subL b c):subL a c:=⟨nT h.1 k.1,fun f hf=>k.2 f (h.2 f hf)⟩
theorem subL.T (h:subL a b) (k:smT b):smT a:=⟨nT h.1 k.1,fun f hf=>k.2 f (h.2 f hf)⟩
theorem subL.W {N B:Nat} (h:subL a b) (k:smW N B b):smW N B a:=⟨nT h.1 k.1,fun f hf=>k.2 f (h.2 f hf)⟩
theorem zON (l:List GField) (n:Str):subL (zKe l n) l:=⟨List.length_filter_le _ _,fun f hf=>(List.mem_filter.1 hf).1⟩
theorem zI1 (l:List GField):subL (zLN l) l:=⟨List.length_filter_le _ _,fun f hf=>(List.mem_filter.1 hf).1⟩
theorem smW_T {N B:Nat} (h:smW N B l) (hN:N≤2000) (hB:B≤10000):smT l:=⟨by have:=h.1; omega,fun f hf=>by have:=h.2 f hf; exact ⟨by have:=this.1; omega,by have:=this.2; omega⟩⟩
theorem zPx (h:smT l):midL l:=⟨by have:=h.1; omega,fun f hf=>by have:=h.2 f hf; exact ⟨by have:=this.1; omega,by have:=this.2; omega⟩⟩
theorem zQJ (l:List GField) (n:Str) (h:smT l) (hn:n.length≤1000):Tot (zAs l n) fun r=>subL r l:=by grind [qQ,zO0,smT_F,zON]
theorem zRD (l:List GField) (ns:List Str) (h:smT l) (hn:ns.length≤1000) (hs:∀ n ∈ ns,n.length≤1000):Tot (zBt l ns) fun r=>subL r l:=by
 have hl:=h.1;unfold zBt;refine qB (xappT (by simp; omega)) fun l1 e=>?_
 rw [e];refine qB (qL (P:=fun r=>subL r l) (fun st:List GField×Int=>subL st.1 l∧0≤st.2∧st.2≤ns.length) (fun st:List GField×Int=>ns.length - st.2.toNat) (fun st hst=>?_) _ ⟨by simpa using subL.rfl,sI,sI⟩) fun r hr=>qO hr
 obtain ⟨o,y⟩:=st;obtain ⟨a1,a2,a3⟩:=hst;simp only [] at a1 a2 a3;unfold zFs;refine qC (fun h2=>?_) fun _=>qS a1
 have h2:=dT h2;refine qB (xnthT om om) fun x hx=>?_
 refine qB (zQJ o x (a1.T h) (hs x hx)) fun r hr=>?_
 rw [wrI om om];exact qN ⟨hr.trans a1,by simp only []; omega,by simp only []; omega⟩ (by simp only []; omega)
theorem setT (l:List GField) (n v:Str) (h:smT l) (hn:n.length≤1000) (hv:v.length≤10000):Tot (zFu l n v) fun r=>r.length≤l.length+1∧∀ f ∈ r,smG f:=by
 have hl:=h.1;unfold zFu;refine qE (zBH n om) ?_;refine qB (qL (P:=fun r:Bool×List GField=>r.2.length≤l.length∧∀ f ∈ r.2,smG f) (fun st:Bool×List GField×Int=>0≤st.2.2∧st.2.2≤l.length∧(st.2.1.length:Int)≤st.2.2∧∀ f ∈ st.2.1,smG f) (fun st:Bool×List GField×Int=>l.length - st.2.2.toNat) (fun st hst=>?_) _ ⟨sI,sI,sI,sI⟩) fun r hr=>?_
 ·obtain ⟨d,o,y⟩:=st
  obtain ⟨a1,a2,a3,a4⟩:=hst;simp only [] at a1 a2 a3 a4;unfold zH0;refine qC (fun h2=>?_) fun _=>qS ⟨by simp only []; omega,a4⟩
  have h2:=dT h2;refine qB (xnthT om om) fun x hx=>?_
  have hg:=h.2 x hx;have hap:∀ f:GField,smG f→∀ g ∈ o++[f],smG g:=fun f hf g hgm=>by
   grind
  refine qE (zLY n om x ((smT_F h).2 x hx)) ?_;rw [wrI om om];refine qC (fun _=>?_) fun _=>?_
  ·refine qB (xappT gR) fun z e=>?_
   subst e;exact qN ⟨by simp only []; omega,by simp only []; omega,by simp; omega,hap _ hg⟩ (by simp only []; omega)
  refine qC (fun _=>?_) fun _=>qN ⟨by simp only []; omega,by simp only []; omega,by simp only []; omega,a4⟩ (by simp only []; omega)
  refine qB (xappT gR) fun z e=>?_
  subst e;exact qN ⟨by simp only []; omega,by simp only []; omega,by simp; omega,hap _ ⟨hg.1,hv⟩⟩ (by simp only []; omega)
 grind [qB,smG,qO,xappT]
theorem zYk (a b:List GField) (ha:smT a) (hb:smT b):Tot (zGo a b) fun r=>r.length≤a.length+b.length∧∀ f ∈ r,f ∈ a∨f ∈ b:=by
 have la:=ha.1;have lb:=hb.1;unfold zGo;refine qB (qL (P:=fun r:List GField=>r.length≤a.length∧∀ f ∈ r,f ∈ a) (fun st:List GField×Int=>0≤st.2∧st.2≤a.length∧(st.1.length:Int)≤st.2∧∀ f ∈ st.1,f ∈ a) (fun st:List GField×Int=>a.length - st.2.toNat) (fun st hst=>?_) _ ⟨sI,sI,sI,sI⟩) fun r hr=>?_
 ·obtain ⟨o,y⟩:=st
  obtain ⟨a1,a2,a3,a4⟩:=hst;simp only [] at a1 a2 a3 a4;unfold zIj;refine qC (fun h2=>?_) fun _=>qS ⟨om,a4⟩
  have h2:=dT h2;refine qB (xnthT om om) fun x hx=>?_
  have hg:=ha.2 x hx;have ew:wr (y+1)=y+1:=wrI om om;refine qB (Q:=fun r=>∀ e,r=.inr e→e=.inl (o,y+1)) (qL (fun i:Int=>0≤i∧i≤b.length) (fun i=>b.length - i.toNat) (fun i hi=>?_) 0 ⟨om,om⟩) fun r hr=>?_
  ·unfold zIX
   refine qC (fun h=>?_) fun h=>qS (fun e he=>by cases he)
   have h:=dT h;refine qB (xnthT om om) fun z hz=>?_
   have hgz:=hb.2 z hz;refine qB (foldK _ _ (by have:=hg.1; omega) (by have:=hgz.1; omega)) fun _ _=>?_
   refine qC (fun _=>qS (fun e he=>by grind)) fun _=>?_
   rw [wrI om om];exact qN ⟨om,om⟩ om
  ·rcases r with r | r
   ·refine qB (xappT (by simp only [List.length_singleton]; omega)) fun z e=>?_
    subst e;rw [ew];refine qN ⟨by simp only []; omega,by simp only []; omega,by simp; omega,fun f hf=>?_⟩ (by simp only []; omega) <;> grind
   ·rw [hr r _root_.rfl]
    exact qN ⟨by simp only []; omega,by simp only []; omega,by simp only []; omega,a4⟩ (by simp only []; omega)
 grind [qB,xappT,qO]
theorem zVl (e:GEntry) (r:GResponse) (he:smT e.fFields) (hr:smT r.fFields):Tot (zE7 e r) Any:=by
 grind [zE7,Etag.Of_eq,smT_F,qO,Etag.Weak_eq]
theorem zVh (e : GEntry) (r : GResponse) (a b : Int) (he : smEn e) (hf : smT e.fFields) (hr : smT r.fFields) :
  Tot (zFH e r a b) fun x=>∃ l,x=⟨e.fKeys,e.fVary,e.fSnapshot,e.fReason,l,e.fBody,a,b⟩∧l.length≤e.fFields.length+r.fFields.length∧∀ f ∈ l,f ∈ e.fFields∨f ∈ r.fFields:=by
 unfold zFH;refine qE (zLb _ (zPx hr)) ?_;have hs:=(zI1 r.fFields);refine qB (qL (P:=fun l=>subL l r.fFields) (fun st:List GField×Int=>subL st.1 r.fFields∧0≤st.2∧st.2≤6) (fun st:List GField×Int=>6 - st.2.toNat) (fun st hst=>?_) _ ⟨hs,sI,sI⟩) fun l hl=>?_
 ·obtain ⟨o,y⟩:=st
  obtain ⟨a1,a2,a3⟩:=hst;simp only [] at a1 a2 a3;unfold zG7;refine qC (fun h2=>?_) fun _=>qS a1
  have h2:=dT h2;simp only [lC,List.length_nil] at h2;refine qB (xnthT om gR) fun x hx=>?_
  have hx:x.length≤1000:=by
   simp only [List.mem_cons,List.not_mem_nil,or_false] at hx;rcases hx with rfl | rfl | rfl | rfl | rfl | rfl <;> decide
  refine qB (zQJ o x (a1.T hr) hx) fun r hr=>?_
  rw [wrI om om];exact qN ⟨hr.trans a1,by simp only []; omega,by simp only []; omega⟩ (by simp only []; omega)
 refine qE (zFw e he) ?_;have hlT:=hl.T hr;refine qE (zIS _ _ (smT_F hlT).1 (smT_F hlT).2 dE) ?_;refine qB (Q:=fun m=>subL m e.fFields) (qC (fun _=>?_) fun _=>qO subL.rfl) fun m hm=>?_
 ·grind [zQJ]
 refine qB (zYk m l (hm.T hf) hlT) fun x hx=>qO ⟨x,_root_.rfl,by have:=hx.1; have:=hm.1; have:=hl.1; omega,fun f hfm=>?_⟩
 rcases hx.2 f hfm with h | h
 ·exact .inl (hm.2 f h)
 ·exact .inr (hl.2 f h)
end Go.Eng.Pure
