/- A part. -/
import Derived.Test.YtihjhdoinmfddaaGreatDoorSend2
set_option linter.unusedVariables false
set_option linter.unusedSimpArgs false
noncomputable section
namespace Go.Eng.Pure
open Go Go.Eng
theorem WS_eq (s m:Str) (h1:s.length≤64*1073741824) (h2:m.length≤64*1073741824):zAk s m=some ((s.length:Int),(),m++s):=by
 grind [zAk,zBI,zA0]
theorem XA_eq (s m:Str) (h1:s.length≤64*1073741824) (h2:m.length≤64*1073741824):xapp m s=some (m++s):=zA0 h2 h1
theorem zLk (f:GField) (n:Str) (h:smG f) (hn:n.length≤1000):zAe f.fName n=some (fold f.fName n):=zHo _ _ (by have:=h.1; omega) om
def smR (r:GResponse):Prop:=r.fMinor=1∧r.fStatus=200∧r.fReason.length≤1987∧smT r.fFields∧r.fBody.length≤100000
theorem zQm (e:GEntry) (age:Int) (name:Str) (he:smE e) (hn:name.length≤300) (h1:-9223372036854775808≤age) (h2:age≤9223372036854775807):smR (respS e age name):=by
 obtain ⟨_,_,_,hf,hr,hb⟩:=he;have hi:=zGs age h1 h2;have hw:=zM9 hf ageN;refine ⟨rfl,rfl,by show e.fReason.length≤1987; omega,⟨?_,?_⟩,hb⟩
 ·show (viaF (zKe e.fFields ageN++[⟨ageN,Lib.itoa age⟩]) 1 name).length≤2000
  unfold viaF;have:=hw.1
  grind
 ·intro f hm
  have hm:f ∈ viaF (zKe e.fFields ageN++[⟨ageN,Lib.itoa age⟩]) 1 name:=hm;unfold viaF at hm;rw [List.mem_append,List.mem_append,lO,lO] at hm;rcases hm with (hm | hm) | hm
  ·have:=hw.2 f hm; exact ⟨om,om⟩
  ·subst hm; exact ⟨by show ageN.length≤10000; decide,gR⟩
  ·subst hm
   refine ⟨by show viaN.length≤10000; decide,?_⟩
   grind [itoa1]
theorem zOT {c:UInt8} {s:Str} (h:c ∈ s):∃ a b,s=a++c :: b∧c ∉ a:=by
 induction s with
 | nil=>cases h
 | cons x s ih =>
  by_cases hx:x=c
  ·exact ⟨[],s,by rw [hx]; rfl,sI⟩
  grind
theorem zQV (c:UInt8):∀ a:Str,c ∉ a→Lib.indexByte a c=-1
 | [],_=>rfl
 | x :: a,h=>by
  have h1:(x==c)=false:=by
   grind
  have h2:=zQV c a (fun e=>h (lN _ e));rw [Lib.indexByte,h2,h1]; rfl
theorem zTK (s:Str) (c:UInt8):zDL s [c]=some (Lib.indexByte s c):=by
 unfold zDL zA1 strings_IndexByte; rfl
theorem zZQ (s:Str) (c:UInt8):-1≤Lib.indexByte s c∧Lib.indexByte s c<s.length:=by
 by_cases h:c ∈ s <;> grind [zOT,ixB,zQV]
theorem zZS (s:Str) (c:UInt8) (hs:s.length≤1000000):Tot (zF6 s [c]) fun r=>r.length≤s.length+1∧∀ x ∈ r,x.length≤s.length:=by
 have hc:s.count c≤s.length:=List.count_le_length;have e1:wr ((s.length:Int)+1)=(s.length+1:Nat):=by rw [wrs (by omega)]
 have e2:wr (((s.count c:Nat):Int)+1)=(s.count c+1:Nat):=by rw [wrs (by omega)]
 have e3:(if ((s.length+1:Nat):Int)<(s.count c+1:Nat) then ((s.length+1:Nat):Int) else (s.count c+1:Nat))=(s.count c+1:Nat):=if_neg om;have e4:wr (((s.count c+1:Nat):Int) - 1)=s.count c:=by rw [wrI (by omega) (by omega)]; omega
 have e5:∀ i:Int,wr (i+0)=wr i:=fun i=>by rw [Int.add_zero]
 unfold zF6 zDy zCe;rw [show ((-1:Int)==0)=false from rfl,zAD,show (([c]:Str)==[])=false from rfl,zAD];refine qB (qE (a:=((s.count c+1:Nat):Int)) (by rw [← e2]; rfl) ?_) fun r hr=>qO hr
 rw [e1,e3];refine qE (a:=List.replicate (s.count c+1) ([]:Str)) (by unfold xmake; rw [if_pos om]; rfl) (qB (qF (P:=fun r=>∃ k:Nat,r.2.1=(k:Int)∧k≤s.count c∧r.1.length≤s.length∧r.2.2.length=s.count c+1∧∀ x ∈ r.2.2,x.length≤s.length) (s.count c) (fun n r=>r.2.1=(n:Int)∧r.1.length≤s.length∧r.2.2.length=s.count c+1∧∀ x ∈ r.2.2,x.length≤s.length) ?_ ⟨rfl,sI,sI,gR⟩) fun r hr=>?_)
 ·rintro n ⟨t,_,m⟩ hn ⟨rfl,h1,h2,h3⟩
  simp only at h1 h2 h3;unfold zBV;simp only [e1,e3,e4,zTK,zAA];have hi:=zZQ t c;refine qC (fun h=>qC (fun _=>qO ⟨n,rfl,hn,h1,h2,h3⟩) fun h5=>?_) fun _=>qO ⟨n,rfl,hn,h1,h2,h3⟩
  have h:n<s.count c:=by simpa using h
  have h5:=dF h5;rw [e5,wrI om om,wrI om (by simp; omega)];refine qB (xsubT ⟨om,om,om⟩) fun x hx=>qE (zAF (show n<m.length by omega)) (qE (zLj _ (show n<m.length by omega)) (qB (xsubT ⟨om,by simp; omega,om⟩) fun y hy=>qO ⟨h,by show wr (_+1)=_; rw [wrs om],by simp only; omega,by simpa using h2,fun z hz=>?_⟩))
  rcases List.mem_or_eq_of_mem_set hz with h | rfl
  ·exact h3 z h
  ·omega
 grind [qE,zAF,zLj,wrs,qB,xsubT,qO]
theorem subDT (s:Str) (b:Bool) (hs:s.length≤1000000):Tot (zC8 s b) Any:=by
 refine qE (zBH s om) (qB (Q:=Any) (qH (by rw [zBn]; omega) trivial fun n hn=>qE (zAF hn) (qC (fun _=>qO trivial) fun _=>qO rfl)) fun r _=>by grind [qO])
theorem tagT (s:Str) (hs:s.length≤1000000):Tot (zDG s) Any :=
 qB (zZS s 45 hs) fun r hr=>qB (Q:=Any) (qH om trivial fun n hn=>qB (subDT _ _ gR) fun _ _=>qC (fun _=>qO trivial) fun _=>qO rfl) fun r _=>by grind [qO]
def langS (s:Str):Bool:=(zDG s).getD false
theorem zRR (s:Str) (hs:s.length≤1000000):zDG s=some (langS s):=(tagT s hs).val _
theorem zTt {σ σ' ρ:Type} {body:σ→Option (σ ⊕ ρ)} {body':σ'→Option (σ' ⊕ ρ)} (φ:σ→σ') (h:∀ s,body' (φ s)=(body s).map (Sum.map φ id)) {s:σ} {r:ρ} (hw:zAB body s=some r):zAB body' (φ s)=some r:=by
 obtain ⟨n,hn⟩:=zHV hw;refine zIL (n:=n) ?_;clear hw
 induction n generalizing s <;> grind [loopN]
theorem zTi (s:Str) (x:List Str×Int×Bool×Int):zGm s (x.1,x.2.2.1,x.2.1,x.2.2.2)=(zAg s 59 x).map (Sum.map (fun x=>(x.1,x.2.2.1,x.2.1,x.2.2.2)) id):=by
 obtain ⟨o,f,q,i⟩:=x;unfold zGm zAg;simp only [];cases decide (i<(s.length:Int)) with
 | false=>rfl
 | true =>
  simp only [zAG];cases hx:xnth s i with
  | none=>cases q <;> rfl
  | some c =>
   have key : ∀ b : Bool, (bif b then some (Sum.inl (o, q, f, wr (wr (i + 1) + 1))) else
     (some c).bind fun c32=>bif c32==34 then some (.inl (o,!q,f,wr (i+1))) else (some c).bind fun c34 =>
      bif c34==59&&!q then (xsub s f i).bind fun s38=>(xapp o [s38]).bind fun l44=>some (.inl (l44,q,wr (i+1),wr (i+1))) else some (.inl (o,q,f,wr (i+1)))) =
    (bif b then some (Sum.inl (o,f,q,wr (wr (i+1)+1))) else
     (some c).bind fun c33=>bif c33==34 then some (.inl (o,f,!q,wr (i+1))) else (some c).bind fun c35 =>
      bif c35==59&&!q then (xsub s f i).bind fun s39=>(xapp o [s39]).bind fun l45=>some (.inl (l45,wr (i+1),q,wr (i+1))) else some (.inl (o,f,q,wr (i+1))):Option ((List Str×Int×Bool×Int) ⊕ (List Str×Int))).map (Sum.map (fun x=>(x.1,x.2.2.1,x.2.1,x.2.2.2)) id):=by
    grind [xsub,xapp]
   cases q
   ·exact key false
   grind
theorem zX2 (s:Str) (hs:s.length≤1073741824):zKW s=some (cutS 59 s):=by
 have h:=zYf s 59 dE hs;obtain ⟨o,g,h1,h2,h3,h4⟩:=zRQ s 59 dE hs s.length 0 0 false [] om om om om sI;have h5:=zTt (body':=zGm s) _ (zTi s) h1
 grind [zME,zKW]
theorem zTk (s:Str) (c:UInt8):Lib.indexByte s c=if c ∈ s then (s.idxOf c:Int) else -1:=by
 grind [zOT,ixB,zQV]
theorem zZH {s:Str} {c:UInt8} (h:c ∈ s):s.idxOf c<s.length:=List.idxOf_lt_length_of_mem h
theorem zHc (s:Str) (c:UInt8) (hs:s.length≤1073741824):zAW s [c]=some (if c ∈ s then (s.take (s.idxOf c),s.drop (s.idxOf c+1),true) else (s,[],false)):=by
 unfold zAW zEo zA1 strings_IndexByte;simp only [];rw [zTk,zAA];by_cases h:c ∈ s
 ·have hl:=zZH h
  rw [if_pos h,if_pos h,show decide ((0:Int)≤(s.idxOf c:Int))=true from decide_eq_true om,zAG,zG4 om,zAA,
   show ((([c]:Str).length:Nat):Int)=1 from rfl,wrs om,zCS om,zAA,zAA]
 grind
def oneS (m:Str):Str×Str×Bool :=
  if 61 ∈ m∧tok (m.take (m.idxOf 61))=true then
    (if tok (m.drop (m.idxOf 61+1)) then (lower (m.take (m.idxOf 61)),m.drop (m.idxOf 61+1),true)
     else (lower (m.take (m.idxOf 61)),(unq (m.drop (m.idxOf 61+1))).1,(unq (m.drop (m.idxOf 61+1))).2))
  else ([],[],false)
theorem zY3 (m:Str) (hm:m.length≤1073741824):zJ7 m=some (oneS m):=by
 unfold zJ7 oneS;rw [zHc m 61 hm,zAA]
 grind [zBf,zBH,zK2]
def parL:List Str→List GParam→Option (List GParam)
 | [],acc=>some acc
 | m :: l,acc=>if trim m=[] then parL l acc else if (oneS (trim m)).2.2 then parL l (acc++[⟨(oneS (trim m)).1,(oneS (trim m)).2.1⟩]) else none
def parC (x:Str) (l:List Str):Str×List GParam×Bool :=
 if trim x=[] then ([],[],false) else match parL l [] with | some ps=>(trim x,ps,true) | none=>([],[],false)
def parS (s:Str):Str×List GParam×Bool :=
 match cutS 59 s with
 | []=>([],[],false)
 | x :: l=>parC x l
def parF (acc:List GParam) (m:Str):List GParam ⊕ (List GParam ⊕ (Str×List GParam×Bool)) :=
 if trim m=[] then .inl acc else if (oneS (trim m)).2.2 then .inl (acc++[⟨(oneS (trim m)).1,(oneS (trim m)).2.1⟩]) else .inr (.inr ([],[],false))
theorem zPZ:∀ (l:List Str) (acc:List GParam),run parF .inl l acc=match parL l acc with | some ps=>.inl ps | none=>.inr ([],[],false)
 | [],acc=>rfl
 | m :: l,acc=>by
  unfold run parF parL;by_cases h:trim m=[]
  ·rw [if_pos h,if_pos h]; exact zPZ l acc
  ·rw [if_neg h,if_neg h]
   cases h2:(oneS (trim m)).2.2 with
   | true=>rw [if_pos rfl,if_pos rfl]; exact zPZ l _
   | false=>grind
theorem zW6 (a:UInt8) (s:Str):cutS a s≠[]:=by
 have:∀ (s:Str) st cur,segs a st cur s≠[]:=by
  intro s
  induction s <;> grind [segs]
 exact this s 0 []
theorem zO4 (s:Str) (hs:s.length≤1000000):zGS s=some (parS s):=by
 obtain ⟨c1,c2⟩:=zNm 59 s;unfold zGS parS;rw [zX2 s om,zAA];cases hc:cutS 59 s with
 | nil=>grind [zW6]
 | cons x l =>
  rw [hc] at c1 c2;have hx:=c1 x lS;have hl:l.length≤1000000:=by grind
  show _=some (parC x l)
  rw [zEW,zAA,zJh _ om,zAA];unfold parC;by_cases ht:trim x=[]
  ·grind
  ·rw [show (trim x==[])=false by simpa using ht,zAD,if_neg ht]
   have hsub:xsub (x :: l) 1 ((x :: l).length:Int)=some l:=by
    have:=zCS (l:=x :: l) (i:=1) sI
    simpa using this
   rw [hsub,zAA];have:=zHN (fun (acc:List GParam) i=>(acc,i)) l parF .inl (zFA l) (fun n acc=>acc.length≤n) [] (nR 0) ?_ ?_
   ·grind [zPZ]
   ·intro n hn acc hI
    have hm:=c1 l[n] (lN _ (lM hn));have htl:=zI8 l[n];refine ⟨?_,?_⟩
    ·unfold zFA parF
     simp only [];rw [zAV hn,zAG,zAF hn,zAA,zJh _ om,zAA];by_cases h1:trim l[n]=[]
     ·rw [h1,if_pos rfl,wrs om]; rfl
     ·rw [show (trim l[n]==[])=false by simpa using h1,zAD,if_neg h1,zY3 _ om,zAA]
      cases h2:(oneS (trim l[n])).2.2 with
      | true =>
       rw [Bool.not_true,zAD,if_pos rfl,zA0 om (zDk _),zAA,wrs om]
      | false=>grind
    grind [parF]
   grind [zFA]
theorem zKU (s:Str):(parS s).1.length≤s.length∧(parS s).2.1.length≤s.length+1:=by
 obtain ⟨c1,c2⟩:=zNm 59 s;have hp:∀ (l:List Str) (acc ps:List GParam),parL l acc=some ps→ps.length≤acc.length+l.length:=by
  intro l
  induction l <;> grind [parL]
 grind [parS,zI8,parC]
def noT:GMediaType:=⟨[],[],[]⟩
def zEO (s:Str):GMediaType×Bool :=
 if (parS s).2.2 = true ∧ (47 : UInt8) ∈ (parS s).1 ∧ tok ((parS s).1.take ((parS s).1.idxOf 47)) = true ∧ tok ((parS s).1.drop ((parS s).1.idxOf 47 + 1)) = true ∧
   ¬ ((parS s).1.take ((parS s).1.idxOf 47)=[42]∧(parS s).1.drop ((parS s).1.idxOf 47+1)≠[42]) then
  (⟨lower ((parS s).1.take ((parS s).1.idxOf 47)),lower ((parS s).1.drop ((parS s).1.idxOf 47+1)),(parS s).2.1⟩,true)
 else (noT,false)
theorem zMf (s:Str) (hs:s.length≤1000000):zA4 s=some (zEO s):=by
 obtain ⟨l1,_⟩:=zKU s;unfold zA4 zEO;rw [zO4 s hs,zAA];generalize parS s=q at *
 obtain ⟨m,ps,ok⟩:=q;simp only [] at l1 ⊢;cases ok with
 | false=>rw [if_neg (by simp)]; rfl
 | true =>
  rw [Bool.not_true,zAD,zHc m 47 (by omega),zAA];by_cases h:(47:UInt8) ∈ m
  ·have h1:(m.take (m.idxOf 47)).length≤1073741824:=by grind
   have h2:(m.drop (m.idxOf 47+1)).length≤1073741824:=by grind
   rw [if_pos h];simp only [];generalize m.take (m.idxOf 47)=a at *
   generalize m.drop (m.idxOf 47+1)=b at *
   rw [zBf a h1,zAA,zBf b h2];cases ta:tok a with
   | false=>rw [if_neg (by simp)]; rfl
   | true =>
    cases tb:tok b with
    | false=>rw [if_neg (by simp)]; rfl
    | true =>
     rw [Bool.not_true,zAD,zAA,zAA,Bool.not_true,Bool.false_or];by_cases hab:a=[42]∧b≠[42]
     ·rw [show ((a==[42])&&(b !=[42]))=true by grind,zAG,if_neg (fun hh=>hh.2.2.2.2 hab)]; rfl
     grind [zBH]
  ·rw [if_neg h,if_neg (fun hh=>h hh.2.1)]
   simp only [];rw [zBf m (by omega),zAA];have:zAZ []=some false:=by rw [zBf _ (by decide)]; rfl
   rw [this];cases tok m <;> rfl
def typeS (s:Str):GMediaType×Bool:=if ((!(zEO s).2||(zEO s).1.fType==[42])||(zEO s).1.fSub==[42])=true then (noT,false) else ((zEO s).1,true)
theorem zRr (s:Str) (hs:s.length≤1000000):zCV s=some (typeS s):=by
 unfold zCV typeS;rw [zMf s hs,zAA];cases ((!(zEO s).2||(zEO s).1.fType==[42])||(zEO s).1.fSub==[42]) <;> rfl
theorem zUJ (s:Str):(typeS s).1.fParams.length≤s.length+1:=by
 grind [zKU,typeS,noT,zEO]
def canS (k:Int) (s:Str):Str :=
 if k=4∧lower s=[120,45,103,122,105,112] then [103,122,105,112] else if k=4∧lower s=[120,45,99,111,109,112,114,101,115,115] then [99,111,109,112,114,101,115,115] else lower s
theorem zQf (k:Int) (s:Str) (hs:s.length≤1073741824):zA8 k s=some (canS k s):=by
 grind [zA8,canS,zBH]
def sameN (p x:GParam):Bool:=x.fName==p.fName
def zOg:List GParam→List GParam→Bool
 | _,[]=>true
 | prev,p :: l=>(p.fName !=[113]&&!(prev.any (sameN p)))&&zOg (prev++[p]) l
theorem zOJ (ms:List GParam) (f:GParam→Option Bool) (p:GParam→Bool) (hl:ms.length≤1073741824) (h:∀ m ∈ ms,f m=some (p m)):zAR ms f=some (ms.any p):=by
 have key:∀ (k n:Nat),n+k=ms.length→∃ r,zAB (zAM ms f) (n:Int)=some r∧(match r with | .inr i=>decide (0≤i) | .inl _=>false)=(ms.drop n).any p:=by
  intro k
  induction k with
  | zero =>
   simp_all [zAC,zAM]
  | succ k ih =>
   intro n hn;have hlt:n<ms.length:=by omega
   have hb:zAM ms f (n:Int)=some (if p ms[n] then .inr (.inr (n:Int)) else .inl ((n+1:Nat):Int)):=by
    grind [zAM,zAF,wrs]
   rw [lD hlt,List.any_cons];cases hp:p ms[n] with
   | true =>
    rw [hp,if_pos rfl] at hb;exact ⟨_,zAC hb,gR⟩
   | false =>
    rw [hp,if_neg dE] at hb;obtain ⟨r,h1,h2⟩:=ih (n+1) om
    grind [zAH]
 obtain ⟨r,h1,h2⟩:=key ms.length 0 om
 grind [zAR,zAm]
theorem zSg (l : List GParam) (hl : l.length ≤ 1000001) (body : (Bool × Int) → Option ((Bool × Int) ⊕ Bool))
    (h:∀ (n:Nat) (hn:n<l.length) (b:Bool),body (b,(n:Int))=some (.inl (b&&(l[n].fName !=[113]&&!((l.take n).any (sameN l[n]))),((n+1:Nat):Int)))) (h':∀ b,body (b,(l.length:Int))=some (.inr b)) :
    ∀ (k n:Nat) (b:Bool),n+k=l.length→zAB body (b,(n:Int))=some (b&&zOg (l.take n) (l.drop n)):=by
  intro k
  induction k with
  | zero =>
    grind [zAC,zOg]
  | succ k ih =>
    intro n b hn;have hlt:n<l.length:=by omega
    rw [zAH (h n hlt b),ih (n+1) _ om]
    conv=>rhs; rw [lD hlt]
    grind [zOg,zAa]
def zTz (s:Str):Bool:=(typeS s).2&&zOg [] (typeS s).1.fParams
theorem zVb (s:Str) (hs:s.length≤1000000):zCl () s=some (lower s,zTz s):=by
 have hl:=zUJ s;unfold zCl zTz;rw [zRr s hs,zAA];have:=zSg (typeS s).1.fParams om (zBQ (typeS s)) ?_ ?_ (typeS s).1.fParams.length 0 (typeS s).2 om
 ·grind [zBH]
 ·intro n hn b
  unfold zBQ;simp only [];rw [zAV hn,zAG,zAF hn,zAA,wrs om];generalize hp:(typeS s).1.fParams[n]=p
  have hc:zAR ((typeS s).1.fParams.take n) (fun x0=>zCC x0 p)=some (((typeS s).1.fParams.take n).any (sameN p)) :=
   zOJ _ _ _ gR (fun m _=>rfl)
  grind [zG4]
 grind [zBQ]
def txtOK (s:Str):Bool:=((decide (1≤s.length)&&decide (s.length≤100))&&txt s)&&(trim s==s)
def domF (n:Str):Gvariants_domain:=if kindF n=1 then .media else if kindF n=2 then .tags else if kindF n=3∨kindF n=4 then .words (kindF n) else .texts
def formD:Gvariants_domain→Str→Str×Bool
 | .media,s=>(lower s,zTz s)
 | .tags,s=>(lower s,langS s)
 | .words k,s=>(canS k s,tok s&&s !=[42])
 | .texts,s=>(s,txtOK s)
theorem zRM (n:Str) (hn:n.length≤1073741824):zCP n=some (domF n):=by
 grind [zCP,domF,zP5]
theorem zUW (d:Gvariants_domain) (s:Str) (hs:s.length≤1000000):zBo d s=some (formD d s):=by
 cases d with
 | media=>exact zVb s hs
 | tags =>
  show zC1 () s=some (lower s,langS s)
  grind [zC1,zBH,zRR]
 | words k =>
  show zBy k s=some (canS k s,tok s&&s !=[42])
  grind [zBy,zQf,zBf]
 | texts =>
  show zCj () s=some (s,txtOK s)
  grind [zCj,txtOK,zIi,zJh]
theorem zRZ (n a b:Str) (hn:n.length≤1073741824) (ha:a.length≤1000000) (hb:b.length≤1000000):zES n a b=some ((formD (domF n) a).1==(formD (domF n) b).1):=by
 grind [zES,zRM,zUW]
theorem zU9 (a b:Str):fold a b=(lower a==lower b):=by
 grind [fold,zBn]
def chk {α:Type} (ok:List α→α→Bool):List α→List α→Bool
 | _,[]=>true
 | prev,x :: l=>ok prev x&&chk ok (prev++[x]) l
theorem zVq {α : Type} (l : List α) (ok : List α → α → Bool) (body : Int → Option (Int ⊕ (Unit ⊕ Bool)))
    (h:∀ (n:Nat) (hn:n<l.length),body (n:Int)=some (if ok (l.take n) l[n] then .inl ((n+1:Nat):Int) else .inr (.inr false))) (h':body (l.length:Int)=some (.inr (.inl ()))) :
    zAB body 0=some (if chk ok [] l then .inl () else .inr false):=by
  have key:∀ (k n:Nat),n+k=l.length→zAB body (n:Int)=some (if chk ok (l.take n) (l.drop n) then .inl () else .inr false):=by
    intro k
    induction k with
    | zero =>
      intro n hn;have:n=l.length:=by omega
      subst this;rw [zAC h',List.drop_length]; rfl
    | succ k ih =>
      intro n hn;have hlt:n<l.length:=by omega
      have hb:=h n hlt
      conv=>rhs; rw [lD hlt]
      unfold chk;cases hs:ok (l.take n) l[n] with
      | true=>rw [hs] at hb; rw [zAH hb,ih (n+1) om,Bool.true_and,zAa hlt]
      | false=>grind [zAC]
  have:=key l.length 0 om
  grind
def okV (d:Gvariants_domain) (prev:List Str) (v:Str):Bool:=(formD d v).2&&!(prev.any fun u=>(formD d u).1==(formD d v).1)
def axV (a:GAxis):Bool:=(decide (1≤a.fValues.length)&&decide (a.fValues.length≤16))&&chk (okV (domF a.fName)) [] a.fValues
def smA (a:GAxis):Prop:=a.fName.length≤1000000∧∀ v ∈ a.fValues,v.length≤1000000
theorem zL6 {β:Type} (m:List (Str×β)) (k k':Str) (v z:β):(mget (mset m k v) k' z).1=if k'==k then v else (mget m k' z).1:=by
 unfold mget;rw [zJf]
 grind
theorem zSP (a : GAxis) (h : smA a) (hl : a.fValues.length ≤ 16) : ∀ (k n : Nat) (m : List (Str × Bool)), n + k = a.fValues.length → (∀ q, (mget m q false).1 = (a.fValues.take n).any fun u => (formD (domF a.fName) u).1 == q) →
  zAB (zBU a (domF a.fName)) ((n:Int),m)=some (if chk (okV (domF a.fName)) (a.fValues.take n) (a.fValues.drop n) then .inl () else .inr false):=by
 intro k
 induction k with
 | zero =>
  intro n m hn hI;have:n=a.fValues.length:=by omega
  subst this;have hb:zBU a (domF a.fName) ((a.fValues.length:Int),m)=some (.inr (.inl ())):=by
   unfold zBU
   grind
  rw [zAC hb,List.drop_length]; rfl
 | succ k ih =>
  intro n m hn hI;have hlt:n<a.fValues.length:=by omega
  have hm:=h.2 _ (lM hlt)
  conv=>rhs; rw [lD hlt]
  unfold chk;generalize hv:a.fValues[n]=v at *
  have hb:zBU a (domF a.fName) ((n:Int),m)=some (if okV (domF a.fName) (a.fValues.take n) v then .inl (((n+1:Nat):Int),mset m (formD (domF a.fName) v).1 true) else .inr (.inr false)):=by
   grind [zBU,okV,zAF,zUW,wrs]
  cases ho:okV (domF a.fName) (a.fValues.take n) v with
  | false=>grind [zAC]
  | true =>
   rw [ho] at hb;rw [zAH hb,ih (n+1) _ om ?_,Bool.true_and,zAa hlt,hv]
   grind [zL6,zAa]
theorem lt1 (n:Nat):decide ((n:Int)<1)=!decide (1≤n):=by
 grind
theorem gt16 (n:Nat):decide ((16:Int)<(n:Int))=!decide (n≤16):=by
 grind
theorem gt4 (n:Nat):decide ((4:Int)<(n:Int))=!decide (n≤4):=by
 grind
theorem zUO (a:GAxis) (h:smA a):zDp a=some (axV a):=by
 unfold zDp axV;rw [lt1,gt16];by_cases h1:1≤a.fValues.length
 ·by_cases h2:a.fValues.length≤16
  ·rw [decide_eq_true h1,decide_eq_true h2,zRM _ (by have:=h.1; omega)]
   simp only [Bool.not_true,Bool.or_self,zAD,zAA,Bool.and_self,Bool.true_and];have:=zSP a h h2 a.fValues.length 0 [] om (fun q=>rfl)
   grind
  grind
 grind
def axN (a:GAxis):Bool:=(tok a.fName&&(lower a.fName==a.fName))&&axV a
def okA (prev:List GAxis) (a:GAxis):Bool:=axN a&&!(prev.any fun b=>a.fName==b.fName)
def valB (l:List GAxis):Bool:=(decide (1≤l.length)&&decide (l.length≤4))&&chk okA [] l
theorem zIK (l:List GAxis) (h:∀ a ∈ l,smA a):zBZ l=some (valB l):=by
 unfold zBZ valB;rw [lt1,gt4];by_cases h1:1≤l.length
 ·by_cases h2:l.length≤4
  ·rw [decide_eq_true h1,decide_eq_true h2]
   simp only [Bool.not_true,Bool.or_self,zAD,Bool.and_self,Bool.true_and];have:=zVq l okA (zDM l) ?_ ?_
   ·rw [this,zAA]
    cases chk okA [] l <;> rfl
   ·intro n hlt
    have hm:=h _ (lM hlt);unfold zDM okA axN;rw [zAV hlt,zAG,zAF hlt,zAA];generalize hv:l[n]=a at *
    have hn:=hm.1;rw [zBf _ om,zAA,zBH _ om,zAA,zUO a hm];have hw:zAB (zDY a (l.take n)) 0=some (if (l.take n).any (fun b=>a.fName==b.fName) then .inr (.inr (.inr false)) else .inl ()):=by
     refine zLu (ρ:=Unit ⊕ (Int ⊕ (Unit ⊕ Bool))) _ (l.take n) _ (.inr (.inr (.inr false))) (.inl ()) ?_ ?_
     ·intro i hi
      have hi2:i<n:=by rw [List.length_take] at hi; omega
      unfold zDY;rw [zAV hi,zAG,zAF hi,zAA,wrs om];cases a.fName==(l.take n)[i].fName <;> simp
     ·unfold zDY
      rw [zC0 (nR _),zAD]
    rw [zG4 om,wrs om];simp only [zAA];rw [hw];have e:(lower a.fName !=a.fName)=!(lower a.fName==a.fName):=rfl;rw [e];cases tok a.fName <;> cases lower a.fName==a.fName <;> cases axV a <;> cases (l.take n).any (fun b=>a.fName==b.fName) <;> rfl
   grind [zDM]
  grind
 grind
def sp (c:UInt8):Bool:=c==32
theorem zRU (s:Str):(s.dropWhile sp).length≤s.length:=(List.dropWhile_sublist _).length_le
theorem zJB (cs:Str):∀ s:Str,(Lib.indexAny s cs=-1∧s.takeWhile (fun c=>!cs.contains c)=s)∨(Lib.indexAny s cs=((s.takeWhile (fun c=>!cs.contains c)).length:Int)∧(s.takeWhile (fun c=>!cs.contains c)).length<s.length)
 | []=>.inl ⟨rfl,rfl⟩
 | c :: s=>by
  rw [Lib.indexAny,List.takeWhile_cons];cases hc:cs.contains c with
  | true=>grind
  | false =>
   rcases zJB cs s with ⟨h1,h2⟩ | ⟨h1,h2⟩
   all_goals grind
theorem zVK (s:Str):zCn s [32]=some (s.dropWhile sp):=by
 unfold zCn;cases s with
 | nil=>rfl
 | cons c s =>
  have h1:((c :: s==[])||(([32]:Str)==[]))=false:=rfl;rw [h1,zAD]
  show ((zBM (c :: s) 32).bind fun r10=>some r10)=_
  unfold zBM;have:=zL2 (zCk 32) sp (fun s c=>by
   unfold zCk;rw [zQr,zAG,zEW,zAA,zAA];have hx:xsub (c :: s) 1 ((c :: s).length:Int)=some s:=by
    have:=zCS (l:=c :: s) (i:=1) sI
    simpa using this
   grind [sp]) (by rfl) (c :: s)
  rw [this]; rfl
theorem zZZ (s:Str) (hs:s.length≤1000000):Tot (zFV s) fun r=>0≤r∧r≤s.length:=by
 refine qB (Q:=fun r:Unit ⊕ Int=>match r with | .inr e=>0≤e∧e≤s.length | .inl _=>True) (qL (fun i:Int=>0≤i∧i≤s.length+1) (fun i=>(s.length+2 - i).toNat) (fun i hi=>?_) 1 om) fun r hr=>?_
 ·unfold zBL
  refine qC (fun h=>?_) fun _=>qS trivial
  have h:=dT h;rw [wrI (n:=i+1) om om,wrI om om];exact qB (xnthT om h) fun c _=>qC (fun _=>qN om om) fun _=>qC (fun _=>qS ⟨om,om⟩) fun _=>qN om om
 ·cases r with
  | inr e=>exact qO hr
  | inl _=>exact qO om
theorem zZY (s:Str) (hs:s.length≤100000):Tot (zHK s) fun r=>(∀ v ∈ r.1,v.length≤s.length)∧r.1.length≤s.length:=by
 unfold zHK;refine qB (Q:=fun b=>b=false→2≤s.length) (qC (fun _=>qO sI) fun h=>qB (xnthT om (by simp at h; omega)) fun _ _=>qO fun _=>by simp at h; omega) fun b hb=>?_
 refine qB (Q:=fun b=>b=false→2≤s.length) (qC (fun _=>qO sI) fun h=>qB (xnthT (by rw [wrI om om]; have:=hb h; omega) (by rw [wrI om om]; omega)) fun _ _=>qO fun _=>hb h) fun b hb=>qC (fun _=>qO sI) fun h=>?_
 have h:=hb h;rw [wrI om om];refine qB (xsubT om) fun x hx=>qB (qL (fun s':Str×List Str=>s'.2.length+s'.1.length≤s.length∧∀ v ∈ s'.2,v.length≤s.length) (fun s'=>s'.1.length) ?_ _ ⟨by simp; omega,sI⟩) fun r hr=>qO hr
 rintro ⟨t,o⟩ ⟨h1,h2⟩;simp only at h1 h2;have hd:=zRU t;refine qE (zVK t) ?_;generalize t.dropWhile sp=t' at hd;refine qC (fun _=>qS ⟨h2,by simp only; omega⟩) fun hn=>?_
 have hp:0<t'.length:=List.length_pos_iff.2 (by simpa using hn);refine qB (Q:=fun r:Int=>0≤r∧r≤t'.length) ?_ fun n hn=>qB (xnthT om om) fun c _=>qB (Q:=fun r:Int=>0≤r∧r≤t'.length) (qC (fun _=>qB (zZZ t' om) fun r hr=>qO hr) fun _=>qO hn) fun m hm=>?_
 ·have hi : Lib.indexAny t' [32, 9, 40, 41, 44, 34] < t'.length := by
   rcases zJB [32,9,40,41,44,34] t' with ⟨h,_⟩ | ⟨h,h2⟩ <;> omega
  unfold zI6 zAh;rw [if_pos ⟨dE,dE,dE,om⟩];exact qC (fun h=>qO ⟨dT h,om⟩) fun _=>qO om
 refine qB (Q:=fun b=>b=false→0<m) (qC (fun _=>qO sI) fun h=>?_) fun b hb=>qC (fun _=>qS ⟨sI,sI⟩) fun h=>?_
 ·have h:0<m:=by simp at h; omega
  exact qB (Q:=Any) (qC (fun h=>qB (xnthT hm.1 (dT h)) fun _ _=>qO trivial) fun _=>qO trivial) fun _ _=>qO fun _=>h
 have h:=hb h;refine qB (xsubT om) fun y hy=>qB (xnthT om om) fun c _=>qB (Q:=fun j:Str ⊕ ((Str×List Str) ⊕ (List Str×Bool))=>match j with | .inl v=>v.length≤y.length | .inr e=>e=.inr ([],false)) (qC (fun _=>qE (zK2 y om) (qC (fun _=>qO rfl) fun _=>qO (zN2 y))) fun _=>qO (nR _)) fun j hj=>?_
 cases j with
 | inr e=>subst hj; exact qS ⟨sI,sI⟩
 | inl v =>
  refine qB (xappT (by simp; omega)) fun l hl=>qB (xsubT om) fun z hz=>qN ⟨?_,fun w hw=>?_⟩ ?_
  ·simp only; rw [hl,lA,List.length_singleton]; omega
  ·simp only at hw
   rw [hl,List.mem_append,lO] at hw;rcases hw with hw | rfl
   ·exact h2 w hw
   ·simp only at hj; omega
  ·simp only; omega
def midL (l:List GField):Prop:=l.length≤1000000∧∀ f ∈ l,f.fName.length≤100000∧f.fValue.length≤100000
variable {l:List GField}
theorem zTa (h:midL l):l.length≤1073741824∧∀ f ∈ l,smF f:=⟨by have:=h.1; omega,fun f hf=>by have:=h.2 f hf; exact ⟨om,om⟩⟩
theorem zUc (h:smL l):midL l:=⟨by have:=h.1; omega,fun f hf=>by have:=h.2 f hf; omega⟩
theorem zKA (h:midL l) (n:Str):(allM l n).length≤64∧∀ m ∈ allM l n,m.length≤100000:=⟨zGx l n,zHn l n 100000 fun f hf=>(h.2 f hf).2⟩
end Go.Eng.Pure
namespace Go.Eng.Pure
open Go Go.Eng
def smX (axes:List GAxis):Prop:=axes.length≤64∧∀ a ∈ axes,(a.fName.length≤10000∧∀ v ∈ a.fValues,v.length≤10000)∧a.fValues.length≤10000
theorem smX_A {axes:List GAxis} (h:smX axes):∀ a ∈ axes,smA a:=fun a ha=>by
 obtain ⟨⟨h1,h2⟩,_⟩:=h.2 a ha;exact ⟨om,fun v hv=>nT (h2 v hv) om⟩
theorem zZW:smX []:=⟨sI,sI⟩
theorem axesT (l:List GField) (hl:smL l):Tot (zFB l) fun r=>smX r.1:=by
 obtain ⟨b1,b2⟩:=zTa (zUc hl);have h1:=fun n=>zGx l n
 have h2:=fun n=>zHn l n 10000 fun f hf=>(hl.2 f hf).2
 refine qE (zIS l _ b1 b2 dE) (qC (fun _=>qO zZW) fun _=>qB (Q:=fun ms=>ms.length≤64∧∀ x ∈ ms,x.length≤10000) (qQ (zIH l _ b1 b2 dE) ⟨h1 _,h2 _⟩) fun ms hms=>qB (qF (P:=fun r:List GAxis ⊕ (List GAxis×Int)=>match r with | .inl x=>smX x | .inr x=>smX x.1) ms.length (fun n s=>s.2=(n:Int)∧s.1.length≤n∧smX (s.1.take 64)) ?_ ⟨rfl,sI,zZW⟩) fun r hr=>?_)
 ·rintro n ⟨o,_⟩ hn ⟨rfl,h3,h4⟩
  simp only at h3 h4;have hm:=hms.1;refine qC (fun h=>?_) fun _=>qO (by rwa [List.take_of_length_le om] at h4)
  have h:n<ms.length:=by simpa using h
  have hx:=hms.2 _ (lM h);refine qE (zAF h) (qE (zHc _ 61 om) ?_);generalize ms[n]=x at hx;have hc:(if (61:UInt8) ∈ x then (x.take (x.idxOf 61),x.drop (x.idxOf 61+1),true) else (x,[],false)).1.length≤10000∧(if (61:UInt8) ∈ x then (x.take (x.idxOf 61),x.drop (x.idxOf 61+1),true) else (x,[],false)).2.1.length≤10000:=by grind
  generalize (if (61:UInt8) ∈ x then (x.take (x.idxOf 61),x.drop (x.idxOf 61+1),true) else (x,[],false))=c at hc;refine qB (zZY _ om) fun g hg=>qB (Q:=Any) (qC (fun _=>qO trivial) fun _=>qE (zBf _ om) (qO trivial)) fun _ _=>qC (fun _=>qO zZW) fun _=>qE (zBH _ om) (qB (xappT (by simp; omega)) fun z hz=>qO ⟨h,by rw [wrs om],by rw [hz]; simp; omega,?_⟩)
  rw [List.take_of_length_le (by rw [hz]; simp; omega),hz];rw [List.take_of_length_le om] at h4;refine ⟨by simp; omega,fun a ha=>?_⟩;rcases List.mem_append.1 ha with ha | ha
  ·exact h4.2 a ha
  ·rw [List.mem_singleton.1 ha]
   exact ⟨⟨by simp only [zBn]; omega,fun v hv=>nT (hg.1 v hv) hc.2⟩,by simp only; omega⟩
 ·cases r with
  | inr e=>exact qO hr
  | inl o=>exact qE (zIK o (smX_A hr)) (qC (fun _=>qO zZW) fun _=>qO hr)
theorem zZX (axes:List GAxis) (key:List Str) (hx:smX axes) (hk:∀ v ∈ key,v.length≤1000000):Tot (zCE axes key) fun r=>r.1.length≤64∧∀ v ∈ r.1,v.length≤10000:=by
 have hl:=hx.1;refine qC (fun _=>qO sI) fun h=>?_
 have h:key.length=axes.length:=by simp at h; omega
 refine qE (zL3 _ _ om) (qB (qF (P:=fun r:List Str ⊕ (List Str×Bool)=>match r with | .inl x=>x.length≤64∧∀ v ∈ x,v.length≤10000 | .inr x=>x.1.length≤64∧∀ v ∈ x.1,v.length≤10000) axes.length (fun n s=>s.1=(n:Int)∧s.2.length=axes.length∧∀ v ∈ s.2,v.length≤10000) ?_ ⟨rfl,by simpa using h,gR⟩) fun r hr=>by cases r <;> exact qO hr);rintro n ⟨_,m⟩ hn ⟨rfl,h1,h2⟩;simp only at h1 h2;refine qC (fun h=>?_) fun _=>qO ⟨om,h2⟩
 have h3:n<axes.length:=by simpa using h
 obtain ⟨⟨a1,a2⟩,a3⟩:=hx.2 _ (lM h3);refine qE (zAF h3) (qB (ixT _ _ om fun v hv=>qE (zAF (show n<key.length by omega)) (qE (zRZ _ _ _ om (nT (a2 v hv) om) (hk _ (lM _))) (qO trivial))) fun i hi=>qC (fun _=>qO sI) fun h=>?_);have h:=dF h;refine qB (xnthT om hi.2) fun v hv=>qE (zAF (show n<m.length by omega)) (qE (zLj _ (show n<m.length by omega)) (qO ⟨h3,by rw [wrs om],by simpa using h1,fun z hz=>?_⟩))
 rcases List.mem_or_eq_of_mem_set hz with h | rfl
 ·exact h2 z h
 ·exact a2 _ hv
theorem keysT (l:List GField) (axes:List GAxis) (hl:smL l) (hx:smX axes):Tot (zDv l axes) fun r=>r.1.length≤64∧∀ k ∈ r.1,k.length≤64∧∀ v ∈ k,v.length≤10000:=by
 obtain ⟨b1,b2⟩:=zTa (zUc hl);have h1:=fun n=>zGx l n
 have h2:=fun n=>zHn l n 10000 fun f hf=>(hl.2 f hf).2
 refine qE (zIK _ (smX_A hx)) (qC (fun _=>qO sI) fun _=>qB (Q:=fun ms=>ms.length≤64∧∀ x ∈ ms,x.length≤10000) (qQ (zIH l _ b1 b2 dE) ⟨h1 _,h2 _⟩) fun ms hms=>qC (fun _=>qO sI) fun _=>?_);have hm:=hms.1;refine qB (qF (P:=fun r:List (List Str) ⊕ (List (List Str)×Int)=>match r with | .inl x=>x.length≤64∧∀ k ∈ x,∀ v ∈ k,v.length≤1000000 | .inr x=>x.1=[]) ms.length (fun n s=>s.2=(n:Int)∧s.1.length≤n∧∀ k ∈ s.1,∀ v ∈ k,v.length≤1000000) ?_ ⟨rfl,sI,sI⟩) fun r hr=>?_
 ·rintro n ⟨o,_⟩ hn ⟨rfl,h3,h4⟩
  simp only at h3 h4;refine qC (fun h=>?_) fun _=>qO ⟨om,h4⟩
  have h:n<ms.length:=by simpa using h
  have hx:=hms.2 _ (lM h);refine qE (zAF h) (qB (zZY _ om) fun g hg=>qC (fun _=>qO rfl) fun _=>qB (xappT (by simp; omega)) fun z hz=>qO ⟨h,by rw [wrs om],by rw [hz]; simp; omega,fun k hk=>?_⟩);rw [hz] at hk;rcases List.mem_append.1 hk with hk | hk
  ·exact h4 k hk
  ·rw [List.mem_singleton.1 hk]; exact fun v hv=>nT (hg.1 v hv) om
 cases r with
 | inr e=>exact qO (by rw [show e.1=[] from hr]; simp)
 | inl ks =>
  obtain ⟨k1,k2⟩:=hr;refine qB (qF (P:=fun r:List (List Str) ⊕ (List (List Str)×Int)=>match r with | .inl x=>x.length≤64∧∀ k ∈ x,k.length≤64∧∀ v ∈ k,v.length≤10000 | .inr x=>x.1=[]) ks.length (fun n s=>s.2=(n:Int)∧s.1.length≤n∧∀ k ∈ s.1,k.length≤64∧∀ v ∈ k,v.length≤10000) ?_ ⟨rfl,sI,sI⟩) fun r hr=>?_
  ·rintro n ⟨o,_⟩ hn ⟨rfl,h3,h4⟩
   simp only at h3 h4;refine qC (fun h=>?_) fun _=>qO ⟨om,h4⟩
   have h:n<ks.length:=by simpa using h
   have e:wr ((n:Int)+1)=(n+1:Nat):=by rw [wrs (by omega)]
   refine qE (zAF h) (qB (zZX axes _ hx (k2 _ (lM h))) fun g hg=>qC (fun _=>qO rfl) fun _=>qB (Q:=Any) (qB (ixT _ _ om fun x hx=>qE (zIh _ _ (by have:=(h4 x hx).1; omega)) (qO trivial)) fun _ _=>qO trivial) fun _ _=>qC (fun _=>qB (xappT (by simp; omega)) fun z hz=>qO ⟨h,e,by rw [hz]; simp; omega,fun k hk=>?_⟩) fun _=>qO ⟨h,e,Nat.le_succ_of_le h3,h4⟩);rw [hz] at hk;rcases List.mem_append.1 hk with hk | hk
   ·exact h4 k hk
   ·rw [List.mem_singleton.1 hk]; exact hg
  ·cases r with
   | inr e=>exact qO (by rw [show e.1=[] from hr]; simp)
   | inl o=>exact qO hr
def ND {β:Type} (m:List (Str×β)):Prop:=(m.map Prod.fst).Nodup
theorem zKX {β:Type} (k:Str) (v:β):∀ m:List (Str×β),(mset m k v).map Prod.fst=if k ∈ m.map Prod.fst then m.map Prod.fst else m.map Prod.fst++[k]
 | []=>by simp [mset]
 | p :: r=>by
  unfold mset;by_cases h:k=p.1
  ·subst h; simp
  ·have hb:(k==p.1)=false:=by simpa using h
   rw [hb];simp only [Bool.false_eq_true,if_false,List.map_cons,zKX k v r,List.mem_cons,h,false_or];split <;> simp
theorem ND.mset {β:Type} {m:List (Str×β)} (h:ND m) (k:Str) (v:β):ND (mset m k v):=by
 grind [ND,zKX]
theorem zOj {β:Type} (k:Str):∀ m:List (Str×β),((mdel m k).map Prod.fst).Sublist (m.map Prod.fst)
 | []=>by simp [mdel]
 | p :: r=>by
  unfold mdel;split
  ·grind
  ·exact (zOj k r).cons_cons _
theorem ND.mdel {β:Type} {m:List (Str×β)} (h:ND m) (k:Str):ND (mdel m k):=(zOj k m).nodup h
theorem zJY {β:Type} (k k':Str):∀ m:List (Str×β),ND m→(mdel m k).lookup k'=if k'==k then none else m.lookup k'
 | [],_=>by simp [mdel]
 | p :: r,h=>by
  unfold ND at h;rw [List.map_cons,List.nodup_cons] at h;unfold mdel;by_cases hk:k=p.1
  ·grind
  ·have hb:(k==p.1)=false:=by simpa using hk
   rw [hb];simp only [Bool.false_eq_true,if_false];rw [List.lookup,List.lookup,zJY k k' r h.2]
   grind
theorem zMT {β:Type} {m:List (Str×β)} (h:ND m) (k k':Str) (z:β):(mget (mdel m k) k' z).1=if k'==k then z else (mget m k' z).1:=by
 grind [mget,zJY]
theorem zI4 (g:Str→Str) (k:Str):∀ (ms:List Str) (m:List (Str×Bool)),(mget (ms.foldl (fun m x=>mset m (g x) true) m) k false).1=((mget m k false).1||ms.any fun x=>g x==k)
 | [],m=>by simp
 | x :: ms,m=>by
  rw [List.foldl_cons,zI4 g k ms,zL6,List.any_cons]
  grind
theorem zMa (g:Str→Str):∀ (ms:List Str) (m:List (Str×Bool)),ND m→ND (ms.foldl (fun m x=>mset m (g x) true) m)
 | [],m,h=>h
 | x :: ms,m,h=>zMa g ms _ (h.mset _ _)
theorem zRj (k:Str):∀ (ms:List Str) (m:List (Str×Bool)),ND m→(mget (ms.foldl (fun m x=>mdel m x) m) k false).1=((mget m k false).1&&!ms.any fun x=>x==k)
 | [],m,h=>by simp
 | x :: ms,m,h=>by
  rw [List.foldl_cons,zRj k ms _ (h.mdel x),zMT h,List.any_cons]
  grind
def connN:Str:=[67,111,110,110,101,99,116,105,111,110]
def fixedL:List Str:=[[67,111,110,110,101,99,116,105,111,110],[75,101,101,112,45,65,108,105,118,101],[80,114,111,120,121,45,67,111,110,110,101,99,116,105,111,110],[80,114,111,120,121,45,65,117,116,104,101,110,116,105,99,97,116,101],[80,114,111,120,121,45,65,117,116,104,111,114,105,122,97,116,105,111,110],[84,69],[84,114,97,105,108,101,114],[84,114,97,110,115,102,101,114,45,69,110,99,111,100,105,110,103],[67,111,110,116,101,110,116,45,76,101,110,103,116,104],[85,112,103,114,97,100,101]]
def keptL:List Str:=[[72,111,115,116],[67,97,99,104,101,45,67,111,110,116,114,111,108],[86,97,114,121],[86,97,114,105,97,110,116,115],[86,97,114,105,97,110,116,45,75,101,121],[86,105,97]]
def zOZ (l:List GField) (f:GField):Bool:=fixedL.any (fold f.fName)||((allM l connN).any (fold f.fName)&&!keptL.any (fold f.fName))
def zLN (l:List GField):List GField:=l.filter fun f=>!zOZ l f
theorem zTL (name:Str) (l:List Str):(l.any fun x=>lower x==lower name)=l.any (fold name):=by
 grind [zU9]
theorem zST (ms:List Str) (hl:ms.length≤64) (hm:∀ m ∈ ms,m.length≤100000):zAB (zEJ ms) (0,[])=some (ms.foldl (fun m x=>mset m (lower x) true) []):=by
 have:=zHR (σ:=List (Str×Bool)) (fun st n=>(n,st)) ms (fun m x=>mset m (lower x) true) id (zEJ ms) (fun _ _=>True) [] trivial ?_ ?_
 all_goals grind [zEJ,zAF,zBH,wrs]
theorem zQC (l : List GField) (p : GField → Bool) (body : (List GField × Int) → Option ((List GField × Int) ⊕ List GField)) (hl : l.length ≤ 1000000)
    (h:∀ n (hn:n<l.length) (out:List GField),out.length≤n→body (out,(n:Int))=some (.inl (if p l[n] then out++[l[n]] else out,((n+1:Nat):Int))))
    (h':∀ out,body (out,(l.length:Int))=some (.inr out)):zAB body ([],0)=some (l.filter p):=by
  have:=zHR (σ:=List GField) (fun st n=>(st,n)) l (fun out f=>if p f then out++[f] else out) id body (fun n out=>out.length≤n) [] sI (fun n hn st hI=>⟨h n hn st hI,by
    grind⟩) (fun st hI=>h' st)
  rw [this];congr 1;have key:∀ (l:List GField) (acc:List GField),l.foldl (fun out f=>if p f then out++[f] else out) acc=acc++l.filter p:=by
    intro l
    induction l <;> grind
  grind
theorem zLb (l:List GField) (hl:midL l):zFZ l=some (zLN l):=by
 obtain ⟨h1,h2⟩:=zTa hl;obtain ⟨a1,a2⟩:=zKA hl connN;unfold zFZ;rw [zIH l _ h1 h2 dE,zAA]
 show (zAB (zEJ (allM l connN)) (0,[])).bind _=_
 rw [zST _ a1 a2,zAA,zAA,zAA];have e1:(pieces 32 [104,111,115,116,32,99,97,99,104,101,45,99,111,110,116,114,111,108,32,118,97,114,121,32,118,97,114,105,97,110,116,115,32,118,97,114,105,97,110,116,45,107,101,121,32,118,105,97])=keptL.map lower:=by decide
 have e2:(pieces 32 [99,111,110,110,101,99,116,105,111,110,32,107,101,101,112,45,97,108,105,118,101,32,112,114,111,120,121,45,99,111,110,110,101,99,116,105,111,110,32,112,114,111,120,121,45,97,117,116,104,101,110,116,105,99,97,116,101,32,112,114,111,120,121,45,97,117,116,104,111,114,105,122,97,116,105,111,110,32,116,101,32,116,114,97,105,108,101,114,32,116,114,97,110,115,102,101,114,45,101,110,99,111,100,105,110,103,32,99,111,110,116,101,110,116,45,108,101,110,103,116,104,32,117,112,103,114,97,100,101])=fixedL.map lower:=by decide
 rw [e1,e2];rw [zQC l (fun f=>!zOZ l f) _ hl.1 ?_ ?_]
 ·rfl
 ·intro n hn out ho
  have hf:=hl.2 _ (lM hn);unfold zGp;simp only [];rw [zAV hn,zAG,zAF hn,zAA];generalize l[n]=f at *
  rw [zBH _ om,zAA,zAA,wrs om];have hg:(mget ((fixedL.map lower).foldl (fun m k=>mset m k true) ((keptL.map lower).foldl (fun m k=>mdel m k) ((allM l connN).foldl (fun m x=>mset m (lower x) true) []))) (lower f.fName) false).1=zOZ l f:=by
   have h3:=zI4 (fun x=>x) (lower f.fName) (fixedL.map lower) ((keptL.map lower).foldl (fun m k=>mdel m k) ((allM l connN).foldl (fun m x=>mset m (lower x) true) []));rw [h3,zRj _ _ _ (zMa lower _ _ (by unfold ND; simp)),zI4 lower];unfold zOZ;rw [List.any_map,List.any_map];have e4:∀ L:List Str,(L.any ((fun x=>x==lower f.fName)∘lower))=L.any (fold f.fName):=fun L=>zTL f.fName L
   rw [e4,e4,zTL];have:(mget ([]:List (Str×Bool)) (lower f.fName) false).1=false:=rfl
   grind
  grind [zA0]
 grind [zGp]
theorem zRO {l:List GField} (h:smL l):(zH9 l).1.length≤64∧∀ n ∈ (zH9 l).1,n.length≤10000:=by
 grind [zRs,zH9,zSJ,zBn,zUD]
theorem zKZ (s:List Str) (h:s.length≤1073741824):zAP s=some s:=by
 grind [zAP,zA0]
theorem zTm (s:List GField) (h:s.length≤1073741824):zAU s=some s:=by
 grind [zAU,zA0]
theorem zK4 {S α ρ : Type} (mk : List α → Int → S) (fin : List α → ρ) (l : List α) (body : S → Option (S ⊕ ρ)) (hl : l.length ≤ 1073741824)
    (h:∀ (n:Nat) (hn:n<l.length) (out:List α),out.length≤n→body (mk out n)=some (.inl (mk (out++[l[n]]) ((n+1:Nat):Int))))
    (h':∀ out,out.length≤l.length→body (mk out l.length)=some (.inr (fin out))):zAB body (mk [] 0)=some (fin l):=by
  have:=zHR mk l (fun out x=>out++[x]) fin body (fun n out=>out.length≤n) [] sI (fun n hn st hI=>⟨h n hn st hI,gR⟩) h';rw [this];have e:∀ (l acc:List α),l.foldl (fun out x=>out++[x]) acc=acc++l:=by
    intro l
    induction l <;> grind
  rw [e]; rfl
theorem zLL (l:List GAxis) (hl:l.length≤1073741824) (hv:∀ a ∈ l,a.fValues.length≤1073741824):zGA l=some l:=by
 unfold zGA;have:=zK4 (fun out n=>(out,n)) id l (zF2 l) hl ?_ ?_
 ·rw [this]; rfl
 ·intro n hn out ho
  simp only [zF2];rw [zAV hn,zAG,zAF hn,zAA,zKZ _ (hv _ (lM hn)),zAA,zA0 om (zDk _),zAA,wrs om]
 grind [zF2]
def smEn (e:GEntry):Prop:=e.fKeys.length≤1073741824∧(∀ k ∈ e.fKeys,k.length≤1073741824)∧e.fVary.length≤1073741824∧e.fSnapshot.length≤1073741824∧e.fFields.length≤1073741824
theorem zFw (e:GEntry) (h:smEn e):zDC e=some e:=by
 obtain ⟨h1,h2,h3,h4,h5⟩:=h;unfold zDC;have:=zK4 (fun out n=>(n,out,e.fVary,e.fSnapshot,e.fReason,e.fFields,e.fBody,e.fRequested,e.fReceived)) (fun out=>(out,e.fVary,e.fSnapshot,e.fReason,e.fFields,e.fBody,e.fRequested,e.fReceived)) e.fKeys (zG1 e) h1 ?_ ?_
 ·simp_all [zKZ,zTm]
 all_goals grind [zG1,zAF,zKZ,zA0,wrs]
theorem zHu (t:GTable) (h1:t.fAxes.length≤1073741824) (h2:∀ a ∈ t.fAxes,a.fValues.length≤1073741824) (h3:t.fEntries.length≤1073741824) (h4:∀ e ∈ t.fEntries,smEn e):zBW t=some t:=by
 unfold zBW;rw [zLL _ h1 h2,zAA];have:=zK4 (fun out n=>(n,t.fAxes,out)) (fun out=>(t.fAxes,out)) t.fEntries (zFM t) h3 ?_ ?_
 ·rw [this,zAA]
 all_goals grind [zFM,zAF,zFw,lM,zA0,wrs]
theorem zYz (ms:List GEntry) (f:GEntry→Option Bool) (p:GEntry→Bool) (hl:ms.length≤1073741824) (h:∀ m ∈ ms,f m=some (p m)):zAl ms f=some (match ms.findIdx? p with | some i=>(i:Int) | none=>-1):=by
 have key:∀ (k n:Nat),n+k=ms.length→zAB (zAN ms f) (n:Int)=some (match (ms.drop n).findIdx? p with | some i=>.inr ((n+i:Nat):Int) | none=>.inl ()):=by
  intro k
  induction k with
  | zero =>
   grind [zAC,zAN]
  | succ k ih =>
   intro n hn;have hlt:n<ms.length:=by omega
   have hb:zAN ms f (n:Int)=some (if p ms[n] then .inr (.inr (n:Int)) else .inl ((n+1:Nat):Int)):=by
    grind [zAN,zAF,wrs]
   rw [lD hlt,List.findIdx?_cons];cases hp:p ms[n] with
   | true =>
    grind [zAC]
   | false =>
    rw [hp,if_neg dE] at hb;rw [zAH hb,ih (n+1) om];cases hd:(ms.drop (n+1)).findIdx? p <;> grind
 have:=key ms.length 0 om
 grind [zAl]
theorem zPu {α:Type} (xs:List α) (f:α→Option Bool) (p:α→Bool) (h:∀ x ∈ xs,f x=some (p x)):∀ (k n:Nat) (K:List α),n+k=xs.length→zAB (delL xs f) (K,(n:Int))=some (K++(xs.drop n).filter fun x=>!p x)
 | 0,n,K,hn=>by
  grind [delL,zAC]
 | k+1,n,K,hn=>by
  have hlt:n<xs.length:=by omega
  have hb:delL xs f (K,(n:Int))=some (.inl (bif p xs[n] then K else K++[xs[n]],((n+1:Nat):Int))):=by
   grind [delL,zAF]
  rw [zAH hb,zPu xs f p h k (n+1) _ om,lD hlt,List.filter_cons]
  grind
theorem zIY {α:Type} (p:α→Bool):∀ (xs:List α) (i:Nat),xs.findIdx? p=some i→i<xs.length∧xs.filter (fun x=>!p x)=xs.take i++(xs.drop (i+1)).filter fun x=>!p x
 | [],i,h=>by simp at h
 | x :: xs,i,h=>by
  rw [List.findIdx?_cons] at h;cases hp:p x with
  | true =>
   grind
  | false =>
   rw [hp] at h;simp only [Bool.false_eq_true,if_false,Option.map_eq_some_iff] at h;obtain ⟨j,hj,rfl⟩:=h;obtain ⟨h1,h2⟩:=zIY p xs j hj
   grind
theorem zLs {α:Type} (p:α→Bool) (xs:List α) (h:xs.findIdx? p=none):xs.filter (fun x=>!p x)=xs:=by
 simp_all
theorem zXh (xs:List GEntry) (f:GEntry→Option Bool) (p:GEntry→Bool) (hl:xs.length≤1073741824) (h:∀ x ∈ xs,f x=some (p x)):zAT xs f=some (xs.filter fun x=>!p x):=by
 unfold zAT;rw [zYz xs f p hl h,zAA];unfold delR;cases hi:xs.findIdx? p with
 | none=>rw [zLs p xs hi]; rfl
 | some i =>
  obtain ⟨h1,h2⟩:=zIY p xs i hi;have e1:((i:Int)==-1)=false:=by simp
  have e2:decide (0≤(i:Int)∧(i:Int)<(xs.length:Int))=true:=decide_eq_true ⟨om,om⟩;simp only [];rw [e1,zAD,e2,zAG,Int.toNat_natCast,show ((i:Int)+1)=((i+1:Nat):Int) from rfl,zPu xs f p h (xs.length - (i+1)) (i+1) _ om,h2]
end Go.Eng.Pure
namespace Go.Eng.Pure
open Go Go.Eng Go.VI
theorem zYh {n:Nat} (h:n<maxLen):wr ((n:Int)+1)=((n+1:Nat):Int):=by
 grind [maxLen,wr_eq]
theorem zYp (ms:List Str) (f:Str→Option Bool) (p:Str→Bool) (hl:ms.length≤maxLen) (h:∀ m ∈ ms,f m=some (p m)):zAK ms f=some (match ms.findIdx? p with | some i=>(i:Int) | none=>-1):=by
 have key:∀ (k n:Nat),n+k=ms.length→zAB (zAE ms f) (n:Int)=some (match (ms.drop n).findIdx? p with | some i=>.inr ((n+i:Nat):Int) | none=>.inl ()):=by
  intro k
  induction k with
  | zero =>
   intro n hn;obtain rfl:n=ms.length:=by omega
   rw [zAC (r:=.inl ())]
   ·rw [List.drop_length]; rfl
   ·simp only [zAE,zC0 (nR ms.length),zAD]
  | succ k ih =>
   intro n hn;have hlt:n<ms.length:=by omega
   have hb:zAE ms f (n:Int)=some (if p ms[n] then .inr (.inr (n:Int)) else .inl ((n+1:Nat):Int)):=by
    simp only [zAE,zAV hlt,zAG,zAF hlt,zAA,h _ (lM hlt),zYh (show n<maxLen by omega)];cases p ms[n] <;> rfl
   rw [lD hlt,List.findIdx?_cons];cases hp:p ms[n] with
   | true =>
    rw [hp,if_pos rfl] at hb;rw [zAC hb]; rfl
   | false =>
    rw [hp,if_neg (by decide)] at hb;rw [zAH hb,ih (n+1) (by omega)];cases hd:(ms.drop (n+1)).findIdx? p with
    | none=>rfl
    | some i=>simp; omega
 have:=key ms.length 0 (by omega)
 grind [zAK]
theorem zWw (xs:List Str) (key:Str) (hl:xs.length≤maxLen):zA3 xs (fun x=>some (x==key))=some (zDE xs key):=by
 unfold zA3;rw [zYp xs _ (fun x=>x==key) hl (fun _ _=>rfl),zAA];unfold delR zDE;cases hi:xs.findIdx? (fun x=>x==key) with
 | none=>grind [zLs]
 | some i =>
  obtain ⟨h1,h2⟩:=zIY (fun x=>x==key) xs i hi;have e1:((i:Int)==-1)=false:=by simp
  have e2:decide (0≤(i:Int)∧(i:Int)<(xs.length:Int))=true:=decide_eq_true ⟨by omega,by omega⟩;simp only [];rw [e1,zAD,e2,zAG,Int.toNat_natCast,show ((i:Int)+1)=((i+1:Nat):Int) from rfl,zPu xs _ (fun x=>x==key) (fun _ _=>rfl) (xs.length - (i+1)) (i+1) _ (by omega),h2]
end Go.Eng.Pure
