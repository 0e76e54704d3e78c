/- A part. -/
import Derived.Test.YtihjhdoinmfddaaGreatDoorKeepP
import Derived.Sort.Walk0
set_option linter.unusedVariables false
set_option linter.unusedSimpArgs false
noncomputable section
namespace Go.Eng.Pure
open Go Go.Eng
def Tot {α:Type} (o:Option α) (P:α→Prop):Prop:=∃ a,o=some a∧P a
theorem qO {α:Type} {a:α} {P:α→Prop} (h:P a):Tot (some a) P:=⟨a,rfl,h⟩
theorem qQ {α:Type} {o:Option α} {a:α} {P:α→Prop} (e:o=some a) (h:P a):Tot o P:=⟨a,e,h⟩
theorem Tot.mono {α:Type} {o:Option α} {Q P:α→Prop} (h:Tot o Q) (k:∀ a,Q a→P a):Tot o P:=by
 obtain ⟨a,e,q⟩:=h; exact ⟨a,e,k a q⟩
theorem qB {α β:Type} {o:Option α} {f:α→Option β} {Q:α→Prop} {P:β→Prop} (h:Tot o Q) (k:∀ a,Q a→Tot (f a) P):Tot (o.bind f) P:=by
 obtain ⟨a,rfl,q⟩:=h; exact k a q
theorem qE {α β:Type} {o:Option α} {f:α→Option β} {a:α} {P:β→Prop} (h:o=some a) (k:Tot (f a) P):Tot (o.bind f) P:=by
 subst h; exact k
theorem qC {α:Type} {c:Bool} {x y:Option α} {P:α→Prop} (h1:c=true→Tot x P) (h0:c=false→Tot y P):Tot (bif c then x else y) P:=by
 grind
theorem qA {α β γ:Type} {o:Option α} {f:α→Option β} {g:β→Option γ} {P:γ→Prop} (h:Tot (o.bind fun a=>(f a).bind g) P):Tot ((o.bind f).bind g) P:=by
 grind
theorem qR {α β:Type} {a:α} {f:α→Option β} {P:β→Prop} (h:Tot (f a) P):Tot ((some a).bind f) P:=h
theorem qL {σ ρ : Type} {body : σ → Option (σ ⊕ ρ)} {P : ρ → Prop} (I : σ → Prop) (μ : σ → Nat)
    (h:∀ s,I s→Tot (body s) fun x=>(∃ s',x=.inl s'∧I s'∧μ s'<μ s)∨∃ r,x=.inr r∧P r):∀ s,I s→Tot (zAB body s) P:=by
  have key:∀ n s,μ s<n→I s→Tot (zAB body s) P:=by
    intro n
    induction n with
    | zero=>intro s hs; omega
    | succ n ih =>
      intro s hs hI;obtain ⟨x,e,hx⟩:=h s hI;rcases hx with ⟨s',rfl,h1,h2⟩ | ⟨r,rfl,h1⟩
      · rw [zAH e]; grind
      · exact ⟨r,zAC e,h1⟩
  intro s hI;exact key (μ s+1) s (by omega) hI
theorem qN {σ ρ:Type} {s s':σ} {P:ρ→Prop} {I:σ→Prop} {μ:σ→Nat} (h1:I s') (h2:μ s'<μ s):Tot (some (.inl s'):Option (σ ⊕ ρ)) fun x=>(∃ s',x=.inl s'∧I s'∧μ s'<μ s)∨∃ r,x=.inr r∧P r:=⟨_,rfl,.inl ⟨s',rfl,h1,h2⟩⟩
theorem qS {σ ρ:Type} {s:σ} {r:ρ} {P:ρ→Prop} {I:σ→Prop} {μ:σ→Nat} (h:P r):Tot (some (.inr r):Option (σ ⊕ ρ)) fun x=>(∃ s',x=.inl s'∧I s'∧μ s'<μ s)∨∃ r,x=.inr r∧P r:=⟨_,rfl,.inr ⟨r,rfl,h⟩⟩
theorem wrI {n:Int} (h0:-1000000000000000000≤n) (h:n≤1000000000000000000):wr n=n:=zB2 h0 h
theorem xsubT {α:Type} {l:List α} {i j:Int} (h:0≤i∧i≤j∧j≤l.length):Tot (xsub l i j) fun r=>r.length=(j - i).toNat∧r=(l.take j.toNat).drop i.toNat:=by
 refine ⟨_,zMZ h,?_,rfl⟩
 grind
theorem xnthT {α:Type} {l:List α} {i:Int} (h0:0≤i) (h1:i<l.length):Tot (xnth l i) fun a=>a ∈ l:=by
 refine ⟨_,zDr h0 (by omega),lM _⟩
theorem xappT {α:Type} {l k:List α} (h:l.length+k.length≤100000000000):Tot (xapp l k) fun r=>r=l++k:=⟨_,zKR (by simp only [big]; omega),rfl⟩
theorem xcatT {a b:Str} (h:a.length+b.length≤100000000000):Tot (xcat a b) fun r=>r=a++b:=⟨_,zPG (by simp only [big]; omega),rfl⟩
abbrev Any {α:Type}:α→Prop:=fun _=>True
theorem zLj {α:Type} {l:List α} {n:Nat} (x:α) (h:n<l.length):xput l (n:Int) x=some (l.set n x):=by
 unfold xput
 grind
theorem zL3 {α:Type} (n:Nat) (z:α) (h:n≤1000):xmake (n:Int) z=some (List.replicate n z):=by
 unfold xmake
 grind
theorem qF {σ ρ : Type} {body : σ → Option (σ ⊕ ρ)} {P : ρ → Prop} (N : Nat) (I : Nat → σ → Prop)
    (h:∀ n s,n≤N→I n s→Tot (body s) fun x=>match x with | .inl s'=>n<N∧I (n+1) s' | .inr r=>P r) {s:σ} (h0:I 0 s):Tot (zAB body s) P:=by
  have key:∀ k n s,n+k=N→I n s→Tot (zAB body s) P:=by
    intro k
    induction k with
    | zero =>
      intro n s hn hI;obtain ⟨x,e,hx⟩:=h n s (by omega) hI;cases x with
      | inl s'=>simp only at hx; omega
      | inr r=>exact ⟨r,zAC e,hx⟩
    | succ k ih =>
      intro n s hn hI;obtain ⟨x,e,hx⟩:=h n s (by omega) hI;cases x with
      | inl s'=>rw [zAH e]; exact ih (n+1) s' (by omega) hx.2
      | inr r=>exact ⟨r,zAC e,hx⟩
  exact key N 0 s (by omega) h0
theorem qH {α ρ : Type} {l : List α} {K : α → Int → Option (Int ⊕ ρ)} {d : ρ} {P : ρ → Prop} (hl : l.length ≤ 4000000000) (hd : P d)
    (h:∀ n (hn:n<l.length),Tot (K l[n] n) fun x=>match x with | .inl s=>s=wr ((n:Int)+1) | .inr r=>P r) :
    Tot (zAB (fun y=>bif decide (y<(l.length:Int)) then (xnth l y).bind fun x=>K x y else some (.inr d)) 0) P:=by
  refine qF l.length (fun n s=>s=(n:Int)) ?_ rfl;rintro n _ hn rfl;refine qC (fun h1=>?_) fun _=>qO hd
  have hlt:n<l.length:=by simpa using h1
  refine qE (zAF hlt) ((h n hlt).mono fun x hx=>?_);cases x with
  | inl s=>simp only at hx ⊢; rw [hx,wrs (by omega)]; exact ⟨hlt,by omega⟩
  | inr r=>exact hx
theorem ixT {α : Type} (l : List α) (p : α → Option Bool) (hl : l.length ≤ 4000000000) (hp : ∀ x ∈ l, Tot (p x) Any) :
  Tot ((zAB (fun y=>bif decide (y<(l.length:Int)) then (xnth l y).bind fun x=>(p x).bind fun r=>bif r then some (.inr (.inr y)) else some (.inl (wr (y+1))) else some (.inr (.inl ()))) 0).bind fun (r:Unit ⊕ Int)=>match r with
   | .inr e=>some e
   | .inl _=>some (-1)) fun r=>-1≤r∧r<l.length:=by
 refine qB (Q:=fun r:Unit ⊕ Int=>match r with | .inr e=>-1≤e∧e<l.length | .inl _=>True) (qH hl trivial fun n hn=>qB (hp _ (lM hn)) fun b _=>?_) fun r hr=>?_
 ·exact qC (fun _=>qO ⟨by omega,by omega⟩) fun _=>qO rfl
 ·cases r with
  | inr e=>exact qO hr
  | inl _=>exact qO ⟨by omega,by omega⟩
theorem Tot.val {α:Type} {o:Option α} {P:α→Prop} (h:Tot o P) (d:α):o=some (o.getD d):=by
 obtain ⟨a,rfl,_⟩:=h; rfl
theorem Tot.prop {α:Type} {o:Option α} {P:α→Prop} (h:Tot o P) (d:α):P (o.getD d):=by
 obtain ⟨a,rfl,h⟩:=h; exact h
def hasF (l:List GField) (name:Str):Bool:=decide (0<(getF l name).length)
def zFn (l:List GField) (name:Str):Str×Bool:=match getF l name with | v :: _=>(v,true) | []=>([],false)
theorem zIS (l:List GField) (name:Str) (hl:l.length≤1073741824) (hf:∀ f ∈ l,smF f) (hn:name.length≤1073741824):zAv l name=some (hasF l name):=by
 grind [zAv,zBH,zMM,zLY,hasF,getF]
theorem zJD (l:List GField) (name:Str) (hl:l.length≤1073741824) (hf:∀ f ∈ l,smF f) (hn:name.length≤1073741824):zAt l name=some (zFn l name):=by
 unfold zAt zFn;rw [zPA l name hl hf hn,zAA];cases getF l name with
 | nil=>rfl
 | cons v r =>
  have:((((v :: r).length:Nat):Int)==0)=false:=by
   grind
  rw [this]; rfl
theorem zTR (l:List GField) (name:Str) (B:Nat) (hf:∀ f ∈ l,f.fValue.length≤B):(zFn l name).1.length≤B:=by
 have h:=zGJ l name B hf;unfold zFn
 grind
theorem zGx (l:List GField) (name:Str):(allM l name).length≤64:=by
 unfold allM; grind
theorem zHn (l:List GField) (name:Str) (B:Nat) (hf:∀ f ∈ l,f.fValue.length≤B):∀ x ∈ allM l name,x.length≤B:=by
 intro x hx;have h1:=List.mem_of_mem_take hx;rw [List.mem_flatMap] at h1;obtain ⟨v,hv,hx⟩:=h1;exact nT (zQq v x hx) (zGJ l name B hf v hv)
theorem zVu:∀ (n:Nat) (s acc x:Str),s.length≤n→unqL s acc=some x→x.length≤acc.length+s.length:=by
 intro n
 induction n with
 | zero =>
  intro s acc x h hx;obtain rfl:=List.eq_nil_of_length_eq_zero (Nat.le_zero.1 h);cases hx; simp
 | succ n ih =>
  intro s acc x h hx
  match s with
  | []=>cases hx; simp
  | c :: r =>
   unfold unqL at hx
   grind
theorem zN2 (s:Str):(unq s).1.length≤s.length:=by
 rcases zLT s with ⟨h,hu⟩ | ⟨a,m,z,rfl,hu⟩
 ·grind
 ·rw [hu]
  split
  ·unfold unqIn
   split
   ·cases hx:unqL m [] with
    | none=>exact Nat.zero_le _
    | some x =>
     have:=zVu m.length m [] x (nR _) hx;simp at this ⊢; omega
   grind
  grind
theorem zJf {β:Type} (m:List (Str×β)) (k k':Str) (v:β):(mset m k v).lookup k'=if k'==k then some v else m.lookup k':=by
 induction m <;> grind [mset]
theorem readT (m:Str) (hm:m.length≤1073741824):Tot (zCW m) fun r=>r.2.fvalue.length≤m.length:=by
 unfold zCW;refine qB (qF (P:=fun r=>∃ k:Nat,r=(k:Int)∧k≤m.length) m.length (fun n s=>s=(n:Int)) ?_ rfl) fun r hr=>?_
 ·rintro n _ hn rfl
  refine qB (Q:=fun b=>b=true→n<m.length) (qC (fun h=>?_) fun _=>qO sI) fun b hb=>qC (fun h=>qO ⟨hb h,by rw [wrs om]⟩) fun _=>qO ⟨n,rfl,hn⟩
  have h:n<m.length:=by simpa using h
  rw [wrs om];exact qB (xsubT ⟨om,om,om⟩) fun x hx=>qE (zBf _ om) (qO fun _=>h)
 obtain ⟨k,rfl,hk⟩:=hr;refine qB (xsubT ⟨om,om,om⟩) fun x hx=>qE (zBH _ om) (qB (xsubT ⟨om,om,om⟩) fun y hy=>qC (fun _=>qO sI) fun h=>?_)
 have h1:0<y.length:=List.length_pos_iff.2 (by simpa using h);refine qB (xsubT ⟨om,om,om⟩) fun z hz=>qB (xnthT om om) fun _ _=>qB (Q:=Any) (qC (fun _=>qE (zBf _ om) (qO trivial)) fun _=>qO trivial) fun _ _=>qC (fun _=>qO (by simp only; omega)) fun _=>?_
 grind [zN2,zK2,qB,xnthT,qO]
theorem numT (d:Gcachecontrol_directive) (a b:Int) (h:d.fvalue.length≤1073741824):Tot (zAo d a b) Any :=
 qE (zFb _ h) (qC (fun _=>qO trivial) fun _=>qC (fun _=>qO trivial) fun _=>qO trivial)
def dirZ:Gcachecontrol_directive:=⟨0,[]⟩
theorem respT (l:List GField) (hl:l.length≤1073741824) (hf:∀ f ∈ l,smF f):Tot (zAc l) Any:=by
 unfold zAc;have h1:=fun n=>zGx l n
 have h2:=fun n=>zHn l n 1073741824 fun f h=>(hf f h).2
 refine qB (Q:=fun ms=>ms.length≤64∧∀ x ∈ ms,x.length≤1073741824) (qQ (zIH l _ hl hf dE) ⟨h1 _,h2 _⟩) fun ms hms=>(qB (qF (P:=fun m=>∀ k,(mget m k dirZ).1.fvalue.length≤1073741824) ms.length (fun n s=>s.1=(n:Int)∧∀ k,(mget s.2 k dirZ).1.fvalue.length≤1073741824) ?_ ⟨rfl,fun k=>by simp [mget,dirZ]⟩) fun m hm=>?_)
 ·rintro n ⟨_,m⟩ hn ⟨rfl,hm⟩
  refine qC (fun h=>?_) fun _=>qO hm
  have h:=dT h;have hn:n<ms.length:=by exact Int.ofNat_lt.1 h
  have h3:=hms.1;have h4:=hms.2 _ (lM hn);refine qE (zAF hn) (qB (readT _ h4) fun r hr=>qB (Q:=fun m=>∀ k,(mget m k dirZ).1.fvalue.length≤1073741824) (qC (fun _=>qO fun k=>?_) fun _=>qO hm) fun m hm=>qO ⟨hn,by rw [wrs om],hm⟩);have:=hm k;unfold mget at this ⊢;rw [zJf]
  grind
 ·refine qB (Q:=Any) (qC (fun _=>qB (numT _ _ _ (hm _)) fun _ _=>qO trivial) fun _=>qO trivial) fun _ _=>qB (Q:=Any) (qC (fun _=>qB (numT _ _ _ (hm _)) fun _ _=>qO trivial) fun _=>qO trivial) fun _ _=>qB (Q:=Any) (qC (fun _=>qB (numT _ _ _ (hm _)) fun _ _=>qO trivial) fun _=>qO trivial) fun _ _=>qB (Q:=Any) (qC (fun _=>qB (numT _ _ _ (hm _)) fun _ _=>qO trivial) fun _=>qO trivial) fun _ _=>qO trivial
def respF (l:List GField):GControl:=(zAc l).getD ⟨false,false,false,false,false,false,false,0,0,0,0⟩
theorem zGa (l:List GField) (hl:l.length≤1073741824) (hf:∀ f ∈ l,smF f):zAc l=some (respF l):=(respT l hl hf).val _
theorem reqT (l:List GField) (hl:l.length≤1073741824) (hf:∀ f ∈ l,smF f):Tot (zBN l) Any:=by
 have h1:=fun n=>zGx l n
 have h2:=fun n=>zHn l n 1073741824 fun f h=>(hf f h).2
 refine qE (zGa l hl hf) (qE (zIS l _ hl hf dE) (qB (Q:=Any) (qC (fun _=>qE (zIH l _ hl hf dE) (qB (Q:=Any) (qB (ixT _ _ ?_ fun m hm=>qE (zHo m _ (h2 _ m hm) dE) (qO trivial)) fun _ _=>qO trivial) fun _ _=>qO trivial)) fun _=>qO trivial) fun _ _=>qB (Q:=Any) (qC (fun _=>qO trivial) fun _=>qO trivial) fun _ _=>qO trivial))
 grind
def reqF (l:List GField):GControl:=(zBN l).getD ⟨false,false,false,false,false,false,false,0,0,0,0⟩
theorem zKs (l:List GField) (hl:l.length≤1073741824) (hf:∀ f ∈ l,smF f):zBN l=some (reqF l):=(reqT l hl hf).val _
theorem zTg (l:List GField) (name:Str):(allM l name).length≤64:=by
 unfold allM; grind
def join (l:List Str):Str:=Lib.join l [44,32]
theorem zSA (x:Str) (r:List Str):join (x :: r)=x++(r.map ([44,32]++·)).flatten:=Lib.join_cons x r [44,32]
theorem zLg (l:List Str) (B:Nat) (h:∀ s ∈ l,s.length≤B):(join l).length≤(B+2)*l.length:=by
 have:∀ r:List Str,(∀ s ∈ r,s.length≤B)→((r.map ([44,32]++·)).flatten).length≤(B+2)*r.length:=by
  intro r
  induction r with
  | nil=>intro _; simp
  | cons y r ih =>
   grind [Nat.mul_succ]
 cases l with
 | nil=>simp [join,Lib.join_nil]
 | cons x r =>
  grind [zSA]
theorem zTb (l:List Str) (h1:l.length≤1073741824) (h2:(join l).length≤1073741824):zIT l=some (join l):=by
 grind [zIT,strings_Join,jo,join,big]
theorem zVP (l:List Str) (h1:l.length≤1073741824) (h2:(join l).length≤1073741824):strings_Join l [44,32]=some (join l):=by
 grind [strings_Join,jo,join,big]
def kindF (n:Str):Int :=
 if fold n [65,99,99,101,112,116] then 1 else if fold n [65,99,99,101,112,116,45,76,97,110,103,117,97,103,101] then 2
 else if fold n [65,99,99,101,112,116,45,67,104,97,114,115,101,116] then 3 else if fold n [65,99,99,101,112,116,45,69,110,99,111,100,105,110,103] then 4 else 0
theorem zP5 (n:Str) (hn:n.length≤1073741824):zD2 n=some (kindF n):=by
 unfold zD2 kindF
 simp only [show zBh 1=some [65,99,99,101,112,116] from rfl,show zBh 2=some [65,99,99,101,112,116,45,76,97,110,103,117,97,103,101] from rfl,
  show zBh 3=some [65,99,99,101,112,116,45,67,104,97,114,115,101,116] from rfl,show zBh 4=some [65,99,99,101,112,116,45,69,110,99,111,100,105,110,103] from rfl,zAA]
 rw [zHo _ _ hn dE,zHo _ _ hn dE,zHo _ _ hn dE,zHo _ _ hn dE]
 grind
def varyV (l:List GField) (n:Str):Str :=
 if (getF l n).length=0 then [] else if (kindF n !=0)&&decide ((allM l n).length<64) then 61 :: lower (join (allM l n)) else 61 :: join (getF l n)
def smL (l:List GField):Prop:=l.length≤1100∧∀ f ∈ l,f.fName.length≤10000∧f.fValue.length≤10000
variable {l:List GField}
theorem smL_F (h:smL l):l.length≤1073741824∧∀ f ∈ l,smF f:=⟨by have:=h.1; omega,fun f hf=>by have:=h.2 f hf; exact ⟨om,om⟩⟩
theorem zWE (h:smL l) (n:Str):(getF l n).length≤1100∧(join (getF l n)).length≤20000000:=by
 have h1:=zNh l n;have h2:=zLg (getF l n) 10000 (zGJ l n 10000 fun f hf=>(h.2 f hf).2);have h3:=h.1;omega
theorem zRd (h:smL l) (n:Str):(allM l n).length≤64∧(join (allM l n)).length≤20000000:=by
 have h1:=zGx l n;have h2:=zLg (allM l n) 10000 (zHn l n 10000 fun f hf=>(h.2 f hf).2);omega
theorem eq61 {s:Str} (h:s.length≤20000000):xcat [61] s=some (61 :: s):=by
 grind [zCh]
theorem zVQ (n:Str) (l:List GField) (hl:smL l) (hn:n.length≤1073741824):zIz n l=some (varyV l n):=by
 obtain ⟨h1,h2⟩:=smL_F hl;obtain ⟨g1,g2⟩:=zWE hl n;obtain ⟨a1,a2⟩:=zRd hl n;unfold zIz varyV;rw [zIS l n h1 h2 hn,zIH l n h1 h2 hn,zP5 n hn,zPA l n h1 h2 hn]
 grind [zTb,zVP,zBH,eq61,zBn,hasF]
def snapF (l:List GField) (ns:List Str):List Str:=ns.map (varyV l)
theorem zMI (ns:List Str) (l:List GField) (hl:smL l) (hs:ns.length≤1000) (hn:∀ n ∈ ns,n.length≤1073741824):zEU ns l=some (snapF l ns):=by
 have:=zCg (fun n=>((ns.take n).map (varyV l),(n:Int))) ns.length (ns.map (varyV l)) (zDt ns l) ?_ ?_
 ·unfold zEU
  have e:(([]:List Str),(0:Int))=((ns.take 0).map (varyV l),((0:Nat):Int)):=by simp
  rw [e,this]; rfl
 ·intro n hn'
  simp only [zDt,zAV hn',zAG,zAF hn',zAA,zVQ _ l hl (hn _ (lM hn')),wrs (show n≤4*1073741824 by omega)] <;> grind [zA0,zAa]
 grind [zDt]
theorem zIh (a b:List Str) (ha:a.length≤1073741824):zAS a b=some (a==b):=by
 unfold zAS;rw [neI];by_cases hl:a.length=b.length
 ·grind [zNI,zCq,zAF,wrs]
 ·have e:(a.length !=b.length)=true:=by simp [hl]
  have e2:(a==b)=false:=by
   grind
  rw [e,e2]; rfl
theorem zNz (l:List GField) (ns:List Str):(snapF l ns).length=ns.length:=by simp [snapF]
theorem zU8 (ns s:List Str) (l:List GField) (hl:smL l) (hs:ns.length≤1000) (hn:∀ n ∈ ns,n.length≤1073741824):zIp ns s l=some (snapF l ns==s):=by
 unfold zIp;rw [zMI ns l hl hs hn,eqI];simp only [zAA];rw [zIh _ _ (by rw [zNz]; omega)];simp only [zAA];by_cases h:ns.length=s.length
 ·grind
 ·rw [beq_eq_false_iff_ne.2 h]
  have:(snapF l ns==s)=false:=by
   grind [zNz]
  rw [this]; rfl
def zKe (l:List GField) (n:Str):List GField:=l.filter fun f=>!fold f.fName n
theorem zM9 (h:smL l) (n:Str):smL (zKe l n) :=
 ⟨nT (List.length_filter_le _ _) h.1,fun f hf=>h.2 f ((List.mem_filter.1 hf).1)⟩
end Go.Eng.Pure
namespace Go.Eng.Pure
open Go Go.Eng
theorem zOF {a b:Str} (h:a≤b) (hn:a≠b):a<b:=by
 grind
abbrev Asc (l:List Str):Prop:=l.Pairwise (·<·)
theorem zWg (d:Array Str) (hs:d.toList.Pairwise (·≤·)):∀ m,m≤d.size→Asc (Lib.compactUpTo d m)∧(∀ x ∈ Lib.compactUpTo d m,∃ i,∃ h:i<d.size,i<m∧x=d[i])∧∀ i,∀ h:i<d.size,i<m→d[i] ∈ Lib.compactUpTo d m
 | 0,_=>⟨by simp [Lib.compactUpTo],by simp [Lib.compactUpTo],by intro i _ h; omega⟩
 | m+1,hm=>by
  obtain ⟨i1,i2,i3⟩:=zWg d hs m om;have hmd:m<d.size:=by omega
  have le:∀ i j,∀ (hi:i<d.size) (hj:j<d.size),i≤j→d[i]≤d[j]:=by
   intro i j hi hj hij;by_cases h:i=j
   ·grind
   ·have:=List.pairwise_iff_getElem.1 hs i j (by simpa using hi) (by simpa using hj) om
    simpa using this
  rw [Lib.compactUpTo_succ];have e1:d[m]! = d[m]:=getElem!_pos d m hmd;by_cases hk:Lib.keeps d m=true
  ·rw [if_pos hk,e1]
   refine ⟨?_,?_,?_⟩
   ·rw [Asc,List.pairwise_append]
    refine ⟨i1,sI,fun x hx y hy=>?_⟩;rw [List.mem_singleton.1 hy];obtain ⟨i,hi,him,rfl⟩:=i2 x hx;have hm0:m≠0:=by omega
    have hne:d[m]≠d[m - 1]'(by omega):=by
     unfold Lib.keeps at hk;have:=dT hk;rcases this with h | h
     ·exact absurd h hm0
     ·rw [e1,getElem!_pos d (m - 1) om] at h; exact h
    have h1:d[m - 1]'om<d[m]:=zOF (le _ _ _ _ om) (Ne.symm hne);exact List.lt_of_le_of_lt (le i (m - 1) hi om om) h1
   all_goals grind
  ·rw [if_neg hk,List.append_nil]
   have hk2:¬ (m=0∨d[m]!≠d[m - 1]!):=by
    intro h; exact hk (by unfold Lib.keeps; exact decide_eq_true h)
   grind
theorem zUK (l:List Str):(sortS l).Pairwise (·≤·):=by
 have:=List.pairwise_mergeSort (le:=fun (x y:Str)=>decide (x≤y)) (fun a b c h h'=>by
  grind) (fun a b=>by
  grind) l
 exact this.imp fun h=>dT h
theorem zSJ (l:List Str):Asc (Lib.compact (sortS l))∧∀ x,x ∈ Lib.compact (sortS l)↔x ∈ l:=by
 obtain ⟨h1,h2,h3⟩:=zWg (sortS l).toArray (by simpa using zUK l) (sortS l).length sI;refine ⟨h1,fun x=>?_⟩;have hm:x ∈ sortS l↔x ∈ l:=List.mem_mergeSort;rw [← hm];constructor
 ·intro hx
  obtain ⟨i,hi,_,rfl⟩:=h2 x hx;simp
 ·intro hx
  obtain ⟨i,hi,rfl⟩:=List.mem_iff_getElem.1 hx;have:=h3 i (by simpa using hi) hi
  show _ ∈ Lib.compactUpTo (sortS l).toArray (sortS l).length
  simpa using this
def badN (m:Str):Bool:=!tok m||m==[42]
theorem zKu (l:List Str) (hl:l.length≤64) (hm:∀ m ∈ l,m.length≤100000):∀ (k i:Nat) (out:List Str),i+k=l.length→out.length≤i→zAB (zDa l) (out,(i:Int))=some (if (l.drop i).any badN then .inr ([],false) else .inl (out++(l.drop i).map lower))
 | 0,i,out,hi,ho=>by
  grind [zDa,zAC]
 | k+1,i,out,hi,ho=>by
  have hlt:i<l.length:=by omega
  have hmi:=hm _ (lM hlt);have hb:zDa l (out,(i:Int))=some (if badN l[i] then .inr (.inr ([],false)) else .inl (out++[lower l[i]],((i+1:Nat):Int))):=by
   simp only [zDa,zAV hlt,zAG,zAF hlt,zAA,zBf _ (show l[i].length≤1073741824 by omega),zBH _ (show l[i].length≤1073741824 by omega),wrs (show i≤4*1073741824 by omega)]
   grind [zA0,badN]
  rw [lD hlt,List.any_cons,List.map_cons];cases hbad:badN l[i] with
  | true =>
   grind [zAC]
  | false =>
   rw [hbad] at hb;rw [zAH hb,zKu l hl hm k (i+1) _ om (by simp; omega)];simp
def varyN:Str:=[86,97,114,121]
def zH9 (l:List GField):List Str×Bool :=
 if 64≤(allM l varyN).length∨(allM l varyN).any badN=true then ([],false) else (Lib.compact (sortS ((allM l varyN).map lower)),true)
theorem zUD {l:List GField} (h:smL l):(allM l varyN).length≤64∧∀ m ∈ allM l varyN,m.length≤10000 :=
 ⟨zGx l _,zHn l _ 10000 fun f hf=>(h.2 f hf).2⟩
theorem zVH (l:List GField) (hl:smL l):zEK l=some (zH9 l):=by
 obtain ⟨h1,h2⟩:=smL_F hl;obtain ⟨a1,a2⟩:=zUD hl;unfold zEK zH9;rw [zIH l _ h1 h2 dE,zAA];unfold varyN at a1 a2 ⊢;generalize allM l [86,97,114,121]=ms at a1 a2 ⊢;rw [show decide ((64:Int)≤(ms.length:Int))=decide (64≤ms.length) from zOz 64 _];by_cases hc:64≤ms.length
 ·grind
 ·have:=zKu ms a1 (fun m h=>by grind) ms.length 0 [] om sI
  grind [big,slices_Sort_string,slices_Compact_string]
theorem zRs {l:List GField} (h:smL l):(zH9 l).1.length≤64:=by
 grind [zH9,zMW,zIf]
section
variable (s:Str) (hs:s.all isD=true) (hne:s≠[])
include hs hne
end
def quote (s:Str):Str:=34 :: (s.flatMap (fun c=>if c=34∨c=92 then [92,c] else [c])++[34])
theorem zSz (t:Str):(t.flatMap (fun c=>if c=34∨c=92 then [92,c] else [c])).length≤2*t.length:=by
 induction t with
 | nil=>grind
 | cons c t ih =>
  grind
theorem zVM (s:Str) (hs:s.length≤1073741824):zLr s=some (quote s):=by
 have hfl:=zSz;have:=zCg (fun n=>(34 :: (s.take n).flatMap (fun c=>if c=34∨c=92 then [92,c] else [c]),(n:Int))) s.length (34 :: s.flatMap (fun c=>if c=34∨c=92 then [92,c] else [c])) (zFN s) ?_ ?_
 ·unfold zLr quote
  have e:(([34]:Str),(0:Int))=(34 :: (s.take 0).flatMap (fun c=>if c=34∨c=92 then [92,c] else [c]),((0:Nat):Int)):=by simp
  have hl:=hfl s;rw [e,this,zAA,zA0 gR (zDk _)]; rfl
 ·intro n hn
  have hl:=hfl (s.take n);have ht:(s.take n).length≤n:=by grind
  have hcond:(bif s[n]==34 then some true else some (s[n]==92))=some (decide (s[n]=34∨s[n]=92)):=by
   grind
  simp only [zFN,zAV hn,zAG,zAF hn,zAA];rw [hcond,zAA,zAa hn,List.flatMap_append,wrs om];by_cases hc:s[n]=34∨s[n]=92
  ·rw [decide_eq_true hc,zAG,zA0 gR (zDk _),zAA,zAA,zA0 gR (zDk _),zAA]
   simp [hc]
  ·rw [decide_eq_false hc,zAD,zAA,zA0 gR (zDk _),zAA]
   simp [hc]
 grind [zFN]
theorem zOI (s:Str):(quote s).length≤2*s.length+2:=by
 grind [quote,zSz]
theorem ixDT (n:Int) (f:Int→Option Str) (s:Str) (N:Nat) (e:n=N) (hN:N≤1000) (hf:∀ i:Nat,i<N→Tot (f i) Any):Tot (zF9 n f s) fun r=>-1≤r∧r<N:=by
 subst e;refine qB (Q:=fun r:Unit ⊕ Int=>match r with | .inr e=>-1≤e∧e<N | .inl _=>True) (qF N (fun n s=>s=(n:Int)) ?_ rfl) fun r hr=>?_
 ·rintro i _ hi rfl
  refine qC (fun h=>?_) fun _=>qO trivial
  have h:i<N:=by simpa using h
  exact qB (hf i h) fun _ _=>qC (fun _=>qO ⟨om,om⟩) fun _=>qO ⟨h,by rw [wrs om]⟩
 grind [qO]
theorem lenDT (y m:Int) (h:1≤m∧m≤12):Tot (zD5 y m) Any:=by
 refine qB (Q:=Any) (qC (fun _=>?_) fun _=>qO trivial) fun _ _=>qC (fun _=>qO trivial) fun _=>qB (xnthT (by grind [wrI]) (by rw [wrI om om]; simp; omega)) fun _ _=>qO trivial
 have x:∀ k:Int,k≠0→Tot (xrem y k) Any:=fun k h=>by grind [xrem,qO]
 exact qB (Q:=Any) (qB (x 4 dE) fun _ _=>qB (Q:=Any) (qC (fun _=>qB (x 100 dE) fun _ _=>qB (Q:=Any) (qC (fun _=>qO trivial) fun _=>qB (x 400 dE) fun _ _=>qO trivial) fun _ _=>qO trivial) fun _=>qO trivial) fun _ _=>qO trivial) fun _ _=>qO trivial
theorem daysT (y m d:Int):Tot (zJ3 y m d) Any:=by
 unfold zJ3;refine qB (Q:=fun b=>b=false→1≤m∧m≤12) (qC (fun _=>qO sI) fun h=>?_) fun b hb=>qC (fun _=>qO trivial) fun h=>?_
 ·grind [qB,lenDT,qO]
 ·have h:=hb h
  have bT:∀ y,Tot (zEx y) Any:=fun y=>⟨_,rfl,trivial⟩
  refine qB (bT y) fun _ _=>qB (bT 1970) fun _ _=>qB (Q:=Any) (qF 11 (fun n s=>s.2=(n:Int)+1) ?_ rfl) fun _ _=>qO trivial
  rintro n ⟨a,_⟩ hn rfl;refine qC (fun h2=>?_) fun _=>qO trivial <;> grind [qO,qB,lenDT,wrI]
theorem zZR (s:Str):Tot (zGE s) Any:=by
 unfold zGE;have num:∀ {t:Str} {f:Int×Bool→Option (Int×Bool)},t.length≤29→(∀ r,Tot (f r) Any)→Tot ((zA5 t).bind f) Any:=fun h k=>qE (zFb _ om) (k _)
 have sub:∀ {i j:Int} {f:Str→Option (Int×Bool)},s.length=29→0≤i∧i≤j∧j≤29→(∀ r:Str,r.length≤29→Tot (f r) Any)→Tot ((xsub s i j).bind f) Any:=fun h h2 k=>qB (xsubT om) fun r hr=>k r om
 refine qB (Q:=fun b=>b=false→s.length=29) (qC (fun _=>qO sI) fun h=>?_) fun b hb=>?_
 ·grind [qB,xsubT,qO]
 have ch:∀ {i:Int} {b:Bool} {g:UInt8→Bool} {f:Bool→Option (Int×Bool)},(b=false→s.length=29)→0≤i→i<29→(∀ b,(b=false→s.length=29)→Tot (f b) Any)→Tot ((bif b then some true else (xnth s i).bind fun c=>some (g c)).bind f) Any:=fun hb h0 h1 k =>
  qB (Q:=fun b=>b=false→s.length=29) (qC (fun _=>qO sI) fun h=>qB (xnthT h0 (by have:=hb h; omega)) fun _ _=>qO fun _=>hb h) k
 refine ch hb om om fun b hb=>ch hb om om fun b hb=>ch hb om om fun b hb=>ch hb om om fun b hb=>ch hb om om fun b hb=>?_
 refine qB (Q:=fun b=>b=false→s.length=29) (qC (fun _=>qO sI) fun h=>qB (xsubT (by have:=hb h; omega)) fun _ _=>qO fun _=>hb h) fun b hb=>qC (fun _=>qO trivial) fun h=>?_
 have hl:=hb h;refine sub hl om fun d hd=>sub hl om fun y hy=>sub hl om fun a ha=>sub hl om fun m hm=>sub hl om fun c hc=>num hd fun d=>qC (fun _=>qO trivial) fun _=>num hy fun y=>qC (fun _=>qO trivial) fun _=>num ha fun a=>qC (fun _=>qO trivial) fun _=>num hm fun m=>qC (fun _=>qO trivial) fun _=>num hc fun c=>qC (fun _=>qO trivial) fun _=>sub hl om fun n hn=>?_
 refine qB (ixDT 12 _ _ 12 rfl om fun i hi=>qB (xnthT om (by simp; omega)) fun _ _=>qO trivial) fun x hx=>qB (daysT _ _ _) fun z _=>?_
 have st:∀ {b c:Bool} {f:Bool→Option (Int×Bool)},(∀ b,Tot (f b) Any)→Tot ((bif b then some true else some c).bind f) Any:=fun k=>qB (Q:=Any) (qC (fun _=>qO trivial) fun _=>qO trivial) fun b _=>k b
 refine st fun _=>st fun _=>st fun _=>qB (Q:=Any) (qC (fun _=>qO trivial) fun _=>qB (xsubT om) fun _ _=>qB (ixDT 7 _ _ 7 rfl om fun i hi=>qB (xnthT om (by simp; omega)) fun _ _=>qO trivial) fun _ _=>qO trivial) fun _ _=>qC (fun _=>qO trivial) fun _=>qO trivial
def dateS (s:Str):Int×Bool:=(zGE s).getD (0,false)
theorem zMR (s:Str):zGE s=some (dateS s):=(zZR s).val _
def zIQ (l:List GField) (name:Str):Int×Bool:=dateS (zFn l name).1
def ageN:Str:=[65,103,101]
theorem satT (a b:Int):Tot (zCH a b) fun r=>0≤r∧r≤2147483647:=⟨_,rfl,by split <;> omega⟩
section
variable (l:List GField) (hl:l.length≤1073741824) (hf:∀ f ∈ l,smF f)
include hl hf
theorem zNk (name:Str) (hn:name.length≤1073741824):zCT l name=some (zIQ l name):=by
 unfold zCT;rw [zJD l name hl hf hn,zAA,zMR,zAA]; rfl
theorem lifeT:Tot (zCA l) Any :=
 qE (zGa l hl hf) (qC (fun _=>qO trivial) fun _=>qC (fun _=>qO trivial) fun _=>qE (zNk l hl hf _ (by decide)) (qE (zNk l hl hf _ (by decide)) (qC (fun _=>qO trivial) fun _=>qB (satT _ _) fun _ _=>qO trivial)))
theorem ageT (q r n:Int):Tot (zFv l q r n) fun x=>0≤x∧x≤2147483647 :=
 qC (fun _=>qO ⟨by omega,by omega⟩) fun _=>qE (zJD l _ hl hf (by decide)) (qE (zFb _ (zTR l _ 1073741824 fun f h=>(hf f h).2)) (qB (Q:=Any) (qE (zNk l hl hf _ (by decide)) (qC (fun _=>qO trivial) fun _=>qO trivial)) fun _ _=>qB (satT _ _) fun _ h=>qO h))
end
def lifeS (l:List GField):Int:=(zCA l).getD 0
def ageS (l:List GField) (q r n:Int):Int:=(zFv l q r n).getD 0
def zWh (a b:Int) (q r:GControl):Bool:=(zEk a b q r).getD false
theorem zMF (l:List GField) (hl:l.length≤1073741824) (hf:∀ f ∈ l,smF f):zCA l=some (lifeS l):=(lifeT l hl hf).val _
theorem zYc (l:List GField) (hl:l.length≤1073741824) (hf:∀ f ∈ l,smF f) (q r n:Int):zFv l q r n=some (ageS l q r n):=(ageT l hl hf q r n).val _
theorem zTj (l:List GField) (hl:l.length≤1073741824) (hf:∀ f ∈ l,smF f) (q r n:Int):0≤ageS l q r n∧ageS l q r n≤2147483647:=(ageT l hl hf q r n).prop _
theorem zVF (a b:Int) (q r:GControl):zEk a b q r=some (zWh a b q r):=by
 refine Tot.val (P:=Any) ?_ _
 repeat' first
  | exact qO trivial
  | refine qC (fun _=>?_) fun _=>?_
end Go.Eng.Pure
namespace Go.Eng.Pure.Etag
open Go Go.Eng Go.Eng.Pure
def zTC (c:UInt8):Bool:=(decide (c<33)||c==34)||c==127
def tagOK (s:Str):Bool:=!s.any zTC
theorem permitted_eq (s:Str) (hs:s.length≤big):zDl s=some (tagOK s):=by
 unfold zDl;rw [zLu (zEy s) s zTC (.inr false) (.inl ())]
 all_goals grind [tagOK,zEy,zJA,zB2,big,zTC]
def inner (t:Str):Option Str :=
 match t with
 | a :: r=>if a=34∧r≠[]∧r.getLast?=some 34∧tagOK r.dropLast then some r.dropLast else none
 | []=>none
def tagOf (weak:Bool) (t:Str):GETag×Bool:=match inner t with | some x=>(⟨weak,x⟩,true) | none=>(⟨false,[]⟩,false)
def pre:Str:=[87,47]
def parseSpec (s:Str):GETag×Bool:=if pre.isPrefixOf s then tagOf true (s.drop 2) else tagOf false s
theorem zTI (chk : Str → Option Bool) (hchk : ∀ s : Str, s.length ≤ big → chk s = some (tagOK s)) (t : Str) (w : Bool) (ht : t.length ≤ big) :
  ((bif decide ((t.length:Int)<2) then some true else (xnth t 0).bind fun c10=>some (c10 !=34)).bind fun b11 =>
   (bif b11 then some true else (xnth t (wr ((t.length:Int) - 1))).bind fun c14=>some (c14 !=34)).bind fun b15 =>
   (bif b15 then some true else (xsub t 1 (wr ((t.length:Int) - 1))).bind fun s18=>(chk s18).bind fun r19=>some (!r19)).bind fun b24 =>
   (bif b24 then some ((⟨false,[]⟩:GETag),false) else (xsub t 1 (wr ((t.length:Int) - 1))).bind fun s30=>some ((⟨w,s30⟩:GETag),true)))=some (tagOf w t):=by
 match t,ht with
 | [],_=>rfl
 | [a],_=>simp [tagOf,inner]
 | a :: b :: r,ht =>
  obtain ⟨m,z,hm⟩:∃ m z,b :: r=m++[z]:=⟨(b :: r).dropLast,(b :: r).getLast sI,(List.dropLast_concat_getLast sI).symm⟩;rw [hm] at ht ⊢;have hlen:(((a :: (m++[z])).length:Nat):Int)=(m.length:Int)+2:=by simp; omega
  have hw:wr (((a :: (m++[z])).length:Int) - 1)=((m.length+1:Nat):Int):=by
   rw [hlen,zB2 om (by simp at ht; simp only [big] at ht; omega)]; omega
  have h1:decide (((a :: (m++[z])).length:Int)<2)=false:=by rw [hlen]; simp; omega
  have h2:xnth (a :: (m++[z])) ((m.length+1:Nat):Int)=some z:=by rw [zJA]; simp
  have h3:xsub (a :: (m++[z])) 1 ((m.length+1:Nat):Int)=some m:=by
   have:=zB7 (l:=a :: (m++[z])) (i:=1) (j:=m.length+1) ⟨om,sI⟩;rw [show ((1:Nat):Int)=1 from rfl] at this;rw [this]; simp
  grind [zEW,inner,tagOf]
theorem zMm (p s:Str):p.isPrefixOf s=(decide (p.length≤s.length)&&s.take p.length==p):=by
 induction p generalizing s with
 | nil=>simp
 | cons a p ih =>
  cases s <;> grind
theorem HasPrefix_eq (s p:Str):zBb s p=some (p.isPrefixOf s):=by
 unfold zBb;rw [zMm];by_cases h:p.length≤s.length
 ·have h1:decide ((p.length:Int)≤(s.length:Int))=true:=by simpa using h
  rw [h1,zAG];have:=zB7 (l:=s) (i:=0) (j:=p.length) ⟨om,h⟩
  grind
 grind
theorem zOu (s p:Str):zDO s p=some (if p.isPrefixOf s then (s.drop p.length,true) else (s,false)):=by
 grind [zDO,zDK,HasPrefix_eq,zB7]
theorem zOf (s:Str) (hs:s.length≤big):zGB s=some (parseSpec s):=by
 unfold zGB parseSpec;rw [zOu];simp only [zAA];cases h:List.isPrefixOf [87,47] s
 ·simp_all [pre,zTI,permitted_eq]
 ·simp only [if_true,pre,h]
  exact zTI _ permitted_eq (s.drop 2) true (by simp; omega)
theorem Weak_eq (a b:GETag):zIl a b=some (a.fTag==b.fTag):=by
 unfold zIl zOx zJS;simp
theorem zTV (l:List GField) (name:Str) (hl:l.length≤1073741824) (hf:∀ f ∈ l,smF f) (hn:name.length≤1073741824):zAt l name=some (match getF l name with | v :: _=>(v,true) | []=>([],false)):=by
 unfold zAt;rw [zPA l name hl hf hn,zAA];cases getF l name with
 | nil=>rfl
 | cons v r =>
  have:((((v :: r).length:Nat):Int)==0)=false:=by
   grind
  rw [this]; rfl
def ofF (l:List GField):GETag×Bool:=match getF l [69,84,97,103] with | v :: _=>parseSpec v | []=>(⟨false,[]⟩,false)
theorem Of_eq (l:List GField) (hl:l.length≤1073741824) (hf:∀ f ∈ l,smF f):zIG l=some (ofF l):=by
 unfold zIG ofF;rw [zTV l _ hl hf dE,zAA];have hs:=zGJ l [69,84,97,103] 1073741824 (fun f h=>(hf f h).2)
 grind [zOf,big]
def tagStep (out:List GETag) (m:Str):List GETag ⊕ (List GETag ⊕ (List GETag×Bool×Bool)):=if (parseSpec m).2 then .inl (out++[(parseSpec m).1]) else .inr (.inr ([],false,false))
def tagsOf (l:List Str):List GETag ⊕ (List GETag×Bool×Bool):=run tagStep .inl l []
def listF (l:List GField) (name:Str):List GETag×Bool×Bool :=
 if allM l name=[[42]] then ([],true,true) else if (allM l name).length=0∨64≤(allM l name).length then ([],false,false) else match tagsOf (allM l name) with | .inl o=>(o,false,true) | .inr r=>r
theorem zRu (m : List Str) (hm : m.length ≤ 64) (hs : ∀ x ∈ m, x.length ≤ 1073741824) (parse : Str → Option (GETag × Bool)) (hp : ∀ x : Str, x.length ≤ 1073741824 → parse x = some (parseSpec x)) (body : (List GETag × Int) → Option ((List GETag × Int) ⊕ (List GETag ⊕ (List GETag × Bool × Bool))))
    (hb:∀ o i,body (o,i)=(bif decide (i<(m.length:Int)) then (xnth m i).bind fun x=>(parse x).bind fun r=>(bif !r.2 then some (.inr (.inr (([]:List GETag),false,false))) else (xapp o ([r.1]:List GETag)).bind fun l=>some (.inl (l,wr (i+1)))) else some (.inr (.inl o)))) :
    zAB body ([],0)=some (tagsOf m):=by
  refine zHN (fun (o:List GETag) (i:Int)=>(o,i)) m tagStep .inl body (fun n o=>o.length≤n) [] (nR _) (fun n hn o ho=>?_) (fun o _=>?_)
  all_goals grind [zAF,zA0,wrs,tagStep]
theorem zVz (l:List GField) (name:Str) (hf:∀ f ∈ l,smF f):∀ x ∈ allM l name,x.length≤1073741824:=by
 intro x hx;have h1:=List.mem_of_mem_take hx;rw [List.mem_flatMap] at h1;obtain ⟨v,hv,hx⟩:=h1;exact nT (zQq v x hx) (zGJ l name 1073741824 (fun f h=>(hf f h).2) v hv)
theorem zSE (m : List Str) (hm : m.length ≤ 64) (w : Option (List GETag ⊕ (List GETag × Bool × Bool))) (hw : w = some (tagsOf m)) :
  ((bif (m.length:Int)==1 then (xnth m 0).bind fun x9=>some (x9==[42]) else some false).bind fun b12 =>
   (bif b12 then some (([]:List GETag),true,true) else
    (bif (((m.length:Int)==0)||(decide (64≤(m.length:Int)))) then some (([]:List GETag),false,false) else
     w.bind fun r34=>match r34 with
      | .inr e=>some e
      | .inl out_27=>some (out_27,false,true)))) =
  some (if m=[[42]] then ([],true,true) else if m.length=0∨64≤m.length then ([],false,false) else match tagsOf m with | .inl o=>(o,false,true) | .inr r=>r):=by
 subst hw;have h0:(((m.length:Int)==0)||(decide (64≤(m.length:Int))))=decide (m.length=0∨64≤m.length):=by
  grind
 rw [h0];have h1:(bif (m.length:Int)==1 then (xnth m 0).bind fun x9=>some (x9==[42]) else some false)=some (decide (m=[[42]])):=by
  match m with
  | []=>rfl
  | [x] =>
   show some (x==[42])=_
   congr 1
   grind
  | a :: b :: r =>
   have:((((a :: b :: r).length:Nat):Int)==1)=false:=by
    grind
   rw [this]; simp
 grind
theorem List_eq (l:List GField) (name:Str) (hl:l.length≤1073741824) (hf:∀ f ∈ l,smF f) (hn:name.length≤1073741824):zJz l name=some (listF l name):=by
 unfold zJz listF;rw [zIH l name hl hf hn,zAA];have h1:=zTg l name;have h2:=zVz l name hf;generalize allM l name=m at h1 h2 ⊢;exact zSE m h1 _ (zRu m h1 h2 zGB (fun x hx=>zOf x (by simp only [big]; omega)) (zK9 m) (fun o i=>rfl))
theorem zLc (l:List Str):∀ o,(match run tagStep .inl l o with | .inl r=>r.length | .inr r=>r.1.length)≤o.length+l.length:=by
 induction l <;> grind [lA,tagStep,run]
theorem zPP (l:List GField) (name:Str):(listF l name).1.length≤64:=by
 unfold listF;split
 ·simp
 ·split
  ·simp
  ·have h1:=zLc (allM l name) []
   grind [tagsOf]
end Go.Eng.Pure.Etag
namespace Go.Eng.Pure
end Go.Eng.Pure
namespace Go.Eng.Pure
open Go Go.Eng
def mdL (l:List GField):Prop:=l.length≤100000∧∀ f ∈ l,f.fName.length≤10000∧f.fValue.length≤10000
theorem mdL_F {l:List GField} (h:mdL l):l.length≤1073741824∧∀ f ∈ l,smF f:=⟨by have:=h.1; omega,fun f hf=>by have:=h.2 f hf; exact ⟨om,om⟩⟩
theorem zUZ {l:List GField} (h:smL l):mdL l:=⟨by have:=h.1; omega,fun f hf=>by have:=h.2 f hf; omega⟩
theorem zUL (l:List GField) (hl:mdL l):zEK l=some (zH9 l):=by
 obtain ⟨h1,h2⟩:=mdL_F hl;have a1:=zGx l varyN;have a2:=zHn l varyN 10000 fun f hf=>(hl.2 f hf).2
 unfold zEK zH9;rw [zIH l _ h1 h2 dE,zAA];unfold varyN at a1 a2 ⊢;generalize allM l [86,97,114,121]=ms at a1 a2 ⊢;rw [show decide ((64:Int)≤(ms.length:Int))=decide (64≤ms.length) from zOz 64 _];by_cases hc:64≤ms.length
 ·grind
 ·have:=zKu ms a1 (fun m h=>by grind) ms.length 0 [] om sI
  grind [big,slices_Sort_string,slices_Compact_string]
theorem zZV (l:List GField) (hl:mdL l):Tot (zCB l) Any:=by
 obtain ⟨h1,h2⟩:=mdL_F hl;exact qE (Etag.Of_eq l h1 h2) (qC (fun _=>qO trivial) fun _=>qE (zJD l _ h1 h2 dE) (qE (zMR _) (qO trivial)))
def zTx (l:List GField):Bool:=(zCB l).getD false
theorem zLM (l:List GField) (hl:mdL l):zCB l=some (zTx l):=(zZV l hl).val _
def zXw (m:Str):Bool:=(((m !=[71,69,84])&&(m !=[72,69,65,68]))&&(m !=[79,80,84,73,79,78,83]))&&(m !=[84,82,65,67,69])
theorem zTh (m:Str):zGU m=some (zXw m):=rfl
theorem storT (q:GRequest) (r:GResponse) (hq:mdL q.fFields) (hr:mdL r.fFields):Tot (zDP q r) Any:=by
 obtain ⟨q1,q2⟩:=mdL_F hq;obtain ⟨r1,r2⟩:=mdL_F hr;unfold zDP
 repeat' first
  | exact qO trivial
  | refine qE (zGa _ r1 r2) ?_
  | refine qE (zKs _ q1 q2) ?_
  | refine qE (zUL _ hr) ?_
  | refine qE (zIS _ _ q1 q2 dE) ?_
  | refine qE (zMF _ r1 r2) ?_
  | refine qE (zLM _ hr) ?_
  | refine qC (fun _=>?_) fun _=>?_
  | refine qB (Q:=Any) ?_ fun _ _=>?_
end Go.Eng.Pure
namespace Go.Eng
theorem zMb {α ρ : Type} (l : List α) (g : α → Nat) (G a : Nat) (fin : Int → ρ) (body : (Int × Int) → Option ((Int × Int) ⊕ ρ)) (hG : ∀ x ∈ l, g x ≤ G)
    (h:∀ k (hk:k<l.length) (n:Nat),n≤a+k*G→body ((n:Int),(k:Int))=some (.inl (((n+g l[k]:Nat):Int),((k+1:Nat):Int))))
    (h':∀ n:Int,body (n,(l.length:Int))=some (.inr (fin n))):zAB body ((a:Int),0)=some (fin ((a+(l.map g).sum:Nat):Int)):=by
  have hb:∀ k,k≤l.length→((l.take k).map g).sum≤k*G:=by
    intro k hk
    induction k <;> grind [zAa]
  have:=zCg (fun k=>(((a+((l.take k).map g).sum:Nat):Int),(k:Int))) l.length (fin ((a+(l.map g).sum:Nat):Int)) body ?_ ?_
  · simpa using this
  · intro k hk
    rw [h k hk _ gR]
    grind [zAa]
  grind
end Go.Eng
namespace Go.Eng.Pure
open Go Go.Eng
theorem wr4 {b:Nat} (h:4+b≤4*1073741824):wr (4+(b:Int))=((4+b:Nat):Int):=by rw [← wrn h]; congr 1
theorem wr100 {b:Nat} (h:100+b≤4*1073741824):wr (100+(b:Int))=((100+b:Nat):Int):=by rw [← wrn h]; congr 1
theorem wra {a b:Nat} (h:a+b≤4*1073741824):wr ((a:Int)+(b:Int))=((a+b:Nat):Int):=by rw [← wrn h]; congr 1
def lensS (l:List Str):Nat:=(l.map fun s=>4+s.length).sum
theorem zTl (l:List Str) (N B:Nat) (h1:l.length≤N) (h2:∀ s ∈ l,s.length≤B):lensS l≤N*(4+B):=by
 have:lensS l≤l.length*(4+B):=by
  clear h1
  induction l <;> grind [lensS,Nat.succ_mul]
 exact nT this (Nat.mul_le_mul_right _ h1)
def smS (l:List Str):Prop:=l.length≤100∧∀ s ∈ l,s.length≤1000000
def smK (l:List Str):Prop:=l.length≤64∧∀ s ∈ l,s.length≤10000
variable {l:List Str}
theorem smK_S (h:smK l):smS l:=⟨by have:=h.1; omega,fun s hs=>by have:=h.2 s hs; omega⟩
theorem zKj (l:List Str) (h:smS l):zDR l=some (lensS l:Int):=by
 unfold zDR lensS;rw [show (0:Int)=((0:Nat):Int) from rfl,show (((0:Nat):Int),((0:Nat):Int))=(((0:Nat):Int),(0:Int)) from rfl,zMb l (fun s=>4+s.length) 1000004 0 (fun n=>n) _ (fun s hs=>by have:=h.2 s hs; omega)]
 ·simp
 ·intro k hk n hn
  have h1:=h.1;have h2:=h.2 l[k] (lM hk);have hn':n≤200000000:=by omega
  simp only [zFh,zAV hk,zAG,zAF hk,zAA];rw [wr4 (b:=l[k].length) om,wra (a:=n) (b:=4+l[k].length) om,wrs (n:=k) om]
 grind [zFh]
def smE (e:GEntry):Prop:=(e.fKeys.length≤100∧∀ k ∈ e.fKeys,smK k)∧smS e.fVary∧smS e.fSnapshot∧smL e.fFields∧e.fReason.length≤1987∧e.fBody.length≤100000
def fldsS (l:List GField):Nat:=(l.map fun f=>4+f.fName.length+f.fValue.length).sum
def keysS (l:List (List Str)):Nat:=(l.map lensS).sum
def sizeS (e:GEntry):Nat:=100+e.fReason.length+e.fBody.length+lensS e.fVary+lensS e.fSnapshot+fldsS e.fFields+keysS e.fKeys
theorem zQO (h:smS l):lensS l≤100000400:=zTl l 100 1000000 h.1 h.2
theorem zNq (h:smK l):lensS l≤640256:=zTl l 64 10000 h.1 h.2
theorem zUG {l:List GField} (h:smL l):fldsS l≤1100*20004:=by
 have:fldsS l≤l.length*20004:=by
  have h2:=h.2;clear h
  induction l with
  | nil=>simp [fldsS]
  | cons x l ih =>
   have h3:=ih (fun s hs=>h2 s (lN _ hs))
   grind [fldsS]
 exact nT this (Nat.mul_le_mul_right _ h.1)
theorem zUU {l:List (List Str)} (h1:l.length≤100) (h2:∀ k ∈ l,smK k):keysS l≤100*640256:=by
 have:keysS l≤l.length*640256:=by
  clear h1
  induction l <;> grind [keysS,zNq]
 grind
theorem zPr (e:GEntry) (h:smE e):zGC e=some (sizeS e:Int):=by
 obtain ⟨⟨hk1,hk2⟩,hv,hs,hf,hr,hb⟩:=h;unfold zGC sizeS;have b1:=zQO hv; have b2:=zQO hs; have b3:=zUG hf; have b4:=zUU hk1 hk2
 rw [zKj _ hv,zAA,zKj _ hs,zAA,
  wr100 (b:=e.fReason.length) om,wra (a:=100+e.fReason.length) (b:=e.fBody.length) om,wra (a:=100+e.fReason.length+e.fBody.length) (b:=lensS e.fVary) om,
  wra (a:=100+e.fReason.length+e.fBody.length+lensS e.fVary) (b:=lensS e.fSnapshot) om]
 have ha:100+e.fReason.length+e.fBody.length+lensS e.fVary+lensS e.fSnapshot≤300000000:=by omega
 generalize 100+e.fReason.length+e.fBody.length+lensS e.fVary+lensS e.fSnapshot=a at *
 rw [zMb e.fFields (fun f=>4+f.fName.length+f.fValue.length) 20004 a (fun n=>n) _ (fun f hm=>by have:=hf.2 f hm; omega)]
 ·rw [zAA]
  show (zAB (zFx e) (((a+fldsS e.fFields:Nat):Int),0)).bind _=_
  rw [zMb e.fKeys lensS 640256 (a+fldsS e.fFields) (fun n=>n) _ (fun k hm=>zNq (hk2 k hm))]
  ·rfl
  all_goals grind [zNq,zFx,zAF,zKj,smK_S,wra,wrs]
 ·intro k hk n hn
  have h1:=hf.1;have h2:=hf.2 e.fFields[k] (lM hk);have hn':n≤400000000:=by omega
  simp only [zHe,zAV hk,zAG,zAF hk,zAA];rw [wr4 (b:=e.fFields[k].fName.length) om,wra (a:=4+e.fFields[k].fName.length) (b:=e.fFields[k].fValue.length) om,wra (a:=n) (b:=4+e.fFields[k].fName.length+e.fFields[k].fValue.length) om,wrs (n:=k) om]
 grind [zHe]
def ageE (e:GEntry) (now:Int):Int:=ageS e.fFields e.fRequested e.fReceived now
theorem zUm (e:GEntry) (now:Int) (hf:smL e.fFields):zIe e now=some (ageE e now):=by
 unfold zIe;obtain ⟨h1,h2⟩:=smL_F hf;rw [zYc _ h1 h2,zAA]; rfl
theorem zO0 (l:List GField) (n:Str) (hl:l.length≤1073741824) (hf:∀ f ∈ l,smF f) (hn:n.length≤1073741824):zAs l n=some (zKe l n):=by
 unfold zAs zGZ;rw [zBH _ hn];simp only [zAA];rw [zMM l _ (fun f=>!fold f.fName n) hl (fun f h=>by grind [zCJ,zLY]),zAA];rfl
theorem zGH (n:Int) (h1:-9223372036854775808≤n) (h2:n≤9223372036854775807):zBa n=some (Lib.itoa n):=by
 unfold zBa strconv_Itoa
 grind
def viaN:Str:=[86,105,97]
def viaF (l:List GField) (minor:Int) (name:Str):List GField:=l++[⟨viaN,([49,46]++Lib.itoa minor)++[32]++name⟩]
theorem zGs (n:Int) (h1:-9223372036854775808≤n) (h2:n≤9223372036854775807):(Lib.itoa n).length≤21:=by
 have key:∀ (m u:Nat),u<10 ^ m→0<m→(Lib.decDigits u).length≤m:=by
  intro m
  induction m <;> grind [Lib.decDigits]
 unfold Lib.itoa;split
 ·rw [lC]
  have:=key 20 n.natAbs om om;omega
 ·have:=key 20 n.toNat om om
  omega
theorem zTo (l:List GField) (minor:Int) (name:Str) (hl:l.length≤1073741824) (hn:name.length≤1073741824) (h1:-9223372036854775808≤minor) (h2:minor≤9223372036854775807):zKz l minor name=some (viaF l minor name):=by
 have:=zGs minor h1 h2;unfold zKz
 rw [zA0 sI om,zAA,List.nil_append,zGH minor h1 h2,zAA,zCh dE om,zAA,zCh gR dE,zAA,
  zCh gR om,zAA,zA0 om (zDk _),zAA]
 rfl
def respS (e:GEntry) (age:Int) (name:Str):GResponse:=⟨1,200,e.fReason,viaF (zKe e.fFields ageN++[⟨ageN,Lib.itoa age⟩]) 1 name,e.fBody⟩
theorem zNA (e:GEntry) (age:Int) (name:Str) (hf:smL e.fFields) (hn:name.length≤1073741824) (h1:-9223372036854775808≤age) (h2:age≤9223372036854775807):zEc e age name=some (respS e age name):=by
 obtain ⟨f1,f2⟩:=smL_F hf;have hw:=(zM9 hf ageN).1;unfold zEc;rw [zO0 _ _ f1 f2 dE,zAA,zGH age h1 h2,zAA];unfold ageN at hw;rw [zA0 om (zDk _),zAA,zTo _ _ _ gR hn dE dE,zAA];rfl
theorem zOE (e:GEntry) (now:Int) (name:Str) (hf:smL e.fFields) (hn:name.length≤1073741824):zCt e now name=some (respS e (ageE e now) name):=by
 have:=zTj e.fFields (smL_F hf).1 (smL_F hf).2 e.fRequested e.fReceived now
 grind [zCt,zUm,zNA,ageE]
theorem itoa1:Lib.itoa 1=[49]:=by
 grind [Lib.itoa,Lib.decDigits]
end Go.Eng.Pure
namespace Go.Eng.Pure
open Go Go.Eng
theorem ixB (c:UInt8) (b:Str):∀ a:Str,(∀ x ∈ a,x≠c)→Lib.indexByte (a++c :: b) c=(a.length:Int)
 | [],_=>by simp [Lib.indexByte]
 | x :: a,h=>by
  have h1:(x==c)=false:=by simpa using h x lS
  have h2:=ixB c b a (fun y hy=>h y (lN _ hy));rw [List.cons_append,Lib.indexByte,h2,h1,lC]
  grind
theorem zTO {ρ:Type} (kS kV:Option ρ) (k:Int→Option ρ):zJs [72,84,84,80,47,49,46,49] kS kV k=k 1:=rfl
def lineF (f:GField):Str:=if f.fValue=[] then f.fName++[58] else (f.fName++[58,32])++f.fValue
def vldF (f:GField):Bool:=((tok f.fName&&txt f.fValue)&&(trim f.fValue==f.fValue))&&decide ((lineF f).length≤2000)
def smG (f:GField):Prop:=f.fName.length≤10000∧f.fValue.length≤10000
theorem zKM {f:GField} (h:smG f):(lineF f).length≤20002:=by
 unfold lineF;split
 ·simp only [lA,lC,List.length_nil]; have:=h.1; omega
 ·simp only [lA,lC,List.length_nil]; have:=h.1; have:=h.2; omega
theorem zUX (f:GField) (h:smG f):zDi f=some (lineF f):=by
 unfold zDi lineF;have h1:=h.1; have h2:=h.2
 grind [zCh]
theorem zZA (n:Nat):decide ((n:Int)≤2000)=decide (n≤2000):=zOz n 2000
theorem zOO (f:GField) (h:smG f):zDI f=some (vldF f):=by
 have h1:=h.1; have h2:=h.2;unfold zDI vldF;rw [zBf _ om,zAA,zIi _ om,zJh _ om,zUX f h];simp only [zAA,zZA]
 grind
theorem zM8 (f:GField) (h:smG f):zD0 f=some (if vldF f then lineF f else []):=by
 grind [zD0,zOO,zUX]
def smT (l:List GField):Prop:=l.length≤2000∧∀ f ∈ l,smG f
theorem smT_F {l:List GField} (h:smT l):l.length≤1073741824∧∀ f ∈ l,smF f:=⟨by have:=h.1; omega,fun f hf=>by have:=h.2 f hf; exact ⟨by have:=this.1; omega,by have:=this.2; omega⟩⟩
end Go.Eng.Pure
