/- A part. -/
import Derived.Test.YtihjhdoinmfddaaGreatDoorEng4
import Derived.KernelRfl
set_option linter.unusedVariables false
set_option linter.unusedSimpArgs false
namespace Go.Eng
open Go
def fld (P:Program) (T:TypeId) (k:Nat):Option Nat :=
 match P.underlying T with
 | some (.struct fs)=>match fs[k]? with
  | some g=>if P.cellsOf g.type=0 then none else some g.offset
  | none=>none
 | _=>none
def zer (P:Program) (T:TypeId):Option (List Value):=((P.info? T).bind (·.zero)).map (·.cells.toList)
section
variable {P:Program} {N:Frm} {f:Fr} {w w0:World} {H0 H:Hp} {L:List Ent} {ops:Array Oper} {rest:List Oper} {Q:Fr→World→Prop} {d:Nat} {od:Option Nat} {ty:TypeId} {pos:String} {af:Array Edge} {g:Option (Nat×Bool)}
variable {T:TypeId} {a:Addr} {b:Nat} {cs:List Value} {e:TypeId} {i o:Nat} {v:Value} {vs:List Value} {x:Operand} {α:Type} {xs ys:List α}
theorem zSV (hc:v.cells.toList=cs):(Instr.box T v).run P w=.ok (ptr w.heap.size 0) (w.alloc (.cells cs.toArray T)):=by
 subst hc;simp [Instr.box,newVar,newRow,ptr]
theorem W.box (cs : List Value) (S : St w0 H0 w H L) (hx : ev N f x = v) (hc : v.cells.toList = cs)
    (k:∀ b w',St w0 H0 w' H (.box b T cs :: L)→WL P N ops rest Q (upd f d (ptr b 0)) w'):WL P N ops (⟨some d,.box T x,ty,pos,af,none⟩ :: rest) Q f w:=by
  refine WL.wz (v:=ptr w.heap.size 0) (w':=w.alloc (.cells cs.toArray T)) ?_ (k _ _ (S.box T cs.toArray (0,0) cs [] sI om));simp_all [execOp,zSV]
theorem W.alloc (cs : List Value) (S : St w0 H0 w H L) (hc : zer P T = some cs)
    (k:∀ b w',St w0 H0 w' H (.box b T cs :: L)→WL P N ops rest Q (upd f d (ptr b 0)) w'):WL P N ops (⟨some d,.alloc T,ty,pos,af,none⟩ :: rest) Q f w:=by
  unfold zer at hc;cases hi:P.info? T with
  | none=>grind
  | some i =>
    rw [hi] at hc;cases hz:i.zero with
    | none=>simp [hz] at hc
    | some z =>
      simp [hz] at hc;refine WL.wz (v:=ptr w.heap.size 0) (w':=w.alloc (.cells cs.toArray T)) ?_ (k _ _ (S.box T cs.toArray (0,0) cs [] sI om));subst hc;simp [execOp,Instr.alloc,zeroValue,typeInfo,hi,hz,newVar,newRow,ptr]
theorem BoxOk.cell (h:BoxOk w H b T cs) (hv:cs[o]?=some v):w.cell? ⟨b,o,none⟩=some v:=by
 obtain ⟨_,arr,fz,hc,⟨r,hr⟩,_⟩:=h;rw [cell_of_row w b o arr T fz hc,← Array.getElem?_toList,hr,List.getElem?_append_left (List.getElem?_eq_some_iff.1 hv).1];exact hv
theorem St.boxOk (S:St w0 H0 w H L) (hi:L[i]?=some (.box b T cs)):BoxOk w H b T cs:=S.ents _ (lG hi)
theorem R.load1 (hx : ev N f x = .pointer (some a)) (hT : lay P T = some (false, 1)) (hv : w.cell? a = some v) :
  (execOp (ev N f) ⟨od,.load T x,ty,pos,af,g⟩).run P w=.ok (.value v) w:=by
 obtain ⟨h1,_⟩:=zDF (w:=w) hT;simp [execOp,Instr.loadAt,Instr.sureAddr,hx,loadVar,h1,hv]
theorem R.loadN {n : Nat} (hx : ev N f x = .pointer (some a)) (hT : lay P T = some (true, n)) (hn : vs.length = n) (hv : ∀ j v, vs[j]? = some v → w.cell? (a.add j) = some v) :
  (execOp (ev N f) ⟨od,.load T x,ty,pos,af,g⟩).run P w=.ok (.value (agg vs)) w:=by
 obtain ⟨h1,h2⟩:=zDF (w:=w) hT;have h3:=run_loadCells_list (P:=P) (w:=w) a vs hv;simp_all [execOp,Instr.loadAt,Instr.sureAddr,loadVar,agg]
theorem R.loadB {T' : TypeId} (S : St w0 H0 w H L) (hx : ev N f x = ptr b o) (hi : L[i]? = some (.box b T' cs)) (hT : lay P T = some (false, 1)) (hv : cs[o]? = some v) :
  (execOp (ev N f) ⟨od,.load T x,ty,pos,af,g⟩).run P w=.ok (.value v) w:=R.load1 hx hT ((S.boxOk hi).cell hv)
theorem R.loadBN {T' : TypeId} {n : Nat} (S : St w0 H0 w H L) (hx : ev N f x = ptr b o) (hi : L[i]? = some (.box b T' cs)) (hT : lay P T = some (true, n)) (hn : vs.length = n) (hv : (cs.drop o).take n = vs) :
  (execOp (ev N f) ⟨od,.load T x,ty,pos,af,g⟩).run P w=.ok (.value (agg vs)) w:=by
 refine R.loadN hx hT hn fun j v hj=>?_
 rw [Addr.add_lit];refine (S.boxOk hi).cell ?_
 grind
theorem R.loadH (S : St w0 H0 w H L) (hx : ev N f x = .pointer (some a)) (hA : At H a cs) (hT : lay P T = some (false, 1)) (hv : cs[0]? = some v) :
  (execOp (ev N f) ⟨od,.load T x,ty,pos,af,g⟩).run P w=.ok (.value v) w:=by
 refine R.load1 hx hT ?_;have:=hA.cell S.holds hv
 simpa [Addr.add] using this
theorem R.loadHN {n : Nat} (S : St w0 H0 w H L) (hx : ev N f x = .pointer (some a)) (hA : At H a cs) (hT : lay P T = some (true, n)) (hn : vs.length = n) (hv : cs.take n = vs) :
  (execOp (ev N f) ⟨od,.load T x,ty,pos,af,g⟩).run P w=.ok (.value (agg vs)) w:=by
 refine R.loadN hx hT hn fun j v hj=>?_
 refine hA.cell S.holds ?_
 grind
theorem R.field {k off : Nat} (hx : ev N f x = .pointer (some a)) (hF : fld P T k = some off) :
  (execOp (ev N f) ⟨od,.fieldAddr T x k,ty,pos,af,g⟩).run P w=.ok (.value (.pointer (some (a.add off)))) w:=by
 unfold fld at hF;split at hF
 ·rename_i fs hT
  split at hF
  ·rename_i fi hk
   split at hF
   ·cases hF
   ·rename_i hsz
    simp at hF;subst hF;have:(sizeOf fi.type).run P w=.ok (P.cellsOf fi.type) w∨P.info? fi.type=none:=by
     unfold Program.cellsOf;cases hi:P.info? fi.type with
     | none=>exact .inr rfl
     | some i=>simp [sizeOf,typeInfo,hi]
    rcases this with h | h
    all_goals simp_all [execOp,Instr.fieldAt,Instr.sureAddr,run_underlying,fieldPlace,Program.cellsOf]
  ·cases hF
 ·cases hF
theorem R.fieldB {k off : Nat} (hx : ev N f x = ptr b o) (hF : fld P T k = some off) :
  (execOp (ev N f) ⟨od,.fieldAddr T x k,ty,pos,af,g⟩).run P w=.ok (.value (ptr b (o+off))) w:=by
 have:=R.field (P:=P) (w:=w) (od:=od) (ty:=ty) (pos:=pos) (af:=af) (g:=g) hx hF
 rwa [Addr.add_lit] at this
theorem zDj (b o : Nat) (T : TypeId) (fz : Nat × Nat) : ∀ (vs : List Value) (i : Nat) (arr : Array Value) (w : World), w.heap[b]? = some (.cells arr T fz) → o + i + vs.length ≤ arr.size → (∀ v ∈ vs, v.oneCell' = true) →
  (∀ j,o+i≤j→j<o+i+vs.length→¬ (fz.1≤j∧j<fz.2)) →
  ∃ w' arr',(storeCells ⟨b,o,none⟩ vs i).run P w=.ok () w'∧(∀ k,k≠b→w'.heap[k]?=w.heap[k]?)∧w'.heap.size=w.heap.size∧(w'.os=w.os∧w'.tape=w.tape∧w'.output=w.output) ∧
   w'.heap[b]?=some (.cells arr' T fz)∧arr'.toList=arr.toList.take (o+i)++vs++arr.toList.drop (o+i+vs.length)
 | [],i,arr,w,hb,_,_,_=>⟨w,arr,rfl,fun _ _=>rfl,rfl,⟨rfl,rfl,rfl⟩,hb,sI⟩
 | v :: vs,i,arr,w,hb,hl,h1,hf=>by
  have hlen:o+i<arr.size:=by simp at hl; omega
  have hcell:w.cell? ((⟨b,o,none⟩:Addr).add i)=some arr[o+i]:=by
   rw [Addr.add_lit,cell_of_row w b (o+i) arr T fz hb]; simp [hlen]
  have hfr:w.frozen? ((⟨b,o,none⟩:Addr).add i)=false:=by
   rw [Addr.add_lit];have:=hf (o+i) (nR _) sI
   grind [World.frozen?]
  have hw1:(w.setCell ((⟨b,o,none⟩:Addr).add i) v).heap[b]?=some (.cells (arr.setIfInBounds (o+i) v) T fz):=by
   grind [Addr.add_lit,World.setCell]
  obtain ⟨w',arr',hr,hoth,hsz,hos,hb',harr⟩:=zDj b o T fz vs (i+1) (arr.setIfInBounds (o+i) v) _ hw1 gR (fun u hu=>h1 u (lN _ hu)) (fun j h2 h3=>hf j om gR);refine ⟨w',arr',?_,?_,?_,?_,hb',?_⟩
  ·simp_all [storeCells,run_store]
  ·grind [heap_setCell_other,Addr.add_lit]
  ·rw [hsz]; simp
  ·exact ⟨hos.1,hos.2.1,hos.2.2⟩
  grind [List.take_add_one,List.take_set_of_le,List.drop_set_of_lt]
theorem W.store {T' : TypeId} {a : Operand} {n : Nat} {bb : Bool} (cs' : List Value) (S : St w0 H0 w H L) (ha : ev N f a = ptr b o) (hx : ev N f x = v) (hi : L[i]? = some (.box b T' cs)) (hT : lay P T = some (bb, n))
    (hn:v.cells.size=n) (h1:v.cells.toList.all Value.oneCell'=true) (ho:o+n≤cs.length) (hc:zEH cs o v.cells.toList=cs')
    (k:∀ w',St w0 H0 w' H (L.set i (.box b T' cs'))→WL P N ops rest Q (updo f od undef) w'):WL P N ops (⟨od,.store T a x,ty,pos,af,none⟩ :: rest) Q f w:=by
  obtain ⟨_,h2⟩:=zDF (w:=w) hT;obtain ⟨_,arr,fz,hb,⟨r,hr⟩,hf⟩:=S.boxOk hi;have hlen:v.cells.toList.length=n:=by simpa using hn
  have harrl:arr.size=cs.length+r.length:=by grind [lA]
  obtain ⟨w',arr',hrun,hoth,hsz,hos,hb',harr⟩:=zDj (P:=P) b o T' fz v.cells.toList 0 arr w hb om (fun u hu=>List.all_eq_true.1 h1 u hu) (fun j _ h4=>hf j om);refine WL.skipw (w':=w') ?_ (k w' (S.stored hi ?_ hoth hsz hos ?_))
  · simp_all [execOp,Instr.storeAt,Instr.sureAddr,ptr,storeVar]
  · grind [zEH]
  · intro arr2 fz2 r2 hb2 hr2
    rw [hb] at hb2;simp only [oI,Obj.cells.injEq,true_and] at hb2
    grind [zEH]
theorem W.idx [Enc α] {i : Operand} {n : Int} {c : α} (hR : Sl H v xs) (hx : ev N f x = v) (hi : ev N f i = int n) (hE : Elem P T e (Enc.sz α)) (h : xnth xs n = some c)
    (k:∀ a cs,At H a cs→Enc.cells H cs c→WL P N ops rest Q (upd f d (.pointer (some a))) w):WL P N ops (⟨some d,.indexAddr T x i,ty,pos,af,none⟩ :: rest) Q f w:=by
  unfold xnth at h;split at h
  case isFalse=>cases h
  rename_i h0;obtain ⟨a,cp,rfl,h1,h2,h3⟩:=hR;obtain ⟨hlt,hc⟩:=List.getElem?_eq_some_iff.1 h;rcases h3 with rfl | ⟨b,off,cs,rfl,hat,hC⟩
  · simp at hlt
  obtain ⟨cs1,r,hr,hcs1⟩:=hC.get h;have hE':=hE;obtain ⟨ht,inf,z,hinf,_,hsize,_⟩:=hE';have hat':At H ⟨b,off+n.toNat*Enc.sz α,none⟩ cs1:=by
    obtain ⟨T',l,_,hH,r',hr'⟩:=hat;refine ⟨T',l,rfl,hH,r++r',?_⟩
    show l.drop (off+n.toNat*Enc.sz α)=_
    have hle:n.toNat*Enc.sz α≤cs.length:=by
      rw [hC.length]; exact Nat.mul_le_mul_right _ om
    rw [← List.drop_drop,show List.drop off l=cs++r' from hr',List.drop_append_of_le_length hle,hr,List.append_assoc]
  refine WL.wz (v:=.pointer (some ⟨b,off+n.toNat*Enc.sz α,none⟩)) (w':=w) ?_ (k _ _ hat' hcs1);have hr:0≤n∧n<(xs.length:Int):=⟨h0,om⟩;simp [execOp,Instr.indexAt,asIntOf,hx,hi,int,run_underlying ht,hr,sizeOf,typeInfo,hinf,hsize,Addr.add_lit]
theorem Sl.sub [Enc α] {a : Option Addr} {c : Nat} (hR : Sl H (.slice a xs.length c) xs) {n m : Int} (h : xsub xs n m = some ys) :
  Sl H (.slice (if c=n.toNat then a else a.map (·.add (n.toNat*Enc.sz α))) (m.toNat - n.toNat) (c - n.toNat)) ys:=by
 unfold xsub at h;split at h
 case isFalse=>cases h
 rename_i h0;simp only [oI] at h;subst h;obtain ⟨a',c',hv,h1,h2,h3⟩:=hR;simp only [Value.slice.injEq,true_and] at hv;obtain ⟨rfl,rfl⟩:=hv;have hlen:((xs.take m.toNat).drop n.toNat).length=m.toNat - n.toNat:=by simp; omega
 refine ⟨_,c - n.toNat,by rw [hlen],by rw [hlen]; omega,om,?_⟩;by_cases hnm:n.toNat=m.toNat
 ·grind
 ·right
  rcases h3 with rfl | ⟨b,off,cs,rfl,hat,hC⟩
  ·simp at h0; omega
  ·have hne:¬ (c=n.toNat):=by omega
   have hCt:=(hC.take m.toNat om).drop n.toNat (by simp; omega);refine ⟨b,off+n.toNat*Enc.sz α,_,?_,?_,hCt⟩
   ·simp [hne,Addr.add_lit]
   ·obtain ⟨T',l,_,hH,r',hr'⟩:=hat
    refine ⟨T',l,rfl,hH,cs.drop (m.toNat*Enc.sz α)++r',?_⟩;have hml:m.toNat*Enc.sz α≤cs.length:=by rw [hC.length]; exact Nat.mul_le_mul_right _ (by omega)
    have hnl:n.toNat*Enc.sz α≤m.toNat*Enc.sz α:=Nat.mul_le_mul_right _ om
    show l.drop (off+n.toNat*Enc.sz α)=_
    rw [← List.drop_drop,show List.drop off l=cs++r' from hr',List.drop_append_of_le_length om,← List.append_assoc]
    grind [List.take_append_drop]
theorem W.sub [Enc α] {i j : Operand} {n m : Int} (hR : Sl H v xs) (hx : ev N f x = v) (hi : ev N f i = int n) (hj : ev N f j = int m) (hE : Elem P T e (Enc.sz α)) (h : xsub xs n m = some ys)
    (k:∀ v',Sl H v' ys→WL P N ops rest Q (upd f d v') w):WL P N ops (⟨some d,.slice T x (some i) (some j) none,ty,pos,af,none⟩ :: rest) Q f w:=by
  obtain ⟨a,c,rfl,h1,h2,h3⟩:=hR;have hs:=Sl.sub (⟨a,c,rfl,h1,h2,h3⟩) h;refine WL.wz (w':=w) ?_ (k _ hs);obtain ⟨ht,inf,z,hinf,_,hsize,_⟩:=hE;unfold xsub at h;split at h
  case isFalse=>cases h
  rename_i h0;have g1:0≤m∧m≤(c:Int):=⟨om,om⟩;simp [execOp,Instr.sliceAt,Instr.slice,Instr.sliceBounds,Instr.sliceBound,asIntOf,hx,hi,hj,int,run_underlying ht,g1,h0.1,sizeOf,typeInfo,hinf,hsize];intro hc; omega
theorem W.subLo [Enc α] {i : Operand} {n : Int} (hR : Sl H v xs) (hx : ev N f x = v) (hi : ev N f i = int n) (hE : Elem P T e (Enc.sz α)) (h : xsub xs n xs.length = some ys)
    (k:∀ v',Sl H v' ys→WL P N ops rest Q (upd f d v') w):WL P N ops (⟨some d,.slice T x (some i) none none,ty,pos,af,none⟩ :: rest) Q f w:=by
  obtain ⟨a,c,rfl,h1,h2,h3⟩:=hR;have hs:=Sl.sub (⟨a,c,rfl,h1,h2,h3⟩) h;refine WL.wz (w':=w) ?_ (k _ hs);obtain ⟨ht,inf,z,hinf,_,hsize,_⟩:=hE;simp_all [xsub,execOp,Instr.sliceAt,Instr.slice,Instr.sliceBounds,Instr.sliceBound,asIntOf,int,run_underlying,sizeOf,typeInfo]
theorem W.subHi [Enc α] {j : Operand} {m : Int} (hR : Sl H v xs) (hx : ev N f x = v) (hj : ev N f j = int m) (hE : Elem P T e (Enc.sz α)) (h : xsub xs 0 m = some ys)
    (k:∀ v',Sl H v' ys→WL P N ops rest Q (upd f d v') w):WL P N ops (⟨some d,.slice T x none (some j) none,ty,pos,af,none⟩ :: rest) Q f w:=by
  obtain ⟨a,c,rfl,h1,h2,h3⟩:=hR;have hs:=Sl.sub (⟨a,c,rfl,h1,h2,h3⟩) h;refine WL.wz (w':=w) ?_ (k _ hs);obtain ⟨ht,inf,z,hinf,_,hsize,_⟩:=hE;unfold xsub at h;split at h
  case isFalse=>cases h
  rename_i h0;have g1:0≤m∧m≤(c:Int):=⟨om,om⟩;simp_all [execOp,Instr.sliceAt,Instr.slice,Instr.sliceBounds,Instr.sliceBound,asIntOf,int,run_underlying,sizeOf,typeInfo]
theorem W.app [Enc α] {y : Operand} {u : Value} {zs : List α} (S : St w0 H0 w H L) (hE : Elem P T e (Enc.sz α)) (hi : L[i]? = some (.row v e (Enc.sz α) xs.length))
    (hx:ev N f x=v) (hy:ev N f y=u) (hX:Sl H v xs) (hY:Sl H u ys) (h:xapp xs ys=some zs)
    (k:∀ v' w' H',H.le H'→Sl H' v' zs→St w0 H0 w' H' (L.set i (.row v' e (Enc.sz α) zs.length))→WL P N ops rest Q (upd f d v') w'):WL P N ops (⟨some d,.call ⟨.builtin .append,#[x,y],#[T,T]⟩,ty,pos,af,none⟩ :: rest) Q f w:=by
  obtain ⟨v',w',H',hr,hle,hsl,hst⟩:=S.append (P:=P) (t:=T) (ty:=ty) hE hi hX hY h;refine WL.wz (v:=v') (w':=w') ?_ (k v' w' H' hle hsl hst) <;> simp_all [execOp,resolve,invoke,builtin]
theorem zOC (off : Nat) : ∀ (l : List Value) (k : Nat) (arr : Array Value), off + k + l.length ≤ arr.size →
  ((l.zipIdx k).foldl (fun (cs:Array Value) (x:Value×Nat)=>cs.setIfInBounds (off+x.2) x.1) arr).toList=arr.toList.take (off+k)++l++arr.toList.drop (off+k+l.length)
 | [],k,arr,_=>by simp
 | v :: l,k,arr,h=>by
  simp only [List.zipIdx_cons,List.foldl_cons];rw [zOC off l (k+1) _ (by simp at h ⊢; omega)];simp only [Array.toList_setIfInBounds,lC];have hlen:off+k<arr.toList.length:=by simp at h ⊢; omega
  have e1:(arr.toList.set (off+k) v).take (off+(k+1))=arr.toList.take (off+k)++[v]:=by
   rw [← Nat.add_assoc,List.take_add_one,List.take_set_of_le (nR _),List.getElem?_set_self hlen];rfl
  have e2:(arr.toList.set (off+k) v).drop (off+(k+1)+l.length)=arr.toList.drop (off+k+(l.length+1)):=by
   rw [List.drop_set_of_lt om];congr 1; omega
  grind
theorem zQo (sz : Nat) (hsz : 0 < sz) : ∀ (vs : List Value) (i : Nat) (arr : Array Value), (∀ v ∈ vs, v.cells.size = sz) → arr.size = (i + vs.length) * sz →
  ∃ arr',Instr.fill (fun i=>some (i*sz,sz)) arr ((vs.zipIdx i).map fun x=>(x.2,x.1))=some arr'∧arr'.toList=arr.toList.take (i*sz)++(vs.flatMap fun v=>v.cells.toList)
 | [],i,arr,_,hl=>by
  refine ⟨arr,rfl,?_⟩;have:arr.toList.length≤i*sz:=by simp at hl ⊢; omega
  grind
 | v :: vs,i,arr,hv,hl=>by
  have h1:v.cells.size=sz:=hv v lS;have hbound:i*sz+sz≤arr.size:=by rw [hl,lC]; grind
  simp only [List.zipIdx_cons,List.map_cons,Instr.fill];have hno:¬ ((v.cells.size≠sz||decide (i*sz+v.cells.size > arr.size))=true):=by
   simp [h1]; omega
  rw [if_neg hno];have hf:=zOC (i*sz) v.cells.toList 0 arr (by simp [h1]; omega);rw [← Array.foldl_toList,Array.toList_zipIdx];generalize hA:List.foldl (fun (cs:Array Value) (x:Value×Nat)=>cs.setIfInBounds (i*sz+x.2) x.1) arr (v.cells.toList.zipIdx 0)=A at hf;have hAs:A.size=arr.size:=by
   have:=congrArg List.length hf
   grind
  obtain ⟨arr',hr,ha⟩:=zQo sz hsz vs (i+1) A (fun u hu=>hv u (lN _ hu)) gR;refine ⟨arr',?_,?_⟩
  ·rw [← hr]
  ·rw [ha,hf]
   have e:((arr.toList.take (i*sz+0)++v.cells.toList++arr.toList.drop (i*sz+0+v.cells.toList.length))).take ((i+1)*sz)=arr.toList.take (i*sz)++v.cells.toList:=by
    rw [Nat.add_zero];apply List.take_left';simp [h1,Nat.succ_mul];omega
   grind
end
def Con (P:Program) (k:FuncId) (args:List Value) (w:World) (H:Hp) (R:Hp→Value→Prop):Prop :=
 (∀ w,(callFunc k args.toArray).run P w=.ok (.enter k args.toArray) w) ∧
 Calls P k args.toArray w (fun e w'=>∃ v H',e=.returned v∧Post w H w' H'∧R H' v)
def Out (P:Program) (fn:Func) (N:Frm) (w0:World) (H0:Hp) (R:Hp→Value→Prop):Exit→Fr→World→Prop:=fun e f w =>
 (e=.ret∨e=.normal)∧∃ v,(results fn (tm N f)).run P w=.ok v w∧∃ H,Post w0 H0 w H∧R H v
theorem Con.mono {P:Program} {k:FuncId} {args:List Value} {w:World} {H:Hp} {R R':Hp→Value→Prop} (h:Con P k args w H R) (hr:∀ H v,R H v→R' H v):Con P k args w H R' :=
 ⟨h.1,Calls.mono h.2 fun _ _ ⟨v,H',he,hp,hv⟩=>⟨v,H',he,hp,hr _ _ hv⟩⟩
section
variable {P:Program} {N:Frm} {f:Fr} {w w0:World} {H0 H:Hp} {L:List Ent} {ops:Array Oper} {rest:List Oper} {Q:Fr→World→Prop} {d:Nat} {od:Option Nat} {ty:TypeId} {pos:String} {af:Array Edge} {g:Option (Nat×Bool)}
variable {R:Hp→Value→Prop} {T:TypeId} {args:List Value} {e:TypeId} {fn:Func} {r1 r2:ResultVar} {s:Str} {x:Operand}
theorem Con.mk {N : Nat} {c : Code} {k : FuncId} (hf : P.funcs[k]? = some fn) (hb : fn.body = some c) (hn : fn.ntmps = N) (hname : (fn.name == "runtime.NumGoroutine") = false)
    (hsz:Nat.ble args.length N=true) (h:WP P ⟨N,[]⟩ c (Out P fn ⟨N,[]⟩ w H R) (init args) w):Con P k args w H R:=by
  refine ⟨fun w=>?_,?_⟩
  · simp_all [callFunc]
  · refine calls_of_wp hf hb ?_
    have hle:args.length≤N:=nL hsz;have e:({ tmps:=args.toArray++Array.replicate (fn.ntmps - args.toArray.size) undef,defers:=[] }:Act)=act ⟨N,[]⟩ (init args):=by
      simp only [act];congr 1;apply Array.ext_getElem?
      grind [zHG,init]
    rw [e];refine Code.wp_mono (fun e a w' ⟨f',ha,he,v,hv,H',hp,hr⟩=>?_) h;subst ha;rcases he with rfl | rfl
    · exact ⟨rfl,v,hv,v,H',rfl,hp,hr⟩
    · exact ⟨rfl,v,hv,v,H',rfl,hp,hr⟩
theorem W.call {k : FuncId} {xs : List Operand} {ats : Array TypeId} (S : St w0 H0 w H L) (ha : xs.map (ev N f) = args) (C : Con P k args w H R)
    (K:∀ v w' H',H.le H'→St w0 H0 w' H' L→R H' v→WL P N ops rest Q (updo f od v) w'):WL P N ops (⟨od,.call ⟨.value (.func k),xs.toArray,ats⟩,ty,pos,af,none⟩ :: rest) Q f w:=by
  refine WL.enterw (w':=w) (k:=k) (args:=args.toArray) ?_ (Calls.mono C.2 fun e w' ⟨v,H',he,hp,hv⟩=>⟨v,he,K v w' H' hp.le (S.call hp) hv⟩);have:(execOp (ev N f) ⟨od,.call ⟨.value (.func k),xs.toArray,ats⟩,ty,pos,af,none⟩)=callFunc k (#[]++xs.toArray.map (ev N f)++#[]):=rfl;rw [this];have e:(#[]++xs.toArray.map (ev N f)++#[])=args.toArray:=by simp [ha]
  rw [e];exact C.1 w
theorem W.callv {k : FuncId} {xs : List Operand} {ats : Array TypeId} {caps : List Value} (S : St w0 H0 w H L) (hx : ev N f x = .func (.func k) #[] caps.toArray) (ha : xs.map (ev N f) = args) (C : Con P k (args ++ caps) w H R)
    (K:∀ v w' H',H.le H'→St w0 H0 w' H' L→R H' v→WL P N ops rest Q (updo f od v) w'):WL P N ops (⟨od,.call ⟨.value x,xs.toArray,ats⟩,ty,pos,af,none⟩ :: rest) Q f w:=by
  refine WL.enterw (w':=w) (k:=k) (args:=(args++caps).toArray) ?_ (Calls.mono C.2 fun e w' ⟨v,H',he,hp,hv⟩=>⟨v,he,K v w' H' hp.le (S.call hp) hv⟩);have e:xs.toArray.map (ev N f)++caps.toArray=(args++caps).toArray:=by simp [ha]
  have:(execOp (ev N f) ⟨od,.call ⟨.value x,xs.toArray,ats⟩,ty,pos,af,none⟩).run P w=(callFunc k (#[]++xs.toArray.map (ev N f)++caps.toArray)).run P w:=by
    simp [execOp,resolve,hx,Deferred.ofValue,invoke]
  rw [this,Array.empty_append,e];exact C.1 w
theorem zOh {t:Nat} (hr:fn.results=#[.tmp t]) (tmps:Array Value):(results fn tmps).run P w=.ok (tmps.getD t undef) w:=by
 simp [results,hr]
theorem zP7 (N:Frm) (f:Fr) (t:Nat):(tm N f).getD t undef=ev N f (.tmp t):=by
 have:=zJ6 N f (.tmp t)
 simpa [Act.eval,act] using this
def Res (P:Program) (N:Frm) (f:Fr) (w:World):ResultVar→Value→Prop
 | .tmp t,v=>ev N f (.tmp t)=v
 | .cell a t,v=>∃ b,ev N f (.tmp a)=.pointer (some b)∧(loadVar t b).run P w=.ok v w
def zL5 (tmps:Array Value):ResultVar→Sem Value
 | .tmp t=>pure (tmps.getD t undef)
 | .cell a t=>do loadVar t (← asAddr (tmps.getD a undef))
theorem zEI (fn:Func) (tmps:Array Value):results fn tmps=(fn.results.mapM (zL5 tmps) >>= fun vs=>(pure (if h:vs.size=1 then vs[0] else .tuple vs):Sem Value)):=by
 unfold results;congr 1
theorem zA7 {r:ResultVar} {v:Value} (h:Res P N f w r v):(zL5 (tm N f) r).run P w=.ok v w:=by
 cases r with
 | tmp t =>
  have h':ev N f (.tmp t)=v:=h;simp only [zL5,zP7,h']; rfl
 | cell a t =>
  obtain ⟨b,h1,h2⟩:=h
  grind [zL5,zP7,asAddr]
theorem Out.one {r:ResultVar} {v:Value} (hr:fn.results=#[r]) (S:St w0 H0 w H L) (h:Res P N f w r v) (hR:R H v):Out P fn N w0 H0 R .ret f w:=by
 refine ⟨.inl rfl,v,?_,H,S.post,hR⟩;have:=zA7 h;rw [zEI,hr];simp_all
theorem Out.two {v1 v2:Value} (hr:fn.results=#[r1,r2]) (S:St w0 H0 w H L) (h1:Res P N f w r1 v1) (h2:Res P N f w r2 v2) (hR:R H (.tuple ⟨[v1,v2]⟩)):Out P fn N w0 H0 R .ret f w:=by
 refine ⟨.inl rfl,_,?_,H,S.post,hR⟩;have h1:=zA7 h1;have h2:=zA7 h2;rw [zEI,hr];simp_all
theorem Out.three {r3:ResultVar} {v1 v2 v3:Value} (hr:fn.results=#[r1,r2,r3]) (S:St w0 H0 w H L) (h1:Res P N f w r1 v1) (h2:Res P N f w r2 v2) (h3:Res P N f w r3 v3) (hR:R H (.tuple ⟨[v1,v2,v3]⟩)):Out P fn N w0 H0 R .ret f w:=by
 refine ⟨.inl rfl,_,?_,H,S.post,hR⟩;have h1:=zA7 h1;have h2:=zA7 h2;have h3:=zA7 h3;rw [zEI,hr];simp_all
theorem Res.cellB {T T' a b i n:Nat} {bb:Bool} {cs:List Value} (S:St w0 H0 w H L) (hx:ev N f (.tmp a)=ptr b 0) (hi:L[i]?=some (.box b T' cs)) (hT:lay P T=some (true,n)) (hn:cs.length=n) (_hb:bb=true):Res P N f w (.cell a T) (agg cs):=by
 refine ⟨⟨b,0,none⟩,hx,?_⟩;obtain ⟨h1,h2⟩:=zDF (w:=w) hT;have h3:=run_loadCells_list (P:=P) (w:=w) ⟨b,0,none⟩ cs (fun j v hj=>by rw [Addr.add_lit]; exact (S.boxOk hi).cell (by simpa using hj));simp_all [loadVar,agg]
theorem W.bslice {α : Type} [Enc α] {n : Nat} {ps : List (Nat × Operand)} (vs : List Value) (xs : List α) (S : St w0 H0 w H L) (hE : Elem P T e (Enc.sz α))
    (hp:(ps.map fun p=>(p.1,ev N f p.2))=(vs.zipIdx.map fun x=>(x.2,x.1))) (hn:vs.length=n) (hx:xs.length=n) (hbig:n*Enc.sz α≤16777216)
    (hC:∀ (i:Nat) (v:Value) (x:α),vs[i]?=some v→xs[i]?=some x→v.cells.size=Enc.sz α∧Enc.cells H v.cells.toList x)
    (K:∀ u w' H',H.le H'→Sl H' u xs→St w0 H0 w' H' (.row u e (Enc.sz α) xs.length :: L)→WL P N ops rest Q (upd f d u) w'):WL P N ops (⟨some d,.buildSlice T n ps.toArray,ty,pos,af,none⟩ :: rest) Q f w:=by
  have hsz:=Enc.pos (α:=α);have hE':=hE;obtain ⟨ht,inf,z,hinf,hz,hsize,hzs,hbytes⟩:=hE';have hvs:∀ v ∈ vs,v.cells.size=Enc.sz α:=by
    intro v hv;obtain ⟨i,hi⟩:=lI.1 hv;have hlt:i<xs.length:=by grind
    exact (hC i v xs[i] hi (List.getElem?_eq_getElem hlt)).1
  generalize hzero:((Array.range (n*Enc.sz α)).map (z.cells[· % z.cells.size]!))=zs;have hzsz:zs.size=(0+vs.length)*Enc.sz α:=by grind
  obtain ⟨arr',hfill,harr⟩:=zQo (Enc.sz α) hsz vs 0 zs hvs hzsz;have harr2:arr'.toList=vs.flatMap fun v=>v.cells.toList:=by simpa using harr
  have hCells:∀ (vs:List Value) (xs:List α),vs.length=xs.length→(∀ (i:Nat) (v:Value) (x:α),vs[i]?=some v→xs[i]?=some x→v.cells.size=Enc.sz α∧Enc.cells H v.cells.toList x)→Cells H (vs.flatMap fun v=>v.cells.toList) xs:=by
    intro vs
    induction vs with
    | nil=>intro xs hl _; cases xs with
      | nil=>rfl
      | cons _ _=>cases hl
    | cons v vs ih =>
      intro xs hl h;cases xs with
      | nil=>cases hl
      | cons x xs =>
        exact ⟨_,_,rfl,(h 0 v x rfl rfl).2,ih xs (by simpa using hl) fun i v x hv hx=>h (i+1) v x (by simpa using hv) (by simpa using hx)⟩
  have hcells:=hCells vs xs (by rw [hn,hx]) hC;have hclen:=hcells.length;have harrs:arr'.size=n*Enc.sz α:=by grind
  have S1:=S.box e arr' (0,0) arr'.toList [] sI om;obtain ⟨H',hle,hHn,hHo,S2⟩:=S1.settle (i:=0) rfl;simp only [List.eraseIdx_cons_zero] at S2;have hmax:n≤maxLen:=by
    have:n*1≤n*Enc.sz α:=Nat.mul_le_mul_left _ hsz;simp only [maxLen]; omega
  have hSl:Sl H' (.slice (some ⟨w.heap.size,0,none⟩) n n) xs :=
    ⟨some ⟨w.heap.size,0,none⟩,n,by rw [hx],om,hmax,.inr ⟨w.heap.size,0,arr'.toList,rfl,⟨e,_,rfl,hHn,[],sI⟩,by rw [harr2]; exact hcells.mono hle⟩⟩
  have hrow:RowOk (w.alloc (.cells arr' e)) H' (.slice (some ⟨w.heap.size,0,none⟩) n n) e (Enc.sz α) xs.length :=
    .inr ⟨w.heap.size,n,arr',by rw [hx],heap_alloc_new w _,om,hmax,harrs,gR⟩
  have S3:St w0 H0 (w.alloc (.cells arr' e)) H' (.row (.slice (some ⟨w.heap.size,0,none⟩) n n) e (Enc.sz α) xs.length :: L):=by
    refine ⟨S2.post,?_,?_,?_⟩
    · intro x hxm
      rcases List.mem_cons.1 hxm with rfl | hxm
      · exact hrow
      · exact S2.ents x hxm
    · intro x hxm b hb
      rcases List.mem_cons.1 hxm with rfl | hxm
      · simp [Ent.blk,Value.ownBlock] at hb; subst hb; exact S.post.below.size
      · exact S2.own x hxm b hb
    · have:(Ent.row (.slice (some ⟨w.heap.size,0,none⟩) n n) e (Enc.sz α) xs.length).blk=some w.heap.size:=rfl
      rw [List.filterMap_cons,this];exact List.nodup_cons.2 ⟨fun hm=>Nat.lt_irrefl _ (S.lt hm),S.nodup⟩
  refine WL.wz (v:=.slice (some ⟨w.heap.size,0,none⟩) n n) (w':=w.alloc (.cells arr' e)) ?_ (K _ _ H' hle hSl S3);have hps:ps.toArray.map (fun x=>(x.1,ev N f x.2))=(vs.zipIdx.map fun x=>(x.2,x.1)).toArray:=by grind
  have hno:¬ (2 ^ 24<n*inf.size):=by rw [hsize]; omega
  have hz0:∀ (b:Bool),True:=fun _=>trivial
  by_cases h0:n*Enc.sz α=0
  · have hn0 : n = 0 := by
      grind [Nat.mul_eq_zero]
    subst hn0;have hv0:vs=[]:=List.eq_nil_of_length_eq_zero hn;subst hv0;have ha0:arr'=#[]:=by
      grind
    subst ha0;have hps0:ps=[]:=by
      simp_all
    subst hps0;simp [execOp,Instr.buildSlice,run_underlying ht,sizeOf,typeInfo,hinf,newRow,Instr.fill]
    grind
  · have hmatch:(fun x:Nat×Operand=>match x with | (i,x)=>(i,ev N f x))=fun x=>(x.1,ev N f x.2):=by funext x; rfl
    simp only [execOp,Instr.buildSlice,hps,run_underlying ht,sizeOf,typeInfo,hinf,Sem.run_bind,run_program,Result.andThen_ok,Sem.run_pure,zeroValue,hsize] <;> simp_all [newRow]
theorem W.bytes {T' : TypeId} (S : St w0 H0 w H L) (hx : ev N f x = str s) (hs : P.underlying T = some .string) (hd : P.underlying T' = some (.slice e)) (he : P.underlying e = some (.int .u8))
    (K:∀ b c w',s.length≤c→St w0 H0 w' H (.box b e (s.map byt) :: L)→WL P N ops rest Q (upd f d (.slice (some ⟨b,0,none⟩) s.length c)) w'):WL P N ops (⟨some d,.convert T T' x,ty,pos,af,none⟩ :: rest) Q f w:=by
  have hr:=run_bytes_of_string (P:=P) w T T' e ⟨⟨s⟩⟩ hs hd he;have hcap:=grownCap_ge w s.length 0 e;have e1:(bytesRow ⟨⟨s⟩⟩ (grownCap w s.length 0 e)).toList=s.map byt++List.replicate (grownCap w s.length 0 e - s.length) (.int .u8 0):=by
    simp only [bytesRow,Array.toList_append,Array.toList_map,Array.toList_replicate,zHT];rfl
  have hlen:s.length≤(bytesRow ⟨⟨s⟩⟩ (grownCap w s.length 0 e)).size:=by rw [← Array.length_toList,e1]; simp
  have S1:=S.drew.box e (bytesRow ⟨⟨s⟩⟩ (grownCap w s.length 0 e)) ((bytesRow ⟨⟨s⟩⟩ (grownCap w s.length 0 e)).size,(bytesRow ⟨⟨s⟩⟩ (grownCap w s.length 0 e)).size+1) (s.map byt) _ e1 (by
    grind)
  refine WL.wz (v:=.slice (some ⟨w.heap.size,0,none⟩) s.length (grownCap w s.length 0 e)) ?_ (K w.heap.size _ _ hcap S1);rw [show (Value.string ⟨⟨s⟩⟩)=ev N f x from hx.symm] at hr;simp only [execOp,Sem.run_bind,hr];rfl
theorem R.idxB {i : Operand} {b n c : Nat} {m : Int} (hx : ev N f x = .slice (some ⟨b, 0, none⟩) n c) (hi : ev N f i = int m) (hE : Elem P T e 1) (h : 0 ≤ m ∧ m < n) :
  (execOp (ev N f) ⟨od,.indexAddr T x i,ty,pos,af,g⟩).run P w=.ok (.value (ptr b m.toNat)) w:=by
 obtain ⟨ht,inf,z,hinf,_,hsize,_⟩:=hE;simp [execOp,Instr.indexAt,asIntOf,hx,hi,int,run_underlying ht,h,sizeOf,typeInfo,hinf,hsize,Addr.add_lit,ptr]
theorem zBx {m:Int} {c:UInt8} (h:xnth s m=some c):(s.map byt)[m.toNat]?=some (byt c)∧0≤m∧m<s.length:=by
 unfold xnth at h
 grind
theorem zSK (s:Str) (i:Nat) (c:UInt8) (h:i<s.length):zEH (s.map byt) i [byt c]=(s.set i c).map byt:=by
 grind [zEH,List.map_set,List.set_eq_take_append_cons_drop]
theorem zN9 {H:Hp} (hw:Holds w H) {a:Addr} (hA:At H a (s.map byt)):(loadCells a s.length).run P w=.ok (s.map byt).toArray w:=by
 have:=run_loadCells_list (P:=P) (w:=w) a (s.map byt) (fun j v hj=>hA.cell hw hj)
 simpa using this
theorem zJx {a:Addr} {c:Nat} (h:(loadCells a s.length).run P w=.ok (s.map byt).toArray w):(Conv.bytesToString (.slice (some a) s.length c)).run P w=.ok (str s) w:=by
 have e:(s.map byt).toArray=((s.map fun c=>(c.toNat:Int)).map (Value.int .u8)).toArray:=by
  simp [byt]
 rw [e] at h;have hr:=run_bytesToString (P:=P) w a s.length c (s.map fun c=>(c.toNat:Int)) h;rw [hr];congr 1;unfold str;congr 1;have key:∀ (l:Str) (r:ByteArray),(l.map fun c=>(c.toNat:Int)).foldl (fun r n=>r.push (UInt8.ofNat n.toNat)) r=⟨⟨r.data.toList++l⟩⟩:=by
  intro l
  induction l <;> simp_all
 simp_all
theorem R.strB {T' : TypeId} {b c i : Nat} (S : St w0 H0 w H L) (hx : ev N f x = .slice (some ⟨b, 0, none⟩) s.length c) (hi : L[i]? = some (.box b e (s.map byt))) (hs : P.underlying T = some (.slice e)) (hd : P.underlying T' = some .string) (he : P.underlying e = some (.int .u8)) :
  (execOp (ev N f) ⟨od,.convert T T' x,ty,pos,af,g⟩).run P w=.ok (.value (str s)) w:=by
 have h:(loadCells ⟨b,0,none⟩ s.length).run P w=.ok (s.map byt).toArray w:=by
  have:=run_loadCells_list (P:=P) (w:=w) ⟨b,0,none⟩ (s.map byt) (fun j v hj=>by rw [Addr.add_lit]; exact (S.boxOk hi).cell (by simpa using hj))
  simpa using this
 simp_all [zJx,execOp,convert,run_underlying]
end
instance:Enc UInt8 where
 sz:=1
 cells _ cs x:=cs=[byt x]
 pos:=Nat.one_pos
 len h:=by rw [h]; rfl
 mono h _:=h
 one h v hv:=by rw [h] at hv; simp at hv; subst hv; rfl
instance:Enc Str where
 sz:=1
 cells _ cs x:=cs=[str x]
 pos:=Nat.one_pos
 len h:=by rw [h]; rfl
 mono h _:=h
 one h v hv:=by rw [h] at hv; simp at hv; subst hv; rfl
instance:Enc Int where
 sz:=1
 cells _ cs x:=cs=[int x]
 pos:=Nat.one_pos
 len h:=by rw [h]; rfl
 mono h _:=h
 one h v hv:=by rw [h] at hv; simp at hv; subst hv; rfl
instance:Enc Bool where
 sz:=1
 cells _ cs x:=cs=[boo x]
 pos:=Nat.one_pos
 len h:=by rw [h]; rfl
 mono h _:=h
 one h v hv:=by rw [h] at hv; simp at hv; subst hv; rfl
section
variable {P:Program} {N:Frm} {f:Fr} {w w0:World} {H0 H:Hp} {L:List Ent} {od:Option Nat} {ty:TypeId} {pos:String} {af:Array Edge} {g:Option (Nat×Bool)}
theorem Cells.bytes:∀ {xs:Str} {l:List Value},Cells (α:=UInt8) H l xs→l=xs.map byt
 | [],_,h=>h
 | x :: xs,_,⟨cs,r,e,hc,hr⟩=>by rw [e,show cs=[byt x] from hc,Cells.bytes hr]; rfl
theorem R.strL {T T' e : TypeId} {x : Operand} {v : Value} {s : Str} (S : St w0 H0 w H L) (hR : Sl (α := UInt8) H v s) (hx : ev N f x = v) (hs : P.underlying T = some (.slice e)) (hd : P.underlying T' = some .string) (he : P.underlying e = some (.int .u8)) :
  (execOp (ev N f) ⟨od,.convert T T' x,ty,pos,af,g⟩).run P w=.ok (.value (str s)) w:=by
 obtain ⟨a,c,rfl,h1,h2,h3⟩:=hR;cases a with
 | none =>
  have:s=[]:=by
   grind
  subst this;simp [execOp,convert,hx,run_underlying hs,run_underlying hd,run_underlying he,Conv.bytesToString];rfl
 | some a =>
  have h:(loadCells a s.length).run P w=.ok (s.map byt).toArray w:=by
   rcases h3 with rfl | ⟨b,off,cs,ha,hat,hC⟩
   ·rfl
   ·simp at ha; subst ha
    rw [hC.bytes] at hat;exact zN9 S.holds hat
  simp_all [zJx,execOp,convert,run_underlying]
end
instance (priority:=low) {α:Type} [Enc α]:Enc (List α) where
 sz:=1
 cells H cs x:=∃ v,cs=[v]∧Sl H v x
 pos:=Nat.one_pos
 len:=fun ⟨v,h,_⟩=>by rw [h]; rfl
 mono:=fun ⟨v,h,hs⟩ hl=>⟨v,h,hs.mono hl⟩
 one:=fun ⟨v,h,hs⟩ u hu=>by
  rw [h] at hu; simp at hu; subst hu;obtain ⟨a,c,rfl,_⟩:=hs; rfl
theorem bindE {α β:Type} {m:Option α} {k:α→Option β} {r:β} (h:m.bind k=some r):∃ x,m=some x∧k x=some r:=Option.bind_eq_some_iff.1 h
theorem condE {α:Type} {c:Bool} {x y:Option α} {r:α} (h:(bif c then x else y)=some r):(c=true∧x=some r)∨(c=false∧y=some r):=by
 grind
theorem condT {α:Type} {c:Bool} {x y:Option α} {r:α} (h:(bif c then x else y)=some r) (hc:c=true):x=some r:=by subst hc; exact h
theorem condF {α:Type} {c:Bool} {x y:Option α} {r:α} (h:(bif c then x else y)=some r) (hc:c=false):y=some r:=by subst hc; exact h
theorem boolE (b:Bool):b=true∨b=false:=by cases b <;> simp
def xquo (a b:Int):Option Int:=if b=0 then none else some (wr (a.tdiv b))
def xrem (a b:Int):Option Int:=if b=0 then none else some (a.tmod b)
section
variable {P:Program} {N:Frm} {f:Fr} {w:World}
theorem WP.cut {c:Code} {Q:Exit→Fr→World→Prop} (Mid:Fr→World→Prop) (hx:WP P N c (fun e f w=>match e with | .normal=>Mid f w | e=>Q e f w) f w) (k:∀ f w,Mid f w→Q .normal f w):WP P N c Q f w :=
 hx.mono fun e f w h=>by
  grind
theorem WP.loopM {σ ρ : Type} {c : Code} {Q : Exit → Fr → World → Prop} (body : σ → Option (σ ⊕ ρ)) (I : σ → Fr → World → Prop) (s : σ) (r : ρ) (hw : zAB body s = some r) {f : Fr} {w : World} (hI : I s f w)
    (h:∀ s f w,I s f w→∀ y,body s=some y→(match y with | .inr r'=>r'=r | .inl _=>True) →
      WP P N c (fun e f' w'=>match y with | .inl s'=>e=.normal∧I s' f' w' | .inr _=>match e with | .normal=>False | e=>Q e f' w') f w) :
    WP P N (.loop c) Q f w :=
  WP.loop body I s r hw hI fun s f w hI y hy hr=>(h s f w hI y hy hr).mono fun e f' w' hq=>by
    cases y with
    | inl s'=>exact hq
    | inr r'=>cases e <;> exact hq
variable {v:Value} {x y:Operand}
theorem R.mv {d:Option Nat} {ty:TypeId} {pos:String} {af:Array Edge} {g:Option (Nat×Bool)} (hx:ev N f x=v):(execOp (ev N f) ⟨d,.move x,ty,pos,af,g⟩).run P w=.ok (.value v) w:=by rw [← hx]; rfl
theorem R.as {d:Option Nat} {ty:TypeId} {pos:String} {af:Array Edge} {g:Option (Nat×Bool)} (hx:ev N f x=v):(execOp (ev N f) ⟨d,.assign x,ty,pos,af,g⟩).run P w=.ok (.value v) w:=by rw [← hx]; rfl
theorem WL.gund {ops : Array Oper} {rest : List Oper} {d : Option Nat} {op : Op} {ty : TypeId} {pos : String} {af : Array Edge} {Q : Fr → World → Prop} {j t : Nat} {b : Bool}
    (hj:(ops[j]?).bind (·.dst)=some t) (hv:ev N f (.tmp t)=undef) (h:WL P N ops rest Q (updo f d undef) w):WL P N ops (⟨d,op,ty,pos,af,some (j,b)⟩ :: rest) Q f w:=by
  have hy:yielded ops (act N f).tmps j=none:=by
    grind [yielded,act,zHG,ev,zLt,undef]
  have h:=h.out;refine ⟨?_⟩
  grind [wpList,Region.wanted,zCK]
variable {d:Option Nat} {ty:TypeId} {pos:String} {af:Array Edge} {g:Option (Nat×Bool)}
theorem R.pickT {c:Operand} {b:Bool} (hc:ev N f c=boo b) (hb:b=true) (hx:ev N f x=v):(execOp (ev N f) ⟨d,.pick c x y,ty,pos,af,g⟩).run P w=.ok (.value v) w:=by
 grind [R.pick]
theorem R.pickF {c:Operand} {b:Bool} (hc:ev N f c=boo b) (hb:b=false) (hy:ev N f y=v):(execOp (ev N f) ⟨d,.pick c x y,ty,pos,af,g⟩).run P w=.ok (.value v) w:=by
 grind [R.pick]
theorem R.quo' {a b c:Int} {T T':TypeId} (hx:ev N f x=int a) (hy:ev N f y=int b) (h:xquo a b=some c):(execOp (ev N f) ⟨d,.binOp .quo T x y T',ty,pos,af,g⟩).run P w=.ok (.value (int c)) w:=by
 grind [xquo,R.quo]
theorem R.rem' {a b c:Int} {T T':TypeId} (hx:ev N f x=int a) (hy:ev N f y=int b) (h:xrem a b=some c):(execOp (ev N f) ⟨d,.binOp .rem T x y T',ty,pos,af,g⟩).run P w=.ok (.value (int c)) w:=by
 grind [xrem,R.rem]
end
def memb:List Nat→Nat→Bool
 | [],_=>false
 | d :: ds,t=>bif Nat.beq t d then true else memb ds t
def upds (f:Fr) (ds:List Nat) (us:Fr):Fr:=fun t=>bif memb ds t then us t else f t
def agree (f f':Fr) (ds:List Nat):Prop:=∀ t,memb ds t=false→f' t=f t
variable {b:Bool} {ds es:List Nat} {f:Fr} {x:Bool}
theorem zR3:agree f f ds:=fun _ _=>rfl
theorem zTv {f':Fr} {d:Nat} {v:Value} (hd:memb ds d=true) (h:agree f f' ds):agree f (upd f' d v) ds:=fun t ht=>by
 have:Nat.beq t d=false:=by
  cases hb:Nat.beq t d <;> simp_all
 show (bif Nat.beq t d then v else f' t)=f t
 rw [this]; exact h t ht
theorem zRy {f':Fr} {us:Fr} (hd:∀ t,memb es t=true→memb ds t=true) (h:agree f f' ds):agree f (upds f' es us) ds:=fun t ht=>by
 show (bif memb es t then us t else f' t)=f t
 cases hb:memb es t with
 | false=>exact h t ht
 | true=>grind
def subs (es ds:List Nat):Bool:=es.all fun t=>memb ds t
theorem zOD (h:subs es ds=true) (t:Nat) (ht:memb es t=true):memb ds t=true:=by
 induction es with
 | nil=>cases ht
 | cons e es ih =>
  simp only [subs,List.all_cons,bQ] at h;simp only [memb] at ht;cases hb:Nat.beq t e with
  | false=>rw [hb] at ht; exact ih h.2 ht
  | true=>simp_all
theorem zP4 {f':Fr} {us:Fr} (hd:subs es ds=true) (h:agree f f' ds):agree f (upds f' es us) ds:=zRy (zOD hd) h
theorem zNu {f':Fr} {dp:Nat} {v:Value} (h1:f' dp=v) (h2:agree f f' (dp :: ds)):f'=upd (upds f ds f') dp v:=by
 funext t
 show f' t=bif Nat.beq t dp then v else bif memb ds t then f' t else f t
 cases hb:Nat.beq t dp with
 | true=>simp_all
 | false =>
  cases hm:memb ds t with
  | true=>rfl
  | false=>exact h2 t (by grind [memb])
theorem andT (hb:b=true):boo x=boo (b&&x):=by subst hb; rfl
theorem andF (hb:b=false):boo false=boo (b&&x):=by subst hb; rfl
theorem orT (hb:b=true):boo true=boo (b||x):=by subst hb; rfl
theorem orF (hb:b=false):boo x=boo (b||x):=by subst hb; rfl
theorem zN7 {P:Program} {ops:Array Oper} {Q:Exit→Act→World→Prop}:∀ (l l':List Oper) (a:Act) (w:World),wpList P ops (fun e a w=>match e with | .normal=>wpList P ops Q l' a w | e=>Q e a w) l a w→wpList P ops Q (l++l') a w:=by
 intro l l'
 induction l with
 | nil=>intro a w h; exact h
 | cons o l ih =>
  intro a w h;rw [List.cons_append];unfold wpList at h ⊢;split
  ·rename_i hw
   rw [if_pos hw] at h;rcases h with h | ⟨hk,a0,w0,hq⟩
   ·refine .inl ?_
    unfold Oper.wp at h ⊢;generalize (execOp a.eval o).run P w=r at h ⊢;cases r with
    | ok n w' =>
     cases n with
     | enter g args =>
      exact Calls.mono h (fun e w'' he=>by
       cases e with
       | returned v=>exact ih _ _ he
       | panicked c=>exact he
       | outgrown=>exact he)
     | row r args=>exact Rows.mono h (fun v w'' he=>ih _ _ he)
     | value v=>exact ih _ _ h
     | skip=>exact ih _ _ h
     | defer d=>exact ih _ _ h
     | _=>exact h
    | halt x w'=>cases x <;> exact h
   ·exact .inr ⟨hk,a0,w0,hq⟩
  grind
section
variable {P:Program} {N:Frm} {f:Fr} {w:World} {ops:Array Oper} {Q:Fr→World→Prop} {l:List Oper}
theorem WL.mono {Q':Fr→World→Prop} (h:WL P N ops l Q f w) (hq:∀ f w,Q f w→Q' f w):WL P N ops l Q' f w:=by
 have key:∀ (l:List Oper) (a:Act) (w:World),wpList P ops (fun e a w'=>∃ f',a=act N f'∧e=.normal∧Q f' w') l a w→wpList P ops (fun e a w'=>∃ f',a=act N f'∧e=.normal∧Q' f' w') l a w:=by
  intro l
  induction l with
  | nil=>intro a w ⟨f',ha,he,q⟩; exact ⟨f',ha,he,hq _ _ q⟩
  | cons o rest ih =>
   intro a w h;unfold wpList at h ⊢;split
   ·rename_i hw
    rw [if_pos hw] at h;rcases h with h | ⟨hk,a0,w0,f0,ha,he,hq0⟩
    ·refine .inl ?_
     unfold Oper.wp at h ⊢;generalize (execOp a.eval o).run P w=r at h ⊢;cases r with
     | ok n w' =>
      cases n with
      | enter g args =>
       exact Calls.mono h (fun e w'' he=>by
        cases e with
        | returned v=>exact ih _ _ he
        | panicked c=>grind
        | outgrown=>obtain ⟨a0,w0,f0,_,hc,_⟩:=he; cases hc)
      | row r args=>exact Rows.mono h (fun v w'' he=>ih _ _ he)
      | value v=>exact ih _ _ h
      | skip=>exact ih _ _ h
      | defer d=>exact ih _ _ h
      | _=>exact h
     | halt x w' =>
      cases x with
      | panic v=>obtain ⟨f',_,hc,_⟩:=h; cases hc
      | _=>exact h
    ·cases he
   grind
 exact ⟨key _ _ _ h.out⟩
theorem WL.append {l l':List Oper} (h:WL P N ops l (fun f w=>WL P N ops l' Q f w) f w):WL P N ops (l++l') Q f w:=by
 refine ⟨zN7 _ _ _ _ ?_⟩;have key:∀ (l:List Oper) (a:Act) (w:World),wpList P ops (fun e a w'=>∃ f',a=act N f'∧e=.normal∧WL P N ops l' Q f' w') l a w→wpList P ops (fun e a w=>match e with | .normal=>wpList P ops (fun e a w'=>∃ f',a=act N f'∧e=.normal∧Q f' w') l' a w | e=>∃ f',a=act N f'∧e=.normal∧Q f' w) l a w:=by
  intro l
  induction l with
  | nil=>intro a w ⟨f',ha,he,q⟩; subst ha; exact q.out
  | cons o rest ih =>
   intro a w h;unfold wpList at h ⊢;split
   ·rename_i hw
    rw [if_pos hw] at h;rcases h with h | ⟨hk,a0,w0,f0,ha,he,hq0⟩
    ·refine .inl ?_
     unfold Oper.wp at h ⊢;generalize (execOp a.eval o).run P w=r at h ⊢;cases r with
     | ok n w' =>
      cases n with
      | enter g args =>
       exact Calls.mono h (fun e w'' he=>by
        cases e with
        | returned v=>exact ih _ _ he
        | panicked c=>grind
        | outgrown=>obtain ⟨a0,w0,f0,_,hc,_⟩:=he; cases hc)
      | row r args=>exact Rows.mono h (fun v w'' he=>ih _ _ he)
      | value v=>exact ih _ _ h
      | skip=>exact ih _ _ h
      | defer d=>exact ih _ _ h
      | _=>exact h
     | halt x w' =>
      cases x with
      | panic v=>obtain ⟨f',_,hc,_⟩:=h; cases hc
      | _=>exact h
    ·cases he
   grind
 exact key _ _ _ h.out
theorem WL.grp (n : Nat) (ds : List Nat) (dp : Nat) (v : Value) (h : WL P N ops (l.take n) (fun f' w' => f' dp = v ∧ agree f f' (dp :: ds) ∧ w' = w) f w)
    (k:∀ us,WL P N ops (l.drop n) Q (upd (upds f ds us) dp v) w):WL P N ops l Q f w:=by
  rw [← List.take_append_drop n l];refine WL.append (h.mono fun f' w' ⟨h1,h2,h3⟩=>?_);subst h3;rw [zNu h1 h2];exact k f'
theorem WL.grpw (n : Nat) (ds : List Nat) (dp : Nat) (v : Value) (Mid : World → Prop) (h : WL P N ops (l.take n) (fun f' w' => f' dp = v ∧ agree f f' (dp :: ds) ∧ Mid w') f w)
    (k:∀ us w',Mid w'→WL P N ops (l.drop n) Q (upd (upds f ds us) dp v) w'):WL P N ops l Q f w:=by
  rw [← List.take_append_drop n l];refine WL.append (h.mono fun f' w' ⟨h1,h2,h3⟩=>?_);rw [zNu h1 h2];exact k f' w' h3
end
def elemB (P:Program) (T e:TypeId) (sz:Nat):Bool :=
 (match P.underlying T with | some (.slice e')=>e'==e | _=>false) &&
 (match P.info? e with
  | some i=>i.size==sz&&Nat.ble i.bytes 512&&(match i.zero with | some z=>z.cells.size==sz | none=>false)
  | none=>false)
theorem zFg {P:Program} {T e:TypeId} {sz:Nat} (h:elemB P T e sz=true):Elem P T e sz:=by
 unfold elemB at h;rw [bQ] at h;obtain ⟨h1,h2⟩:=h;constructor
 ·grind
 ·split at h2
  ·rename_i i hi
   simp only [bQ,beq_iff_eq] at h2;obtain ⟨⟨h3,h4⟩,h5⟩:=h2;split at h5
   all_goals simp_all
  ·cases h2
end Go.Eng
