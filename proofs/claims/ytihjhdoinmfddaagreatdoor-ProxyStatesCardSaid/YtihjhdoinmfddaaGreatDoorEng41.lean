/- A part. -/
import Derived.Test.YtihjhdoinmfddaaGreatDoorEng39
set_option linter.unusedVariables false
set_option linter.unusedSimpArgs false
namespace Go.Eng
open Go Go.RowKit
def delI {α:Type} (xs:List α) (i j:Int):Option (List α) :=
 if 0≤i∧i≤j∧j≤xs.length then some (xs.take i.toNat++xs.drop j.toNat) else none
section
variable {α:Type} [Enc α] {H:Hp} {xs:List α} {cur:Array Value}
theorem Cells.cutOut {cs : List Value} {m j : Nat} (htk : cur.toList.take (xs.length * Enc.sz α) = cs) (hC : Cells H cs xs) (hmj : m ≤ j) (hj : j ≤ xs.length) :
  Cells H (cur.toList.take (m*Enc.sz α)++(cur.toList.drop (j*Enc.sz α)).take ((xs.length - j)*Enc.sz α)) (xs.take m++xs.drop j):=by
 have hx:xs=xs.take m++((xs.take j).drop m++xs.drop j):=by
  grind [List.take_append_drop]
 have hC':=hC;rw [hx] at hC';obtain ⟨c1,c23,rfl,h1,h23⟩:=Cells.split hC';obtain ⟨c2,c3,rfl,h2,h3⟩:=Cells.split h23;have l1:=h1.length; have l2:=h2.length; have l3:=h3.length;rw [List.length_take,Nat.min_eq_left om] at l1;rw [List.length_drop,List.length_take,Nat.min_eq_left hj] at l2;rw [List.length_drop] at l3;have hcur:cur.toList=c1++(c2++(c3++cur.toList.drop (xs.length*Enc.sz α))):=by
  grind [List.take_append_drop]
 have e1:cur.toList.take (m*Enc.sz α)=c1:=by grind
 have e2:(cur.toList.drop (j*Enc.sz α)).take ((xs.length - j)*Enc.sz α)=c3:=by
  have:j*Enc.sz α=(c1++c2).length:=by grind [Nat.add_mul]
  grind
 rw [e1,e2];exact h1.append h3
end
section
variable {P:Program} {N:Frm} {f:Fr} {w w0:World} {H0 H:Hp} {L:List Ent} {ops:Array Oper} {rest:List Oper} {Q:Fr→World→Prop} {d:Nat} {od:Option Nat} {ty:TypeId} {pos:String} {af:Array Edge} {g:Option (Nat×Bool)}
variable {T e:TypeId} {x:Operand}
theorem W.appO {y : Operand} {b i m cap k c' sz o : Nat} {cur : Array Value} (S : St w0 H0 w H L) (hE : Elem P T e sz) (hi : L[i]? = some (.obj b (.cells cur e (0, 0))))
    (hx:ev N f x=.slice (some ⟨b,0,none⟩) m cap) (hy:ev N f y=.slice (some ⟨b,o,none⟩) k c') (hcap:cur.size=cap*sz) (hmk:m+k≤cap) (ho:o+k*sz≤cur.size)
    (h1:∀ u ∈ (cur.toList.drop o).take (k*sz),u.oneCell'=true)
    (K:∀ w' cur',cur'.toList=cur.toList.take (m*sz)++(cur.toList.drop o).take (k*sz)++cur.toList.drop (m*sz+k*sz)→St w0 H0 w' H (L.set i (.obj b (.cells cur' e (0,0))))→WL P N ops rest Q (upd f d (.slice (some ⟨b,0,none⟩) (m+k) cap)) w') :
    WL P N ops (⟨some d,.call ⟨.builtin .append,#[x,y],#[T,T]⟩,ty,pos,af,none⟩ :: rest) Q f w:=by
  obtain ⟨ht,inf,z,hinf,hzz,hsize,hzs,hbytes⟩:=hE;obtain ⟨hH,hb⟩:=objAt S hi;have hl:((cur.toList.drop o).take (k*sz)).length=k*sz:=by
    grind
  have hnews:∀ j u,((cur.toList.drop o).take (k*sz))[j]?=some u→w.cell? ((⟨b,o,none⟩:Addr).add j)=some u:=by
    intro j u hu;rw [Addr.add_lit,zHW hb,← Array.getElem?_toList]
    grind
  have hfit:m*inf.size+((cur.toList.drop o).take (k*sz)).length≤cur.size:=by
    rw [hl,hsize,hcap,← Nat.add_mul]; exact Nat.mul_le_mul_right _ hmk
  have hr:=run_append_room (P:=P) w T ty e inf ht hinf b m cap cur hb ⟨b,o,none⟩ k c' _ gR hnews h1 hmk hfit;rw [hsize,hl] at hr;refine WL.wz (v:=.slice (some ⟨b,0,none⟩) (m+k) cap) (w':=_) ?_ (K _ (cur.toList.take (m*sz)++(cur.toList.drop o).take (k*sz)++cur.toList.drop (m*sz+k*sz)).toArray ?_ (S.setRowObj hi _))
  all_goals simp_all [execOp,resolve,Go.invoke,Go.builtin]
theorem R.sliceLo0 {i : Operand} {b n c sz k : Nat} (hx : ev N f x = .slice (some ⟨b, 0, none⟩) n c) (hi : ev N f i = int k) (hE : Elem P T e sz) (hk : k ≤ n) (hnc : n ≤ c) :
  ∃ o c',(o=k*sz∨(n - k=0∧o=0))∧∀ w,(execOp (ev N f) ⟨od,.slice T x (some i) none none,ty,pos,af,g⟩).run P w=.ok (.value (.slice (some ⟨b,o,none⟩) (n - k) c')) w:=by
 by_cases hkc:k<c
 ·exact ⟨k*sz,c - k,.inl rfl,fun w=>R.sliceLo hx hi hE hk hkc⟩
 ·obtain ⟨ht,inf,z,hinf,_,hsize,_⟩:=hE
  have h1:(0:Int)≤k∧(k:Int)≤n:=⟨om,om⟩;refine ⟨0,c - k,.inr ⟨om,rfl⟩,fun w=>?_⟩;simp [execOp,Instr.sliceAt,Instr.slice,Instr.sliceBounds,Instr.sliceBound,asIntOf,hx,hi,int,run_underlying ht,h1,sizeOf,typeInfo,hinf,hsize]
  grind
theorem R.sliceLH {i j : Operand} {b n c sz k m : Nat} (hx : ev N f x = .slice (some ⟨b, 0, none⟩) n c) (hi : ev N f i = int k) (hj : ev N f j = int m) (hE : Elem P T e sz) (hkm : k < m) (hmc : m ≤ c) :
  (execOp (ev N f) ⟨od,.slice T x (some i) (some j) none,ty,pos,af,g⟩).run P w=.ok (.value (.slice (some ⟨b,k*sz,none⟩) (m - k) (c - k))) w:=by
 obtain ⟨ht,inf,z,hinf,_,hsize,_⟩:=hE;have h1:(0:Int)≤k∧(k:Int)≤m:=⟨om,om⟩;have h2:(0:Int)≤m∧(m:Int)≤c:=⟨om,om⟩;simp [execOp,Instr.sliceAt,Instr.slice,Instr.sliceBounds,Instr.sliceBound,asIntOf,hx,hi,hj,int,run_underlying ht,sizeOf,typeInfo,hinf,hsize,Addr.add_lit]
 grind
theorem R.slice3 {i j l : Operand} {a : Option Addr} {n c sz : Nat} {k m q : Int} (hx : ev N f x = .slice a n c) (hi : ev N f i = int k) (hj : ev N f j = int m) (hl : ev N f l = int q) (hE : Elem P T e sz) (h : 0 ≤ k ∧ k ≤ m ∧ m ≤ q ∧ q ≤ c) :
  ∃ v,(execOp (ev N f) ⟨od,.slice T x (some i) (some j) (some l),ty,pos,af,g⟩).run P w=.ok (.value v) w:=by
 obtain ⟨ht,inf,z,hinf,_,hsize,_⟩:=hE;refine ⟨.slice (if q.toNat=k.toNat then a else a.map (·.add (k.toNat*sz))) (m.toNat - k.toNat) (q.toNat - k.toNat),?_⟩;simp [execOp,Instr.sliceAt,Instr.slice,Instr.sliceBounds,Instr.sliceBound,asIntOf,hx,hi,hj,hl,int,run_underlying ht,sizeOf,typeInfo,hinf,hsize]
 grind
end
def pick (L T:List Ent):List Nat→List Ent
 | []=>T
 | i :: is=>match L[i]? with | some e=>e :: pick L T is | none=>pick L T is
def okpk:List Nat→Bool
 | []=>true
 | i :: is=>!is.elem i&&okpk is
def allb (n:Nat):List Nat→Bool
 | []=>true
 | i :: is=>Nat.blt i n&&allb n is
theorem zUa {n:Nat}:∀ {is:List Nat},allb n is=true→∀ j ∈ is,j<n
 | i :: is,h,j,hj=>by
  simp only [allb,bQ,Nat.blt_eq] at h;rcases List.mem_cons.1 hj with rfl | hj
  ·exact h.1
  ·exact zUa h.2 j hj
theorem zLd {L T:List Ent} {e:Ent}:∀ {is:List Nat},e ∈ pick L T is→e ∈ T∨∃ j ∈ is,L[j]?=some e
 | [],h=>.inl h
 | i :: is,h=>by
  have ih:e ∈ pick L T is→e ∈ T∨∃ j ∈ i :: is,L[j]?=some e:=fun h=>by
   rcases zLd h with h | ⟨j,hj,hl⟩
   ·exact .inl h
   ·exact .inr ⟨j,lN _ hj,hl⟩
  unfold pick at h
  grind
section
variable {w0 w:World} {H0 H:Hp} {L L':List Ent}
theorem St.picked (S:St w0 H0 w H L) {T:List Ent} (hT:T.Sublist L) {is:List Nat} (hn:okpk is=true) (hj:∀ e ∈ T,∃ j,j ∉ is∧L[j]?=some e):St w0 H0 w H (pick L T is):=by
 have hm:∀ e ∈ pick L T is,e ∈ L:=fun e h=>by
  grind [zLd]
 refine ⟨S.post,fun e h=>S.ents e (hm e h),fun e h=>S.own e (hm e h),?_⟩;have key:∀ is,okpk is=true→(∀ e ∈ T,∃ j,j ∉ is∧L[j]?=some e)→((pick L T is).filterMap Ent.blk).Nodup:=by
  intro is
  induction is with
  | nil=>intro _ _; exact S.nodup.sublist (hT.filterMap _)
  | cons i is ih =>
   intro h hj;simp only [okpk,bQ,Bool.not_eq_true'] at h;obtain ⟨hi,ho⟩:=h;have ih:=ih ho fun e he=>by
    grind
   unfold pick;split
   case h_2=>exact ih
   rename_i e he;rw [List.filterMap_cons];cases hb:e.blk with
   | none=>exact ih
   | some b =>
    refine List.nodup_cons.2 ⟨fun hmem=>?_,ih⟩;obtain ⟨e',he',hb'⟩:=List.mem_filterMap.1 hmem;rcases zLd he' with h | ⟨j,hjm,hl⟩
    ·obtain ⟨j,h1,h2⟩:=hj e' h
     exact S.blk_ne he h2 hb hb' (fun h=>h1 (h ▸ lS)) rfl
    ·refine S.blk_ne he hl hb hb' ?_ rfl
     grind
 exact key is hn hj
theorem St.pt (S:St w0 H0 w H L) (n:Nat) (is:List Nat) (hn:okpk is=true:=by exact rfl) (hb:allb n is=true:=by exact rfl) (he:pick L (L.drop n) is=L':=by exact rfl):St w0 H0 w H L':=by
 subst he;refine S.picked (List.drop_sublist n L) hn fun e h=>?_
 obtain ⟨k,hk⟩:=lI.1 h;rw [List.getElem?_drop] at hk;exact ⟨n+k,fun h=>by have:=zUa hb _ h; omega,hk⟩
theorem St.pk (S:St w0 H0 w H L) (is:List Nat) (hn:okpk is=true:=by exact rfl) (he:pick L [] is=L':=by exact rfl):St w0 H0 w H L':=by
 subst he;exact S.picked (List.nil_sublist L) hn fun e h=>nomatch h
end
end Go.Eng
namespace Go.Eng
open Go
def u64 (a:Int):Value:=.int .u64 a
section
variable {P:Program} {N:Frm} {f:Fr} {w:World} {d:Option Nat} {ty:TypeId} {pos:String} {af:Array Edge} {g:Option (Nat×Bool)}
section
variable {x y:Operand} {a b:Int} {T T':TypeId} (hx:ev N f x=u64 a) (hy:ev N f y=u64 b)
include hx hy
end
variable {u:TypeDesc}
theorem zVv (q:Nat) (h:q<256):((toU8 (q:Int)).toNat:Int)=q:=by
 rw [toU8,UInt8.toNat_ofNat']; omega
section
variable {x y:Operand} {a b:UInt8} {n:Int} {T T':TypeId}
theorem R.quo8 (hx:ev N f x=byt a) (hy:ev N f y=byt b) (h0:b≠0):(execOp (ev N f) ⟨d,.binOp .quo T x y T',ty,pos,af,g⟩).run P w=.ok (.value (byt (a / b))) w:=by
 have h1:(b.toNat:Int)≠0:=fun h=>h0 (UInt8.toNat_inj.1 (by simpa using h))
 have h2:IntKind.wrap .u8 ((a.toNat:Int).tdiv b.toNat)=((a / b).toNat:Int):=by
  have h:=a.toNat_lt;have hd:a.toNat / b.toNat≤a.toNat:=Nat.div_le_self _ _
  grind [wrap_u8,zVv,UInt8.toNat_div]
 simp_all [execOp,eqGuard,byt,binOp,Op.intDiv]
theorem R.rem8 (hx:ev N f x=byt a) (hy:ev N f y=byt b) (h0:b≠0):(execOp (ev N f) ⟨d,.binOp .rem T x y T',ty,pos,af,g⟩).run P w=.ok (.value (byt (a % b))) w:=by
 have h2:(a.toNat:Int).tmod b.toNat=((a % b).toNat:Int):=by
  grind [UInt8.toNat_mod]
 have h1:(b.toNat:Int)≠0:=fun h=>h0 (UInt8.toNat_inj.1 (by simpa using h))
 simp_all [execOp,eqGuard,byt,binOp,Op.intDiv]
def bor (a b:UInt8):UInt8:=a ||| b
theorem R.or8 {x y:Operand} {a b:UInt8} (hx:ev N f x=byt a) (hy:ev N f y=byt b):(execOp (ev N f) ⟨d,.binOp .or T x y T',ty,pos,af,g⟩).run P w=.ok (.value (byt (bor a b))) w:=by
 have e:IntKind.wrap .u8 ((BitVec.ofInt 8 (a.toNat:Int) ||| BitVec.ofInt 8 (b.toNat:Int)).toNat:Int)=((a ||| b).toNat:Int):=by
  have h1:(BitVec.ofInt 8 (a.toNat:Int) ||| BitVec.ofInt 8 (b.toNat:Int)).toNat=(a ||| b).toNat:=by
   simp_all
  rw [h1,wrap_u8,toU8];have hc:=(a ||| b).toNat_lt;rw [UInt8.toNat_ofNat']; omega
 simp only [execOp,eqGuard,hx,hy,byt,binOp,Op.intBits,bor];simp;exact e
end
end
end Go.Eng
