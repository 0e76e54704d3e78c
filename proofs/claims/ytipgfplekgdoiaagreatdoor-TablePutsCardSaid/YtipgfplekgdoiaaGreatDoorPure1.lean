/- A part of the proof of laws of the seat: written by program over the translation. -/
import Derived.Test.YtipgfplekgdoiaaGreatDoorEng36
set_option linter.unusedVariables false
namespace Go.Eng
open Go Go.RowKit
section
variable {P:Program} {N:Frm} {f:Fr} {w w' w0:World} {H0 H:Hp} {L:List Ent} {ops:Array Oper} {rest:List Oper} {Q:Fr→World→Prop} {d:Nat} {od:Option Nat} {ty:TypeId} {pos:String} {af:Array Edge} {g:Option (Nat×Bool)} {α:Type} [Enc α]
theorem St.same (S:St w0 H0 w H L) {H1 H':Hp} (hp:Post w H1 w' H'):St w0 H0 w' H L:=by
 have hb:=hp.below
 have hoth:∀ k,k<w.heap.size→w'.heap[k]?=w.heap[k]?:=hb.block
 refine ⟨⟨S.post.below.trans ⟨hb.os,hb.tape,hb.output,hb.size,fun k hk=>hoth k (Nat.lt_of_lt_of_le hk S.post.below.size)⟩,S.post.le,S.post.eqb,?_⟩,?_,S.own,S.nodup⟩
 ·intro k T' l hk
  obtain ⟨cs,fz,hc',hr⟩:=S.holds k T' l hk
  exact ⟨cs,fz,by rw [hoth k (Array.getElem?_eq_some_iff.1 hc').1]; exact hc',hr⟩
 ·intro e he
  exact Ent.ok_keep (S.ents e he) fun k hk=>⟨hoth k (Ent.ok_lt (S.ents e he) hk),rfl⟩
theorem W.callF {k:FuncId} {xs:List Operand} {ats:Array TypeId} {args:List Value} {R:Hp→Value→Prop} {H1:Hp} (S:St w0 H0 w H L) (ha:xs.map (ev N f)=args) (C:Con P k args w H1 R)
  (K:∀ v w' H',R H' v→St w0 H0 w' H L→WL P N ops rest Q (updo f od v) w'):WL P N ops (⟨od,.call ⟨.value (.func k),xs.toArray,ats⟩,ty,pos,af,none⟩ :: rest) Q f w:=by
 refine WL.enterw (w':=w) (k:=k) (args:=args.toArray) ?_ (Calls.mono C.2 fun e w' ⟨v,H',he,hp,hv⟩=>⟨v,he,K v w' H' hv (S.same hp)⟩)
 have:(execOp (ev N f) ⟨od,.call ⟨.value (.func k),xs.toArray,ats⟩,ty,pos,af,none⟩)=callFunc k (#[]++xs.toArray.map (ev N f)++#[]):=rfl
 rw [this]
 have e:(#[]++xs.toArray.map (ev N f)++#[])=args.toArray:=by simp [ha]
 rw [e]
 exact C.1 w
theorem W.callvF {k:FuncId} {x:Operand} {xs:List Operand} {ats:Array TypeId} {args caps:List Value} {R:Hp→Value→Prop} {H1:Hp} (S:St w0 H0 w H L) (hx:ev N f x=.func (.func k) #[] caps.toArray) (ha:xs.map (ev N f)=args) (C:Con P k (args++caps) w H1 R)
  (K:∀ v w' H',R H' v→St w0 H0 w' H L→WL P N ops rest Q (updo f od v) w'):WL P N ops (⟨od,.call ⟨.value x,xs.toArray,ats⟩,ty,pos,af,none⟩ :: rest) Q f w:=by
 obtain ⟨hC1,hC2⟩:=C
 refine WL.enterw (w':=w) (k:=k) (args:=(args++caps).toArray) ?_ (Calls.mono hC2 fun e w' ⟨v,H',he,hp,hv⟩=>⟨v,he,K v w' H' hv (S.same hp)⟩)
 have e:xs.toArray.map (ev N f)++caps.toArray=(args++caps).toArray:=by simp [ha]
 have:(execOp (ev N f) ⟨od,.call ⟨.value x,xs.toArray,ats⟩,ty,pos,af,none⟩).run P w=(callFunc k (#[]++xs.toArray.map (ev N f)++caps.toArray)).run P w:=by
  simp [execOp,resolve,hx,Deferred.ofValue,Go.invoke]
 rw [this,Array.empty_append,e]
 exact hC1 w
theorem W.storeMR {T T':TypeId} {e:TypeId} {a x:Operand} {b o i:Nat} {bb:Bool} {u:Value} {xs:List α} {en:Ent} {cs:List Value} (cs':List Value) (S:St w0 H0 w H L) (R:MR H en e u xs) (ha:ev N f a=ptr b o) (hx:ev N f x=u) (hi:L[i]?=some (.box b T' cs)) (hT:lay P T=some (bb,1))
  (ho:o+1≤cs.length) (hc:zGr cs o [u]=cs')
  (k:∀ w',St w0 H0 w' H (L.set i (.box b T' cs'))→WL P N ops rest Q (updo f od undef) w'):WL P N ops (⟨od,.store T a x,ty,pos,af,none⟩ :: rest) Q f w :=
 W.store cs' S ha hx hi hT (by rw [MR.cellsOne R]; rfl) (by rw [MR.cellsOne R]; simp [MR.oneC R]) ho (by rw [MR.cellsOne R]; exact hc) k
theorem St.view_ (S:St w0 H0 w H L) {i:Nat} {en:Ent} {e:TypeId} {v:Value} {xs:List α} (hi:L[i]?=some en) (hx:MR H en e v xs):∃ H1,H.le H1∧Holds w H1∧Sl H1 v xs:=by
 obtain ⟨H1,hle,hs,S1⟩:=S.settleM hi hx
 exact ⟨H1,hle,S1.holds,hs⟩
theorem objAt {i b:Nat} {o:Obj} (S:St w0 H0 w H L) (hi:L[i]?=some (.obj b o)):H b=none∧w.heap[b]?=some o:=S.ents _ (List.mem_of_getElem? hi)
theorem R.loadO {T e:TypeId} {x:Operand} {b o i n:Nat} {cur:Array Value} {vs:List Value} (S:St w0 H0 w H L) (hx:ev N f x=ptr b o) (hi:L[i]?=some (.obj b (.cells cur e (0,0)))) (hT:lay P T=some (true,n)) (hn:vs.length=n) (hv:(cur.toList.drop o).take n=vs) :
  (execOp (ev N f) ⟨od,.load T x,ty,pos,af,g⟩).run P w=.ok (.value (agg vs)) w:=by
 refine R.loadN hx hT hn fun j v hj=>?_
 rw [Addr.add_lit,zIJ (objAt S hi).2,← Array.getElem?_toList]
 rw [← hv,List.getElem?_take,List.getElem?_drop] at hj
 split at hj
 ·exact hj
 ·cases hj
theorem R.idxN {T e:TypeId} {x i:Operand} {b n c sz:Nat} {m:Int} (hx:ev N f x=.slice (some ⟨b,0,none⟩) n c) (hi:ev N f i=int m) (hE:Elem P T e sz) (h:0≤m∧m<n) :
  (execOp (ev N f) ⟨od,.indexAddr T x i,ty,pos,af,g⟩).run P w=.ok (.value (ptr b (m.toNat*sz))) w:=by
 obtain ⟨ht,inf,z,hinf,_,hsize,_⟩:=hE
 simp [execOp,Instr.indexAt,asIntOf,hx,hi,int,run_underlying ht,h,sizeOf,typeInfo,hinf,hsize,Addr.add_lit,ptr]
theorem W.storeO {T e:TypeId} {a x:Operand} {b o i n:Nat} {bb:Bool} {v:Value} {cur:Array Value} (S:St w0 H0 w H L) (ha:ev N f a=ptr b o) (hx:ev N f x=v) (hi:L[i]?=some (.obj b (.cells cur e (0,0)))) (hT:lay P T=some (bb,n))
  (hn:v.cells.size=n) (h1:v.cells.toList.all Value.oneCell'=true) (ho:o+n≤cur.size)
  (k:∀ w' cur',cur'.toList=cur.toList.take o++v.cells.toList++cur.toList.drop (o+n)→St w0 H0 w' H (L.set i (.obj b (.cells cur' e (0,0))))→WL P N ops rest Q (updo f od undef) w'):WL P N ops (⟨od,.store T a x,ty,pos,af,none⟩ :: rest) Q f w:=by
 obtain ⟨_,h2⟩:=zFp (w:=w) hT
 obtain ⟨hH,hb⟩:=objAt S hi
 have hlen:v.cells.toList.length=n:=by simpa using hn
 obtain ⟨w',arr',hrun,hoth,hsz,hos,hb',harr⟩:=zEI (P:=P) b o e (0,0) v.cells.toList 0 cur w hb (by omega) (fun u hu=>List.all_eq_true.1 h1 u hu) (fun j _ h4 h=>Nat.not_lt_zero _ h.2)
 refine WL.skipw (w':=w') ?_ (k w' arr' ?_ (S.renew hi rfl rfl hH hoth hsz hos ⟨hH,hb'⟩))
 ·simp only [execOp,Instr.storeAt,Instr.sureAddr,ha,hx,ptr,storeVar,Sem.run_bind,Sem.run_pure,Result.andThen_ok,h2,hn,ne_eq,not_true_eq_false,if_false,hrun]
 ·rw [harr,hlen]; rfl
theorem zNq {z:Array Value} (hz:z.all Value.oneCell'=true) (n:Nat):∀ v ∈ (Builtin.zeroCells z n).toList,v.oneCell'=true:=by
 intro v hv
 unfold Builtin.zeroCells at hv
 simp only [Array.toList_map,Array.toList_range,List.mem_map,List.mem_range] at hv
 obtain ⟨j,hj,rfl⟩:=hv
 have hp:0<z.size:=by
  rcases Nat.eq_zero_or_pos z.size with h | h
  ·rw [h,Nat.mul_zero] at hj; exact absurd hj (Nat.not_lt_zero _)
  ·exact h
 have hlt:=Nat.mod_lt j hp
 rw [getElem!_pos z _ hlt]
 exact Array.all_eq_true.1 hz _ hlt
theorem W.clearO {T e:TypeId} {x:Operand} {b i k n c:Nat} {cur:Array Value} (S:St w0 H0 w H L) (hE:Elem P T e (Enc.sz α)) (h1z:∀ z,zer P e=some z→z.all Value.oneCell'=true) (hx:ev N f x=.slice (some ⟨b,k*Enc.sz α,none⟩) n c) (hi:L[i]?=some (.obj b (.cells cur e (0,0))))
  (ho:k*Enc.sz α+n*Enc.sz α≤cur.size)
  (K:∀ w' cur',cur'.size=cur.size→cur'.toList.take (k*Enc.sz α)=cur.toList.take (k*Enc.sz α)→St w0 H0 w' H (L.set i (.obj b (.cells cur' e (0,0))))→WL P N ops rest Q (updo f od (.tuple #[])) w') :
  WL P N ops (⟨od,.call ⟨.builtin .clear,#[x],#[T]⟩,ty,pos,af,none⟩ :: rest) Q f w:=by
 obtain ⟨ht,inf,z,hinf,hzz,hsize,hzs,hbytes⟩:=hE
 obtain ⟨hH,hb⟩:=objAt S hi
 have hz1:z.cells.all Value.oneCell'=true:=by
  have:zer P e=some z.cells.toList:=by unfold zer; rw [hinf]; simp [hzz]
  have:=h1z _ this
  rw [← Array.all_toList]; exact this
 by_cases hn:n=0
 ·subst hn
  refine WL.w (v:=.tuple #[]) (w':=w) ?_ (K w cur rfl rfl (by rw [zML hi]; exact S))
  simp [execOp,resolve,Go.invoke,Go.builtin,hx,Builtin.clear_,run_underlying ht]
 ·have hzl:(Builtin.zeroCells z.cells n).toList.length=n*Enc.sz α:=by rw [Array.length_toList,size_zeroCells,hzs]
  obtain ⟨w',arr',hrun,hoth,hsz,hos,hb',harr⟩:=zEI (P:=P) b (k*Enc.sz α) e (0,0) (Builtin.zeroCells z.cells n).toList 0 cur w hb (by rw [hzl]; omega) (zNq hz1 n) (fun j _ h4 h=>Nat.not_lt_zero _ h.2)
  have hzv:(zeroValue e).run P w=.ok z w:=by simp [zeroValue,typeInfo,hinf,hzz]
  refine WL.w (v:=.tuple #[]) (w':=w') ?_ (K w' arr' ?_ ?_ (S.renew hi rfl rfl hH hoth hsz hos ⟨hH,hb'⟩))
  ·have hm:∀ (n:Nat),n≠0→(Builtin.clear_ #[T] ty #[.slice (some ⟨b,k*Enc.sz α,none⟩) n c]).run P w=((storeCells ⟨b,k*Enc.sz α,none⟩ (Builtin.zeroCells z.cells n).toList).run P w).andThen fun _ w=>.ok (.tuple #[]) w:=by
    intro n hn
    cases n with
    | zero=>exact absurd rfl hn
    | succ n=>simp [Builtin.clear_,run_underlying ht,hzv]
   simp only [execOp,resolve,Go.invoke,Go.builtin,Sem.run_bind,Sem.run_pure,Result.andThen_ok,List.map_toArray,List.map_cons,List.map_nil,hx,hm n hn,hrun]
  ·rw [← Array.length_toList,harr,List.length_append,List.length_append,List.length_take,List.length_drop,hzl,Array.length_toList]; omega
  ·rw [harr,Nat.add_zero,List.append_assoc,List.take_append_of_le_length (by rw [List.length_take,Array.length_toList]; omega),List.take_take,Nat.min_self]
end
def DelI {α:Type} [Enc α] (H:Hp) (xs:List α) (cur:Array Value) (K:List α) (m:Nat):Prop :=
 K.length<m∧m≤xs.length∧∃ kc jc rc tl,cur.toList=kc++(jc++(rc++tl))∧Cells H kc K∧jc.length=(m - K.length)*Enc.sz α∧Cells H rc (xs.drop m)
section
variable {α:Type} [Enc α] {H:Hp} {xs K:List α} {cur cur':Array Value} {m:Nat}
theorem DelI.look (h:DelI H xs cur K m) (hm:m<xs.length):∃ cs,(cur.toList.drop (m*Enc.sz α)).take (Enc.sz α)=cs∧cs.length=Enc.sz α∧Enc.cells H cs xs[m]:=by
 obtain ⟨h1,h2,kc,jc,rc,tl,hl,hk,hj,hr⟩:=h
 rw [List.drop_eq_getElem_cons hm] at hr
 obtain ⟨cs,r,rfl,hc,_⟩:=hr
 have hlen:=Enc.len hc
 refine ⟨cs,?_,hlen,hc⟩
 have e:(kc++jc).length=m*Enc.sz α:=by
  rw [List.length_append,hk.length,hj,← Nat.add_mul]; congr 1; omega
 rw [hl,← List.append_assoc,← e,List.drop_left,List.append_assoc,← hlen,List.take_left]
theorem DelI.skip (h:DelI H xs cur K m) (hm:m<xs.length):DelI H xs cur K (m+1):=by
 obtain ⟨h1,h2,kc,jc,rc,tl,hl,hk,hj,hr⟩:=h
 rw [List.drop_eq_getElem_cons hm] at hr
 obtain ⟨cs,r,rfl,hc,hr'⟩:=hr
 have hlen:=Enc.len hc
 refine ⟨by omega,hm,kc,jc++cs,r,tl,by rw [hl]; simp,hk,?_,hr'⟩
 rw [List.length_append,hj,hlen,show m+1 - K.length=(m - K.length)+1 by omega,Nat.add_mul,Nat.one_mul]
theorem DelI.keep (h:DelI H xs cur K m) (hm:m<xs.length) {cs:List Value} (hcs:(cur.toList.drop (m*Enc.sz α)).take (Enc.sz α)=cs) (hc:cur'.toList=cur.toList.take (K.length*Enc.sz α)++cs++cur.toList.drop (K.length*Enc.sz α+Enc.sz α)) :
  DelI H xs cur' (K++[xs[m]]) (m+1):=by
 obtain ⟨cs',hcs',hlen',hcell⟩:=h.look hm
 have:cs'=cs:=by rw [← hcs',hcs]
 subst this
 have h0:=h.1
 obtain ⟨h1,h2,kc,jc,rc,tl,hl,hk,hj,hr⟩:=h.skip hm
 have hkl:=hk.length
 have hjl:Enc.sz α≤jc.length:=by
  rw [hj]
  exact Nat.le_mul_of_pos_left _ (by omega)
 refine ⟨by simp; omega,h2,kc++cs',jc.drop (Enc.sz α),rc,tl,?_,hk.append ⟨cs',[],by simp,hcell,rfl⟩,?_,hr⟩
 ·have e1:cur.toList.take (K.length*Enc.sz α)=kc:=by rw [hl,← hkl,List.take_left]
  have e2:cur.toList.drop (K.length*Enc.sz α+Enc.sz α)=jc.drop (Enc.sz α)++(rc++tl):=by
   rw [hl,← hkl,← List.drop_drop,List.drop_left,List.drop_append_of_le_length hjl]
  rw [hc,e1,e2]
 ·have e3:m+1 - K.length=(m+1 - (K.length+1))+1:=by omega
  rw [List.length_drop,hj,List.length_append,List.length_singleton,e3,Nat.succ_mul,Nat.add_sub_cancel]
theorem Cells.split {H:Hp}:∀ {a b:List α} {cs:List Value},Cells H cs (a++b)→∃ c1 c2,cs=c1++c2∧Cells H c1 a∧Cells H c2 b
 | [],_,cs,h=>⟨[],cs,rfl,rfl,h⟩
 | x :: a,b,cs,⟨c,r,e,hc,hr⟩=>by
  obtain ⟨c1,c2,rfl,h1,h2⟩:=Cells.split hr
  exact ⟨c++c1,c2,by rw [e]; simp,⟨c,c1,rfl,hc,h1⟩,h2⟩
theorem DelI.start {cs:List Value} {i:Nat} (htk:cur.toList.take (xs.length*Enc.sz α)=cs) (hC:Cells H cs xs) (hi:i<xs.length):DelI H xs cur (xs.take i) (i+1):=by
 have hx:xs=xs.take i++([xs[i]]++xs.drop (i+1)):=by
  rw [List.singleton_append,← List.drop_eq_getElem_cons hi,List.take_append_drop]
 rw [hx] at hC
 obtain ⟨c1,c23,rfl,h1,h23⟩:=Cells.split hC
 obtain ⟨c2,c3,rfl,h2,h3⟩:=Cells.split h23
 have hl:(xs.take i).length=i:=by rw [List.length_take]; omega
 refine ⟨by omega,hi,c1,c2,c3,cur.toList.drop (xs.length*Enc.sz α),?_,h1,?_,h3⟩
 ·exact (List.take_append_drop (xs.length*Enc.sz α) cur.toList).symm.trans (by rw [htk]; simp)
 ·have:=h2.length
  rw [List.length_singleton] at this
  rw [hl,this]; congr 1; omega
theorem DelI.front (h:DelI H xs cur K m):∃ kc,cur.toList.take (K.length*Enc.sz α)=kc∧Cells H kc K:=by
 obtain ⟨h1,h2,kc,jc,rc,tl,hl,hk,hj,hr⟩:=h
 exact ⟨kc,by rw [hl,← hk.length,List.take_left],hk⟩
end
section
variable {P:Program} {N:Frm} {f:Fr} {w:World} {od:Option Nat} {ty:TypeId} {pos:String} {af:Array Edge} {g:Option (Nat×Bool)}
theorem R.sliceLo {T e:TypeId} {x i:Operand} {b n c sz k:Nat} (hx:ev N f x=.slice (some ⟨b,0,none⟩) n c) (hi:ev N f i=int k) (hE:Elem P T e sz) (hk:k≤n) (hkc:k<c) :
  (execOp (ev N f) ⟨od,.slice T x (some i) none none,ty,pos,af,g⟩).run P w=.ok (.value (.slice (some ⟨b,k*sz,none⟩) (n - k) (c - k))) w:=by
 obtain ⟨ht,inf,z,hinf,_,hsize,_⟩:=hE
 have h1:(0:Int)≤k∧(k:Int)≤n:=⟨by omega,by omega⟩
 simp [execOp,Instr.sliceAt,Instr.slice,Instr.sliceBounds,Instr.sliceBound,asIntOf,hx,hi,int,run_underlying ht,h1,sizeOf,typeInfo,hinf,hsize,Addr.add_lit]
 rw [if_pos hk,if_neg (by omega)]
theorem R.sliceHi {T e:TypeId} {x i:Operand} {b n c sz k:Nat} (hx:ev N f x=.slice (some ⟨b,0,none⟩) n c) (hi:ev N f i=int k) (hE:Elem P T e sz) (hk:k≤c) :
  (execOp (ev N f) ⟨od,.slice T x none (some i) none,ty,pos,af,g⟩).run P w=.ok (.value (.slice (some ⟨b,0,none⟩) k c)) w:=by
 obtain ⟨ht,inf,z,hinf,_,hsize,_⟩:=hE
 have h1:(0:Int)≤k∧(k:Int)≤c:=⟨by omega,by omega⟩
 simp [execOp,Instr.sliceAt,Instr.slice,Instr.sliceBounds,Instr.sliceBound,asIntOf,hx,hi,int,run_underlying ht,h1,sizeOf,typeInfo,hinf,Addr.add_lit]
 intro hc; omega
end
def delL {α:Type} (xs:List α) (p:α→Option Bool) (s:List α×Int):Option ((List α×Int) ⊕ List α) :=
 bif decide (s.2<(xs.length:Int)) then (xnth xs s.2).bind fun x=>(p x).bind fun b=>some (.inl (bif b then s.1 else s.1++[x],s.2+1)) else some (.inr s.1)
noncomputable def delR {α:Type} (xs:List α) (p:α→Option Bool) (i:Int):Option (List α) :=
 bif i==-1 then some xs else bif decide (0≤i∧i<(xs.length:Int)) then zAF (delL xs p) (xs.take i.toNat,i+1) else none
end Go.Eng
namespace Go.Eng.Pure
open Go Go.Eng
set_option linter.unusedVariables false
structure GField where
 fName:Str
 fValue:Str
deriving DecidableEq
instance:Enc GField where
 sz:=2
 cells H cs x:=cs=[(str x.fName),(str x.fValue)]
 pos:=by decide
 len:=fun h=>by rw [h]; rfl
 mono:=fun h _=>h
 one:=by
  intro H cs x h v hv
  rw [h] at hv
  exact List.all_eq_true.1 (show List.all [(str x.fName),(str x.fValue)] Value.oneCell'=true from rfl) v hv
structure GETag where
 fWeak:Bool
 fTag:Str
deriving DecidableEq
instance:Enc GETag where
 sz:=2
 cells H cs x:=cs=[(boo x.fWeak),(str x.fTag)]
 pos:=by decide
 len:=fun h=>by rw [h]; rfl
 mono:=fun h _=>h
 one:=by
  intro H cs x h v hv
  rw [h] at hv
  exact List.all_eq_true.1 (show List.all [(boo x.fWeak),(str x.fTag)] Value.oneCell'=true from rfl) v hv
structure Gcachecontrol_directive where
 fform:Int
 fvalue:Str
deriving DecidableEq
instance:Enc Gcachecontrol_directive where
 sz:=2
 cells H cs x:=cs=[(int x.fform),(str x.fvalue)]
 pos:=by decide
 len:=fun h=>by rw [h]; rfl
 mono:=fun h _=>h
 one:=by
  intro H cs x h v hv
  rw [h] at hv
  exact List.all_eq_true.1 (show List.all [(int x.fform),(str x.fvalue)] Value.oneCell'=true from rfl) v hv
structure GControl where
 fNoStore:Bool
 fNoCache:Bool
 fMustRevalidate:Bool
 fProxyRevalidate:Bool
 fPrivate:Bool
 fPublic:Bool
 fOnlyIfCached:Bool
 fMaxAge:Int
 fSMaxAge:Int
 fMinFresh:Int
 fMaxStale:Int
deriving DecidableEq
instance:Enc GControl where
 sz:=11
 cells H cs x:=cs=[(boo x.fNoStore),(boo x.fNoCache),(boo x.fMustRevalidate),(boo x.fProxyRevalidate),(boo x.fPrivate),(boo x.fPublic),(boo x.fOnlyIfCached),(int x.fMaxAge),(int x.fSMaxAge),(int x.fMinFresh),(int x.fMaxStale)]
 pos:=by decide
 len:=fun h=>by rw [h]; rfl
 mono:=fun h _=>h
 one:=by
  intro H cs x h v hv
  rw [h] at hv
  exact List.all_eq_true.1 (show List.all [(boo x.fNoStore),(boo x.fNoCache),(boo x.fMustRevalidate),(boo x.fProxyRevalidate),(boo x.fPrivate),(boo x.fPublic),(boo x.fOnlyIfCached),(int x.fMaxAge),(int x.fSMaxAge),(int x.fMinFresh),(int x.fMaxStale)] Value.oneCell'=true from rfl) v hv
structure GEntry where
 fKeys:(List (List Str))
 fVary:(List Str)
 fSnapshot:(List Str)
 fReason:Str
 fFields:(List GField)
 fBody:Str
 fRequested:Int
 fReceived:Int
deriving DecidableEq
instance:Enc GEntry where
 sz:=8
 cells H cs x:=∃ u1 u2 u3 u4:Value,cs=[u1,u2,u3,(str x.fReason),u4,(str x.fBody),(int x.fRequested),(int x.fReceived)]∧Sl (α:=(List Str)) H u1 x.fKeys∧Sl (α:=Str) H u2 x.fVary∧Sl (α:=Str) H u3 x.fSnapshot∧Sl (α:=GField) H u4 x.fFields
 pos:=by decide
 len:=fun ⟨u1,u2,u3,u4,h,R0,R1,R2,R3⟩=>by rw [h]; rfl
 mono:=fun ⟨u1,u2,u3,u4,h,R0,R1,R2,R3⟩ hl=>⟨u1,u2,u3,u4,h,R0.mono hl,R1.mono hl,R2.mono hl,R3.mono hl⟩
 one:=fun ⟨u1,u2,u3,u4,h,R0,R1,R2,R3⟩ v hv=>by rw [h] at hv; exact AllOne.mem (.cons (Sl.oneC R0) (.cons (Sl.oneC R1) (.cons (Sl.oneC R2) (.cons rfl (.cons (Sl.oneC R3) (.cons rfl (.cons rfl (.cons rfl .nil)))))))) v hv
structure GResponse where
 fMinor:Int
 fStatus:Int
 fReason:Str
 fFields:(List GField)
 fBody:Str
deriving DecidableEq
instance:Enc GResponse where
 sz:=5
 cells H cs x:=∃ u1:Value,cs=[(int x.fMinor),(int x.fStatus),(str x.fReason),u1,(str x.fBody)]∧Sl (α:=GField) H u1 x.fFields
 pos:=by decide
 len:=fun ⟨u1,h,R0⟩=>by rw [h]; rfl
 mono:=fun ⟨u1,h,R0⟩ hl=>⟨u1,h,R0.mono hl⟩
 one:=fun ⟨u1,h,R0⟩ v hv=>by rw [h] at hv; exact AllOne.mem (.cons rfl (.cons rfl (.cons rfl (.cons (Sl.oneC R0) (.cons rfl .nil))))) v hv
structure GRequest where
 fMethod:Str
 fTarget:Str
 fMinor:Int
 fFields:(List GField)
 fBody:Str
deriving DecidableEq
instance:Enc GRequest where
 sz:=5
 cells H cs x:=∃ u1:Value,cs=[(str x.fMethod),(str x.fTarget),(int x.fMinor),u1,(str x.fBody)]∧Sl (α:=GField) H u1 x.fFields
 pos:=by decide
 len:=fun ⟨u1,h,R0⟩=>by rw [h]; rfl
 mono:=fun ⟨u1,h,R0⟩ hl=>⟨u1,h,R0.mono hl⟩
 one:=fun ⟨u1,h,R0⟩ v hv=>by rw [h] at hv; exact AllOne.mem (.cons rfl (.cons rfl (.cons rfl (.cons (Sl.oneC R0) (.cons rfl .nil))))) v hv
inductive Gvariants_domain where
 | media
 | tags
 | words (n:Int)
 | texts
deriving DecidableEq
structure GParam where
 fName:Str
 fValue:Str
deriving DecidableEq
instance:Enc GParam where
 sz:=2
 cells H cs x:=cs=[(str x.fName),(str x.fValue)]
 pos:=by decide
 len:=fun h=>by rw [h]; rfl
 mono:=fun h _=>h
 one:=by
  intro H cs x h v hv
  rw [h] at hv
  exact List.all_eq_true.1 (show List.all [(str x.fName),(str x.fValue)] Value.oneCell'=true from rfl) v hv
structure GMediaType where
 fType:Str
 fSub:Str
 fParams:(List GParam)
deriving DecidableEq
instance:Enc GMediaType where
 sz:=3
 cells H cs x:=∃ u1:Value,cs=[(str x.fType),(str x.fSub),u1]∧Sl (α:=GParam) H u1 x.fParams
 pos:=by decide
 len:=fun ⟨u1,h,R0⟩=>by rw [h]; rfl
 mono:=fun ⟨u1,h,R0⟩ hl=>⟨u1,h,R0.mono hl⟩
 one:=fun ⟨u1,h,R0⟩ v hv=>by rw [h] at hv; exact AllOne.mem (.cons rfl (.cons rfl (.cons (Sl.oneC R0) .nil))) v hv
structure GAxis where
 fName:Str
 fValues:(List Str)
deriving DecidableEq
instance:Enc GAxis where
 sz:=2
 cells H cs x:=∃ u1:Value,cs=[(str x.fName),u1]∧Sl (α:=Str) H u1 x.fValues
 pos:=by decide
 len:=fun ⟨u1,h,R0⟩=>by rw [h]; rfl
 mono:=fun ⟨u1,h,R0⟩ hl=>⟨u1,h,R0.mono hl⟩
 one:=fun ⟨u1,h,R0⟩ v hv=>by rw [h] at hv; exact AllOne.mem (.cons rfl (.cons (Sl.oneC R0) .nil)) v hv
structure GPref where
 fRange:Str
 fQ:Int
deriving DecidableEq
instance:Enc GPref where
 sz:=2
 cells H cs x:=cs=[(str x.fRange),(int x.fQ)]
 pos:=by decide
 len:=fun h=>by rw [h]; rfl
 mono:=fun h _=>h
 one:=by
  intro H cs x h v hv
  rw [h] at hv
  exact List.all_eq_true.1 (show List.all [(str x.fRange),(int x.fQ)] Value.oneCell'=true from rfl) v hv
structure GTable where
 fAxes:(List GAxis)
 fEntries:(List GEntry)
deriving DecidableEq
instance:Enc GTable where
 sz:=2
 cells H cs x:=∃ u1 u2:Value,cs=[u1,u2]∧Sl (α:=GAxis) H u1 x.fAxes∧Sl (α:=GEntry) H u2 x.fEntries
 pos:=by decide
 len:=fun ⟨u1,u2,h,R0,R1⟩=>by rw [h]; rfl
 mono:=fun ⟨u1,u2,h,R0,R1⟩ hl=>⟨u1,u2,h,R0.mono hl,R1.mono hl⟩
 one:=fun ⟨u1,u2,h,R0,R1⟩ v hv=>by rw [h] at hv; exact AllOne.mem (.cons (Sl.oneC R0) (.cons (Sl.oneC R1) .nil)) v hv
noncomputable def zAk (p_ppend:Str) (l26:(List Int)):(Int×Int)→Option ((Int×Int) ⊕ (Int ⊕ (Int×Bool)))
 | (y_31,y_35) =>
  (bif decide (y_35<(l26.length:Int)) then
   (xnth l26 y_35).bind fun x46 =>
   (bif y_35==1 then
    some (.inl (y_31,wr (y_35+1)))
   else
    (xnth p_ppend y_35).bind fun c50 =>
    (bif decide (c50<48) then
     some true
    else
     (xnth p_ppend y_35).bind fun c53 =>
     some (decide (57<c53))).bind fun b54 =>
    (bif b54 then
     some (.inr (.inr (0,false)))
    else
     (xnth p_ppend y_35).bind fun c56 =>
     some (.inl (wr (y_31+(wr (x46*((c56 - 48).toNat:Int)))),wr (y_35+1)))))
  else
   some (.inr (.inl y_31)))
noncomputable def zBs (p_ppend:Str):Option (Int×Bool) :=
 (bif ((p_ppend==[])||(decide (5<(p_ppend.length:Int)))) then
  some true
 else
  (xnth p_ppend 0).bind fun c5 =>
  (bif c5 !=48 then
   (xnth p_ppend 0).bind fun c8 =>
   some (c8 !=49)
  else
   some false).bind fun b9 =>
  some (b9)).bind fun b10 =>
 (bif b10 then
  some true
 else
  (bif decide (1<(p_ppend.length:Int)) then
   (xnth p_ppend 1).bind fun c15 =>
   some (c15 !=46)
  else
   some false).bind fun b16 =>
  some (b16)).bind fun b17 =>
 (bif b17 then
  some (0,false)
 else
  (xsub ([1000,0,100,10,1]:List Int) 0 (p_ppend.length:Int)).bind fun l26 =>
  (zAF (zAk p_ppend l26) (0,0)).bind fun r43=>match r43 with
  | .inr e=>some e
  | .inl y_38 =>
   (bif decide (1000<y_38) then
    some (0,false)
   else
    some (y_38,true)))
noncomputable def zDa (p_c:UInt8) (s_2:Str):Option (Str ⊕ Str) :=
  (bif decide (0<(s_2.length:Int)) then
   (xnth s_2 (wr ((s_2.length:Int) - 1))).bind fun c15 =>
   some (c15==p_c)
  else
   some false).bind fun b16 =>
  (bif b16 then
   (xsub s_2 0 (wr ((s_2.length:Int) - 1))).bind fun s18 =>
   some (.inl s18)
  else
   some (.inr s_2))
noncomputable def zET (p_s:Str) (p_c:UInt8):Option Str :=
 (zAF (zDa p_c) p_s).bind fun s_6 =>
 some s_6
noncomputable def zBC (p_as:Str) (s_2:Str):Option (Str ⊕ Str) :=
  (bif decide (0<(s_2.length:Int)) then
   (xnth s_2 (wr ((s_2.length:Int) - 1))).bind fun c14 =>
   (zAd p_as c14).bind fun r15 =>
   (bif !r15 then
    some (.inr s_2)
   else
    (xsub s_2 0 (wr ((s_2.length:Int) - 1))).bind fun s21 =>
    some (.inl s21))
  else
   some (.inr s_2))
noncomputable def zBf (p_s:Str) (p_as:Str):Option Str :=
 (zAF (zBC p_as) p_s).bind fun s_6 =>
 some s_6
noncomputable def zEP (p_l:(List GField)) (i_3:Int):Option (Int ⊕ (Unit ⊕ Bool)) :=
  (bif ((decide (i_3<(p_l.length:Int)))&&(decide (i_3<71))) then
   (xnth p_l i_3).bind fun x15 =>
   (bif decide (300<(x15.fName.length:Int)) then
    some true
   else
    (xnth p_l i_3).bind fun x21 =>
    some (decide (300<(x21.fValue.length:Int)))).bind fun b25 =>
   (bif b25 then
    some (.inr (.inr false))
   else
    some (.inl (wr (i_3+1))))
  else
   some (.inr (.inl ())))
noncomputable def zFD (p_l:(List GField)):Option Bool :=
 (zAF (zEP p_l) 0).bind fun r10=>match r10 with
 | .inr e=>some e
 | .inl _ =>
  some (decide ((p_l.length:Int)≤70))
noncomputable def zDH (p_s:Str):(Int×Str)→Option ((Int×Str) ⊕ Str)
 | (y_8,m10) =>
  (bif decide (y_8<(p_s.length:Int)) then
   (xnth m10 y_8).bind fun c22 =>
   (xnth m10 y_8).bind fun c24 =>
   (bif ((decide (65≤c24))&&(decide (c24≤90))) then
    (xnth m10 y_8).bind fun c28 =>
    some (.inl (wr (y_8+1),(m10.set y_8.toNat ((c24+97) - 65))))
   else
    some (.inl (wr (y_8+1),m10)))
  else
   some (.inr m10))
noncomputable def zAp (p_s:Str):Option Str :=
 (zAF (zDH p_s) (0,p_s)).bind fun m14 =>
 some m14
noncomputable def zC3 (p_f:GField) (c_x0:Str):Option Bool :=
 (bif (p_f.fName.length:Int)==(c_x0.length:Int) then
  (zAp p_f.fName).bind fun r8 =>
  some (r8==c_x0)
 else
  some false).bind fun b13 =>
 some b13
noncomputable def zCb (p_name:Str):Option (GField→Option Bool) :=
 (zAp p_name).bind fun r3 =>
 some (fun x0=>zC3 x0 r3)
noncomputable def zBd (p_l:(List GField)) (p_keep:(GField→Option Bool)):((List GField)×Int)→Option (((List GField)×Int) ⊕ (List GField))
 | (out_3,y_9) =>
  (bif decide (y_9<(p_l.length:Int)) then
   (xnth p_l y_9).bind fun x22 =>
   (p_keep x22).bind fun r28 =>
   (bif r28 then
    (xapp out_3 ([x22]:List GField)).bind fun l39 =>
    some (.inl (l39,wr (y_9+1)))
   else
    some (.inl (out_3,wr (y_9+1))))
  else
   some (.inr out_3))
noncomputable def zCK (p_l:(List GField)) (p_keep:(GField→Option Bool)):Option (List GField) :=
 (zAF (zBd p_l p_keep) (([]:List GField),0)).bind fun out_12 =>
 some out_12
noncomputable def zCI (r6:(List GField)):((List Str)×Int)→Option (((List Str)×Int) ⊕ (List Str))
 | (out_13,y_19) =>
  (bif decide (y_19<(r6.length:Int)) then
   (xnth r6 y_19).bind fun x32 =>
   (xapp out_13 ([x32.fValue]:List Str)).bind fun l43 =>
   some (.inl (l43,wr (y_19+1)))
  else
   some (.inr out_13))
noncomputable def zDw (p_l:(List GField)) (p_name:Str):Option (List Str) :=
 (zCb p_name).bind fun r1 =>
 (zCK p_l r1).bind fun r6 =>
 (zAF (zCI r6) (([]:List Str),0)).bind fun out_22 =>
 some out_22
noncomputable def zH1 (p_state:Int) (p_c:UInt8):Option Int :=
 (bif p_state==2 then
  some 1
 else
  (bif ((p_state==1)&&(p_c==92)) then
   some 2
  else
   (bif p_c==34 then
    some (wr (1 - p_state))
   else
    some p_state)))
noncomputable def zD0 (p_c:UInt8) (s_2:Str):Option (Str ⊕ Str) :=
  (bif decide (0<(s_2.length:Int)) then
   (xnth s_2 0).bind fun c15 =>
   some (c15==p_c)
  else
   some false).bind fun b16 =>
  (bif b16 then
   (xsub s_2 1 s_2.length).bind fun s18 =>
   some (.inl s18)
  else
   some (.inr s_2))
noncomputable def zEl (p_s:Str) (p_c:UInt8):Option Str :=
 (zAF (zD0 p_c) p_s).bind fun s_6 =>
 some s_6
noncomputable def zBH (p_as:Str) (s_2:Str):Option (Str ⊕ Str) :=
  (bif decide (0<(s_2.length:Int)) then
   (xnth s_2 0).bind fun c14 =>
   (zAd p_as c14).bind fun r15 =>
   (bif !r15 then
    some (.inr s_2)
   else
    (xsub s_2 1 s_2.length).bind fun s21 =>
    some (.inl s21))
  else
   some (.inr s_2))
noncomputable def zBn (p_s:Str) (p_as:Str):Option Str :=
 (zAF (zBH p_as) p_s).bind fun s_6 =>
 some s_6
noncomputable def zGy (p_s:Str) (p_cutset:Str):Option Str :=
 (bif ((p_s==[])||(p_cutset==[])) then
  some p_s
 else
  (bif (p_cutset.length:Int)==1 then
   (xnth p_cutset 0).bind fun c6 =>
   some (decide (c6<128))
  else
   some false).bind fun b7 =>
  (bif b7 then
   (xnth p_cutset 0).bind fun c12 =>
   (zET p_s c12).bind fun r13 =>
   (xnth p_cutset 0).bind fun c18 =>
   (zEl r13 c18).bind fun r19 =>
   some r19
  else
   (strings_makeASCIISet p_cutset).bind fun r24 =>
   (zBf p_s p_cutset).bind fun r36 =>
   (zBn r36 p_cutset).bind fun r41 =>
   some r41))
noncomputable def zEF (p_s:Str):Option Str :=
 (zGy p_s [32,9]).bind fun r1 =>
 some r1
noncomputable def zAq (p_value:Str):((List Str)×Int×Int×Int)→Option (((List Str)×Int×Int×Int) ⊕ (List Str))
 | (out_3,state_7,from_9,i_11) =>
  (bif ((decide (i_11≤(p_value.length:Int)))&&(decide ((out_3.length:Int)<64))) then
   (bif decide (i_11<(p_value.length:Int)) then
    (bif state_7 !=0 then
     some true
    else
     (xnth p_value i_11).bind fun c30 =>
     some (c30 !=44)).bind fun b31 =>
    some (b31)
   else
    some false).bind fun b32 =>
   (bif b32 then
    (xnth p_value i_11).bind fun c34 =>
    (zH1 state_7 c34).bind fun r35 =>
    some (.inl (out_3,r35,from_9,wr (i_11+1)))
   else
    (xsub p_value from_9 i_11).bind fun s40 =>
    (zEF s40).bind fun r41 =>
    (bif r41 !=[] then
     (xapp out_3 ([r41]:List Str)).bind fun l52 =>
     some (.inl (l52,state_7,wr (i_11+1),wr (i_11+1)))
    else
     some (.inl (out_3,state_7,wr (i_11+1),wr (i_11+1)))))
  else
   some (.inr out_3))
noncomputable def zG1 (p_value:Str):Option (List Str) :=
 (zAF (zAq p_value) (([]:List Str),0,0,0)).bind fun out_14 =>
 some out_14
noncomputable def zFA (r1:(List Str)):((List Str)×Int)→Option (((List Str)×Int) ⊕ (List Str))
 | (out_8,y_14) =>
  (bif decide (y_14<(r1.length:Int)) then
   (xnth r1 y_14).bind fun x27 =>
   (zG1 x27).bind fun r30 =>
   (xapp out_8 r30).bind fun l36 =>
   some (.inl (l36,wr (y_14+1)))
  else
   some (.inr out_8))
noncomputable def zGF (p_l:(List GField)) (p_name:Str):Option (List Str) :=
 (zDw p_l p_name).bind fun r1 =>
 (zAF (zFA r1) (([]:List Str),0)).bind fun out_17 =>
 (xsub out_17 0 (if 64<(out_17.length:Int) then 64 else (out_17.length:Int))).bind fun l42 =>
 some l42
noncomputable def zDE (p_s:Str):(Int×Str)→Option ((Int×Str) ⊕ Str)
 | (i_6,m8) =>
  (bif decide (i_6<(p_s.length:Int)) then
   (xnth m8 i_6).bind fun c20 =>
   (xnth m8 i_6).bind fun c22 =>
   (bif decide (65≤c22) then
    (xnth m8 i_6).bind fun c25 =>
    (xnth m8 i_6).bind fun c27 =>
    some (decide (c27≤90))
   else
    some false).bind fun b28 =>
   (bif b28 then
    (xnth m8 i_6).bind fun c30 =>
    (xnth m8 i_6).bind fun c32 =>
    (xnth m8 i_6).bind fun c33 =>
    some (.inl (wr (i_6+1),(m8.set i_6.toNat (c32+32))))
   else
    some (.inl (wr (i_6+1),m8)))
  else
   some (.inr m8))
noncomputable def zBN (p_s:Str):Option Str :=
 (zAF (zDE p_s) (0,p_s)).bind fun m12 =>
 some m12
noncomputable def zBi (p_a:Str) (p_b:Str):Option Bool :=
 (bif (p_a.length:Int)==(p_b.length:Int) then
  (zBN p_a).bind fun r3 =>
  (zBN p_b).bind fun r8 =>
  some (r3==r8)
 else
  some false).bind fun b13 =>
 some b13
noncomputable def zAW (p_s:Str) (p_at:UInt8):((List Str)×Int×Bool×Int)→Option (((List Str)×Int×Bool×Int) ⊕ ((List Str)×Int))
 | (out_4,from_8,quoted_10,i_12) =>
  (bif decide (i_12<(p_s.length:Int)) then
   (bif quoted_10 then
    (xnth p_s i_12).bind fun c30 =>
    some (c30==92)
   else
    some false).bind fun b31 =>
   (bif b31 then
    some (.inl (out_4,from_8,quoted_10,wr ((wr (i_12+1))+1)))
   else
    (xnth p_s i_12).bind fun c33 =>
    (bif c33==34 then
     some (.inl (out_4,from_8,!quoted_10,wr (i_12+1)))
    else
     (xnth p_s i_12).bind fun c35 =>
     (bif ((c35==p_at)&&(!quoted_10)) then
      (xsub p_s from_8 i_12).bind fun s39 =>
      (xapp out_4 ([s39]:List Str)).bind fun l45 =>
      some (.inl (l45,wr (i_12+1),quoted_10,wr (i_12+1)))
     else
      some (.inl (out_4,from_8,quoted_10,wr (i_12+1))))))
  else
   some (.inr (out_4,from_8)))
noncomputable def zFr (p_s:Str) (p_at:UInt8):Option (List Str) :=
 (zAF (zAW p_s p_at) (([]:List Str),0,false,0)).bind fun r25=>match r25 with
 | (out_16,from_20) =>
  (xsub p_s from_20 p_s.length).bind fun s51 =>
  (xapp out_16 ([s51]:List Str)).bind fun l57 =>
  some l57
noncomputable def zBO (p_a:(List Str)) (p_b:(List Str)) (i_5:Int):Option (Int ⊕ (Unit ⊕ Bool)) :=
  (bif decide (i_5<(p_a.length:Int)) then
   (xnth p_a i_5).bind fun x17 =>
   (xnth p_b i_5).bind fun x20 =>
   (bif x17 !=x20 then
    some (.inr (.inr false))
   else
    some (.inl (wr (i_5+1))))
  else
   some (.inr (.inl ())))
noncomputable def zC1 (p_a:(List Str)) (p_b:(List Str)):Option Bool :=
 (bif (p_a.length:Int) !=(p_b.length:Int) then
  some false
 else
  (zAF (zBO p_a p_b) 0).bind fun r11=>match r11 with
  | .inr e=>some e
  | .inl _ =>
   some true)
noncomputable def zDt (p_l:(List Str)) (i_3:Int):Option (Int ⊕ (Unit ⊕ Bool)) :=
  (bif ((decide (i_3<(p_l.length:Int)))&&(decide (i_3<21))) then
   (xnth p_l i_3).bind fun x15 =>
   (bif decide (100<(x15.length:Int)) then
    some (.inr (.inr false))
   else
    some (.inl (wr (i_3+1))))
  else
   some (.inr (.inl ())))
noncomputable def zCh (p_l:(List Str)):Option Bool :=
 (zAF (zDt p_l) 0).bind fun r10=>match r10 with
 | .inr e=>some e
 | .inl _ =>
  some (decide ((p_l.length:Int)≤20))
noncomputable def zFy (p_members:(List Str)):Option Str :=
 (strings_Join p_members [44,32]).bind fun r1 =>
 some r1
noncomputable def zBj (p_s:Str) (p_prefix:Str):Option Bool :=
 (bif decide ((p_prefix.length:Int)≤(p_s.length:Int)) then
  (xsub p_s 0 (p_prefix.length:Int)).bind fun s3 =>
  some (s3==p_prefix)
 else
  some false).bind fun b4 =>
 some b4
noncomputable def zDA (p_s:Str):((List UInt8)×Int)→Option (((List UInt8)×Int) ⊕ (List UInt8))
 | (b_8,i_12) =>
  (bif decide (i_12<(p_s.length:Int)) then
   (xnth p_s i_12).bind fun c25 =>
   (bif c25==34 then
    some true
   else
    (xnth p_s i_12).bind fun c28 =>
    some (c28==92)).bind fun b29 =>
   ((bif b29 then
    (xapp b_8 ([92]:List UInt8)).bind fun l45 =>
    some l45
   else
    some b_8)).bind fun (b_32:(List UInt8)) =>
   (xnth p_s i_12).bind fun c51 =>
   (xapp b_32 ([c51]:List UInt8)).bind fun l57 =>
   some (.inl (l57,wr (i_12+1)))
  else
   some (.inr b_8))
noncomputable def zE7 (p_s:Str):Option Str :=
 (zAF (zDA p_s) (([34]:List UInt8),0)).bind fun b_15 =>
 (xapp b_15 ([34]:List UInt8)).bind fun l68 =>
 some l68
noncomputable def zG0 (p_c:UInt8):Option Bool :=
 (((bif p_c==33 then
  some (p_c==33)
 else
  (bif p_c==35 then
   some (p_c==35)
  else
   (bif p_c==36 then
    some (p_c==36)
   else
    (bif p_c==37 then
     some (p_c==37)
    else
     (bif p_c==38 then
      some (p_c==38)
     else
      (bif p_c==39 then
       some (p_c==39)
      else
       (bif p_c==42 then
        some (p_c==42)
       else
        (bif p_c==43 then
         some (p_c==43)
        else
         (bif p_c==45 then
          some (p_c==45)
         else
          (bif p_c==46 then
           some (p_c==46)
          else
           (bif p_c==94 then
            some (p_c==94)
           else
            (bif p_c==95 then
             some (p_c==95)
            else
             (bif p_c==96 then
              some (p_c==96)
             else
              (bif p_c==124 then
               some (p_c==124)
              else
               some (p_c==126)))))))))))))))).bind fun (y_7:Bool) =>
 (bif y_7 then
  some (.inr true)
 else
  some (.inl ()))).bind fun (j4:(Unit ⊕ Bool))=>match j4 with
 | .inr e=>some e
 | .inl _ =>
  some ((((decide (48≤p_c))&&(decide (p_c≤57)))||((decide (65≤p_c))&&(decide (p_c≤90))))||((decide (97≤p_c))&&(decide (p_c≤122))))
noncomputable def zDO (p_s:Str) (y_4:Int):Option (Int ⊕ (Unit ⊕ Bool)) :=
  (bif decide (y_4<(p_s.length:Int)) then
   (xnth p_s y_4).bind fun c14 =>
   (zG0 c14).bind fun r15 =>
   (bif !r15 then
    some (.inr (.inr false))
   else
    some (.inl (wr (y_4+1))))
  else
   some (.inr (.inl ())))
noncomputable def zA1 (p_s:Str):Option Bool :=
 (zAF (zDO p_s) 0).bind fun r11=>match r11 with
 | .inr e=>some e
 | .inl _ =>
  some (p_s !=[])
noncomputable def zDo (p_s:Str) (y_4:Int):Option (Int ⊕ (Unit ⊕ Bool)) :=
  (bif decide (y_4<(p_s.length:Int)) then
   (xnth p_s y_4).bind fun c13 =>
   (bif decide (c13<32) then
    (xnth p_s y_4).bind fun c16 =>
    some (c16 !=9)
   else
    some false).bind fun b17 =>
   (bif b17 then
    some true
   else
    (xnth p_s y_4).bind fun c20 =>
    some (c20==127)).bind fun b21 =>
   (bif b21 then
    some (.inr (.inr false))
   else
    some (.inl (wr (y_4+1))))
  else
   some (.inr (.inl ())))
noncomputable def zF6 (p_s:Str):Option Bool :=
 (zAF (zDo p_s) 0).bind fun r10=>match r10 with
 | .inr e=>some e
 | .inl _ =>
  some true
noncomputable def zAh (s22:Str):((List UInt8)×Int)→Option (((List UInt8)×Int) ⊕ ((List UInt8) ⊕ (Str×Bool)))
 | (out_25,i_29) =>
  (bif decide (i_29<(s22.length:Int)) then
   (xnth s22 i_29).bind fun c42 =>
   ((bif c42==34 then
    some (.inr (.inr (.inr ([],false))))
   else
    (bif c42==92 then
     (bif (wr (i_29+1))==(s22.length:Int) then
      some (.inr (.inr (.inr ([],false))))
     else
      some (.inl (wr (i_29+1))))
    else
     some (.inl i_29)))).bind fun (j49:(Int ⊕ (((List UInt8)×Int) ⊕ ((List UInt8) ⊕ (Str×Bool)))))=>match j49 with
   | .inr e=>some e
   | .inl i_46 =>
    (xnth s22 i_46).bind fun c53 =>
    (xapp out_25 ([c53]:List UInt8)).bind fun l59 =>
    some (.inl (l59,wr (i_46+1)))
  else
   some (.inr (.inl out_25)))
noncomputable def zDv (p_s:Str):Option (Str×Bool) :=
 (bif decide ((p_s.length:Int)<2) then
  some true
 else
  (xnth p_s 0).bind fun c3 =>
  some (c3 !=34)).bind fun b4 =>
 (bif b4 then
  some true
 else
  (xnth p_s (wr ((p_s.length:Int) - 1))).bind fun c7 =>
  some (c7 !=34)).bind fun b8 =>
 (bif b8 then
  some true
 else
  (xsub p_s 1 (wr ((p_s.length:Int) - 1))).bind fun s11 =>
  (zF6 s11).bind fun r12 =>
  some (!r12)).bind fun b17 =>
 (bif b17 then
  some ([],false)
 else
  (xsub p_s 1 (wr ((p_s.length:Int) - 1))).bind fun s22 =>
  (zAF (zAh s22) (([]:List UInt8),0)).bind fun r39=>match r39 with
  | .inr e=>some e
  | .inl out_32 =>
   some (out_32,true))
noncomputable def zDl (p_l:(List GField)) (p_name:Str):Option Bool :=
 (zCb p_name).bind fun r1 =>
 (zCK p_l r1).bind fun r6 =>
 some (decide (0<(r6.length:Int)))
noncomputable def zCp (p_a:Str) (p_b:Str):Option Bool :=
 (bif (p_a.length:Int)==(p_b.length:Int) then
  (zAp p_a).bind fun r3 =>
  (zAp p_b).bind fun r8 =>
  some (r3==r8)
 else
  some false).bind fun b13 =>
 some b13
noncomputable def zBM (p_kind:Int):Option Str :=
 (bif p_kind==1 then
  some [65,99,99,101,112,116]
 else
  (bif p_kind==2 then
   some [65,99,99,101,112,116,45,76,97,110,103,117,97,103,101]
  else
   (bif p_kind==3 then
    some [65,99,99,101,112,116,45,67,104,97,114,115,101,116]
   else
    (bif p_kind==4 then
     some [65,99,99,101,112,116,45,69,110,99,111,100,105,110,103]
    else
     some []))))
noncomputable def zEA (p_name:Str):Option Int :=
 (zBM 1).bind fun r1 =>
 (zCp p_name r1).bind fun r6 =>
 (bif r6 then
  some 1
 else
  (zBM 2).bind fun r12 =>
  (zCp p_name r12).bind fun r17 =>
  (bif r17 then
   some 2
  else
   (zBM 3).bind fun r23 =>
   (zCp p_name r23).bind fun r28 =>
   (bif r28 then
    some 3
   else
    (zBM 4).bind fun r34 =>
    (zCp p_name r34).bind fun r39 =>
    (bif r39 then
     some 4
    else
     some 0))))
noncomputable def zG5 (p_name:Str) (p_l:(List GField)):Option Str :=
 (zDl p_l p_name).bind fun r1 =>
 (bif !r1 then
  some []
 else
  (zGF p_l p_name).bind fun r7 =>
  (zEA p_name).bind fun r13 =>
  (bif ((r13 !=0)&&(decide ((r7.length:Int)<64))) then
   (zFy r7).bind fun r21 =>
   (zAp r21).bind fun r26 =>
   (xcat [61] r26).bind fun s31 =>
   some s31
  else
   (zDw p_l p_name).bind fun r32 =>
   (strings_Join r32 [44,32]).bind fun r38 =>
   (xcat [61] r38).bind fun s43 =>
   some s43))
noncomputable def zBW (p_kind:Int):Option Str :=
 (bif p_kind==1 then
  some [65,99,99,101,112,116]
 else
  (bif p_kind==2 then
   some [65,99,99,101,112,116,45,76,97,110,103,117,97,103,101]
  else
   (bif p_kind==3 then
    some [65,99,99,101,112,116,45,67,104,97,114,115,101,116]
   else
    (bif p_kind==4 then
     some [65,99,99,101,112,116,45,69,110,99,111,100,105,110,103]
    else
     some []))))
noncomputable def zD5 (p_name:Str):Option Int :=
 (zBW 1).bind fun r1 =>
 (zBi p_name r1).bind fun r6 =>
 (bif r6 then
  some 1
 else
  (zBW 2).bind fun r12 =>
  (zBi p_name r12).bind fun r17 =>
  (bif r17 then
   some 2
  else
   (zBW 3).bind fun r23 =>
   (zBi p_name r23).bind fun r28 =>
   (bif r28 then
    some 3
   else
    (zBW 4).bind fun r34 =>
    (zBi p_name r34).bind fun r39 =>
    (bif r39 then
     some 4
    else
     some 0))))
noncomputable def zCL (p_names:(List Str)) (p_l:(List GField)):((List Str)×Int)→Option (((List Str)×Int) ⊕ (List Str))
 | (out_3,y_9) =>
  (bif decide (y_9<(p_names.length:Int)) then
   (xnth p_names y_9).bind fun x22 =>
   (zG5 x22 p_l).bind fun r25 =>
   (xapp out_3 ([r25]:List Str)).bind fun l35 =>
   some (.inl (l35,wr (y_9+1)))
  else
   some (.inr out_3))
noncomputable def zEy (p_names:(List Str)) (p_l:(List GField)):Option (List Str) :=
 (zAF (zCL p_names p_l) (([]:List Str),0)).bind fun out_12 =>
 some out_12
noncomputable def zAo (p_s1:(List Str)) (p_s2:(List Str)) (y_6:Int):Option (Int ⊕ (Unit ⊕ Bool)) :=
  (bif decide (y_6<(p_s1.length:Int)) then
   (xnth p_s1 y_6).bind fun x18 =>
   (xnth p_s2 y_6).bind fun x21 =>
   (bif x18 !=x21 then
    some (.inr (.inr false))
   else
    some (.inl (wr (y_6+1))))
  else
   some (.inr (.inl ())))
noncomputable def zAa (p_s1:(List Str)) (p_s2:(List Str)):Option Bool :=
 (bif (p_s1.length:Int) !=(p_s2.length:Int) then
  some false
 else
  (zAF (zAo p_s1 p_s2) 0).bind fun r12=>match r12 with
  | .inr e=>some e
  | .inl _ =>
   some true)
noncomputable def zHD (p_names:(List Str)) (p_snapshot:(List Str)) (p_l:(List GField)):Option Bool :=
 (bif (p_names.length:Int)==(p_snapshot.length:Int) then
  (zEy p_names p_l).bind fun r3 =>
  (zAa r3 p_snapshot).bind fun r9 =>
  some (r9)
 else
  some false).bind fun b14 =>
 some b14
noncomputable def zFY (p_l:(List (List Str))) (i_3:Int):Option (Int ⊕ (Unit ⊕ Bool)) :=
  (bif ((decide (i_3<(p_l.length:Int)))&&(decide (i_3<11))) then
   (xnth p_l i_3).bind fun x15 =>
   (zCh x15).bind fun r20 =>
   (bif !r20 then
    some (.inr (.inr false))
   else
    some (.inl (wr (i_3+1))))
  else
   some (.inr (.inl ())))
noncomputable def zHv (p_l:(List (List Str))):Option Bool :=
 (zAF (zFY p_l) 0).bind fun r10=>match r10 with
 | .inr e=>some e
 | .inl _ =>
  some (decide ((p_l.length:Int)≤10))
noncomputable def zHC (p_e:GEntry):Option Bool :=
 (zHv p_e.fKeys).bind fun r3 =>
 (bif r3 then
  (zCh p_e.fVary).bind fun r10 =>
  some (r10)
 else
  some false).bind fun b15 =>
 (bif b15 then
  (zCh p_e.fSnapshot).bind fun r21 =>
  some (r21)
 else
  some false).bind fun b26 =>
 (bif ((b26&&(decide ((p_e.fReason.length:Int)≤100)))&&(decide ((p_e.fBody.length:Int)≤2000))) then
  (zFD p_e.fFields).bind fun r36 =>
  some (r36)
 else
  some false).bind fun b41 =>
 some b41
end Go.Eng.Pure
