/- A part. -/
import Derived.Test.YtljjaiijlaeoeaaGreatDoorEng36
import Derived.Scope
import Derived.WalkSpells
set_option linter.unusedVariables false
namespace Go.Eng
open Go Go.RowKit
section
variable {P:Program} {N:Frm} {f:Fr} {w w' w0:World} {H0 H:Hp} {L:List Ent} {ops:Array Oper} {rest:List Oper} {Q:Fr→World→Prop} {d:Nat} {od:Option Nat} {ty:TypeId} {pos:String} {af:Array Edge} {g:Option (Nat×Bool)} {α:Type} [Enc α]
theorem St.same (S:St w0 H0 w H L) {b H':Hp} (hp:Post w b w' H'):St w0 H0 w' H L:=by
 have hb:=hp.below
 have hoth:∀ k,k<w.heap.size→w'.heap[k]?=w.heap[k]?:=hb.block
 refine ⟨⟨S.post.below.trans ⟨hb.os,hb.tape,hb.output,hb.size,fun k hk=>hoth k (Nat.lt_of_lt_of_le hk S.post.below.size)⟩,S.post.le,S.post.eqb,?_⟩,?_,S.own,S.nodup⟩
 ·intro k T' l hk
  obtain ⟨cs,fz,hc',hr⟩:=S.holds k T' l hk
  exact ⟨cs,fz,by rw [hoth k (Array.getElem?_eq_some_iff.1 hc').1]; exact hc',hr⟩
 ·intro e he
  exact Ent.ok_keep (S.ents e he) fun k hk=>⟨hoth k (Ent.ok_lt (S.ents e he) hk),rfl⟩
theorem W.callF {k:FuncId} {xs:List Operand} {ats:Array TypeId} {args:List Value} {R:Hp→Value→Prop} {b:Hp} (S:St w0 H0 w H L) (ha:xs.map (ev N f)=args) (C:Con P k args w b R)
  (K:∀ v w' H',R H' v→St w0 H0 w' H L→WL P N ops rest Q (updo f od v) w'):WL P N ops (⟨od,.call ⟨.value (.func k),xs.toArray,ats⟩,ty,pos,af,none⟩ :: rest) Q f w:=by
 refine WL.enterw (w':=w) (k:=k) (args:=args.toArray) ?_ (Calls.mono C.2 fun e w' ⟨v,H',he,hp,hv⟩=>⟨v,he,K v w' H' hv (S.same hp)⟩)
 have:(execOp (ev N f) ⟨od,.call ⟨.value (.func k),xs.toArray,ats⟩,ty,pos,af,none⟩)=callFunc k (#[]++xs.toArray.map (ev N f)++#[]):=rfl
 rw [this]
 have e:(#[]++xs.toArray.map (ev N f)++#[])=args.toArray:=by simp [ha]
 rw [e]
 exact C.1 w
theorem W.callvF {k:FuncId} {x:Operand} {xs:List Operand} {ats:Array TypeId} {args caps:List Value} {R:Hp→Value→Prop} {b:Hp} (S:St w0 H0 w H L) (hx:ev N f x=.func (.func k) #[] caps.toArray) (ha:xs.map (ev N f)=args) (C:Con P k (args++caps) w b R)
  (K:∀ v w' H',R H' v→St w0 H0 w' H L→WL P N ops rest Q (updo f od v) w'):WL P N ops (⟨od,.call ⟨.value x,xs.toArray,ats⟩,ty,pos,af,none⟩ :: rest) Q f w:=by
 obtain ⟨c,h⟩:=C
 refine WL.enterw (w':=w) (k:=k) (args:=(args++caps).toArray) ?_ (Calls.mono h fun e w' ⟨v,H',he,hp,hv⟩=>⟨v,he,K v w' H' hv (S.same hp)⟩)
 have e:xs.toArray.map (ev N f)++caps.toArray=(args++caps).toArray:=by simp [ha]
 have:(execOp (ev N f) ⟨od,.call ⟨.value x,xs.toArray,ats⟩,ty,pos,af,none⟩).run P w=(callFunc k (#[]++xs.toArray.map (ev N f)++caps.toArray)).run P w:=by
  simp [execOp,resolve,hx,Deferred.ofValue,Go.invoke]
 rw [this,Array.empty_append,e]
 exact c w
theorem W.storeMR {T T':TypeId} {e:TypeId} {a x:Operand} {b o i:Nat} {bb:Bool} {u:Value} {xs:List α} {en:Ent} {cs:List Value} (cs':List Value) (S:St w0 H0 w H L) (R:MR H en e u xs) (ha:ev N f a=ptr b o) (hx:ev N f x=u) (hi:L[i]?=some (.box b T' cs)) (hT:lay P T=some (bb,1))
  (ho:o+1≤cs.length) (hc:zGD cs o [u]=cs')
  (k:∀ w',St w0 H0 w' H (L.set i (.box b T' cs'))→WL P N ops rest Q (updo f od undef) w'):WL P N ops (⟨od,.store T a x,ty,pos,af,none⟩ :: rest) Q f w :=
 W.store cs' S ha hx hi hT (by rw [MR.cellsOne R]; rfl) (by rw [MR.cellsOne R]; simp [MR.oneC R]) ho (by rw [MR.cellsOne R]; exact hc) k
theorem St.view_ (S:St w0 H0 w H L) {i:Nat} {en:Ent} {e:TypeId} {v:Value} {xs:List α} (hi:L[i]?=some en) (hx:MR H en e v xs):∃ b,H.le b∧Holds w b∧Sl b v xs:=by
 obtain ⟨b,hle,hs,S1⟩:=S.settleM hi hx
 exact ⟨b,hle,S1.holds,hs⟩
theorem objAt {i b:Nat} {o:Obj} (S:St w0 H0 w H L) (hi:L[i]?=some (.obj b o)):H b=none∧w.heap[b]?=some o:=S.ents _ (List.mem_of_getElem? hi)
theorem R.loadO {T e:TypeId} {x:Operand} {b o i n:Nat} {cur:Array Value} {vs:List Value} (S:St w0 H0 w H L) (hx:ev N f x=ptr b o) (hi:L[i]?=some (.obj b (.cells cur e (0,0)))) (hT:lay P T=some (true,n)) (hn:vs.length=n) (hv:(cur.toList.drop o).take n=vs) :
  (execOp (ev N f) ⟨od,.load T x,ty,pos,af,g⟩).run P w=.ok (.value (agg vs)) w:=by
 refine R.loadN hx hT hn fun j v hj=>?_
 rw [Addr.add_lit,zHf (objAt S hi).2,← Array.getElem?_toList]
 rw [← hv,List.getElem?_take,List.getElem?_drop] at hj
 split at hj
 ·exact hj
 ·cases hj
theorem R.idxN {T e:TypeId} {x i:Operand} {b n c sz:Nat} {m:Int} (hx:ev N f x=.slice (some ⟨b,0,none⟩) n c) (hi:ev N f i=int m) (hE:Elem P T e sz) (h:0≤m∧m<n) :
  (execOp (ev N f) ⟨od,.indexAddr T x i,ty,pos,af,g⟩).run P w=.ok (.value (ptr b (m.toNat*sz))) w:=by
 obtain ⟨ht,inf,z,hinf,_,hsize,_⟩:=hE
 simp [execOp,Instr.indexAt,asIntOf,hx,hi,int,run_underlying ht,h,sizeOf,typeInfo,hinf,hsize,Addr.add_lit,ptr]
theorem W.storeO {T e:TypeId} {a x:Operand} {b o i n:Nat} {bb:Bool} {v:Value} {cur:Array Value} (S:St w0 H0 w H L) (ha:ev N f a=ptr b o) (hx:ev N f x=v) (hi:L[i]?=some (.obj b (.cells cur e (0,0)))) (hT:lay P T=some (bb,n))
  (hn:v.cells.size=n) (c:v.cells.toList.all Value.oneCell'=true) (ho:o+n≤cur.size)
  (k:∀ w' cur',cur'.toList=cur.toList.take o++v.cells.toList++cur.toList.drop (o+n)→St w0 H0 w' H (L.set i (.obj b (.cells cur' e (0,0))))→WL P N ops rest Q (updo f od undef) w'):WL P N ops (⟨od,.store T a x,ty,pos,af,none⟩ :: rest) Q f w:=by
 obtain ⟨_,l⟩:=zEB (w:=w) hT
 obtain ⟨hH,hb⟩:=objAt S hi
 have hlen:v.cells.toList.length=n:=by simpa using hn
 obtain ⟨w',arr',hrun,hoth,hsz,hos,hb',harr⟩:=zCh (P:=P) b o e (0,0) v.cells.toList 0 cur w hb (by omega) (fun u hu=>List.all_eq_true.1 c u hu) (fun j _ p h=>Nat.not_lt_zero _ h.2)
 refine WL.skipw (w':=w') ?_ (k w' arr' ?_ (S.renew hi rfl rfl hH hoth hsz hos ⟨hH,hb'⟩))
 ·simp only [execOp,Instr.storeAt,Instr.sureAddr,ha,hx,ptr,storeVar,Sem.run_bind,Sem.run_pure,Result.andThen_ok,l,hn,ne_eq,not_true_eq_false,if_false,hrun]
 ·rw [harr,hlen]; rfl
theorem zIF {z:Array Value} (hz:z.all Value.oneCell'=true) (n:Nat):∀ v ∈ (Builtin.zeroCells z n).toList,v.oneCell'=true:=by
 intro v hv
 unfold Builtin.zeroCells at hv
 simp only [Array.toList_map,Array.toList_range,List.mem_map,List.mem_range] at hv
 obtain ⟨j,hj,rfl⟩:=hv
 have hp:0<z.size:=by
  rcases Nat.eq_zero_or_pos z.size with h | h
  ·rw [h,Nat.mul_zero] at hj; exact absurd hj (Nat.not_lt_zero _)
  ·exact h
 have hlt:=Nat.mod_lt j hp
 rw [getElem!_pos z _ hlt]
 exact Array.all_eq_true.1 hz _ hlt
theorem W.clearO {T e:TypeId} {x:Operand} {b i k n c:Nat} {cur:Array Value} (S:St w0 H0 w H L) (hE:Elem P T e (Enc.sz α)) (h1z:∀ z,zer P e=some z→z.all Value.oneCell'=true) (hx:ev N f x=.slice (some ⟨b,k*Enc.sz α,none⟩) n c) (hi:L[i]?=some (.obj b (.cells cur e (0,0))))
  (ho:k*Enc.sz α+n*Enc.sz α≤cur.size)
  (K:∀ w' cur',cur'.size=cur.size→cur'.toList.take (k*Enc.sz α)=cur.toList.take (k*Enc.sz α)→St w0 H0 w' H (L.set i (.obj b (.cells cur' e (0,0))))→WL P N ops rest Q (updo f od (.tuple #[])) w') :
  WL P N ops (⟨od,.call ⟨.builtin .clear,#[x],#[T]⟩,ty,pos,af,none⟩ :: rest) Q f w:=by
 obtain ⟨ht,inf,z,hinf,hzz,hsize,hzs,hbytes⟩:=hE
 obtain ⟨hH,hb⟩:=objAt S hi
 have l:z.cells.all Value.oneCell'=true:=by
  have:zer P e=some z.cells.toList:=by unfold zer; rw [hinf]; simp [hzz]
  have:=h1z _ this
  rw [← Array.all_toList]; exact this
 by_cases hn:n=0
 ·subst hn
  refine WL.w (v:=.tuple #[]) (w':=w) ?_ (K w cur rfl rfl (by rw [zHw hi]; exact S))
  simp [execOp,resolve,Go.invoke,Go.builtin,hx,Builtin.clear_,run_underlying ht]
 ·have hzl:(Builtin.zeroCells z.cells n).toList.length=n*Enc.sz α:=by rw [Array.length_toList,size_zeroCells,hzs]
  obtain ⟨w',arr',hrun,hoth,hsz,hos,hb',harr⟩:=zCh (P:=P) b (k*Enc.sz α) e (0,0) (Builtin.zeroCells z.cells n).toList 0 cur w hb (by rw [hzl]; omega) (zIF l n) (fun j _ o h=>Nat.not_lt_zero _ h.2)
  have hzv:(zeroValue e).run P w=.ok z w:=by simp [zeroValue,typeInfo,hinf,hzz]
  refine WL.w (v:=.tuple #[]) (w':=w') ?_ (K w' arr' ?_ ?_ (S.renew hi rfl rfl hH hoth hsz hos ⟨hH,hb'⟩))
  ·have hm:∀ (n:Nat),n≠0→(Builtin.clear_ #[T] ty #[.slice (some ⟨b,k*Enc.sz α,none⟩) n c]).run P w=((storeCells ⟨b,k*Enc.sz α,none⟩ (Builtin.zeroCells z.cells n).toList).run P w).andThen fun _ w=>.ok (.tuple #[]) w:=by
    intro n hn
    cases n with
    | zero=>exact absurd rfl hn
    | succ n=>simp [Builtin.clear_,run_underlying ht,hzv]
   simp only [execOp,resolve,Go.invoke,Go.builtin,Sem.run_bind,Sem.run_pure,Result.andThen_ok,List.map_toArray,List.map_cons,List.map_nil,hx,hm n hn,hrun]
  ·rw [← Array.length_toList,harr,List.length_append,List.length_append,List.length_take,List.length_drop,hzl,Array.length_toList]; omega
  ·rw [harr,Nat.add_zero,List.append_assoc,List.take_append_of_le_length (by rw [List.length_take,Array.length_toList]; omega),List.take_take,Nat.min_self]
end
def DelI {α:Type} [Enc α] (H:Hp) (xs:List α) (cur:Array Value) (K:List α) (m:Nat):Prop :=
 K.length<m∧m≤xs.length∧∃ kc jc rc tl,cur.toList=kc++(jc++(rc++tl))∧Cells H kc K∧jc.length=(m - K.length)*Enc.sz α∧Cells H rc (xs.drop m)
section
variable {α:Type} [Enc α] {H:Hp} {xs K:List α} {cur cur':Array Value} {m:Nat}
theorem DelI.look (h:DelI H xs cur K m) (hm:m<xs.length):∃ cs,(cur.toList.drop (m*Enc.sz α)).take (Enc.sz α)=cs∧cs.length=Enc.sz α∧Enc.cells H cs xs[m]:=by
 obtain ⟨b,c,kc,jc,rc,tl,hl,hk,hj,hr⟩:=h
 rw [List.drop_eq_getElem_cons hm] at hr
 obtain ⟨cs,r,rfl,hc,_⟩:=hr
 have hlen:=Enc.len hc
 refine ⟨cs,?_,hlen,hc⟩
 have e:(kc++jc).length=m*Enc.sz α:=by
  rw [List.length_append,hk.length,hj,← Nat.add_mul]; congr 1; omega
 rw [hl,← List.append_assoc,← e,List.drop_left,List.append_assoc,← hlen,List.take_left]
theorem DelI.skip (h:DelI H xs cur K m) (hm:m<xs.length):DelI H xs cur K (m+1):=by
 obtain ⟨b,c,kc,jc,rc,tl,hl,hk,hj,hr⟩:=h
 rw [List.drop_eq_getElem_cons hm] at hr
 obtain ⟨cs,r,rfl,hc,hr'⟩:=hr
 have hlen:=Enc.len hc
 refine ⟨by omega,hm,kc,jc++cs,r,tl,by rw [hl]; simp,hk,?_,hr'⟩
 rw [List.length_append,hj,hlen,show m+1 - K.length=(m - K.length)+1 by omega,Nat.add_mul,Nat.one_mul]
theorem DelI.keep (h:DelI H xs cur K m) (hm:m<xs.length) {cs:List Value} (hcs:(cur.toList.drop (m*Enc.sz α)).take (Enc.sz α)=cs) (hc:cur'.toList=cur.toList.take (K.length*Enc.sz α)++cs++cur.toList.drop (K.length*Enc.sz α+Enc.sz α)) :
  DelI H xs cur' (K++[xs[m]]) (m+1):=by
 obtain ⟨cs',hcs',hlen',hcell⟩:=h.look hm
 have:cs'=cs:=by rw [← hcs',hcs]
 subst this
 have k:=h.1
 obtain ⟨l,b,kc,jc,rc,tl,hl,hk,hj,hr⟩:=h.skip hm
 have hkl:=hk.length
 have hjl:Enc.sz α≤jc.length:=by
  rw [hj]
  exact Nat.le_mul_of_pos_left _ (by omega)
 refine ⟨by simp; omega,b,kc++cs',jc.drop (Enc.sz α),rc,tl,?_,hk.append ⟨cs',[],by simp,hcell,rfl⟩,?_,hr⟩
 ·have c:cur.toList.take (K.length*Enc.sz α)=kc:=by rw [hl,← hkl,List.take_left]
  have i:cur.toList.drop (K.length*Enc.sz α+Enc.sz α)=jc.drop (Enc.sz α)++(rc++tl):=by
   rw [hl,← hkl,← List.drop_drop,List.drop_left,List.drop_append_of_le_length hjl]
  rw [hc,c,i]
 ·have j:m+1 - K.length=(m+1 - (K.length+1))+1:=by omega
  rw [List.length_drop,hj,List.length_append,List.length_singleton,j,Nat.succ_mul,Nat.add_sub_cancel]
theorem Cells.split {H:Hp}:∀ {a b:List α} {cs:List Value},Cells H cs (a++b)→∃ i j,cs=i++j∧Cells H i a∧Cells H j b
 | [],_,cs,h=>⟨[],cs,rfl,rfl,h⟩
 | x :: a,b,cs,⟨c,r,e,hc,hr⟩=>by
  obtain ⟨i,j,rfl,k,l⟩:=Cells.split hr
  exact ⟨c++i,j,by rw [e]; simp,⟨c,i,rfl,hc,k⟩,l⟩
theorem DelI.start {cs:List Value} {i:Nat} (htk:cur.toList.take (xs.length*Enc.sz α)=cs) (hC:Cells H cs xs) (hi:i<xs.length):DelI H xs cur (xs.take i) (i+1):=by
 have hx:xs=xs.take i++([xs[i]]++xs.drop (i+1)):=by
  rw [List.singleton_append,← List.drop_eq_getElem_cons hi,List.take_append_drop]
 rw [hx] at hC
 obtain ⟨b,p,rfl,c,h⟩:=Cells.split hC
 obtain ⟨j,k,rfl,l,o⟩:=Cells.split h
 have hl:(xs.take i).length=i:=by rw [List.length_take]; omega
 refine ⟨by omega,hi,b,j,k,cur.toList.drop (xs.length*Enc.sz α),?_,c,?_,o⟩
 ·exact (List.take_append_drop (xs.length*Enc.sz α) cur.toList).symm.trans (by rw [htk]; simp)
 ·have:=l.length
  rw [List.length_singleton] at this
  rw [hl,this]; congr 1; omega
theorem DelI.front (h:DelI H xs cur K m):∃ kc,cur.toList.take (K.length*Enc.sz α)=kc∧Cells H kc K:=by
 obtain ⟨b,c,kc,jc,rc,tl,hl,hk,hj,hr⟩:=h
 exact ⟨kc,by rw [hl,← hk.length,List.take_left],hk⟩
end
section
variable {P:Program} {N:Frm} {f:Fr} {w:World} {od:Option Nat} {ty:TypeId} {pos:String} {af:Array Edge} {g:Option (Nat×Bool)}
theorem R.sliceLo {T e:TypeId} {x i:Operand} {b n c sz k:Nat} (hx:ev N f x=.slice (some ⟨b,0,none⟩) n c) (hi:ev N f i=int k) (hE:Elem P T e sz) (hk:k≤n) (hkc:k<c) :
  (execOp (ev N f) ⟨od,.slice T x (some i) none none,ty,pos,af,g⟩).run P w=.ok (.value (.slice (some ⟨b,k*sz,none⟩) (n - k) (c - k))) w:=by
 obtain ⟨ht,inf,z,hinf,_,hsize,_⟩:=hE
 have h:(0:Int)≤k∧(k:Int)≤n:=⟨by omega,by omega⟩
 simp [execOp,Instr.sliceAt,Instr.slice,Instr.sliceBounds,Instr.sliceBound,asIntOf,hx,hi,int,run_underlying ht,h,sizeOf,typeInfo,hinf,hsize,Addr.add_lit]
 rw [if_pos hk,if_neg (by omega)]
theorem R.sliceHi {T e:TypeId} {x i:Operand} {b n c sz k:Nat} (hx:ev N f x=.slice (some ⟨b,0,none⟩) n c) (hi:ev N f i=int k) (hE:Elem P T e sz) (hk:k≤c) :
  (execOp (ev N f) ⟨od,.slice T x none (some i) none,ty,pos,af,g⟩).run P w=.ok (.value (.slice (some ⟨b,0,none⟩) k c)) w:=by
 obtain ⟨ht,inf,z,hinf,_,hsize,_⟩:=hE
 have h:(0:Int)≤k∧(k:Int)≤c:=⟨by omega,by omega⟩
 simp [execOp,Instr.sliceAt,Instr.slice,Instr.sliceBounds,Instr.sliceBound,asIntOf,hx,hi,int,run_underlying ht,h,sizeOf,typeInfo,hinf,Addr.add_lit]
 intro hc; omega
end
def delL {α:Type} (xs:List α) (p:α→Option Bool) (s:List α×Int):Option ((List α×Int) ⊕ List α) :=
 bif decide (s.2<(xs.length:Int)) then (xnth xs s.2).bind fun x=>(p x).bind fun b=>some (.inl (bif b then s.1 else s.1++[x],s.2+1)) else some (.inr s.1)
noncomputable def delR {α:Type} (xs:List α) (p:α→Option Bool) (i:Int):Option (List α) :=
 bif i==-1 then some xs else bif decide (0≤i∧i<(xs.length:Int)) then zCj (delL xs p) (xs.take i.toNat,i+1) else none
end Go.Eng
namespace Go.Eng
open Go
def InQ (fn:Func) (N:Frm) (P:Program) (K:Value→World→Prop):Exit→Fr→World→Prop:=fun e f w=>(e=.ret∨e=.normal)∧∃ v,(results fn (tm N f)).run P w=.ok v w∧K v w
section
variable {P:Program} {N:Frm} {f:Fr} {w w0:World} {H0 H:Hp} {L:List Ent} {ops:Array Oper} {rest:List Oper} {Q:Fr→World→Prop} {d:Nat} {od:Option Nat} {ty:TypeId} {pos:String} {af:Array Edge} {g:Option (Nat×Bool)}
theorem zAi {N':Nat} {fn:Func} {c:Code} {k:FuncId} {args:List Value} {K:Value→World→Prop} (hf:P.funcs[k]?=some fn) (hb:fn.body=some c) (hn:fn.ntmps=N') (hname:(fn.name== "runtime.NumGoroutine")=false)
  (hsz:Nat.ble args.length N'=true) (h:WP P ⟨N',[]⟩ c (InQ fn ⟨N',[]⟩ P K) (init args) w) :
  (∀ w,(callFunc k args.toArray).run P w=.ok (.enter k args.toArray) w)∧Calls P k args.toArray w (fun e w'=>∃ v,e=.returned v∧K v w'):=by
 refine ⟨fun w=>?_,?_⟩
 ·simp only [callFunc,Sem.run_bind,run_program,Result.andThen_ok,hf,hname,hb]
  rfl
 ·refine calls_of_wp hf hb ?_
  have hle:args.length≤N':=Nat.le_of_ble_eq_true hsz
  have e:({ tmps:=args.toArray++Array.replicate (fn.ntmps - args.toArray.size) undef,defers:=[] }:Act)=act ⟨N',[]⟩ (init args):=by
   simp only [act]
   congr 1
   apply Array.ext_getElem?
   intro t
   rw [zF0,hn,Array.getElem?_append]
   simp only [List.size_toArray,List.getElem?_toArray,init,List.getD_eq_getElem?_getD]
   by_cases b:t<args.length
   ·simp [b,show t<N' from by omega]
   ·simp only [b,if_false]
    rw [Array.getElem?_replicate]
    by_cases i:t<N'
    ·rw [if_pos (by omega),if_pos i,List.getElem?_eq_none (by omega)]; rfl
    ·rw [if_neg (by omega),if_neg i]
  rw [e]
  refine Code.wp_mono (fun e a w' ⟨f',ha,he,v,hv,hk⟩=>?_) h
  subst ha
  rcases he with rfl | rfl
  ·exact ⟨rfl,v,hv,v,rfl,hk⟩
  ·exact ⟨rfl,v,hv,v,rfl,hk⟩
theorem W.inl {N':Nat} {fn:Func} {c:Code} {k:FuncId} {xs:List Operand} {ats:Array TypeId} {args:List Value} (ha:xs.map (ev N f)=args) (hf:P.funcs[k]?=some fn) (hb:fn.body=some c) (hn:fn.ntmps=N') (hname:(fn.name== "runtime.NumGoroutine")=false)
  (hsz:Nat.ble args.length N'=true) (h:WP P ⟨N',[]⟩ c (InQ fn ⟨N',[]⟩ P (fun v w'=>WL P N ops rest Q (updo f od v) w')) (init args) w) :
  WL P N ops (⟨od,.call ⟨.value (.func k),xs.toArray,ats⟩,ty,pos,af,none⟩ :: rest) Q f w:=by
 have C:=zAi hf hb hn hname hsz h
 refine WL.enterw (w':=w) (k:=k) (args:=args.toArray) ?_ C.2
 have:(execOp (ev N f) ⟨od,.call ⟨.value (.func k),xs.toArray,ats⟩,ty,pos,af,none⟩)=callFunc k (#[]++xs.toArray.map (ev N f)++#[]):=rfl
 rw [this]
 have e:(#[]++xs.toArray.map (ev N f)++#[])=args.toArray:=by simp [ha]
 rw [e]
 exact C.1 w
theorem W.inlv {N':Nat} {fn:Func} {c:Code} {k:FuncId} {x:Operand} {xs:List Operand} {ats:Array TypeId} {bs vs cs:List Value} (hx:ev N f x=.func (.func k) bs.toArray cs.toArray) (ha:xs.map (ev N f)=vs) (hf:P.funcs[k]?=some fn) (hb:fn.body=some c) (hn:fn.ntmps=N') (hname:(fn.name== "runtime.NumGoroutine")=false)
  (hsz:Nat.ble (bs++vs++cs).length N'=true) (h:WP P ⟨N',[]⟩ c (InQ fn ⟨N',[]⟩ P (fun v w'=>WL P N ops rest Q (updo f od v) w')) (init (bs++vs++cs)) w) :
  WL P N ops (⟨od,.call ⟨.value x,xs.toArray,ats⟩,ty,pos,af,none⟩ :: rest) Q f w:=by
 have C:=zAi hf hb hn hname hsz h
 refine WL.enterw (w':=w) (k:=k) (args:=(bs++vs++cs).toArray) ?_ C.2
 have e:bs.toArray++xs.toArray.map (ev N f)++cs.toArray=(bs++vs++cs).toArray:=by simp [ha]
 have:(execOp (ev N f) ⟨od,.call ⟨.value x,xs.toArray,ats⟩,ty,pos,af,none⟩).run P w=(callFunc k (bs.toArray++xs.toArray.map (ev N f)++cs.toArray)).run P w:=by
  simp [execOp,resolve,hx,Deferred.ofValue,Go.invoke]
 rw [this,e]
 exact C.1 w
theorem R.mkFuncB {k:FuncId} {ys xs:List Operand} {bs vs:List Value} (hb:ys.map (ev N f)=bs) (h:xs.map (ev N f)=vs) :
  (execOp (ev N f) ⟨od,.makeFunc (.func k) ys.toArray xs.toArray,ty,pos,af,g⟩).run P w=.ok (.value (.func (.func k) bs.toArray vs.toArray)) w:=by
 subst h; subst hb
 simp [execOp,Instr.makeFunc]
theorem WP.inC {fn:Func} {c:Code} {K:Value→World→Prop} (R:Fr→World→Prop) (b:WP P N c (fun e f w=>(e=.ret∨e=.normal)∧R f w) f w) (h:∀ f w,R f w→∃ v,(results fn (tm N f)).run P w=.ok v w∧K v w):WP P N c (InQ fn N P K) f w :=
 WP.mono b fun _ f w ⟨he,hr⟩=>⟨he,h f w hr⟩
theorem InR.zero {fn:Func} {K:Value→World→Prop} (hr:fn.results=#[]) (hK:K (.tuple ⟨[]⟩) w):∃ v,(results fn (tm N f)).run P w=.ok v w∧K v w :=
 ⟨_,zGj hr _,hK⟩
theorem InR.one {fn:Func} {r:ResultVar} {v:Value} {K:Value→World→Prop} (hr:fn.results=#[r]) (h:Res P N f w r v) (hK:K v w):∃ v,(results fn (tm N f)).run P w=.ok v w∧K v w:=by
 refine ⟨v,?_,hK⟩
 have:=zAK h
 rw [zBf,hr]
 simp only [List.mapM_toArray,List.mapM_cons,List.mapM_nil,Sem.run_bind,Sem.run_map,this,Result.andThen_ok,Sem.run_pure]
 rfl
theorem InR.two {fn:Func} {h i:ResultVar} {j k:Value} {K:Value→World→Prop} (hr:fn.results=#[h,i]) (b:Res P N f w h j) (c:Res P N f w i k) (hK:K (.tuple ⟨[j,k]⟩) w):∃ v,(results fn (tm N f)).run P w=.ok v w∧K v w:=by
 refine ⟨_,?_,hK⟩
 have b:=zAK b
 have c:=zAK c
 rw [zBf,hr]
 simp only [List.mapM_toArray,List.mapM_cons,List.mapM_nil,Sem.run_bind,Sem.run_map,b,c,Result.andThen_ok,Sem.run_pure]
 rfl
theorem In.zero {fn:Func} {K:Value→World→Prop} (hr:fn.results=#[]) (hK:K (.tuple ⟨[]⟩) w):InQ fn N P K .ret f w:=⟨.inl rfl,InR.zero hr hK⟩
theorem In.zeroN {fn:Func} {K:Value→World→Prop} (hr:fn.results=#[]) (hK:K (.tuple ⟨[]⟩) w):InQ fn N P K .normal f w:=⟨.inr rfl,InR.zero hr hK⟩
theorem In.one {fn:Func} {r:ResultVar} {v:Value} {K:Value→World→Prop} (hr:fn.results=#[r]) (h:Res P N f w r v) (hK:K v w):InQ fn N P K .ret f w:=⟨.inl rfl,InR.one hr h hK⟩
theorem In.two {fn:Func} {b c:ResultVar} {h i:Value} {K:Value→World→Prop} (hr:fn.results=#[b,c]) (j:Res P N f w b h) (k:Res P N f w c i) (hK:K (.tuple ⟨[h,i]⟩) w):InQ fn N P K .ret f w:=⟨.inl rfl,InR.two hr j k hK⟩
theorem zIT {k a:Str} {v z:Value} {m:List (Str×Value)} (h:decide (k=a)=true):mget ((a,v) :: m) k z=(v,true):=by
 rw [of_decide_eq_true h]; simp [mget,List.lookup]
theorem zHT {k:Str} {z:Value}:mget ([]:List (Str×Value)) k z=(z,false):=rfl
theorem R.lookX {T K E:TypeId} {x y:Operand} {b i:Nat} {m:List (Str×Value)} {k:Str} {zc v:Value} {o:Bool} (S:St w0 H0 w H L) (hx:ev N f x=mapv b) (hy:ev N f y=str k) (hi:L[i]?=some (.mp b (encm (fun v=>v) m)))
  (hT:P.underlying T=some (.map K E)) (hK:P.underlying K=some .string) (hz:((P.info? E).bind (·.zero))=some zc) (h:mget m k zc=(v,o)) :
  (execOp (ev N f) ⟨od,.lookup T x y true,ty,pos,af,g⟩).run P w=.ok (.value (.tuple ⟨[v,boo o]⟩)) w:=by
 have:=R.lookup (od:=od) (ty:=ty) (pos:=pos) (af:=af) (g:=g) (fun v=>v) S hx hy hi hT hK hz (z:=zc) rfl
 rw [h] at this; exact this
theorem R.lookX1 {T K E:TypeId} {x y:Operand} {b i:Nat} {m:List (Str×Value)} {k:Str} {zc v:Value} {o:Bool} (S:St w0 H0 w H L) (hx:ev N f x=mapv b) (hy:ev N f y=str k) (hi:L[i]?=some (.mp b (encm (fun v=>v) m)))
  (hT:P.underlying T=some (.map K E)) (hK:P.underlying K=some .string) (hz:((P.info? E).bind (·.zero))=some zc) (h:mget m k zc=(v,o)) :
  (execOp (ev N f) ⟨od,.lookup T x y false,ty,pos,af,g⟩).run P w=.ok (.value v) w:=by
 have:=R.lookup1 (od:=od) (ty:=ty) (pos:=pos) (af:=af) (g:=g) (fun v=>v) S hx hy hi hT hK hz (z:=zc) rfl
 rw [h] at this; exact this
theorem W.updX {T K E:TypeId} {x y z:Operand} {b i:Nat} {k:Str} {v:Value} (S:St w0 H0 w H L) (hx:ev N f x=mapv b) (hy:ev N f y=str k) (hz:ev N f z=v) (hi:L[i]?=some (.mp b []))
  (hT:P.underlying T=some (.map K E)) (hK:P.underlying K=some .string)
  (kk:∀ w',St w0 H0 w' H (L.set i (.mp b (encm (fun v=>v) [(k,v)])))→WL P N ops rest Q (updo f od undef) w'):WL P N ops (⟨od,.mapUpdate T x y z,ty,pos,af,none⟩ :: rest) Q f w :=
 W.mapUpdate (fun v=>v) (m:=[]) v S hx hy hz rfl hi hT hK kk
theorem WP.scope {c:Code} {Q:Exit→Fr→World→Prop} (h:WP P N c (fun e f w=>match e with | .goto _=>False | e=>Q e f w) f w):WP P N (.scope c) Q f w:=by
 refine wp_scope_straight (Code.wp_mono (fun e a w' ⟨f',ha,q⟩=>?_) h)
 cases e with
 | goto l=>exact q.elim
 | _=>exact ⟨f',ha,q⟩
theorem WP.label {l:Nat} {Q:Exit→Fr→World→Prop} (h:Q .normal f w):WP P N (.label l) Q f w:=wp_label ⟨f,rfl,h⟩
theorem R.mkI {T e:TypeId} {x:Operand} {v:Value} (hT:P.underlying T=some (.pointer e)) (hx:ev N f x=v) :
  (execOp (ev N f) ⟨od,.makeInterface T x,ty,pos,af,g⟩).run P w=.ok (.value (.iface T v)) w:=by
 simp only [execOp,Instr.makeInterface,Sem.run_bind,run_underlying hT,Result.andThen_ok,hx]
 rfl
theorem R.neqMN {T T' a b:TypeId} {x y:Operand} {p:Option Nat} (hx:ev N f x=.map p) (hy:ev N f y=.map none) (hT:P.underlying T=some (.map a b)) :
  (execOp (ev N f) ⟨od,.binOp .neq T x y T',ty,pos,af,g⟩).run P w=.ok (.value (boo (!p.isNone))) w:=by
 have:=run_neq_map_nil (P:=P) w T a b p hT
 simp [execOp,eqGuard,hx,hy,this,boo]
theorem R.loadO1 {T e:TypeId} {x:Operand} {b o i:Nat} {cur:Array Value} {v:Value} (S:St w0 H0 w H L) (hx:ev N f x=ptr b o) (hi:L[i]?=some (.obj b (.cells cur e (0,0)))) (hT:lay P T=some (false,1)) (hv:(cur.toList.drop o).take 1=[v]) :
  (execOp (ev N f) ⟨od,.load T x,ty,pos,af,g⟩).run P w=.ok (.value v) w:=by
 refine R.load1 hx hT ?_
 rw [zHf (objAt S hi).2,← Array.getElem?_toList]
 have:=congrArg (fun l:List Value=>l[0]?) hv
 simpa [List.getElem?_take,List.getElem?_drop] using this
theorem R.lenMR {α:Type} [Enc α] {T e:TypeId} {x:Operand} {v:Value} {xs:List α} {en:Ent} {e':TypeId} (hR:MR H en e' v xs) (hx:ev N f x=v) (hT:P.underlying T=some (.slice e)) :
  (execOp (ev N f) ⟨od,.call ⟨.builtin .len,#[x],#[T]⟩,ty,pos,af,g⟩).run P w=.ok (.value (int (xs.length:Int))) w:=by
 obtain ⟨a,c,rfl,_⟩:=hR.shape
 exact R.lenV hx hT
def xroom (n:Int):Option Unit:=if 0≤n∧n≤1048576 then some () else none
theorem W.makeRow {α:Type} [Enc α] {T e:TypeId} {x y:Operand} {n:Int} {zv:Value} {u:Unit} (S:St w0 H0 w H L) (hE:Elem P T e 1) (j:Enc.sz α=1) (hx:ev N f x=int 0) (hy:ev N f y=int n) (hz:zer P e=some [zv])
  (h:xroom n=some u) (K:∀ v w' H',H.le H'→Sl (α:=α) H' v []→St w0 H0 w' H' (.row v e 1 0 :: L)→WL P N ops rest Q (upd f d v) w') :
  WL P N ops (⟨some d,.makeSlice T x y,ty,pos,af,none⟩ :: rest) Q f w:=by
 unfold xroom at h
 split at h
 case isFalse=>cases h
 rename_i k
 obtain ⟨ht,inf,zz,hinf,hzz,hsize,hzs,hbytes⟩:=hE
 have hzc:zz.cells.toList=[zv]:=by
  unfold zer at hz
  rw [hinf] at hz
  simpa [hzz] using hz
 have hza:zz.cells=#[zv]:=by
  apply Array.toList_inj.1; simpa using hzc
 generalize harr:((Array.range (n.toNat*1)).map (zz.cells[· % zz.cells.size]!))=arr
 have hsz:arr.size=n.toNat:=by rw [← harr]; simp
 have hmax:n.toNat≤maxLen:=by simp only [maxLen]; omega
 have S1:=S.box e arr (0,0) [] arr.toList (by simp) (by intro i hi; exact absurd hi (Nat.not_lt_zero _))
 obtain ⟨H',hle,hHn,hHo,S2⟩:=S1.settle (i:=0) rfl
 simp only [List.eraseIdx_cons_zero] at S2
 have hSl:Sl (α:=α) H' (.slice (some ⟨w.heap.size,0,none⟩) 0 n.toNat) [] :=
  ⟨some ⟨w.heap.size,0,none⟩,n.toNat,rfl,Nat.zero_le _,hmax,.inr ⟨w.heap.size,0,[],rfl,⟨e,_,rfl,hHn,[],by simp⟩,rfl⟩⟩
 have hrow:RowOk (w.alloc (.cells arr e)) H' (.slice (some ⟨w.heap.size,0,none⟩) 0 n.toNat) e 1 0 :=
  .inr ⟨w.heap.size,n.toNat,arr,rfl,heap_alloc_new w _,Nat.zero_le _,hmax,by omega,by rw [hHn]; simp⟩
 have S3:St w0 H0 (w.alloc (.cells arr e)) H' (.row (.slice (some ⟨w.heap.size,0,none⟩) 0 n.toNat) e 1 0 :: L):=by
  refine ⟨S2.post,?_,?_,?_⟩
  ·intro x hxm
   rcases List.mem_cons.1 hxm with rfl | hxm
   ·exact hrow
   ·exact S2.ents x hxm
  ·intro x hxm b hb
   rcases List.mem_cons.1 hxm with rfl | hxm
   ·simp [Ent.blk,Value.ownBlock] at hb; subst hb; exact S.post.below.size
   ·exact S2.own x hxm b hb
  ·have:(Ent.row (.slice (some ⟨w.heap.size,0,none⟩) 0 n.toNat) e 1 0).blk=some w.heap.size:=rfl
   rw [List.filterMap_cons,this]
   exact List.nodup_cons.2 ⟨fun hm=>Nat.lt_irrefl _ (S.lt hm),S.nodup⟩
 refine WL.w (v:=.slice (some ⟨w.heap.size,0,none⟩) 0 n.toNat) (w':=w.alloc (.cells arr e)) ?_ (K _ _ H' hle hSl S3)
 have hw:IntKind.i64.wrap n=n:=wr_eq ⟨by omega,by omega⟩
 have l:IntKind.i64.wrap 0=0:=wr_eq ⟨by omega,by omega⟩
 have hb:¬ ((inf.bytes:Int)*n > 2 ^ 48):=by
  have j:(inf.bytes:Int)≤512:=by omega
  have:(inf.bytes:Int)*n≤512*1048576:=Int.mul_le_mul j k.2 k.1 (by omega)
  omega
 have hroom:¬ (n.toNat*inf.bytes > roomBytes):=by
  have:n.toNat*inf.bytes≤1048576*512:=Nat.mul_le_mul (by omega) hbytes
  unfold roomBytes; omega
 have c:ev N f x=.int .i64 0:=hx
 have o:ev N f y=.int .i64 n:=hy
 have hne:¬ ((decide (n<0)||decide ((inf.bytes:Int)*n > 2 ^ 48))||decide ((0:Int)<0)||decide ((0:Int) > n))=true:=by
  simp only [Bool.or_eq_true,decide_eq_true_eq]; omega
 simp only [execOp,Instr.makeSlice,run_underlying ht,asInt,asIntOf,c,o,typeInfo,hinf,Sem.run_bind,run_program,Result.andThen_ok,Sem.run_pure,hw,l]
 rw [if_neg (by simpa using hne)]
 simp only [askRoom,hroom,if_false,Sem.run_bind,Sem.run_pure,Result.andThen_ok,sizeOf,typeInfo,run_program,hinf,hsize,zeroValue]
 by_cases hn:n.toNat*1=0
 ·have p:arr=#[]:=Array.eq_empty_of_size_eq_zero (by omega)
  subst p
  simp only [hn,if_true,newRow]
  simp
  have c:∀ g:Nat→Value,(Array.range 0).map g=#[]:=fun g=>Array.eq_empty_of_size_eq_zero (by simp)
  rw [c]
 ·simp only [hn,if_false,Sem.run_bind,run_program,hinf,hzz,Sem.run_pure,Result.andThen_ok,newRow,harr]
  simp
end
end Go.Eng
namespace Go.Eng
open Go Go.RowKit
section
variable {α:Type} [Enc α] {H:Hp} {xs:List α} {cur:Array Value}
end
section
variable {P:Program} {N:Frm} {f:Fr} {w w0:World} {H0 H:Hp} {L:List Ent} {ops:Array Oper} {rest:List Oper} {Q:Fr→World→Prop} {d:Nat} {od:Option Nat} {ty:TypeId} {pos:String} {af:Array Edge} {g:Option (Nat×Bool)}
end
def pick (L T:List Ent):List Nat→List Ent
 | []=>T
 | i :: is=>match L[i]? with | some e=>e :: pick L T is | none=>pick L T is
def okpk:List Nat→Bool
 | []=>true
 | i :: is=>!is.elem i&&okpk is
def allb (n:Nat):List Nat→Bool
 | []=>true
 | i :: is=>Nat.blt i n&&allb n is
theorem zIG {n:Nat}:∀ {is:List Nat},allb n is=true→∀ j ∈ is,j<n
 | i :: is,h,j,hj=>by
  simp only [allb,Bool.and_eq_true,Nat.blt_eq] at h
  rcases List.mem_cons.1 hj with rfl | hj
  ·exact h.1
  ·exact zIG h.2 j hj
theorem zHR {L T:List Ent} {e:Ent}:∀ {is:List Nat},e ∈ pick L T is→e ∈ T∨∃ j ∈ is,L[j]?=some e
 | [],h=>.inl h
 | i :: is,h=>by
  have ih:e ∈ pick L T is→e ∈ T∨∃ j ∈ i :: is,L[j]?=some e:=fun h=>by
   rcases zHR h with h | ⟨j,hj,hl⟩
   ·exact .inl h
   ·exact .inr ⟨j,List.mem_cons_of_mem _ hj,hl⟩
  unfold pick at h
  split at h
  case h_2=>exact ih h
  rename_i e' he'
  rcases List.mem_cons.1 h with rfl | h
  ·exact .inr ⟨i,List.mem_cons_self,he'⟩
  ·exact ih h
section
variable {w0 w:World} {H0 H:Hp} {L L':List Ent}
theorem St.picked (S:St w0 H0 w H L) {T:List Ent} (hT:T.Sublist L) {is:List Nat} (hn:okpk is=true) (hj:∀ e ∈ T,∃ j,j ∉ is∧L[j]?=some e):St w0 H0 w H (pick L T is):=by
 have hm:∀ e ∈ pick L T is,e ∈ L:=fun e h=>by
  rcases zHR h with h | ⟨j,_,hj⟩
  ·exact hT.subset h
  ·exact List.mem_of_getElem? hj
 refine ⟨S.post,fun e h=>S.ents e (hm e h),fun e h=>S.own e (hm e h),?_⟩
 have key:∀ is,okpk is=true→(∀ e ∈ T,∃ j,j ∉ is∧L[j]?=some e)→((pick L T is).filterMap Ent.blk).Nodup:=by
  intro is
  induction is with
  | nil=>intro _ _; exact S.nodup.sublist (hT.filterMap _)
  | cons i is ih =>
   intro h hj
   simp only [okpk,Bool.and_eq_true,Bool.not_eq_true'] at h
   obtain ⟨hi,ho⟩:=h
   have ih:=ih ho fun e he=>by
    obtain ⟨j,c,k⟩:=hj e he
    exact ⟨j,fun h=>c (List.mem_cons_of_mem _ h),k⟩
   unfold pick
   split
   case h_2=>exact ih
   rename_i e he
   rw [List.filterMap_cons]
   cases hb:e.blk with
   | none=>exact ih
   | some b =>
    refine List.nodup_cons.2 ⟨fun hmem=>?_,ih⟩
    obtain ⟨e',he',hb'⟩:=List.mem_filterMap.1 hmem
    rcases zHR he' with h | ⟨j,hjm,hl⟩
    ·obtain ⟨j,c,k⟩:=hj e' h
     exact S.blk_ne he k hb hb' (fun h=>c (h ▸ List.mem_cons_self)) rfl
    ·refine S.blk_ne he hl hb hb' ?_ rfl
     rintro rfl
     rw [List.elem_eq_true_of_mem hjm] at hi
     cases hi
 exact key is hn hj
theorem St.pt (S:St w0 H0 w H L) (n:Nat) (is:List Nat) (hn:okpk is=true:=by exact rfl) (hb:allb n is=true:=by exact rfl) (he:pick L (L.drop n) is=L':=by exact rfl):St w0 H0 w H L':=by
 subst he
 refine S.picked (List.drop_sublist n L) hn fun e h=>?_
 obtain ⟨k,hk⟩:=List.mem_iff_getElem?.1 h
 rw [List.getElem?_drop] at hk
 exact ⟨n+k,fun h=>by have:=zIG hb _ h; omega,hk⟩
theorem St.pk (S:St w0 H0 w H L) (is:List Nat) (hn:okpk is=true:=by exact rfl) (he:pick L [] is=L':=by exact rfl):St w0 H0 w H L':=by
 subst he
 exact S.picked (List.nil_sublist L) hn fun e h=>nomatch h
end
end Go.Eng
namespace Go.Eng.Pure
open Go Go.Eng
set_option linter.unusedVariables false
def lf {σ ρ:Type} (body:σ→Option (σ ⊕ ρ)) (s:σ):Option ρ:=loopN body 100000 s
theorem lfW {σ ρ:Type} {body:σ→Option (σ ⊕ ρ)} {s:σ} {r:ρ} (h:lf body s=some r):zCj body s=some r:=zFP h
def delRF {α:Type} (xs:List α) (p:α→Option Bool) (i:Int):Option (List α) :=
 bif i==-1 then some xs else bif decide (0≤i∧i<(xs.length:Int)) then lf (delL xs p) (xs.take i.toNat,i+1) else none
theorem zHr {α:Type} {xs r:List α} {p:α→Option Bool} {i:Int} (h:delRF xs p i=some r):delR xs p i=some r:=by
 unfold delRF at h
 unfold delR
 cases hi:i==-1 with
 | true=>rw [hi] at h; exact h
 | false =>
  rw [hi,cond_false] at h
  rw [cond_false]
  cases hd:decide (0≤i∧i<(xs.length:Int)) with
  | true=>rw [hd,cond_true] at h; rw [cond_true]; exact lfW h
  | false=>rw [hd] at h; cases h
structure GField where
 fName:Str
 fValue:Str
deriving DecidableEq
instance:Enc GField where
 sz:=2
 cells H cs x:=cs=[(str x.fName),(str x.fValue)]
 pos:=by decide
 len:=fun h=>by rw [h]; rfl
 mono:=fun h _=>h
 one:=by
  intro H cs x h v hv
  rw [h] at hv
  exact List.all_eq_true.1 (show List.all [(str x.fName),(str x.fValue)] Value.oneCell'=true from rfl) v hv
structure GETag where
 fWeak:Bool
 fTag:Str
deriving DecidableEq
instance:Enc GETag where
 sz:=2
 cells H cs x:=cs=[(boo x.fWeak),(str x.fTag)]
 pos:=by decide
 len:=fun h=>by rw [h]; rfl
 mono:=fun h _=>h
 one:=by
  intro H cs x h v hv
  rw [h] at hv
  exact List.all_eq_true.1 (show List.all [(boo x.fWeak),(str x.fTag)] Value.oneCell'=true from rfl) v hv
structure Gcachecontrol_directive where
 fform:Int
 fvalue:Str
deriving DecidableEq
instance:Enc Gcachecontrol_directive where
 sz:=2
 cells H cs x:=cs=[(int x.fform),(str x.fvalue)]
 pos:=by decide
 len:=fun h=>by rw [h]; rfl
 mono:=fun h _=>h
 one:=by
  intro H cs x h v hv
  rw [h] at hv
  exact List.all_eq_true.1 (show List.all [(int x.fform),(str x.fvalue)] Value.oneCell'=true from rfl) v hv
structure GControl where
 fNoStore:Bool
 fNoCache:Bool
 fMustRevalidate:Bool
 fProxyRevalidate:Bool
 fPrivate:Bool
 fPublic:Bool
 fOnlyIfCached:Bool
 fMaxAge:Int
 fSMaxAge:Int
 fMinFresh:Int
 fMaxStale:Int
deriving DecidableEq
instance:Enc GControl where
 sz:=11
 cells H cs x:=cs=[(boo x.fNoStore),(boo x.fNoCache),(boo x.fMustRevalidate),(boo x.fProxyRevalidate),(boo x.fPrivate),(boo x.fPublic),(boo x.fOnlyIfCached),(int x.fMaxAge),(int x.fSMaxAge),(int x.fMinFresh),(int x.fMaxStale)]
 pos:=by decide
 len:=fun h=>by rw [h]; rfl
 mono:=fun h _=>h
 one:=by
  intro H cs x h v hv
  rw [h] at hv
  exact List.all_eq_true.1 (show List.all [(boo x.fNoStore),(boo x.fNoCache),(boo x.fMustRevalidate),(boo x.fProxyRevalidate),(boo x.fPrivate),(boo x.fPublic),(boo x.fOnlyIfCached),(int x.fMaxAge),(int x.fSMaxAge),(int x.fMinFresh),(int x.fMaxStale)] Value.oneCell'=true from rfl) v hv
structure GEntry where
 fKeys:(List (List Str))
 fVary:(List Str)
 fSnapshot:(List Str)
 fReason:Str
 fFields:(List GField)
 fBody:Str
 fRequested:Int
 fReceived:Int
deriving DecidableEq
instance:Enc GEntry where
 sz:=8
 cells H cs x:=∃ u1 u2 u3 u4:Value,cs=[u1,u2,u3,(str x.fReason),u4,(str x.fBody),(int x.fRequested),(int x.fReceived)]∧Sl (α:=(List Str)) H u1 x.fKeys∧Sl (α:=Str) H u2 x.fVary∧Sl (α:=Str) H u3 x.fSnapshot∧Sl (α:=GField) H u4 x.fFields
 pos:=by decide
 len:=fun ⟨u1,u2,u3,u4,h,R0,R1,R2,R3⟩=>by rw [h]; rfl
 mono:=fun ⟨u1,u2,u3,u4,h,R0,R1,R2,R3⟩ hl=>⟨u1,u2,u3,u4,h,R0.mono hl,R1.mono hl,R2.mono hl,R3.mono hl⟩
 one:=fun ⟨u1,u2,u3,u4,h,R0,R1,R2,R3⟩ v hv=>by rw [h] at hv; exact AllOne.mem (.cons (Sl.oneC R0) (.cons (Sl.oneC R1) (.cons (Sl.oneC R2) (.cons rfl (.cons (Sl.oneC R3) (.cons rfl (.cons rfl (.cons rfl .nil)))))))) v hv
structure GResponse where
 fMinor:Int
 fStatus:Int
 fReason:Str
 fFields:(List GField)
 fBody:Str
deriving DecidableEq
instance:Enc GResponse where
 sz:=5
 cells H cs x:=∃ u1:Value,cs=[(int x.fMinor),(int x.fStatus),(str x.fReason),u1,(str x.fBody)]∧Sl (α:=GField) H u1 x.fFields
 pos:=by decide
 len:=fun ⟨u1,h,R0⟩=>by rw [h]; rfl
 mono:=fun ⟨u1,h,R0⟩ hl=>⟨u1,h,R0.mono hl⟩
 one:=fun ⟨u1,h,R0⟩ v hv=>by rw [h] at hv; exact AllOne.mem (.cons rfl (.cons rfl (.cons rfl (.cons (Sl.oneC R0) (.cons rfl .nil))))) v hv
structure GRequest where
 fMethod:Str
 fTarget:Str
 fMinor:Int
 fFields:(List GField)
 fBody:Str
deriving DecidableEq
instance:Enc GRequest where
 sz:=5
 cells H cs x:=∃ u1:Value,cs=[(str x.fMethod),(str x.fTarget),(int x.fMinor),u1,(str x.fBody)]∧Sl (α:=GField) H u1 x.fFields
 pos:=by decide
 len:=fun ⟨u1,h,R0⟩=>by rw [h]; rfl
 mono:=fun ⟨u1,h,R0⟩ hl=>⟨u1,h,R0.mono hl⟩
 one:=fun ⟨u1,h,R0⟩ v hv=>by rw [h] at hv; exact AllOne.mem (.cons rfl (.cons rfl (.cons rfl (.cons (Sl.oneC R0) (.cons rfl .nil))))) v hv
inductive Gvariants_domain where
 | media
 | tags
 | words (n:Int)
 | texts
deriving DecidableEq
structure GParam where
 fName:Str
 fValue:Str
deriving DecidableEq
instance:Enc GParam where
 sz:=2
 cells H cs x:=cs=[(str x.fName),(str x.fValue)]
 pos:=by decide
 len:=fun h=>by rw [h]; rfl
 mono:=fun h _=>h
 one:=by
  intro H cs x h v hv
  rw [h] at hv
  exact List.all_eq_true.1 (show List.all [(str x.fName),(str x.fValue)] Value.oneCell'=true from rfl) v hv
structure GMediaType where
 fType:Str
 fSub:Str
 fParams:(List GParam)
deriving DecidableEq
instance:Enc GMediaType where
 sz:=3
 cells H cs x:=∃ u1:Value,cs=[(str x.fType),(str x.fSub),u1]∧Sl (α:=GParam) H u1 x.fParams
 pos:=by decide
 len:=fun ⟨u1,h,R0⟩=>by rw [h]; rfl
 mono:=fun ⟨u1,h,R0⟩ hl=>⟨u1,h,R0.mono hl⟩
 one:=fun ⟨u1,h,R0⟩ v hv=>by rw [h] at hv; exact AllOne.mem (.cons rfl (.cons rfl (.cons (Sl.oneC R0) .nil))) v hv
structure GAxis where
 fName:Str
 fValues:(List Str)
deriving DecidableEq
instance:Enc GAxis where
 sz:=2
 cells H cs x:=∃ u1:Value,cs=[(str x.fName),u1]∧Sl (α:=Str) H u1 x.fValues
 pos:=by decide
 len:=fun ⟨u1,h,R0⟩=>by rw [h]; rfl
 mono:=fun ⟨u1,h,R0⟩ hl=>⟨u1,h,R0.mono hl⟩
 one:=fun ⟨u1,h,R0⟩ v hv=>by rw [h] at hv; exact AllOne.mem (.cons rfl (.cons (Sl.oneC R0) .nil)) v hv
structure GPref where
 fRange:Str
 fQ:Int
deriving DecidableEq
instance:Enc GPref where
 sz:=2
 cells H cs x:=cs=[(str x.fRange),(int x.fQ)]
 pos:=by decide
 len:=fun h=>by rw [h]; rfl
 mono:=fun h _=>h
 one:=by
  intro H cs x h v hv
  rw [h] at hv
  exact List.all_eq_true.1 (show List.all [(str x.fRange),(int x.fQ)] Value.oneCell'=true from rfl) v hv
structure GTable where
 fAxes:(List GAxis)
 fEntries:(List GEntry)
deriving DecidableEq
instance:Enc GTable where
 sz:=2
 cells H cs x:=∃ u1 u2:Value,cs=[u1,u2]∧Sl (α:=GAxis) H u1 x.fAxes∧Sl (α:=GEntry) H u2 x.fEntries
 pos:=by decide
 len:=fun ⟨u1,u2,h,R0,R1⟩=>by rw [h]; rfl
 mono:=fun ⟨u1,u2,h,R0,R1⟩ hl=>⟨u1,u2,h,R0.mono hl,R1.mono hl⟩
 one:=fun ⟨u1,u2,h,R0,R1⟩ v hv=>by rw [h] at hv; exact AllOne.mem (.cons (Sl.oneC R0) (.cons (Sl.oneC R1) .nil)) v hv
structure GConfig where
 fName:Str
 fBytes:Int
 fVariants:Int
 fTables:Int
 fStrict:Bool
 fRefuse:Bool
deriving DecidableEq
instance:Enc GConfig where
 sz:=6
 cells H cs x:=cs=[(str x.fName),(int x.fBytes),(int x.fVariants),(int x.fTables),(boo x.fStrict),(boo x.fRefuse)]
 pos:=by decide
 len:=fun h=>by rw [h]; rfl
 mono:=fun h _=>h
 one:=by
  intro H cs x h v hv
  rw [h] at hv
  exact List.all_eq_true.1 (show List.all [(str x.fName),(int x.fBytes),(int x.fVariants),(int x.fTables),(boo x.fStrict),(boo x.fRefuse)] Value.oneCell'=true from rfl) v hv
structure GURI where
 fHost:Str
 fPort:Int
 fPath:Str
 fQuery:Str
 fHasQuery:Bool
deriving DecidableEq
instance:Enc GURI where
 sz:=5
 cells H cs x:=cs=[(str x.fHost),(int x.fPort),(str x.fPath),(str x.fQuery),(boo x.fHasQuery)]
 pos:=by decide
 len:=fun h=>by rw [h]; rfl
 mono:=fun h _=>h
 one:=by
  intro H cs x h v hv
  rw [h] at hv
  exact List.all_eq_true.1 (show List.all [(str x.fHost),(int x.fPort),(str x.fPath),(str x.fQuery),(boo x.fHasQuery)] Value.oneCell'=true from rfl) v hv
structure GDecision where
 fKind:Int
 fIndex:Int
deriving DecidableEq
instance:Enc GDecision where
 sz:=2
 cells H cs x:=cs=[(int x.fKind),(int x.fIndex)]
 pos:=by decide
 len:=fun h=>by rw [h]; rfl
 mono:=fun h _=>h
 one:=by
  intro H cs x h v hv
  rw [h] at hv
  exact List.all_eq_true.1 (show List.all [(int x.fKind),(int x.fIndex)] Value.oneCell'=true from rfl) v hv
structure GOutput where
 fToClient:Str
 fToOrigin:Str
deriving DecidableEq
instance:Enc GOutput where
 sz:=2
 cells H cs x:=cs=[(str x.fToClient),(str x.fToOrigin)]
 pos:=by decide
 len:=fun h=>by rw [h]; rfl
 mono:=fun h _=>h
 one:=by
  intro H cs x h v hv
  rw [h] at hv
  exact List.all_eq_true.1 (show List.all [(str x.fToClient),(str x.fToOrigin)] Value.oneCell'=true from rfl) v hv
structure Gvariantproxykeep_Step where
 fKind:Int
 fN:Int
 fText:Str
deriving DecidableEq
instance:Enc Gvariantproxykeep_Step where
 sz:=3
 cells H cs x:=cs=[(int x.fKind),(int x.fN),(str x.fText)]
 pos:=by decide
 len:=fun h=>by rw [h]; rfl
 mono:=fun h _=>h
 one:=by
  intro H cs x h v hv
  rw [h] at hv
  exact List.all_eq_true.1 (show List.all [(int x.fKind),(int x.fN),(str x.fText)] Value.oneCell'=true from rfl) v hv
end Go.Eng.Pure
