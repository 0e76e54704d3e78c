/- A part. -/
import Derived.Test.YtipgfplekgdoiaaGreatDoorEng36
import Derived.Scope
import Derived.WalkSpells
namespace Go.Eng
open Go Go.RowKit
section
variable {P:Program} {N:Frm} {f:Fr} {w w' w0:World} {H0 H:Hp} {L:List Ent} {ops:Array Oper} {rest:List Oper} {Q:Fr→World→Prop} {d:Nat} {od:Option Nat} {ty:TypeId} {pos:String} {af:Array Edge} {g:Option (Nat×Bool)} {α:Type} [Enc α]
theorem St.same (S:St w0 H0 w H L) {H1 H':Hp} (hp:Post w H1 w' H'):St w0 H0 w' H L:=by
  have hb:=hp.below
  have hoth:∀ k,k<w.heap.size→w'.heap[k]?=w.heap[k]?:=hb.block
  refine ⟨⟨S.post.below.trans ⟨hb.os,hb.tape,hb.output,hb.size,fun k hk=>hoth k (Nat.lt_of_lt_of_le hk S.post.below.size)⟩,S.post.le,S.post.eqb,?_⟩,?_,S.own,S.nodup⟩
  · intro k T' l hk
    obtain ⟨cs,fz,hc',hr⟩:=S.holds k T' l hk
    exact ⟨cs,fz,by rw [hoth k (Array.getElem?_eq_some_iff.1 hc').1]; exact hc',hr⟩
  · intro e he
    exact Ent.ok_keep (S.ents e he) fun k hk=>⟨hoth k (Ent.ok_lt (S.ents e he) hk),rfl⟩
theorem W.callF {k : FuncId} {xs : List Operand} {ats : Array TypeId} {args : List Value} {R : Hp → Value → Prop} {H1 : Hp} (S : St w0 H0 w H L) (ha : xs.map (ev N f) = args) (C : Con P k args w H1 R)
    (K:∀ v w' H',R H' v→St w0 H0 w' H L→WL P N ops rest Q (updo f od v) w'):WL P N ops (⟨od,.call ⟨.value (.func k),xs.toArray,ats⟩,ty,pos,af,none⟩ :: rest) Q f w:=by
  refine WL.enterw (w':=w) (k:=k) (args:=args.toArray) ?_ (Calls.mono C.2 fun e w' ⟨v,H',he,hp,hv⟩=>⟨v,he,K v w' H' hv (S.same hp)⟩)
  have:(execOp (ev N f) ⟨od,.call ⟨.value (.func k),xs.toArray,ats⟩,ty,pos,af,none⟩)=callFunc k (#[]++xs.toArray.map (ev N f)++#[]):=rfl
  rw [this]
  have e:(#[]++xs.toArray.map (ev N f)++#[])=args.toArray:=by simp [ha]
  rw [e]
  exact C.1 w
theorem W.callvF {k : FuncId} {x : Operand} {xs : List Operand} {ats : Array TypeId} {args caps : List Value} {R : Hp → Value → Prop} {H1 : Hp} (S : St w0 H0 w H L) (hx : ev N f x = .func (.func k) #[] caps.toArray) (ha : xs.map (ev N f) = args) (C : Con P k (args ++ caps) w H1 R)
    (K:∀ v w' H',R H' v→St w0 H0 w' H L→WL P N ops rest Q (updo f od v) w'):WL P N ops (⟨od,.call ⟨.value x,xs.toArray,ats⟩,ty,pos,af,none⟩ :: rest) Q f w:=by
  obtain ⟨hC1,hC2⟩:=C
  refine WL.enterw (w':=w) (k:=k) (args:=(args++caps).toArray) ?_ (Calls.mono hC2 fun e w' ⟨v,H',he,hp,hv⟩=>⟨v,he,K v w' H' hv (S.same hp)⟩)
  have e:xs.toArray.map (ev N f)++caps.toArray=(args++caps).toArray:=by simp [ha]
  have:(execOp (ev N f) ⟨od,.call ⟨.value x,xs.toArray,ats⟩,ty,pos,af,none⟩).run P w=(callFunc k (#[]++xs.toArray.map (ev N f)++caps.toArray)).run P w:=by
    simp [execOp,resolve,hx,Deferred.ofValue,Go.invoke]
  rw [this,Array.empty_append,e]
  exact hC1 w
theorem W.storeMR {T T' : TypeId} {e : TypeId} {a x : Operand} {b o i : Nat} {bb : Bool} {u : Value} {xs : List α} {en : Ent} {cs : List Value} (cs' : List Value) (S : St w0 H0 w H L) (R : MR H en e u xs) (ha : ev N f a = ptr b o) (hx : ev N f x = u) (hi : L[i]? = some (.box b T' cs)) (hT : lay P T = some (bb, 1))
    (ho:o+1≤cs.length) (hc:zGh cs o [u]=cs')
    (k:∀ w',St w0 H0 w' H (L.set i (.box b T' cs'))→WL P N ops rest Q (updo f od undef) w'):WL P N ops (⟨od,.store T a x,ty,pos,af,none⟩ :: rest) Q f w :=
  W.store cs' S ha hx hi hT (by rw [MR.cellsOne R]; rfl) (by rw [MR.cellsOne R]; simp [MR.oneC R]) ho (by rw [MR.cellsOne R]; exact hc) k
theorem St.view_ (S:St w0 H0 w H L) {i:Nat} {en:Ent} {e:TypeId} {v:Value} {xs:List α} (hi:L[i]?=some en) (hx:MR H en e v xs):∃ H1,H.le H1∧Holds w H1∧Sl H1 v xs:=by
  obtain ⟨H1,hle,hs,S1⟩:=S.settleM hi hx
  exact ⟨H1,hle,S1.holds,hs⟩
theorem objAt {i b:Nat} {o:Obj} (S:St w0 H0 w H L) (hi:L[i]?=some (.obj b o)):H b=none∧w.heap[b]?=some o:=S.ents _ (List.mem_of_getElem? hi)
theorem R.loadO {T e : TypeId} {x : Operand} {b o i n : Nat} {cur : Array Value} {vs : List Value} (S : St w0 H0 w H L) (hx : ev N f x = ptr b o) (hi : L[i]? = some (.obj b (.cells cur e (0, 0)))) (hT : lay P T = some (true, n)) (hn : vs.length = n) (hv : (cur.toList.drop o).take n = vs) :
    (execOp (ev N f) ⟨od,.load T x,ty,pos,af,g⟩).run P w=.ok (.value (agg vs)) w:=by
  refine R.loadN hx hT hn fun j v hj=>?_
  rw [Addr.add_lit,zHK (objAt S hi).2,← Array.getElem?_toList]
  rw [← hv,List.getElem?_take,List.getElem?_drop] at hj
  split at hj
  · exact hj
  · cases hj
theorem R.idxN {T e : TypeId} {x i : Operand} {b n c sz : Nat} {m : Int} (hx : ev N f x = .slice (some ⟨b, 0, none⟩) n c) (hi : ev N f i = int m) (hE : Elem P T e sz) (h : 0 ≤ m ∧ m < n) :
    (execOp (ev N f) ⟨od,.indexAddr T x i,ty,pos,af,g⟩).run P w=.ok (.value (ptr b (m.toNat*sz))) w:=by
  obtain ⟨ht,inf,z,hinf,_,hsize,_⟩:=hE
  simp [execOp,Instr.indexAt,asIntOf,hx,hi,int,run_underlying ht,h,sizeOf,typeInfo,hinf,hsize,Addr.add_lit,ptr]
theorem W.storeO {T e : TypeId} {a x : Operand} {b o i n : Nat} {bb : Bool} {v : Value} {cur : Array Value} (S : St w0 H0 w H L) (ha : ev N f a = ptr b o) (hx : ev N f x = v) (hi : L[i]? = some (.obj b (.cells cur e (0, 0)))) (hT : lay P T = some (bb, n))
    (hn:v.cells.size=n) (h1:v.cells.toList.all Value.oneCell'=true) (ho:o+n≤cur.size)
    (k:∀ w' cur',cur'.toList=cur.toList.take o++v.cells.toList++cur.toList.drop (o+n)→St w0 H0 w' H (L.set i (.obj b (.cells cur' e (0,0))))→WL P N ops rest Q (updo f od undef) w'):WL P N ops (⟨od,.store T a x,ty,pos,af,none⟩ :: rest) Q f w:=by
  obtain ⟨_,h2⟩:=zFv (w:=w) hT
  obtain ⟨hH,hb⟩:=objAt S hi
  have hlen:v.cells.toList.length=n:=by simpa using hn
  obtain ⟨w',arr',hrun,hoth,hsz,hos,hb',harr⟩:=zEI (P:=P) b o e (0,0) v.cells.toList 0 cur w hb (by omega) (fun u hu=>List.all_eq_true.1 h1 u hu) (fun j _ h4 h=>Nat.not_lt_zero _ h.2)
  refine WL.skipw (w':=w') ?_ (k w' arr' ?_ (S.renew hi rfl rfl hH hoth hsz hos ⟨hH,hb'⟩))
  · simp only [execOp,Instr.storeAt,Instr.sureAddr,ha,hx,ptr,storeVar,Sem.run_bind,Sem.run_pure,Result.andThen_ok,h2,hn,ne_eq,not_true_eq_false,if_false,hrun]
  · rw [harr,hlen]; rfl
theorem zMc {z:Array Value} (hz:z.all Value.oneCell'=true) (n:Nat):∀ v ∈ (Builtin.zeroCells z n).toList,v.oneCell'=true:=by
  intro v hv
  unfold Builtin.zeroCells at hv
  simp only [Array.toList_map,Array.toList_range,List.mem_map,List.mem_range] at hv
  obtain ⟨j,hj,rfl⟩:=hv
  have hp:0<z.size:=by
    rcases Nat.eq_zero_or_pos z.size with h | h
    · rw [h,Nat.mul_zero] at hj; exact absurd hj (Nat.not_lt_zero _)
    · exact h
  have hlt:=Nat.mod_lt j hp
  rw [getElem!_pos z _ hlt]
  exact Array.all_eq_true.1 hz _ hlt
theorem W.clearO {T e : TypeId} {x : Operand} {b i k n c : Nat} {cur : Array Value} (S : St w0 H0 w H L) (hE : Elem P T e (Enc.sz α)) (h1z : ∀ z, zer P e = some z → z.all Value.oneCell' = true) (hx : ev N f x = .slice (some ⟨b, k * Enc.sz α, none⟩) n c) (hi : L[i]? = some (.obj b (.cells cur e (0, 0))))
    (ho:k*Enc.sz α+n*Enc.sz α≤cur.size)
    (K:∀ w' cur',cur'.size=cur.size→cur'.toList.take (k*Enc.sz α)=cur.toList.take (k*Enc.sz α)→St w0 H0 w' H (L.set i (.obj b (.cells cur' e (0,0))))→WL P N ops rest Q (updo f od (.tuple #[])) w') :
    WL P N ops (⟨od,.call ⟨.builtin .clear,#[x],#[T]⟩,ty,pos,af,none⟩ :: rest) Q f w:=by
  obtain ⟨ht,inf,z,hinf,hzz,hsize,hzs,hbytes⟩:=hE
  obtain ⟨hH,hb⟩:=objAt S hi
  have hz1:z.cells.all Value.oneCell'=true:=by
    have:zer P e=some z.cells.toList:=by unfold zer; rw [hinf]; simp [hzz]
    have:=h1z _ this
    rw [← Array.all_toList]; exact this
  by_cases hn:n=0
  · subst hn
    refine WL.w (v:=.tuple #[]) (w':=w) ?_ (K w cur rfl rfl (by rw [zLS hi]; exact S))
    simp [execOp,resolve,Go.invoke,Go.builtin,hx,Builtin.clear_,run_underlying ht]
  · have hzl:(Builtin.zeroCells z.cells n).toList.length=n*Enc.sz α:=by rw [Array.length_toList,size_zeroCells,hzs]
    obtain ⟨w',arr',hrun,hoth,hsz,hos,hb',harr⟩:=zEI (P:=P) b (k*Enc.sz α) e (0,0) (Builtin.zeroCells z.cells n).toList 0 cur w hb (by rw [hzl]; omega) (zMc hz1 n) (fun j _ h4 h=>Nat.not_lt_zero _ h.2)
    have hzv:(zeroValue e).run P w=.ok z w:=by simp [zeroValue,typeInfo,hinf,hzz]
    refine WL.w (v:=.tuple #[]) (w':=w') ?_ (K w' arr' ?_ ?_ (S.renew hi rfl rfl hH hoth hsz hos ⟨hH,hb'⟩))
    · have hm : ∀ (n : Nat), n ≠ 0 → (Builtin.clear_ #[T] ty #[.slice (some ⟨b, k * Enc.sz α, none⟩) n c]).run P w = ((storeCells ⟨b, k * Enc.sz α, none⟩ (Builtin.zeroCells z.cells n).toList).run P w).andThen fun _ w => .ok (.tuple #[]) w := by
        intro n hn
        cases n with
        | zero=>exact absurd rfl hn
        | succ n=>simp [Builtin.clear_,run_underlying ht,hzv]
      simp only [execOp,resolve,Go.invoke,Go.builtin,Sem.run_bind,Sem.run_pure,Result.andThen_ok,List.map_toArray,List.map_cons,List.map_nil,hx,hm n hn,hrun]
    · rw [← Array.length_toList,harr,List.length_append,List.length_append,List.length_take,List.length_drop,hzl,Array.length_toList]; omega
    · rw [harr,Nat.add_zero,List.append_assoc,List.take_append_of_le_length (by rw [List.length_take,Array.length_toList]; omega),List.take_take,Nat.min_self]
end
def DelI {α:Type} [Enc α] (H:Hp) (xs:List α) (cur:Array Value) (K:List α) (m:Nat):Prop :=
  K.length<m∧m≤xs.length∧∃ kc jc rc tl,cur.toList=kc++(jc++(rc++tl))∧Cells H kc K∧jc.length=(m - K.length)*Enc.sz α∧Cells H rc (xs.drop m)
section
variable {α:Type} [Enc α] {H:Hp} {xs K:List α} {cur cur':Array Value} {m:Nat}
theorem DelI.look (h:DelI H xs cur K m) (hm:m<xs.length):∃ cs,(cur.toList.drop (m*Enc.sz α)).take (Enc.sz α)=cs∧cs.length=Enc.sz α∧Enc.cells H cs xs[m]:=by
  obtain ⟨h1,h2,kc,jc,rc,tl,hl,hk,hj,hr⟩:=h
  rw [List.drop_eq_getElem_cons hm] at hr
  obtain ⟨cs,r,rfl,hc,_⟩:=hr
  have hlen:=Enc.len hc
  refine ⟨cs,?_,hlen,hc⟩
  have e:(kc++jc).length=m*Enc.sz α:=by
    rw [List.length_append,hk.length,hj,← Nat.add_mul]; congr 1; omega
  rw [hl,← List.append_assoc,← e,List.drop_left,List.append_assoc,← hlen,List.take_left]
theorem DelI.skip (h:DelI H xs cur K m) (hm:m<xs.length):DelI H xs cur K (m+1):=by
  obtain ⟨h1,h2,kc,jc,rc,tl,hl,hk,hj,hr⟩:=h
  rw [List.drop_eq_getElem_cons hm] at hr
  obtain ⟨cs,r,rfl,hc,hr'⟩:=hr
  have hlen:=Enc.len hc
  refine ⟨by omega,hm,kc,jc++cs,r,tl,by rw [hl]; simp,hk,?_,hr'⟩
  rw [List.length_append,hj,hlen,show m+1 - K.length=(m - K.length)+1 by omega,Nat.add_mul,Nat.one_mul]
theorem DelI.keep (h : DelI H xs cur K m) (hm : m < xs.length) {cs : List Value} (hcs : (cur.toList.drop (m * Enc.sz α)).take (Enc.sz α) = cs) (hc : cur'.toList = cur.toList.take (K.length * Enc.sz α) ++ cs ++ cur.toList.drop (K.length * Enc.sz α + Enc.sz α)) :
    DelI H xs cur' (K++[xs[m]]) (m+1):=by
  obtain ⟨cs',hcs',hlen',hcell⟩:=h.look hm
  have:cs'=cs:=by rw [← hcs',hcs]
  subst this
  have h0:=h.1
  obtain ⟨h1,h2,kc,jc,rc,tl,hl,hk,hj,hr⟩:=h.skip hm
  have hkl:=hk.length
  have hjl:Enc.sz α≤jc.length:=by
    rw [hj]
    exact Nat.le_mul_of_pos_left _ (by omega)
  refine ⟨by simp; omega,h2,kc++cs',jc.drop (Enc.sz α),rc,tl,?_,hk.append ⟨cs',[],by simp,hcell,rfl⟩,?_,hr⟩
  · have e1:cur.toList.take (K.length*Enc.sz α)=kc:=by rw [hl,← hkl,List.take_left]
    have e2:cur.toList.drop (K.length*Enc.sz α+Enc.sz α)=jc.drop (Enc.sz α)++(rc++tl):=by
      rw [hl,← hkl,← List.drop_drop,List.drop_left,List.drop_append_of_le_length hjl]
    rw [hc,e1,e2]
  · have e3:m+1 - K.length=(m+1 - (K.length+1))+1:=by omega
    rw [List.length_drop,hj,List.length_append,List.length_singleton,e3,Nat.succ_mul,Nat.add_sub_cancel]
theorem Cells.split {H:Hp}:∀ {a b:List α} {cs:List Value},Cells H cs (a++b)→∃ c1 c2,cs=c1++c2∧Cells H c1 a∧Cells H c2 b
  | [],_,cs,h=>⟨[],cs,rfl,rfl,h⟩
  | x :: a,b,cs,⟨c,r,e,hc,hr⟩=>by
    obtain ⟨c1,c2,rfl,h1,h2⟩:=Cells.split hr
    exact ⟨c++c1,c2,by rw [e]; simp,⟨c,c1,rfl,hc,h1⟩,h2⟩
theorem DelI.start {cs:List Value} {i:Nat} (htk:cur.toList.take (xs.length*Enc.sz α)=cs) (hC:Cells H cs xs) (hi:i<xs.length):DelI H xs cur (xs.take i) (i+1):=by
  have hx:xs=xs.take i++([xs[i]]++xs.drop (i+1)):=by
    rw [List.singleton_append,← List.drop_eq_getElem_cons hi,List.take_append_drop]
  rw [hx] at hC
  obtain ⟨c1,c23,rfl,h1,h23⟩:=Cells.split hC
  obtain ⟨c2,c3,rfl,h2,h3⟩:=Cells.split h23
  have hl:(xs.take i).length=i:=by rw [List.length_take]; omega
  refine ⟨by omega,hi,c1,c2,c3,cur.toList.drop (xs.length*Enc.sz α),?_,h1,?_,h3⟩
  · exact (List.take_append_drop (xs.length*Enc.sz α) cur.toList).symm.trans (by rw [htk]; simp)
  · have:=h2.length
    rw [List.length_singleton] at this
    rw [hl,this]; congr 1; omega
theorem DelI.front (h:DelI H xs cur K m):∃ kc,cur.toList.take (K.length*Enc.sz α)=kc∧Cells H kc K:=by
  obtain ⟨h1,h2,kc,jc,rc,tl,hl,hk,hj,hr⟩:=h
  exact ⟨kc,by rw [hl,← hk.length,List.take_left],hk⟩
end
section
variable {P:Program} {N:Frm} {f:Fr} {w:World} {od:Option Nat} {ty:TypeId} {pos:String} {af:Array Edge} {g:Option (Nat×Bool)}
theorem R.sliceLo {T e : TypeId} {x i : Operand} {b n c sz k : Nat} (hx : ev N f x = .slice (some ⟨b, 0, none⟩) n c) (hi : ev N f i = int k) (hE : Elem P T e sz) (hk : k ≤ n) (hkc : k < c) :
    (execOp (ev N f) ⟨od,.slice T x (some i) none none,ty,pos,af,g⟩).run P w=.ok (.value (.slice (some ⟨b,k*sz,none⟩) (n - k) (c - k))) w:=by
  obtain ⟨ht,inf,z,hinf,_,hsize,_⟩:=hE
  have h1:(0:Int)≤k∧(k:Int)≤n:=⟨by omega,by omega⟩
  simp [execOp,Instr.sliceAt,Instr.slice,Instr.sliceBounds,Instr.sliceBound,asIntOf,hx,hi,int,run_underlying ht,h1,sizeOf,typeInfo,hinf,hsize,Addr.add_lit]
  rw [if_pos hk,if_neg (by omega)]
theorem R.sliceHi {T e : TypeId} {x i : Operand} {b n c sz k : Nat} (hx : ev N f x = .slice (some ⟨b, 0, none⟩) n c) (hi : ev N f i = int k) (hE : Elem P T e sz) (hk : k ≤ c) :
    (execOp (ev N f) ⟨od,.slice T x none (some i) none,ty,pos,af,g⟩).run P w=.ok (.value (.slice (some ⟨b,0,none⟩) k c)) w:=by
  obtain ⟨ht,inf,z,hinf,_,hsize,_⟩:=hE
  have h1:(0:Int)≤k∧(k:Int)≤c:=⟨by omega,by omega⟩
  simp [execOp,Instr.sliceAt,Instr.slice,Instr.sliceBounds,Instr.sliceBound,asIntOf,hx,hi,int,run_underlying ht,h1,sizeOf,typeInfo,hinf,Addr.add_lit]
  intro hc; omega
end
def delL {α:Type} (xs:List α) (p:α→Option Bool) (s:List α×Int):Option ((List α×Int) ⊕ List α) :=
  bif decide (s.2<(xs.length:Int)) then (xnth xs s.2).bind fun x=>(p x).bind fun b=>some (.inl (bif b then s.1 else s.1++[x],s.2+1)) else some (.inr s.1)
noncomputable def delR {α:Type} (xs:List α) (p:α→Option Bool) (i:Int):Option (List α) :=
  bif i==-1 then some xs else bif decide (0≤i∧i<(xs.length:Int)) then zAG (delL xs p) (xs.take i.toNat,i+1) else none
end Go.Eng
namespace Go.Eng
open Go
def InQ (fn:Func) (N:Frm) (P:Program) (K:Value→World→Prop):Exit→Fr→World→Prop:=fun e f w=>(e=.ret∨e=.normal)∧∃ v,(results fn (tm N f)).run P w=.ok v w∧K v w
section
variable {P:Program} {N:Frm} {f:Fr} {w w0:World} {H0 H:Hp} {L:List Ent} {ops:Array Oper} {rest:List Oper} {Q:Fr→World→Prop} {d:Nat} {od:Option Nat} {ty:TypeId} {pos:String} {af:Array Edge} {g:Option (Nat×Bool)}
theorem InR.one {fn:Func} {r:ResultVar} {v:Value} {K:Value→World→Prop} (hr:fn.results=#[r]) (h:Res P N f w r v) (hK:K v w):∃ v,(results fn (tm N f)).run P w=.ok v w∧K v w:=by
  refine ⟨v,?_,hK⟩
  have:=zBB h
  rw [zEB,hr]
  simp only [List.mapM_toArray,List.mapM_cons,List.mapM_nil,Sem.run_bind,Sem.run_map,this,Result.andThen_ok,Sem.run_pure]
  rfl
theorem In.one {fn:Func} {r:ResultVar} {v:Value} {K:Value→World→Prop} (hr:fn.results=#[r]) (h:Res P N f w r v) (hK:K v w):InQ fn N P K .ret f w:=⟨.inl rfl,InR.one hr h hK⟩
end
end Go.Eng
namespace Go.Eng
open Go Go.RowKit
def delI {α:Type} (xs:List α) (i j:Int):Option (List α) :=
  if 0≤i∧i≤j∧j≤xs.length then some (xs.take i.toNat++xs.drop j.toNat) else none
section
variable {α:Type} [Enc α] {H:Hp} {xs:List α} {cur:Array Value}
theorem Cells.cutOut {cs : List Value} {m j : Nat} (htk : cur.toList.take (xs.length * Enc.sz α) = cs) (hC : Cells H cs xs) (hmj : m ≤ j) (hj : j ≤ xs.length) :
    Cells H (cur.toList.take (m*Enc.sz α)++(cur.toList.drop (j*Enc.sz α)).take ((xs.length - j)*Enc.sz α)) (xs.take m++xs.drop j):=by
  have hx:xs=xs.take m++((xs.take j).drop m++xs.drop j):=by
    have e1:xs.take m=(xs.take j).take m:=by rw [List.take_take,Nat.min_eq_left hmj]
    rw [← List.append_assoc,e1,List.take_append_drop,List.take_append_drop]
  have hC':=hC
  rw [hx] at hC'
  obtain ⟨c1,c23,rfl,h1,h23⟩:=Cells.split hC'
  obtain ⟨c2,c3,rfl,h2,h3⟩:=Cells.split h23
  have l1:=h1.length; have l2:=h2.length; have l3:=h3.length
  rw [List.length_take,Nat.min_eq_left (by omega)] at l1
  rw [List.length_drop,List.length_take,Nat.min_eq_left hj] at l2
  rw [List.length_drop] at l3
  have hcur:cur.toList=c1++(c2++(c3++cur.toList.drop (xs.length*Enc.sz α))):=by
    have:=(List.take_append_drop (xs.length*Enc.sz α) cur.toList).symm
    rw [htk] at this
    simpa using this
  have e1:cur.toList.take (m*Enc.sz α)=c1:=by rw [hcur,← l1,List.take_left]
  have e2:(cur.toList.drop (j*Enc.sz α)).take ((xs.length - j)*Enc.sz α)=c3:=by
    have:j*Enc.sz α=(c1++c2).length:=by rw [List.length_append,l1,l2,← Nat.add_mul]; congr 1; omega
    rw [hcur,this,← List.append_assoc,List.drop_left,← l3,List.take_left]
  rw [e1,e2]
  exact h1.append h3
end
section
variable {P:Program} {N:Frm} {f:Fr} {w w0:World} {H0 H:Hp} {L:List Ent} {ops:Array Oper} {rest:List Oper} {Q:Fr→World→Prop} {d:Nat} {od:Option Nat} {ty:TypeId} {pos:String} {af:Array Edge} {g:Option (Nat×Bool)}
theorem W.appO {T e : TypeId} {x y : Operand} {b i m cap k c' sz o : Nat} {cur : Array Value} (S : St w0 H0 w H L) (hE : Elem P T e sz) (hi : L[i]? = some (.obj b (.cells cur e (0, 0))))
    (hx:ev N f x=.slice (some ⟨b,0,none⟩) m cap) (hy:ev N f y=.slice (some ⟨b,o,none⟩) k c') (hcap:cur.size=cap*sz) (hmk:m+k≤cap) (ho:o+k*sz≤cur.size)
    (h1:∀ u ∈ (cur.toList.drop o).take (k*sz),u.oneCell'=true)
    (K:∀ w' cur',cur'.toList=cur.toList.take (m*sz)++(cur.toList.drop o).take (k*sz)++cur.toList.drop (m*sz+k*sz)→St w0 H0 w' H (L.set i (.obj b (.cells cur' e (0,0))))→WL P N ops rest Q (upd f d (.slice (some ⟨b,0,none⟩) (m+k) cap)) w') :
    WL P N ops (⟨some d,.call ⟨.builtin .append,#[x,y],#[T,T]⟩,ty,pos,af,none⟩ :: rest) Q f w:=by
  obtain ⟨ht,inf,z,hinf,hzz,hsize,hzs,hbytes⟩:=hE
  obtain ⟨hH,hb⟩:=objAt S hi
  have hl:((cur.toList.drop o).take (k*sz)).length=k*sz:=by
    rw [List.length_take,List.length_drop,Array.length_toList]; omega
  have hnews:∀ j u,((cur.toList.drop o).take (k*sz))[j]?=some u→w.cell? ((⟨b,o,none⟩:Addr).add j)=some u:=by
    intro j u hu
    rw [Addr.add_lit,zHK hb,← Array.getElem?_toList]
    rw [List.getElem?_take,List.getElem?_drop] at hu
    split at hu
    · exact hu
    · cases hu
  have hfit:m*inf.size+((cur.toList.drop o).take (k*sz)).length≤cur.size:=by
    rw [hl,hsize,hcap,← Nat.add_mul]; exact Nat.mul_le_mul_right _ hmk
  have hr:=run_append_room (P:=P) w T ty e inf ht hinf b m cap cur hb ⟨b,o,none⟩ k c' _ (by rw [hsize]; exact hl) hnews h1 hmk hfit
  rw [hsize,hl] at hr
  refine WL.w (v:=.slice (some ⟨b,0,none⟩) (m+k) cap) (w':=_) ?_ (K _ (cur.toList.take (m*sz)++(cur.toList.drop o).take (k*sz)++cur.toList.drop (m*sz+k*sz)).toArray ?_ (S.setRowObj hi _))
  · simp only [execOp,resolve,Go.invoke,Go.builtin,Sem.run_bind,Sem.run_pure,Result.andThen_ok,List.map_toArray,List.map_cons,List.map_nil,hx,hy,hr]
  · simp
theorem R.sliceLo0 {T e : TypeId} {x i : Operand} {b n c sz k : Nat} (hx : ev N f x = .slice (some ⟨b, 0, none⟩) n c) (hi : ev N f i = int k) (hE : Elem P T e sz) (hk : k ≤ n) (hnc : n ≤ c) :
    ∃ o c',(o=k*sz∨(n - k=0∧o=0))∧∀ w,(execOp (ev N f) ⟨od,.slice T x (some i) none none,ty,pos,af,g⟩).run P w=.ok (.value (.slice (some ⟨b,o,none⟩) (n - k) c')) w:=by
  by_cases hkc:k<c
  · exact ⟨k*sz,c - k,.inl rfl,fun w=>R.sliceLo hx hi hE hk hkc⟩
  · obtain ⟨ht,inf,z,hinf,_,hsize,_⟩:=hE
    have h1:(0:Int)≤k∧(k:Int)≤n:=⟨by omega,by omega⟩
    refine ⟨0,c - k,.inr ⟨by omega,rfl⟩,fun w=>?_⟩
    simp [execOp,Instr.sliceAt,Instr.slice,Instr.sliceBounds,Instr.sliceBound,asIntOf,hx,hi,int,run_underlying ht,h1,sizeOf,typeInfo,hinf,hsize]
    rw [if_pos hk,if_pos (by omega)]
theorem R.sliceLH {T e : TypeId} {x i j : Operand} {b n c sz k m : Nat} (hx : ev N f x = .slice (some ⟨b, 0, none⟩) n c) (hi : ev N f i = int k) (hj : ev N f j = int m) (hE : Elem P T e sz) (hkm : k < m) (hmc : m ≤ c) :
    (execOp (ev N f) ⟨od,.slice T x (some i) (some j) none,ty,pos,af,g⟩).run P w=.ok (.value (.slice (some ⟨b,k*sz,none⟩) (m - k) (c - k))) w:=by
  obtain ⟨ht,inf,z,hinf,_,hsize,_⟩:=hE
  have h1:(0:Int)≤k∧(k:Int)≤m:=⟨by omega,by omega⟩
  have h2:(0:Int)≤m∧(m:Int)≤c:=⟨by omega,by omega⟩
  simp [execOp,Instr.sliceAt,Instr.slice,Instr.sliceBounds,Instr.sliceBound,asIntOf,hx,hi,hj,int,run_underlying ht,sizeOf,typeInfo,hinf,hsize,Addr.add_lit]
  rw [if_pos hmc]
  rw [if_pos (by omega),if_neg (by omega)]
theorem R.slice3 {T e : TypeId} {x i j l : Operand} {a : Option Addr} {n c sz : Nat} {k m q : Int} (hx : ev N f x = .slice a n c) (hi : ev N f i = int k) (hj : ev N f j = int m) (hl : ev N f l = int q) (hE : Elem P T e sz) (h : 0 ≤ k ∧ k ≤ m ∧ m ≤ q ∧ q ≤ c) :
    ∃ v,(execOp (ev N f) ⟨od,.slice T x (some i) (some j) (some l),ty,pos,af,g⟩).run P w=.ok (.value v) w:=by
  obtain ⟨ht,inf,z,hinf,_,hsize,_⟩:=hE
  refine ⟨.slice (if q.toNat=k.toNat then a else a.map (·.add (k.toNat*sz))) (m.toNat - k.toNat) (q.toNat - k.toNat),?_⟩
  simp [execOp,Instr.sliceAt,Instr.slice,Instr.sliceBounds,Instr.sliceBound,asIntOf,hx,hi,hj,hl,int,run_underlying ht,sizeOf,typeInfo,hinf,hsize]
  rw [if_pos (by omega),if_pos (by omega),if_pos (by omega)]
end
def pick (L T:List Ent):List Nat→List Ent
  | []=>T
  | i :: is=>match L[i]? with | some e=>e :: pick L T is | none=>pick L T is
def okpk:List Nat→Bool
  | []=>true
  | i :: is=>!is.elem i&&okpk is
def allb (n:Nat):List Nat→Bool
  | []=>true
  | i :: is=>Nat.blt i n&&allb n is
theorem zNB {n:Nat}:∀ {is:List Nat},allb n is=true→∀ j ∈ is,j<n
  | i :: is,h,j,hj=>by
    simp only [allb,Bool.and_eq_true,Nat.blt_eq] at h
    rcases List.mem_cons.1 hj with rfl | hj
    · exact h.1
    · exact zNB h.2 j hj
theorem zJn {L T:List Ent} {e:Ent}:∀ {is:List Nat},e ∈ pick L T is→e ∈ T∨∃ j ∈ is,L[j]?=some e
  | [],h=>.inl h
  | i :: is,h=>by
    have ih:e ∈ pick L T is→e ∈ T∨∃ j ∈ i :: is,L[j]?=some e:=fun h=>by
      rcases zJn h with h | ⟨j,hj,hl⟩
      · exact .inl h
      · exact .inr ⟨j,List.mem_cons_of_mem _ hj,hl⟩
    unfold pick at h
    split at h
    case h_2=>exact ih h
    rename_i e' he'
    rcases List.mem_cons.1 h with rfl | h
    · exact .inr ⟨i,List.mem_cons_self,he'⟩
    · exact ih h
section
variable {w0 w:World} {H0 H:Hp} {L L':List Ent}
theorem St.picked (S:St w0 H0 w H L) {T:List Ent} (hT:T.Sublist L) {is:List Nat} (hn:okpk is=true) (hj:∀ e ∈ T,∃ j,j ∉ is∧L[j]?=some e):St w0 H0 w H (pick L T is):=by
  have hm:∀ e ∈ pick L T is,e ∈ L:=fun e h=>by
    rcases zJn h with h | ⟨j,_,hj⟩
    · exact hT.subset h
    · exact List.mem_of_getElem? hj
  refine ⟨S.post,fun e h=>S.ents e (hm e h),fun e h=>S.own e (hm e h),?_⟩
  have key:∀ is,okpk is=true→(∀ e ∈ T,∃ j,j ∉ is∧L[j]?=some e)→((pick L T is).filterMap Ent.blk).Nodup:=by
    intro is
    induction is with
    | nil=>intro _ _; exact S.nodup.sublist (hT.filterMap _)
    | cons i is ih =>
      intro h hj
      simp only [okpk,Bool.and_eq_true,Bool.not_eq_true'] at h
      obtain ⟨hi,ho⟩:=h
      have ih:=ih ho fun e he=>by
        obtain ⟨j,h1,h2⟩:=hj e he
        exact ⟨j,fun h=>h1 (List.mem_cons_of_mem _ h),h2⟩
      unfold pick
      split
      case h_2=>exact ih
      rename_i e he
      rw [List.filterMap_cons]
      cases hb:e.blk with
      | none=>exact ih
      | some b =>
        refine List.nodup_cons.2 ⟨fun hmem=>?_,ih⟩
        obtain ⟨e',he',hb'⟩:=List.mem_filterMap.1 hmem
        rcases zJn he' with h | ⟨j,hjm,hl⟩
        · obtain ⟨j,h1,h2⟩:=hj e' h
          exact S.blk_ne he h2 hb hb' (fun h=>h1 (h ▸ List.mem_cons_self)) rfl
        · refine S.blk_ne he hl hb hb' ?_ rfl
          rintro rfl
          rw [List.elem_eq_true_of_mem hjm] at hi
          cases hi
  exact key is hn hj
theorem St.pt (S:St w0 H0 w H L) (n:Nat) (is:List Nat) (hn:okpk is=true:=by exact rfl) (hb:allb n is=true:=by exact rfl) (he:pick L (L.drop n) is=L':=by exact rfl):St w0 H0 w H L':=by
  subst he
  refine S.picked (List.drop_sublist n L) hn fun e h=>?_
  obtain ⟨k,hk⟩:=List.mem_iff_getElem?.1 h
  rw [List.getElem?_drop] at hk
  exact ⟨n+k,fun h=>by have:=zNB hb _ h; omega,hk⟩
theorem St.pk (S:St w0 H0 w H L) (is:List Nat) (hn:okpk is=true:=by exact rfl) (he:pick L [] is=L':=by exact rfl):St w0 H0 w H L':=by
  subst he
  exact S.picked (List.nil_sublist L) hn fun e h=>nomatch h
end
end Go.Eng
namespace Go.Eng
open Go
def u64 (a:Int):Value:=.int .u64 a
section
variable {P:Program} {N:Frm} {f:Fr} {w:World} {d:Option Nat} {ty:TypeId} {pos:String} {af:Array Edge} {g:Option (Nat×Bool)}
section
variable {x y:Operand} {a b:Int} {T T':TypeId} (hx:ev N f x=u64 a) (hy:ev N f y=u64 b)
include hx hy
end
section
variable {x y:Operand} {a b:UInt8} {n:Int} {T T':TypeId}
end
end
end Go.Eng
namespace Go.Eng
open Go Go.RowKit
section
variable {P:Program} {N:Frm} {f:Fr} {w:World} {od:Option Nat} {ty:TypeId} {pos:String} {af:Array Edge} {g:Option (Nat×Bool)}
theorem R.sliceLoE {T e : TypeId} {x i : Operand} {b n c sz k : Nat} (hx : ev N f x = .slice (some ⟨b, 0, none⟩) n c) (hi : ev N f i = int k) (hE : Elem P T e sz) (hk : k ≤ n) (hnc : n ≤ c) :
    (execOp (ev N f) ⟨od,.slice T x (some i) none none,ty,pos,af,g⟩).run P w=.ok (.value (.slice (some ⟨b,(if c=k then 0 else k*sz),none⟩) (n - k) (c - k))) w:=by
  by_cases hkc:k<c
  · rw [R.sliceLo hx hi hE hk hkc,if_neg (by omega)]
  · obtain ⟨ht,inf,z,hinf,_,hsize,_⟩:=hE
    have h1:(0:Int)≤k∧(k:Int)≤n:=⟨by omega,by omega⟩
    have hck:c=k:=by omega
    simp [execOp,Instr.sliceAt,Instr.slice,Instr.sliceBounds,Instr.sliceBound,asIntOf,hx,hi,int,run_underlying ht,h1,sizeOf,typeInfo,hinf,hsize,hck]
    intro hc; omega
end
end Go.Eng
