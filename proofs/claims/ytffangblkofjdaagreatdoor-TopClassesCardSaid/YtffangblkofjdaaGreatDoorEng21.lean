/- A part. -/
import Derived.Test.YtffangblkofjdaaGreatDoorEng14
import Derived.Sort.Grow
import Derived.Sort.EncStr
import Derived.Lib.SlicesCompact
import Derived.Lib.LaidTab
import Derived.Lib.ItoaNum
import Derived.Deep.AppendSrc
import Derived.Deep.Upon
import Derived.Lib.UnsafeStr
import Derived.Lib.Builder
set_option linter.unusedVariables false
namespace Go.Eng
open Go Go.RowKit
section
variable {P:Program} {N:Frm} {f:Fr} {w w' w0:World} {H0 H:Hp} {L:List Ent} {ops:Array Oper} {rest:List Oper} {Q:Fr→World→Prop} {d:Nat} {od:Option Nat} {ty:TypeId} {pos:String} {af:Array Edge}
theorem St.turnRow (S : St w0 H0 w H L) (hw : Holds w0 H0) {i g n n' cap sz : Nat} {T : TypeId} {cur' : Array Value}
    (hi:L[i]?=some (.row (.slice (some ⟨g,0,none⟩) n cap) T sz n)) (hoth:∀ k,k≠g→k<w.heap.size→w'.heap[k]?=w.heap[k]?) (hsz:w.heap.size≤w'.heap.size)
    (hos:w'.os=w.os∧w'.tape=w.tape∧w'.output=w.output) (hg:w'.heap[g]?=some (.cells cur' T (0,0))) (hc:cur'.size=cap*sz) (hn:n'≤cap) (hcap:cap≤maxLen) :
    ∃ H',H0.le H'∧H' g=some (T,cur'.toList.take (n'*sz))∧St w0 H0 w' H' (L.set i (.row (.slice (some ⟨g,0,none⟩) n' cap) T sz n')):=by
  have hmem:=List.mem_of_getElem? hi
  have hown:w0.heap.size≤g:=S.own _ hmem g rfl
  have hgl:g<w.heap.size:=S.lt (List.mem_filterMap.2 ⟨_,hmem,rfl⟩)
  have h0g:H0 g=none:=hw.none_of_size hown
  have hle:H0.le (fun k=>if k=g then some (T,cur'.toList.take (n'*sz)) else H k):=by
    intro k T' l hk
    by_cases h:k=g
    · subst h; rw [h0g] at hk; cases hk
    · obtain ⟨l',hl'⟩:=S.post.le k T' l hk
      exact ⟨l',by simp only [if_neg h]; exact hl'⟩
  refine ⟨fun k=>if k=g then some (T,cur'.toList.take (n'*sz)) else H k,hle,by simp,?_⟩
  refine ⟨⟨S.post.below.trans ⟨hos.1,hos.2.1,hos.2.2,hsz,fun k hk=>hoth k (by omega) (by have:=S.post.below.size; omega)⟩,hle,fun k hk=>?_,?_⟩,?_,?_,?_⟩
  · show (if k=g then _ else H k)=H0 k
    rw [if_neg (by omega)]; exact S.post.eqb k hk
  · intro k T' l hk
    by_cases h:k=g
    · subst h
      simp at hk
      obtain ⟨rfl,rfl⟩:=hk
      exact ⟨cur',(0,0),hg,cur'.toList.drop (n'*sz),(List.take_append_drop _ _).symm⟩
    · simp only [if_neg h] at hk
      obtain ⟨cs,fz,hc',hr⟩:=S.holds k T' l hk
      exact ⟨cs,fz,by rw [hoth k h (Array.getElem?_eq_some_iff.1 hc').1]; exact hc',hr⟩
  · intro e he
    obtain ⟨j,hj⟩:=List.mem_iff_getElem?.1 he
    by_cases hij:i=j
    · subst hij
      have hlt:=(List.getElem?_eq_some_iff.1 hi).1
      rw [List.getElem?_set_self hlt] at hj
      simp at hj; subst hj
      exact .inr ⟨g,cap,cur',rfl,hg,hn,hcap,hc,by simp⟩
    · rw [List.getElem?_set_ne hij] at hj
      refine Ent.ok_keep (S.ents e (List.mem_of_getElem? hj)) fun k hk=>?_
      have hne:k≠g:=S.blk_ne hj hi hk rfl (Ne.symm hij)
      exact ⟨hoth k hne (Ent.ok_lt (S.ents e (List.mem_of_getElem? hj)) hk),if_neg hne⟩
  · intro e he k hk
    obtain ⟨j,hj⟩:=List.mem_iff_getElem?.1 he
    by_cases hij:i=j
    · subst hij
      have hlt:=(List.getElem?_eq_some_iff.1 hi).1
      rw [List.getElem?_set_self hlt] at hj
      simp at hj; subst hj
      simp [Ent.blk,Value.ownBlock] at hk; omega
    · rw [List.getElem?_set_ne hij] at hj
      exact S.own e (List.mem_of_getElem? hj) k hk
  · rw [zCW (e':=.row (.slice (some ⟨g,0,none⟩) n' cap) T sz n') hi rfl]; exact S.nodup
theorem zK2 {w : World} {g : Nat} {cur : Array Value} {T : TypeId} {fz : Nat × Nat} {d : Array Str} (h : w.heap[g]? = some (.cells cur T fz)) (hd : d.size ≤ cur.size) :
    ∃ cur',(Sort.putRow Proofs.encStr w g 0 d).heap[g]?=some (.cells cur' T fz)∧cur'.size=cur.size∧cur'.toList.take d.size=d.toList.map str:=by
  refine ⟨Sort.putCells Proofs.encStr 0 d cur,?_,by simp [Sort.putCells],?_⟩
  · simp [Sort.putRow,Sort.mapBlock,Array.getElem?_modify,h,Sort.onCells]
  · apply List.ext_getElem?
    intro k
    by_cases hk:k<d.size
    · rw [List.getElem?_take_of_lt hk]
      have h2:k<cur.size:=by omega
      simp [Sort.putCells,hk,h2,str,Proofs.encStr]
    · rw [List.getElem?_eq_none (by simp; omega),List.getElem?_eq_none (by simp; omega)]
theorem zKL {w:World} {g k:Nat} {d:Array Str} (h:k≠g):(Sort.putRow Proofs.encStr w g 0 d).heap[k]?=w.heap[k]?:=by
  simp [Sort.putRow,Sort.mapBlock,Array.getElem?_modify,Ne.symm h]
theorem zLL {w : World} {H : Hp} {g : Nat} {cur : Array Value} {T : TypeId} {xs : List Str} {cap : Nat} (hw : Holds w H) (hg : w.heap[g]? = some (.cells cur T (0, 0))) (hR : Sl H (.slice (some ⟨g, 0, none⟩) xs.length cap) xs) :
    Sort.Holds Proofs.encStr w g 0 xs.toArray:=by
  intro j hj
  have hj:j<xs.length:=by simpa using hj
  obtain ⟨a,c,hv,_,_,h3⟩:=hR
  rcases h3 with h3 | ⟨b,off,cs,ha,hat,hC⟩
  · subst h3; simp at hj
  · subst ha
    simp only [Value.slice.injEq,Option.some.injEq,Addr.mk.injEq] at hv
    obtain ⟨⟨rfl,rfl,_⟩,_⟩:=hv
    have hcs:=hC.strs
    have hget:cs[j]?=some (str xs[j]):=by rw [hcs]; simp [hj]
    refine ⟨?_,?_⟩
    · have:=hat.cell hw hget
      rw [Addr.add_lit,Nat.zero_add] at this
      rw [Nat.zero_add,this]
      simp [hj,str,Proofs.encStr]
    · simp [World.frozen?,hg]
structure SortCon (P:Program) (k:FuncId):Prop where
  enter:∀ (args:Array Value) (w:World),(callFunc k args).run P w=.ok (.enter k args) w
  none:∀ (p:Option Addr) (cap:Nat) (w:World),Calls P k #[.slice p 0 cap] w fun e w'=>e=.returned (.tuple #[])∧w'=w
  some:∀ (blk off cap:Nat) (ss:List Str) (w:World),Sort.Holds Proofs.encStr w blk off ss.toArray→blk<w.heap.size→ss.length<4611686018427387904 →
    Calls P k #[.slice (some ⟨blk,off,.none⟩) ss.length cap] w fun e w'=>e=.returned (.tuple #[])∧∃ n os,w'=Sort.grow (Sort.putRow Proofs.encStr (Sort.ahead w n) blk off (ss.mergeSort fun x y=>decide (x≤y)).toArray) os
def sortS (l:List Str):List Str:=l.mergeSort fun x y=>decide (x≤y)
theorem zF8 (l:List Str):(sortS l).length=l.length:=List.length_mergeSort l
def slices_Sort_string (l:List Str):Option (List Str):=if l.length≤big then some (sortS l) else none
def slices_Compact_string (l:List Str):Option (List Str):=some (Lib.compact l)
theorem zH7 {H:Hp}:∀ {xs:List Str},Cells (α:=Str) H (xs.map str) xs
  | []=>rfl
  | x :: xs=>⟨[str x],xs.map str,rfl,rfl,zH7⟩
theorem W.sortRow {k : FuncId} {x : Operand} {ats : Array TypeId} {v : Value} {xs ys : List Str} {i : Nat} {T : TypeId} (C : SortCon P k) (hw : Holds w0 H0) (S : St w0 H0 w H L) (hi : L[i]? = some (.row v T 1 xs.length)) (hx : ev N f x = v) (hR : Sl H v xs)
    (h:slices_Sort_string xs=some ys)
    (K:∀ w' H',H0.le H'→Sl H' v ys→St w0 H0 w' H' (L.set i (.row v T 1 ys.length))→WL P N ops rest Q (updo f od (.tuple #[])) w'):WL P N ops (⟨od,.call ⟨.value (.func k),#[x],ats⟩,ty,pos,af,none⟩ :: rest) Q f w:=by
  have hbig:xs.length≤big:=by
    unfold slices_Sort_string at h
    split at h
    · assumption
    · cases h
  obtain rfl:sortS xs=ys:=by
    unfold slices_Sort_string at h
    rw [if_pos hbig] at h
    exact Option.some.inj h
  have hset:L.set i (.row v T 1 (sortS xs).length)=L:=by
    rw [zF8]
    apply List.ext_getElem?
    intro j
    by_cases hij:i=j
    · subst hij; rw [List.getElem?_set_self (List.getElem?_eq_some_iff.1 hi).1,hi]
    · rw [List.getElem?_set_ne hij]
  have hrun:∀ w,(execOp (ev N f) ⟨od,.call ⟨.value (.func k),#[x],ats⟩,ty,pos,af,.none⟩).run P w=.ok (.enter k #[v]) w:=by
    intro w
    have e1:(execOp (ev N f) ⟨od,.call ⟨.value (.func k),#[x],ats⟩,ty,pos,af,.none⟩)=callFunc k (#[]++#[x].map (ev N f)++#[]):=rfl
    have e:(#[]++#[x].map (ev N f)++#[])=#[v]:=by simp [hx]
    rw [e1,e]; exact C.enter _ _
  rcases (show RowOk w H v T 1 xs.length from S.ents _ (List.mem_of_getElem? hi)) with ⟨rfl,hn⟩ | ⟨g,cap,cur,rfl,hc,hnc,hcm,hcs,hH⟩
  · refine WL.enterw (w':=w) (hrun w) (Calls.mono (C.none _ _ _) fun e w' ⟨he,hw'⟩=>⟨_,he,?_⟩)
    subst hw'
    have hxs:xs=[]:=List.length_eq_zero_iff.1 hn
    subst hxs
    refine K _ H S.post.le ?_ (by rw [hset]; exact S)
    simpa [sortS] using hR
  · have hrow:=zLL S.holds hc hR
    have hg:g<w.heap.size:=(Array.getElem?_eq_some_iff.1 hc).1
    refine WL.enterw (w':=w) (hrun w) (Calls.mono (C.some g 0 cap xs w hrow hg (by simp only [big] at hbig; omega)) fun e w' ⟨he,n,os,hw'⟩=>⟨_,he,?_⟩)
    have hd:(sortS xs).toArray.size=xs.length:=by simp [zF8]
    obtain ⟨cur',hg',hsz',htk⟩:=zK2 (w:=Sort.ahead w n) (g:=g) (d:=(sortS xs).toArray) hc (by rw [hd]; omega)
    have hsz2:w'.heap.size=w.heap.size+os.size:=by rw [hw']; simp
    have hgrow:∀ k,k<w.heap.size→w'.heap[k]?=(Sort.putRow Proofs.encStr (Sort.ahead w n) g 0 (sortS xs).toArray).heap[k]?:=by
      intro k hk
      rw [hw']
      show (_++os)[k]?=_
      rw [Array.getElem?_append_left (by simpa using hk)]
      rfl
    obtain ⟨H',hle,hH',S'⟩:=S.turnRow hw hi (w':=w') (n':=xs.length) (cur':=cur') (fun k hk hlt=>by rw [hgrow k hlt,zKL hk]; rfl) (by omega) (by rw [hw']; exact ⟨rfl,rfl,rfl⟩) (by rw [hgrow g hg]; exact hg') (by rw [hsz',hcs]) hnc hcm
    refine K w' H' hle ?_ (by rw [zF8]; exact S')
    refine ⟨some ⟨g,0,none⟩,cap,by rw [zF8],by rw [zF8]; exact hnc,hcm,?_⟩
    refine .inr ⟨g,0,(sortS xs).map str,rfl,⟨T,_,rfl,hH',[],?_⟩,zH7⟩
    rw [hd] at htk
    rw [List.drop_zero,Nat.mul_one,htk,List.append_nil]
structure CompactCon (P:Program) (k:FuncId):Prop where
  enter:∀ (args:Array Value) (w:World),(callFunc k args).run P w=.ok (.enter k args) w
  none:∀ (a:Option Addr) (cap:Nat) (w:World),Calls P k #[.slice a 0 cap] w fun e w'=>e=.returned (.slice a 0 cap)∧w'=w
  some:∀ (blk off cap:Nat) (zs:List Str) (w:World),Sort.Holds Proofs.encStr w blk off zs.toArray→zs.length≤9223372036854775807→zs.length≤cap →
    Calls P k #[.slice (some ⟨blk,off,.none⟩) zs.length cap] w fun e w'=>e=.returned (.slice (some ⟨blk,off,.none⟩) (Lib.compact zs).length cap)∧∃ q,w'=Sort.putRow Proofs.encStr (Sort.ahead w q) blk off (Lib.compact zs++List.replicate (zs.length - (Lib.compact zs).length) []).toArray
theorem zMY (l:List Str):(Lib.compact l).length≤l.length:=by
  unfold Lib.compact Lib.compactUpTo
  rw [List.length_map]
  exact Nat.le_trans (List.length_filter_le _ _) (by simp)
theorem W.compactRow {k : FuncId} {x : Operand} {ats : Array TypeId} {v : Value} {xs ys : List Str} {i : Nat} {T : TypeId} (C : CompactCon P k) (hw : Holds w0 H0) (S : St w0 H0 w H L) (hi : L[i]? = some (.row v T 1 xs.length)) (hx : ev N f x = v) (hR : Sl H v xs)
    (h:slices_Compact_string xs=some ys)
    (K:∀ v' w' H',H0.le H'→Sl H' v' ys→St w0 H0 w' H' (L.set i (.row v' T 1 ys.length))→WL P N ops rest Q (updo f od v') w'):WL P N ops (⟨od,.call ⟨.value (.func k),#[x],ats⟩,ty,pos,af,none⟩ :: rest) Q f w:=by
  obtain rfl:Lib.compact xs=ys:=by unfold slices_Compact_string at h; exact Option.some.inj h
  have hrun:∀ w,(execOp (ev N f) ⟨od,.call ⟨.value (.func k),#[x],ats⟩,ty,pos,af,.none⟩).run P w=.ok (.enter k #[v]) w:=by
    intro w
    have e1:(execOp (ev N f) ⟨od,.call ⟨.value (.func k),#[x],ats⟩,ty,pos,af,.none⟩)=callFunc k (#[]++#[x].map (ev N f)++#[]):=rfl
    have e:(#[]++#[x].map (ev N f)++#[])=#[v]:=by simp [hx]
    rw [e1,e]; exact C.enter _ _
  rcases (show RowOk w H v T 1 xs.length from S.ents _ (List.mem_of_getElem? hi)) with ⟨rfl,hn⟩ | ⟨g,cap,cur,rfl,hc,hnc,hcm,hcs,hH⟩
  · refine WL.enterw (w':=w) (hrun w) (Calls.mono (C.none _ _ _) fun e w' ⟨he,hw'⟩=>⟨_,he,?_⟩)
    subst hw'
    have hxs:xs=[]:=List.length_eq_zero_iff.1 hn
    subst hxs
    have hz:Lib.compact ([]:List Str)=[]:=rfl
    have hset:L.set i (.row (.slice none 0 0) T 1 (Lib.compact ([]:List Str)).length)=L:=by
      apply List.ext_getElem?
      intro j
      by_cases hij:i=j
      · subst hij; rw [List.getElem?_set_self (List.getElem?_eq_some_iff.1 hi).1,hi]; rfl
      · rw [List.getElem?_set_ne hij]
    exact K _ _ H S.post.le (by rw [hz]; exact hR) (by rw [hset]; exact S)
  · have hrow:=zLL S.holds hc hR
    have hg:g<w.heap.size:=(Array.getElem?_eq_some_iff.1 hc).1
    refine WL.enterw (w':=w) (hrun w) (Calls.mono (C.some g 0 cap xs w hrow (by simp only [maxLen] at hcm; omega) hnc) fun e w' ⟨he,n,hw'⟩=>⟨_,he,?_⟩)
    have hcl:=zMY xs
    have hd:(Lib.compact xs++List.replicate (xs.length - (Lib.compact xs).length) ([]:Str)).toArray.size=xs.length:=by simp; omega
    obtain ⟨cur',hg',hsz',htk⟩:=zK2 (w:=Sort.ahead w n) (g:=g) (d:=(Lib.compact xs++List.replicate (xs.length - (Lib.compact xs).length) ([]:Str)).toArray) hc (by rw [hd]; omega)
    obtain ⟨H',hle,hH',S'⟩:=S.turnRow hw hi (w':=w') (n':=(Lib.compact xs).length) (cur':=cur') (fun k hk hlt=>by rw [hw',zKL hk]; rfl) (by rw [hw']; simp) (by rw [hw']; exact ⟨rfl,rfl,rfl⟩) (by rw [hw']; exact hg') (by rw [hsz',hcs]) (by omega) hcm
    refine K _ w' H' hle ?_ S'
    refine ⟨some ⟨g,0,none⟩,cap,rfl,by omega,hcm,?_⟩
    refine .inr ⟨g,0,(Lib.compact xs).map str,rfl,⟨T,_,rfl,hH',[],?_⟩,zH7⟩
    rw [hd] at htk
    have:cur'.toList.take (Lib.compact xs).length=(Lib.compact xs).map str:=by
      have h2:=congrArg (List.take (Lib.compact xs).length) htk
      rw [List.take_take,Nat.min_eq_left hcl] at h2
      rw [h2]
      simp
    rw [List.drop_zero,Nat.mul_one,this,List.append_nil]
section
variable {n:Nat} {listed:Array Bool}
theorem WA.two {i j : Nat} {o o' : Oper} (l1 l2 : Array Bool) (hi : ops[i]? = some o) (hj : ops[j]? = some o') (hr : Region.ready .any ops listed = [i, j]) (h1 : listed.setIfInBounds i true = l1) (h2 : listed.setIfInBounds j true = l2)
    (k1:WL P N ops [o] (fun f' w'=>WA P N ops n l1 Q f' w') f w) (k2:WL P N ops [o'] (fun f' w'=>WA P N ops n l2 Q f' w') f w):WA P N ops (n+1) listed Q f w:=by
  subst h1; subst h2
  refine wpAny_all hr (by simp) fun q hq=>?_
  have key:∀ (q:Nat) (o:Oper),ops[q]?=some o→WL P N ops [o] (fun f' w'=>WA P N ops n (listed.setIfInBounds q true) Q f' w') f w→wpOp P ops (fun e a w'=>∃ f',a=act N f'∧e=.normal∧Q f' w') q (wpAny P .any ops (fun e a w'=>∃ f',a=act N f'∧e=.normal∧Q f' w') n (listed.setIfInBounds q true)) (act N f) w:=by
    intro q o hq h
    unfold wpOp
    rw [hq]
    have h':wpList P ops (fun e a w'=>∃ f',a=act N f'∧e=.normal∧WA P N ops n (listed.setIfInBounds q true) Q f' w') [o] (act N f) w:=h.out
    unfold wpList at h'
    show if Region.wanted o (yielded ops (act N f).tmps)=true then _ else _
    split
    · rename_i hw
      rw [if_pos hw] at h'
      rcases h' with h' | ⟨_,a0,w0,f0,_,he,_⟩
      · refine .inl (Oper.wp_monoQ (fun a w hk=>?_) (fun e a w hne ⟨f',ha,he,_⟩=>absurd he hne) h')
        obtain ⟨f',ha,_,hq⟩:=hk
        subst ha; exact hq
      · cases he
    · rename_i hw
      rw [if_neg hw] at h'
      obtain ⟨f',ha,_,hq⟩:=h'
      rw [ha]; exact hq
  rcases List.mem_cons.1 hq with rfl | hq
  · exact key _ _ hi k1
  · rcases List.mem_singleton.1 hq with rfl
    exact key _ _ hj k2
end
end
end Go.Eng
namespace Go.Eng
open Go Go.RowKit
def strconv_Itoa (n:Int):Option Str:=if -9223372036854775808≤n∧n≤9223372036854775807 then some (Lib.itoa n) else none
theorem zMj (w:World) (k:Nat) (os:Array Obj):Below w.heap.size w (Sort.grow (w.drewN k) os) :=
  ⟨rfl,rfl,rfl,by show w.heap.size≤(w.heap++os).size; rw [Array.size_append]; omega,fun j hj=>by
    show (w.heap++os)[j]?=w.heap[j]?
    rw [Array.getElem?_append_left hj]⟩
theorem zR4 {P : Program} {k : FuncId} {fn : Func} {c : Code} {w : World} {H : Hp} {n : Int} {r : Str} (hf : P.funcs[k]? = some fn) (hb : fn.body = some c) (hname : (fn.name == "runtime.NumGoroutine") = false) (hw : Holds w H)
    (htab:Lib.TabIs P w "internal/strconv.uint64pow10" .u64 Lib.pow10Tab) (h:strconv_Itoa n=some r)
    (hc:∀ (n:Int),-9223372036854775808≤n→n≤9223372036854775807→∀ (w:World),Lib.TabIs P w "internal/strconv.uint64pow10" .u64 Lib.pow10Tab →
      Calls P k #[.int .i64 n] w fun e w'=>e=.returned (.string ⟨(Lib.itoa n).toArray⟩)∧∃ k os,w'=Sort.grow (w.drewN k) os) :
    Con P k [int n] w H (fun _ u=>u=str r):=by
  unfold strconv_Itoa at h
  split at h
  case isFalse=>cases h
  rename_i h0
  simp only [Option.some.injEq] at h
  subst h
  refine Con.of_calls hf hb hname hw (Calls.mono (hc n h0.1 h0.2 w htab) fun _ _ ⟨he,q,os,hp⟩=>⟨he,?_⟩)
  subst hp
  exact zMj w q os
theorem zOn {P:Program} {w w':World} {g:Nat} {n:String} {cs:Array Value} {B:Nat} (hg:P.globalNamed n=some g) (h:w.var? P n=some cs) (hb:Below B w w') (hB:g<B):w'.var? P n=some cs:=by
  unfold World.var? at *
  rw [hg] at h ⊢
  simp only [Option.bind_some] at h ⊢
  rw [hb.block g hB]; exact h
theorem zSL {P:Program} {w:World} {g:Nat} {n:String} {cs:Array Value} (hg:P.globalNamed n=some g) (h:w.var? P n=some cs):g<w.heap.size:=by
  unfold World.var? at h
  rw [hg] at h
  simp only [Option.bind_some] at h
  cases hh:w.heap[g]? with
  | none=>rw [hh] at h; cases h
  | some o=>exact (Array.getElem?_eq_some_iff.1 hh).1
theorem zQ9 {P:Program} {w0 w:World} {H0 H:Hp} {g:Nat} {n:String} {k:IntKind} {zs:List Int} (hg:P.globalNamed n=some g) (h:Lib.TabIs P w0 n k zs) (p:Post w0 H0 w H):Lib.TabIs P w n k zs :=
  zOn hg h p.below (zSL hg h)
theorem zLy {P : Program} {W : World} {name : String} {k : IntKind} {zs : List Int} {l : List (String × DataW Unit)} {g : Nat} {t e : TypeId} {n : Nat} (hm : (name, Lib.tabData k zs) ∈ l)
    (hg:P.globalNamed name=some g) (hty:(P.globals[g]?).map (·.type)=some t) (ht:P.underlying t=some (.array n e)) (he:P.underlying e=some (.int k)) (hce:P.cellsOf e=1) (hct:P.cellsOf t=n)
    (h:laidMet P l W):Lib.TabIs P W name k zs:=by
  obtain ⟨ps,hl,_⟩:=h
  have key:∀ (l:List (String×DataW Unit)) (ps:List MemPlace),(name,Lib.tabData k zs) ∈ l→DataW.LaidVars P W l ps→∃ ps',DataW.LaidVars P W [(name,Lib.tabData k zs)] ps':=by
    intro l
    induction l with
    | nil=>intro ps hm; cases hm
    | cons x l ih =>
      intro ps hm hl
      obtain ⟨nm,d⟩:=x
      obtain ⟨g,t,cs,fuel,p,q,h1,h2,h3,h4,h5,rfl⟩:=hl
      rcases List.mem_cons.1 hm with hm | hm
      · cases hm
        exact ⟨_,g,t,cs,fuel,p,[],h1,h2,h3,h4,rfl,rfl⟩
      · exact ih q hm h5
  obtain ⟨ps',hl'⟩:=key l ps hm hl
  obtain ⟨g',t',cs,fuel,p,q,hg',ht',hvar,hd,_,_⟩:=hl'
  obtain rfl:=Option.some.inj (hg.symm.trans hg')
  obtain rfl:=Option.some.inj (hty.symm.trans ht')
  unfold Lib.TabIs
  rw [hvar,← Lib.cells_of_tab ht he hce hct hd]
end Go.Eng
namespace Go.Eng
open Go Go.RowKit
def ConS (P:Program) (k:FuncId) (args:List Value) (w0:World) (H0:Hp) (w:World) (H:Hp) (L2:List Ent) (R:Hp→Value→List Ent→Prop):Prop :=
  (∀ w,(callFunc k args.toArray).run P w=.ok (.enter k args.toArray) w) ∧
  Calls P k args.toArray w (fun e w'=>∃ v H' L',e=.returned v∧H.le H'∧St w0 H0 w' H' (L'++L2)∧R H' v L')
def OutS (P:Program) (fn:Func) (N:Frm) (w0:World) (H0 H:Hp) (L2:List Ent) (R:Hp→Value→List Ent→Prop):Exit→Fr→World→Prop:=fun e f w =>
  (e=.ret∨e=.normal)∧∃ v,(results fn (tm N f)).run P w=.ok v w∧∃ H' L',H.le H'∧St w0 H0 w H' (L'++L2)∧R H' v L'
section
variable {P:Program} {N:Frm} {f:Fr} {w w1 w0:World} {H0 H1 H:Hp} {L L2 L':List Ent} {ops:Array Oper} {rest:List Oper} {Q:Fr→World→Prop} {d:Nat} {od:Option Nat} {ty:TypeId} {pos:String} {af:Array Edge} {g:Option (Nat×Bool)}
theorem ConS.mk {N : Nat} {fn : Func} {c : Code} {k : FuncId} {args : List Value} {R : Hp → Value → List Ent → Prop} (hf : P.funcs[k]? = some fn) (hb : fn.body = some c) (hn : fn.ntmps = N) (hname : (fn.name == "runtime.NumGoroutine") = false)
    (hsz:Nat.ble args.length N=true) (h:WP P ⟨N,[]⟩ c (OutS P fn ⟨N,[]⟩ w0 H0 H L2 R) (init args) w):ConS P k args w0 H0 w H L2 R:=by
  refine ⟨fun w=>?_,?_⟩
  · simp only [callFunc,Sem.run_bind,run_program,Result.andThen_ok,hf,hname,hb]
    rfl
  · refine calls_of_wp hf hb ?_
    have hle:args.length≤N:=Nat.le_of_ble_eq_true hsz
    have e:({ tmps:=args.toArray++Array.replicate (fn.ntmps - args.toArray.size) undef,defers:=[] }:Act)=act ⟨N,[]⟩ (init args):=by
      simp only [act]
      congr 1
      apply Array.ext_getElem?
      intro t
      rw [zE6,hn,Array.getElem?_append]
      simp only [List.size_toArray,List.getElem?_toArray,init,List.getD_eq_getElem?_getD]
      by_cases h1:t<args.length
      · simp [h1,show t<N from by omega]
      · simp only [h1,if_false]
        rw [Array.getElem?_replicate]
        by_cases h2:t<N
        · rw [if_pos (by omega),if_pos h2,List.getElem?_eq_none (by omega)]; rfl
        · rw [if_neg (by omega),if_neg h2]
    rw [e]
    refine Code.wp_mono (fun e a w' ⟨f',ha,he,v,hv,H',L',hle,hS,hr⟩=>?_) h
    subst ha
    rcases he with rfl | rfl
    · exact ⟨rfl,v,hv,v,H',L',rfl,hle,hS,hr⟩
    · exact ⟨rfl,v,hv,v,H',L',rfl,hle,hS,hr⟩
theorem W.callS {k : FuncId} {xs : List Operand} {ats : Array TypeId} {args : List Value} {R : Hp → Value → List Ent → Prop} (ha : xs.map (ev N f) = args) (C : ConS P k args w0 H0 w H L2 R)
    (K:∀ v w' H' L',H.le H'→St w0 H0 w' H' (L'++L2)→R H' v L'→WL P N ops rest Q (updo f od v) w'):WL P N ops (⟨od,.call ⟨.value (.func k),xs.toArray,ats⟩,ty,pos,af,none⟩ :: rest) Q f w:=by
  refine WL.enterw (w':=w) (k:=k) (args:=args.toArray) ?_ (Calls.mono C.2 fun e w' ⟨v,H',L',he,hp,hS,hv⟩=>⟨v,he,K v w' H' L' hp hS hv⟩)
  have:(execOp (ev N f) ⟨od,.call ⟨.value (.func k),xs.toArray,ats⟩,ty,pos,af,none⟩)=callFunc k (#[]++xs.toArray.map (ev N f)++#[]):=rfl
  rw [this]
  have e:(#[]++xs.toArray.map (ev N f)++#[])=args.toArray:=by simp [ha]
  rw [e]
  exact C.1 w
theorem W.callvS {k : FuncId} {x : Operand} {xs : List Operand} {ats : Array TypeId} {args caps : List Value} {R : Hp → Value → List Ent → Prop} (hx : ev N f x = .func (.func k) #[] caps.toArray) (ha : xs.map (ev N f) = args) (C : ConS P k (args ++ caps) w0 H0 w H L2 R)
    (K:∀ v w' H' L',H.le H'→St w0 H0 w' H' (L'++L2)→R H' v L'→WL P N ops rest Q (updo f od v) w'):WL P N ops (⟨od,.call ⟨.value x,xs.toArray,ats⟩,ty,pos,af,none⟩ :: rest) Q f w:=by
  refine WL.enterw (w':=w) (k:=k) (args:=(args++caps).toArray) ?_ (Calls.mono C.2 fun e w' ⟨v,H',L',he,hp,hS,hv⟩=>⟨v,he,K v w' H' L' hp hS hv⟩)
  have e:xs.toArray.map (ev N f)++caps.toArray=(args++caps).toArray:=by simp [ha]
  have:(execOp (ev N f) ⟨od,.call ⟨.value x,xs.toArray,ats⟩,ty,pos,af,none⟩).run P w=(callFunc k (#[]++xs.toArray.map (ev N f)++caps.toArray)).run P w:=by
    simp [execOp,resolve,hx,Deferred.ofValue,invoke]
  rw [this,Array.empty_append,e]
  exact C.1 w
theorem zLm {fn:Func} (hr:fn.results=#[]) (tmps:Array Value):(results fn tmps).run P w=.ok (.tuple #[]) w:=by
  rw [zCw,hr]
  simp only [List.mapM_toArray,List.mapM_nil,Sem.run_bind,Sem.run_map,Sem.run_pure,Result.andThen_ok]
  rfl
theorem OutS.zero {fn:Func} {R:Hp→Value→List Ent→Prop} {e:Exit} (he:e=.ret∨e=.normal) (hr:fn.results=#[]) (hle:H1.le H) (S:St w0 H0 w H (L'++L2)) (hR:R H (.tuple #[]) L'):OutS P fn N w0 H0 H1 L2 R e f w :=
  ⟨he,_,zLm hr _,H,L',hle,S,hR⟩
theorem OutS.one {fn:Func} {r:ResultVar} {v:Value} {R:Hp→Value→List Ent→Prop} (hr:fn.results=#[r]) (hle:H1.le H) (S:St w0 H0 w H (L'++L2)) (h:Res P N f w r v) (hR:R H v L'):OutS P fn N w0 H0 H1 L2 R .ret f w:=by
  refine ⟨.inl rfl,v,?_,H,L',hle,S,hR⟩
  have:=zAm h
  rw [zCw,hr]
  simp only [List.mapM_toArray,List.mapM_cons,List.mapM_nil,Sem.run_bind,Sem.run_map,this,Result.andThen_ok,Sem.run_pure]
  rfl
theorem OutS.two {fn:Func} {r1 r2:ResultVar} {v1 v2:Value} {R:Hp→Value→List Ent→Prop} (hr:fn.results=#[r1,r2]) (hle:H1.le H) (S:St w0 H0 w H (L'++L2)) (h1:Res P N f w r1 v1) (h2:Res P N f w r2 v2) (hR:R H (.tuple ⟨[v1,v2]⟩) L'):OutS P fn N w0 H0 H1 L2 R .ret f w:=by
  refine ⟨.inl rfl,_,?_,H,L',hle,S,hR⟩
  have h1:=zAm h1
  have h2:=zAm h2
  rw [zCw,hr]
  simp only [List.mapM_toArray,List.mapM_cons,List.mapM_nil,Sem.run_bind,Sem.run_map,h1,h2,Result.andThen_ok,Sem.run_pure]
  rfl
theorem St.front (S:St w0 H0 w H L) (i:Nat) {e:Ent} (hi:L[i]?=some e):St w0 H0 w H (e :: L.eraseIdx i):=by
  have hm:=List.mem_of_getElem? hi
  refine ⟨S.post,?_,?_,?_⟩
  · intro x hx
    rcases List.mem_cons.1 hx with rfl | hx
    · exact S.ents _ hm
    · exact S.ents _ ((List.eraseIdx_sublist _ _).subset hx)
  · intro x hx
    rcases List.mem_cons.1 hx with rfl | hx
    · exact S.own _ hm
    · exact S.own _ ((List.eraseIdx_sublist _ _).subset hx)
  · have hp : ∀ (L : List Ent) (i : Nat), L[i]? = some e → List.Perm (e :: L.eraseIdx i) L := by
      intro L
      induction L with
      | nil=>intro i hi; simp at hi
      | cons x L ih =>
        intro i hi
        cases i with
        | zero=>simp at hi; subst hi; simp
        | succ i =>
          simp at hi
          rw [List.eraseIdx_cons_succ]
          exact (List.Perm.swap x e _).trans ((ih i hi).cons x)
    exact ((hp L i hi).filterMap Ent.blk).nodup_iff.2 S.nodup
end
end Go.Eng
namespace Go.Eng
open Go
def iand (a b:Int):Int:=IntKind.wrap .i64 ((BitVec.ofInt 64 a &&& BitVec.ofInt 64 b).toNat:Int)
def band (a b:UInt8):UInt8:=a &&& b
section
variable {P:Program} {N:Frm} {f:Fr} {w:World} {d:Option Nat} {ty:TypeId} {pos:String} {af:Array Edge} {g:Option (Nat×Bool)}
theorem R.and {x y:Operand} {a b:Int} {T T':TypeId} (hx:ev N f x=int a) (hy:ev N f y=int b):(execOp (ev N f) ⟨d,.binOp .and T x y T',ty,pos,af,g⟩).run P w=.ok (.value (int (iand a b))) w:=by
  simp [execOp,eqGuard,hx,hy,int,binOp,Op.intBits,iand]
  rfl
theorem R.and8 {x y:Operand} {a b:UInt8} {T T':TypeId} (hx:ev N f x=byt a) (hy:ev N f y=byt b):(execOp (ev N f) ⟨d,.binOp .and T x y T',ty,pos,af,g⟩).run P w=.ok (.value (byt (band a b))) w:=by
  have e:IntKind.wrap .u8 ((BitVec.ofInt 8 (a.toNat:Int) &&& BitVec.ofInt 8 (b.toNat:Int)).toNat:Int)=((a &&& b).toNat:Int):=by
    have h1:(BitVec.ofInt 8 (a.toNat:Int) &&& BitVec.ofInt 8 (b.toNat:Int)).toNat=(a &&& b).toNat:=by
      rw [BitVec.toNat_and,UInt8.toNat_and]
      have ha:=a.toNat_lt; have hb:=b.toNat_lt
      congr 1 <;> (rw [BitVec.ofInt_natCast,BitVec.toNat_ofNat]; omega)
    rw [h1,wrap_u8,toU8]
    have hc:=(a &&& b).toNat_lt
    rw [UInt8.toNat_ofNat']; omega
  simp only [execOp,eqGuard,hx,hy,byt,binOp,Op.intBits,band]
  simp
  exact e
end
end Go.Eng
namespace Go.Eng
open Go
section
variable {P:Program} {N:Frm} {f:Fr} {w w0:World} {H0 H:Hp} {L:List Ent} {ops:Array Oper} {rest:List Oper} {Q:Fr→World→Prop} {d:Nat} {od:Option Nat} {ty:TypeId} {pos:String} {af:Array Edge}
theorem W.storeSl {α : Type} [Enc α] {T T' : TypeId} {a x : Operand} {b o i : Nat} {bb : Bool} {u : Value} {xs : List α} {cs : List Value} (cs' : List Value) (S : St w0 H0 w H L) (R : Sl H u xs) (ha : ev N f a = ptr b o) (hx : ev N f x = u) (hi : L[i]? = some (.box b T' cs)) (hT : lay P T = some (bb, 1))
    (ho:o+1≤cs.length) (hc:zC9 cs o [u]=cs')
    (k:∀ w',St w0 H0 w' H (L.set i (.box b T' cs'))→WL P N ops rest Q (updo f od undef) w'):WL P N ops (⟨od,.store T a x,ty,pos,af,none⟩ :: rest) Q f w :=
  W.store cs' S ha hx hi hT (by rw [Sl.cellsOne R]; rfl) (by rw [Sl.cellsOne R]; simp [Sl.oneC R]) ho (by rw [Sl.cellsOne R]; exact hc) k
end
end Go.Eng
namespace Go.Eng
open Go
variable {P:Program} {md:Region.Mode} {ops:Array Oper} {Q:Exit→Act→World→Prop} {C:World→Prop}
def wpAnyC (P:Program) (md:Region.Mode) (ops:Array Oper) (C:World→Prop) (Q:Exit→Act→World→Prop):Nat→Array Bool→Act→World→Prop
  | 0,listed,a,w=>C w∧Region.ready md ops listed=[]∧Q .normal a w
  | n + 1, listed, a, w => C w ∧ (Region.ready md ops listed = [] → Q .normal a w) ∧
      ∀ i ∈ Region.ready md ops listed,wpOp P ops Q i (wpAnyC P md ops C Q n (listed.setIfInBounds i true)) a w
theorem wpAnyC.cls:∀ {n:Nat} {listed:Array Bool} {a:Act} {w:World},wpAnyC P md ops C Q n listed a w→C w
  | 0,_,_,_,h=>h.1
  | _+1,_,_,_,h=>h.1
theorem wpAnyC.any:∀ {n:Nat} {listed:Array Bool} {a:Act} {w:World},wpAnyC P md ops C Q n listed a w→wpAny P md ops Q n listed a w
  | 0,_,_,_,h=>h.2
  | _+1,_,_,_,h=>⟨h.2.1,fun i hi=>wpOp_mono (fun _ _ h=>wpAnyC.any h) (h.2.2 i hi)⟩
def YieldsC (P:Program) (ops:Array Oper) (C:World→Prop) (o:Oper) (v:Value) (a:Act):Prop :=
  (Region.wanted o (yielded ops a.tmps)=true∧∀ w,C w→(execOp a.eval o).run P w=.ok (.value v) w) ∨
  (Region.wanted o (yielded ops a.tmps)=false∧v=undef)
theorem YieldsC.wpOp {i : Nat} {o : Oper} {v : Value} {a : Act} (hi : ops[i]? = some o) (hy : YieldsC P ops C o v a)
    {K:Act→World→Prop} {w:World} (hC:C w) (h:K (a.put o.dst v) w):wpOp P ops Q i K a w:=by
  unfold Go.wpOp
  simp only [hi]
  rcases hy with ⟨hw,hv⟩ | ⟨hw,rfl⟩
  · simp only [hw,if_true,Oper.wp,hv w hC,Oper.upon]; exact .inl h
  · simp only [hw,Bool.false_eq_true,if_false]; exact h
theorem YieldsC.of_same {o : Oper} {v : Value} {a a' : Act} (hy : YieldsC P ops C o v a) (he : execOp a'.eval o = execOp a.eval o)
    (hw:Region.wanted o (yielded ops a'.tmps)=Region.wanted o (yielded ops a.tmps)):YieldsC P ops C o v a':=by
  unfold YieldsC at *
  rw [he,hw]
  exact hy
theorem zL5 {j : Nat} {oi oj : Oper} {v : Value} (hj : ops[j]? = some oj) (hap : oi.apart ops oj = true)
    (hsi:∀ cs b,oi.op≠.select cs b) (hsj:∀ cs b,oj.op≠.select cs b)
    (hQ:∀ c a w,Q (.panic c) (a.put oi.dst v) w→Q (.panic c) a w) {K:Act→World→Prop} {a:Act} {w:World}
    (hy:YieldsC P ops C oi v a) (h:wpOp P ops Q j K (a.put oi.dst v) w) :
    wpOp P ops Q j (fun a' w'=>YieldsC P ops C oi v a'∧K (a'.put oi.dst v) w') a w:=by
  obtain ⟨h1,h2,h3⟩:=Oper.apart_spec hap
  have keep:∀ (a:Act),YieldsC P ops C oi v a→∀ u,YieldsC P ops C oi v (a.put oj.dst u):=fun a hy u =>
    hy.of_same (execOp_put oi hsi a oj.dst u h3) (wanted_put oi a oj.dst u h3)
  have keepD:∀ d,YieldsC P ops C oi v { a with defers:=d :: a.defers }:=fun d=>hy.of_same rfl rfl
  unfold wpOp at *
  simp only [hj] at *
  rw [wanted_put oj a oi.dst v h1] at h
  split
  · rename_i hw
    simp only [hw,if_true] at h
    rcases h with h | ⟨hasks,hlets⟩
    case inr=>exact .inr ⟨by unfold Oper.asks at *; rw [execOp_put oj hsj a oi.dst v h1] at hasks; exact hasks,hlets⟩
    refine .inl ?_
    unfold Oper.wp at *
    rw [execOp_put oj hsj a oi.dst v h1] at h
    generalize (execOp a.eval oj).run P w=r at *
    cases r with
    | ok n w' =>
      cases n <;> simp only [Oper.upon] at h ⊢
      case value u=>exact ⟨keep a hy u,by rw [← Act.put_comm a v u h2]; exact h⟩
      case skip=>exact ⟨keep a hy _,by rw [← Act.put_comm a v undef h2]; exact h⟩
      case defer d =>
        refine ⟨keep _ (keepD d) _,?_⟩
        rw [← Act.put_comm _ v undef h2,← Act.put_defers]
        exact h
      case enter f args =>
        refine Calls.mono h fun e w'' he=>?_
        cases e with
        | returned u=>exact ⟨keep a hy u,by rw [← Act.put_comm a v u h2]; exact he⟩
        | panicked c=>exact hQ _ _ _ he
        | outgrown=>exact he
      case row row args=>exact Rows.mono h fun u w'' he=>⟨keep a hy u,by rw [← Act.put_comm a v u h2]; exact he⟩
    | halt x w' =>
      cases x <;> simp only [Oper.upon] at h ⊢
      case panic u=>exact hQ _ _ _ h
  · rename_i hw
    simp only [hw] at h
    exact ⟨keep a hy _,by rw [← Act.put_comm a v undef h2]; exact h⟩
theorem zLS {i : Nat} {oi : Oper} {v : Value} (hi : ops[i]? = some oi) (hsel : ∀ (j : Nat) (o : Oper) cs b, ops[j]? = some o → o.op ≠ .select cs b)
    (hQ:∀ c a w,Q (.panic c) (a.put oi.dst v) w→Q (.panic c) a w) :
    ∀ (fuel:Nat) (listed:Array Bool) (a:Act) (w:World),
      (∀ j oj,ops[j]?=some oj→j≠i→listed.getD j true=false→(∀ e ∈ oj.after,Region.binds md e=true→e.on≠i)→oi.apart ops oj=true) →
      i ∈ Region.ready md ops listed→YieldsC P ops C oi v a →
      wpAnyC P md ops C Q fuel (listed.setIfInBounds i true) (a.put oi.dst v) w→wpAnyC P md ops C Q (fuel+1) listed a w:=by
  intro fuel
  induction fuel with
  | zero =>
    intro listed a w _ hr hy H
    refine ⟨H.cls,fun h=>(by rw [h] at hr; cases hr),fun j hj=>?_⟩
    by_cases hji:j=i
    · subst hji; exact hy.wpOp hi H.cls H
    · have:=ready_mono hj hji
      rw [H.2.1] at this
      cases this
  | succ fuel ih =>
    intro listed a w hfree hr hy H
    refine ⟨H.cls,fun h=>(by rw [h] at hr; cases hr),fun j hj=>?_⟩
    by_cases hji:j=i
    · subst hji; exact hy.wpOp hi H.cls H
    · have h1:=H.2.2 j (ready_mono hj hji)
      obtain ⟨hjun,oj,hoj,hall⟩:=mem_ready.1 hj
      have hnot:∀ e ∈ oj.after,Region.binds md e=true→e.on≠i:=fun e he hb heq=>by
        have h1:=hall e he hb
        have h0:=(mem_ready.1 hr).1
        rw [heq] at h1
        rcases Nat.lt_or_ge i listed.size with h' | h'
        · simp [h'] at h0 h1; rw [h0] at h1; cases h1
        · simp [Array.getElem?_eq_none h'] at h1
      have h2:=zL5 hoj (hfree j oj hoj hji hjun hnot) (fun cs b=>hsel i oi cs b hi) (fun cs b=>hsel j oj cs b hoj) hQ hy h1
      have hfree' : ∀ k ok, ops[k]? = some ok → k ≠ i → (listed.setIfInBounds j true).getD k true = false →
          (∀ e ∈ ok.after,Region.binds md e=true→e.on≠i)→oi.apart ops ok=true:=fun k ok hk hki hun hno=>by
        refine hfree k ok hk hki ?_ hno
        by_cases hjk:j=k
        · subst hjk; exact hjun
        · rw [getD_set_ne true hjk] at hun; exact hun
      refine wpOp_mono (fun a' w' h3=>ih (listed.setIfInBounds j true) a' w' hfree' (ready_mono hr (Ne.symm hji)) h3.1 ?_) h2
      rw [Array.setIfInBounds_comm _ _ hji]
      exact h3.2
structure WC (P:Program) (N:Frm) (ops:Array Oper) (C:World→Prop) (n:Nat) (listed:Array Bool) (Q:Fr→World→Prop) (f:Fr) (w:World):Prop where
  out:wpAnyC P .any ops C (fun e a w'=>∃ f',a=act N f'∧e=.normal∧Q f' w') n listed (act N f) w
section
variable {N:Frm} {f:Fr} {w w0:World} {H0 H:Hp} {L:List Ent} {Q:Fr→World→Prop} {n:Nat} {listed:Array Bool}
theorem WP.drawC {id:Nat} {Q:Exit→Fr→World→Prop} (C:World→Prop) (hm:P.follows .mixedOrders=true) (m:Nat) (hn:ops.size=m) (l0:Array Bool) (hl:Array.replicate m false=l0) (h:WC P N ops C m l0 (Q .normal) f w.drew):WP P N (.region id ops true) Q f w:=by
  subst hn; subst hl
  refine wp_region_any hm (zFe (fun e a w ⟨f',ha,he,hq⟩=>?_) _ _ _ _ h.out.any)
  subst he
  exact ⟨f',ha,hq⟩
theorem WC.take {i : Nat} {d : Option Nat} {op : Op} {ty : TypeId} {pos : String} {af : Array Edge} {v : Value} (listed' : Array Bool) (hi : ops[i]? = some ⟨d, op, ty, pos, af, none⟩) (hs : Region.noSelect ops = true) (hf : Region.free .any ops listed i = true)
    (hr:(Region.ready .any ops listed).contains i=true) (hl:listed.setIfInBounds i true=listed') (hrun:∀ w,C w→(execOp (ev N f) ⟨d,op,ty,pos,af,none⟩).run P w=.ok (.value v) w)
    (h:WC P N ops C n listed' Q (updo f d v) w):WC P N ops C (n+1) listed Q f w:=by
  subst hl
  refine ⟨zLS hi (Region.noSelect_spec hs) (fun c a w ⟨f',_,he,_⟩=>by cases he) n listed _ w (Region.free_spec hi hf) (by simpa using hr) (v:=v) (.inl ⟨by simp [Region.wanted],fun w hw=>?_⟩) ?_⟩
  · rw [zBl]; exact hrun w hw
  · show wpAnyC P .any ops C _ n _ ((act N f).put d v) w
    rw [zBe]; exact h.out
theorem zJ2 {j:Nat} {o:Oper} {K:Fr→World→Prop} {Q:Fr→World→Prop} (hi:ops[j]?=some o) (h:WL P N ops [o] K f w):wpOp P ops (fun e a w'=>∃ f',a=act N f'∧e=.normal∧Q f' w') j (fun a w'=>∃ f',a=act N f'∧K f' w') (act N f) w:=by
  unfold wpOp
  rw [hi]
  have h':wpList P ops (fun e a w'=>∃ f',a=act N f'∧e=.normal∧K f' w') [o] (act N f) w:=h.out
  unfold wpList at h'
  show if Region.wanted o (yielded ops (act N f).tmps)=true then _ else _
  split
  · rename_i hw
    rw [if_pos hw] at h'
    rcases h' with h' | ⟨_,a0,w0,f0,_,he,_⟩
    · refine .inl (Oper.wp_monoQ (fun a w hk=>?_) (fun e a w hne ⟨f',ha,he,_⟩=>absurd he hne) h')
      obtain ⟨f',ha,_,hq⟩:=hk
      exact ⟨f',ha,hq⟩
    · cases he
  · rename_i hw
    rw [if_neg hw] at h'
    obtain ⟨f',ha,_,hq⟩:=h'
    exact ⟨f',ha,hq⟩
def Nxt (P:Program) (N:Frm) (ops:Array Oper) (C:World→Prop) (n:Nat) (listed:Array Bool) (Q:Fr→World→Prop) (f:Fr) (w:World) (i:Nat):Prop :=
  ∃ o,ops[i]?=some o∧WL P N ops [o] (fun f' w'=>WC P N ops C n (listed.setIfInBounds i true) Q f' w') f w
theorem WC.next {rs:List Nat} (hC:C w) (hr:Region.ready .any ops listed=rs) (hne:rs≠[]) (h:∀ i ∈ rs,Nxt P N ops C n listed Q f w i):WC P N ops C (n+1) listed Q f w:=by
  subst hr
  refine ⟨hC,fun h0=>absurd h0 hne,fun i hi=>?_⟩
  obtain ⟨o,ho,hw⟩:=h i hi
  refine wpOp_mono (fun a w' ⟨f',ha,hq⟩=>?_) (zJ2 (Q:=Q) ho hw)
  subst ha; exact hq.out
theorem Nxt.mk {i:Nat} {o:Oper} (listed':Array Bool) (hi:ops[i]?=some o) (hl:listed.setIfInBounds i true=listed') (h:WL P N ops [o] (fun f' w'=>WC P N ops C n listed' Q f' w') f w):Nxt P N ops C n listed Q f w i:=by
  subst hl; exact ⟨o,hi,h⟩
theorem all1 {p:Nat→Prop} {a:Nat} (h:p a):∀ i ∈ [a],p i:=by intro i hi; rw [List.mem_singleton.1 hi]; exact h
theorem WC.done (hC:C w) (hr:Region.ready .any ops listed=[]) (h:Q f w):WC P N ops C n listed Q f w:=by
  refine ⟨?_⟩
  cases n with
  | zero=>exact ⟨hC,hr,f,rfl,rfl,h⟩
  | succ n=>exact ⟨hC,fun _=>⟨f,rfl,rfl,h⟩,by rw [hr]; simp⟩
end
end Go.Eng
namespace Go.Eng
open Go Go.RowKit
section
variable {α:Type} [Enc α] {P:Program} {w0 w:World} {H0 H:Hp} {L:List Ent}
theorem zGk {P : Program} (w : World) (t tx ty e : TypeId) (i : TypeInfo) (ht : P.underlying t = some (.slice e)) (hi : P.info? e = some i)
    (g sLen sCap:Nat) (cur:Array Value) (hg:w.heap[g]?=some (.cells cur e (0,0))) (x:Value) (n:Nat) (news:List Value) (hs:Src P i.size tx x n news w)
    (hroom:sLen+n≤sCap) (hfit:sLen*i.size+news.length≤cur.size) :
    (Builtin.append_ #[t,tx] ty #[.slice (some ⟨g,0,none⟩) sLen sCap,x]).run P w =
      .ok (.slice (some ⟨g,0,none⟩) (sLen+n) sCap) (w.setRow g (cur.toList.take (sLen*i.size)++news++cur.toList.drop (sLen*i.size+news.length)).toArray):=by
  have hst:=run_storeCells_at P g (sLen*i.size) e news 0 cur w hg (by simpa using hfit) hs.one
  simp only [Nat.add_zero] at hst
  rcases hs.kind with ⟨e',hk⟩ | hk <;> simp [Builtin.append_,run_underlying ht,run_underlying hk,sizeOf,typeInfo,hi,hs.len,hroom,hs.cells,Addr.add_lit,hst]
theorem St.appendSrc (S : St w0 H0 w H L) {i : Nat} {t tx ty e : TypeId} {v u : Value} {xs ys zs : List α} {ysC : List Value} (hE : Elem P t e (Enc.sz α)) (hi : L[i]? = some (.row v e (Enc.sz α) xs.length))
    (hx:Sl H v xs) (hs:Src P (Enc.sz α) tx u ys.length ysC w) (hyC:Cells H ysC ys) (hz:xapp xs ys=some zs) :
    ∃ v' w' H',(Builtin.append_ #[t,tx] ty #[v,u]).run P w=.ok v' w'∧H.le H'∧Sl H' v' zs∧St w0 H0 w' H' (L.set i (.row v' e (Enc.sz α) zs.length)):=by
  have hsz:=Enc.pos (α:=α)
  unfold xapp at hz
  split at hz
  case isFalse=>cases hz
  rename_i hbig
  simp only [Option.some.injEq] at hz
  subst hz
  by_cases hne:ys=[]
  · subst hne
    obtain ⟨a,c,rfl,h1,h2,h3⟩:=hx
    have h0:ysC=[]:=hyC
    subst h0
    obtain ⟨ht,inf,z,hinf,hzz,hsize,hzs,hbytes⟩:=hE
    refine ⟨_,w,H,run_append_nothing w t tx ty e inf ht hinf a xs.length c h1 u (by rw [hsize]; exact hs),Hp.le.refl _,?_,?_⟩
    · rw [List.append_nil]; exact ⟨a,c,rfl,h1,h2,h3⟩
    · rw [List.append_nil]
      have:L.set i (.row (.slice a xs.length c) e (Enc.sz α) xs.length)=L:=by
        have hlt:=(List.getElem?_eq_some_iff.1 hi).1
        exact List.ext_getElem? fun j=>by
          by_cases hj:i=j
          · subst hj; rw [List.getElem?_set_self hlt,hi]
          · rw [List.getElem?_set_ne hj]
      rw [this]; exact S
  have hyl:=hs.newsLen
  have hE':=hE
  obtain ⟨ht,inf,z,hinf,hzz,hsize,hzs,hbytes⟩:=hE'
  have hmem:=List.mem_of_getElem? hi
  have hrow:RowOk w H v e (Enc.sz α) xs.length:=S.ents _ hmem
  have hm:0<ys.length:=List.length_pos_iff.2 hne
  have hb2:(xs.length+ys.length)*inf.bytes≤140737488355328:=by
    have h1:=Nat.mul_le_mul hbig hbytes
    exact Nat.le_trans h1 (by simp [big])
  have h63:xs.length+ys.length≤maxLen:=Nat.le_trans hbig (by simp [big,maxLen])
  have h63':((xs.length+ys.length:Nat):Int)≤9223372036854775807:=by simp only [maxLen] at h63; omega
  have hlen:(xs++ys).length=xs.length+ys.length:=List.length_append
  obtain ⟨xsC,hxC,hxcell,hxl⟩:∃ xsC,Cells H xsC xs∧(∀ g n cap,v=.slice (some ⟨g,0,none⟩) n cap→H g=some (e,xsC)∧∀ j u,xsC[j]?=some u→w.cell? ((⟨g,0,none⟩:Addr).add j)=some u)∧xsC.length=xs.length*Enc.sz α:=by
    rcases hrow with ⟨rfl,h0⟩ | ⟨g,cap,cur,rfl,hg,hnc,hcm,hcs,hHg⟩
    · have:xs=[]:=List.eq_nil_of_length_eq_zero h0
      subst this
      exact ⟨[],rfl,(fun g n cap h=>by cases h),by simp⟩
    · by_cases hxe:xs=[]
      · subst hxe
        refine ⟨[],rfl,(fun g' n cap' h=>?_),by simp⟩
        simp only [Value.slice.injEq,Option.some.injEq,Addr.mk.injEq] at h
        obtain ⟨⟨rfl,_⟩,_⟩:=h
        refine ⟨by simpa using hHg,fun j u hu=>by simp at hu⟩
      · obtain ⟨a,c,hv,_,_,h3⟩:=hx
        rcases h3 with h3 | ⟨b,off,cs,ha,hat,hc⟩
        · exact absurd h3 hxe
        subst ha
        simp only [Value.slice.injEq,Option.some.injEq,Addr.mk.injEq] at hv
        obtain ⟨⟨rfl,rfl,_⟩,_,rfl⟩:=hv
        have hat':=hat
        obtain ⟨T',l,_,hHl,r,hr⟩:=hat
        have hTl:T'=e∧l=cur.toList.take (xs.length*Enc.sz α):=by
          have:H g=some (T',l):=hHl
          rw [hHg] at this
          simp at this
          exact ⟨this.1.symm,this.2.symm⟩
        have hcsl:=hc.length
        have hr0:r=[]:=by
          have h1:(l.drop 0).length=(cs++r).length:=congrArg List.length hr
          rw [hTl.2] at h1
          simp only [List.drop_zero,List.length_take,Array.length_toList,List.length_append,hcs,hcsl] at h1
          have:xs.length*Enc.sz α≤cap*Enc.sz α:=Nat.mul_le_mul_right _ hnc
          exact List.eq_nil_of_length_eq_zero (by omega)
        have hlcs:l=cs:=by simpa [hr0] using hr
        refine ⟨cs,hc,(fun g' n cap' h=>?_),hcsl⟩
        simp only [Value.slice.injEq,Option.some.injEq,Addr.mk.injEq] at h
        obtain ⟨⟨rfl,_⟩,_⟩:=h
        exact ⟨by rw [← hlcs,hHg,hTl.2],fun j u hu=>hat'.cell S.holds hu⟩
  have hxyC:Cells H (xsC++ysC) (xs++ys):=hxC.append hyC
  have hxylen:(xsC++ysC).length=(xs.length+ys.length)*Enc.sz α:=by rw [List.length_append,hxl,hyl,Nat.add_mul]
  have grown : ∀ (old : Nat), old < xs.length + ys.length →
      ∃ H',H.le H'∧Sl H' (.slice (some ⟨w.heap.size,0,none⟩) (xs.length+ys.length) (grownCap w (xs.length+ys.length) old e)) (xs++ys) ∧
        St w0 H0 (w.drew.alloc (.cells ((xsC++ysC).toArray++Builtin.zeroCells z.cells (grownCap w (xs.length+ys.length) old e - (xs.length+ys.length))) e)) H'
          (L.set i (.row (.slice (some ⟨w.heap.size,0,none⟩) (xs.length+ys.length) (grownCap w (xs.length+ys.length) old e)) e (Enc.sz α) (xs++ys).length)):=by
    intro old hold
    have hge:=grownCap_ge w (xs.length+ys.length) old e
    have hcm:grownCap w (xs.length+ys.length) old e≤maxLen:=grownCap_le_maxLen w (xs.length+ys.length) old e h63
    generalize grownCap w (xs.length+ys.length) old e=cap at *
    have S1:=S.drew.box e ((xsC++ysC).toArray++Builtin.zeroCells z.cells (cap - (xs.length+ys.length))) (0,0) (xsC++ysC) (Builtin.zeroCells z.cells (cap - (xs.length+ys.length))).toList (by simp) (by intro i _ h; exact Nat.not_lt_zero _ h.2)
    obtain ⟨H',hle,hHn,hHo,S2⟩:=S1.settle (i:=0) rfl
    simp only [List.eraseIdx_cons_zero] at S2
    refine ⟨H',hle,⟨some ⟨w.heap.size,0,none⟩,cap,by rw [hlen],by rw [hlen]; exact hge,hcm,.inr ⟨w.heap.size,0,_,rfl,⟨e,_,rfl,hHn,[],by simp⟩,hxyC.mono hle⟩⟩,?_⟩
    have hlt:i<L.length:=(List.getElem?_eq_some_iff.1 hi).1
    refine ⟨S2.post,?_,?_,?_⟩
    · intro x hxm
      obtain ⟨j,hj⟩:=List.mem_iff_getElem?.1 hxm
      by_cases hij:i=j
      · subst hij
        rw [List.getElem?_set_self hlt] at hj
        simp at hj; subst hj
        refine .inr ⟨w.heap.size,cap,_,rfl,heap_alloc_new w.drew _,hge,hcm,?_,?_⟩
        · simp only [Array.size_append,List.size_toArray,List.length_append,size_zeroCells,hzs,hxl,hyl,← Nat.add_mul]
          congr 1; omega
        · rw [show H' w.heap.size=some (e,xsC++ysC) from hHn,← hxylen]
          have e3:∀ Z:Array Value,((xsC++ysC).toArray++Z).toList=(xsC++ysC)++Z.toList:=by simp
          rw [e3,List.take_left]
      · rw [List.getElem?_set_ne hij] at hj
        exact S2.ents x (List.mem_of_getElem? hj)
    · intro x hxm b hb
      obtain ⟨j,hj⟩:=List.mem_iff_getElem?.1 hxm
      by_cases hij:i=j
      · subst hij
        rw [List.getElem?_set_self hlt] at hj
        simp at hj; subst hj
        simp [Ent.blk,Value.ownBlock] at hb
        subst hb
        exact S.post.below.size
      · rw [List.getElem?_set_ne hij] at hj
        exact S2.own x (List.mem_of_getElem? hj) b hb
    · -- the new block is no other's
      have hall:∀ b ∈ L.filterMap Ent.blk,b<w.heap.size:=fun b hb=>S.lt hb
      have key : ∀ (K : List Ent) (i : Nat) (v' : Value) (m : Nat), (K.filterMap Ent.blk).Nodup → (∀ b ∈ K.filterMap Ent.blk, b < w.heap.size) → v'.ownBlock = some w.heap.size →
          ((K.set i (.row v' e (Enc.sz α) m)).filterMap Ent.blk).Nodup∧∀ b ∈ (K.set i (.row v' e (Enc.sz α) m)).filterMap Ent.blk,b<w.heap.size∨b=w.heap.size:=by
        intro K
        induction K with
        | nil=>intro i v' m h1 h2 _; exact ⟨by simp,by simp⟩
        | cons x K ih =>
          intro i v' m h1 h2 h3
          have h1':(K.filterMap Ent.blk).Nodup:=by
            rw [List.filterMap_cons] at h1
            split at h1
            · exact h1
            · exact (List.nodup_cons.1 h1).2
          have h2':∀ b ∈ K.filterMap Ent.blk,b<w.heap.size:=by
            intro b hb
            apply h2
            rw [List.filterMap_cons]
            split
            · exact hb
            · exact List.mem_cons_of_mem _ hb
          cases i with
          | zero =>
            rw [List.set_cons_zero,List.filterMap_cons]
            have:(Ent.row v' e (Enc.sz α) m).blk=some w.heap.size:=h3
            rw [this]
            refine ⟨List.nodup_cons.2 ⟨fun hm=>Nat.lt_irrefl _ (h2' _ hm),h1'⟩,?_⟩
            intro b hb
            rcases List.mem_cons.1 hb with rfl | hb
            · exact .inr rfl
            · exact .inl (h2' b hb)
          | succ i =>
            rw [List.set_cons_succ,List.filterMap_cons]
            obtain ⟨g1,g2⟩:=ih i v' m h1' h2' h3
            cases hb:x.blk with
            | none=>simp only; exact ⟨g1,g2⟩
            | some b =>
              have hbm:b ∈ (x :: K).filterMap Ent.blk:=by rw [List.filterMap_cons,hb]; exact List.mem_cons_self
              have hbl:b<w.heap.size:=h2 b hbm
              have hnb:b ∉ K.filterMap Ent.blk:=by
                rw [List.filterMap_cons,hb] at h1
                exact (List.nodup_cons.1 h1).1
              simp only
              refine ⟨List.nodup_cons.2 ⟨fun hm=>?_,g1⟩,?_⟩
              · -- b among the rest: it stood there,or is the new one
                obtain ⟨y,hy,hyb⟩:=List.mem_filterMap.1 hm
                rcases List.mem_or_eq_of_mem_set hy with hy | hy
                · exact hnb (List.mem_filterMap.2 ⟨y,hy,hyb⟩)
                · subst hy
                  have:some w.heap.size=some b:=by rw [← hyb]; exact h3.symm
                  simp at this; omega
              · intro b' hb'
                rcases List.mem_cons.1 hb' with rfl | hb'
                · exact .inl hbl
                · exact g2 b' hb'
      exact (key L i _ _ S.nodup hall rfl).1
  rcases hrow with ⟨rfl,h0⟩ | ⟨g,cap,cur,rfl,hg,hnc,hcm,hcs,hHg⟩
  · have hxe:xs=[]:=List.eq_nil_of_length_eq_zero h0
    subst hxe
    have hxC0:xsC=[]:=hxC
    subst hxC0
    have hr:=run_append_grow_src (P:=P) w t tx ty e inf z ht hinf hzz none 0 0 [] (run_firstCells_none w.drew inf.size 0 0 0) u ys.length ysC (by rw [hsize]; exact hs) (by omega) (by simpa using h63') (growslice_fits (by omega) (by simpa using hb2))
    obtain ⟨H',hle,hsl,hst⟩:=grown 0 (by simpa using hm)
    simp only [List.length_nil,Nat.zero_add,List.nil_append] at hsl hst hr
    refine ⟨_,_,H',hr,hle,by simpa using hsl,?_⟩
    simpa using hst
  · obtain ⟨hHx,hcell⟩:=hxcell g _ cap rfl
    by_cases hroom:xs.length+ys.length≤cap
    · have hfit:xs.length*inf.size+ysC.length≤cur.size:=by rw [hyl,hcs,hsize,← Nat.add_mul]; exact Nat.mul_le_mul_right _ hroom
      have hr:=zGk (P:=P) w t tx ty e inf ht hinf g xs.length cap cur hg u ys.length ysC (by rw [hsize]; exact hs) hroom hfit
      have htake:cur.toList.take (xs.length*Enc.sz α)=xsC:=by rw [hHg] at hHx; simpa using hHx
      rw [hsize,htake] at hr
      have hgown:w0.heap.size≤g:=S.own _ hmem g rfl
      have hle:H.le (fun k=>if k=g then some (e,xsC++ysC) else H k):=by
        intro k T' l hk
        by_cases h:k=g
        · subst h
          rw [hHx] at hk
          simp at hk
          obtain ⟨rfl,rfl⟩:=hk
          exact ⟨ysC,by simp⟩
        · exact ⟨[],by simp [h,hk]⟩
      refine ⟨_,_,fun k=>if k=g then some (e,xsC++ysC) else H k,hr,hle,?_,?_⟩
      · exact ⟨some ⟨g,0,none⟩,cap,by rw [hlen],by rw [hlen]; exact hroom,hcm,.inr ⟨g,0,xsC++ysC,rfl,⟨e,_,rfl,if_pos rfl,[],by simp⟩,hxyC.mono hle⟩⟩
      · have hlt:i<L.length:=(List.getElem?_eq_some_iff.1 hi).1
        have hnew:(w.setRow g (xsC++ysC++cur.toList.drop (xs.length*Enc.sz α+ysC.length)).toArray).heap[g]?=some (.cells (xsC++ysC++cur.toList.drop (xs.length*Enc.sz α+ysC.length)).toArray e (0,0)):=setRow_heap w g cur _ e _ hg
        refine ⟨⟨S.post.below.trans ⟨rfl,rfl,rfl,by simp,fun k hk=>setRow_other w g k _ (by omega)⟩,S.post.le.trans hle,fun b hb=>?_,?_⟩,?_,?_,?_⟩
        · show (if b=g then _ else H b)=_
          rw [if_neg (by omega)]; exact S.post.eqb b hb
        · intro k T' l hk
          by_cases h:k=g
          · subst h
            simp at hk
            obtain ⟨rfl,rfl⟩:=hk
            exact ⟨_,_,hnew,cur.toList.drop (xs.length*Enc.sz α+ysC.length),by simp⟩
          · simp [h] at hk
            rw [setRow_other w g k _ h]
            exact S.holds k T' l hk
        · intro x hxm
          obtain ⟨j,hj⟩:=List.mem_iff_getElem?.1 hxm
          by_cases hij:i=j
          · subst hij
            rw [List.getElem?_set_self hlt] at hj
            simp at hj; subst hj
            refine .inr ⟨g,cap,_,rfl,hnew,hroom,hcm,?_,?_⟩
            · have h1:xs.length*Enc.sz α+ysC.length≤cur.size:=by rw [← hsize]; exact hfit
              simp only [List.size_toArray,List.length_append,List.length_drop,Array.length_toList,hxl]
              omega
            · show (if g=g then _ else _)=_
              rw [if_pos rfl,← hxylen]
              have e3:∀ Z:List Value,(xsC++ysC++Z).toArray.toList=(xsC++ysC)++Z:=by simp
              rw [e3,List.take_left]
          · rw [List.getElem?_set_ne hij] at hj
            refine Ent.ok_keep (S.ents x (List.mem_of_getElem? hj)) fun k hk=>?_
            have hkg:k≠g:=S.blk_ne hj hi hk rfl (Ne.symm hij)
            exact ⟨setRow_other w g k _ hkg,if_neg hkg⟩
        · intro x hxm b hb
          obtain ⟨j,hj⟩:=List.mem_iff_getElem?.1 hxm
          by_cases hij:i=j
          · subst hij
            rw [List.getElem?_set_self hlt] at hj
            simp at hj; subst hj
            simp [Ent.blk,Value.ownBlock] at hb
            omega
          · rw [List.getElem?_set_ne hij] at hj
            exact S.own x (List.mem_of_getElem? hj) b hb
        · rw [zCW (e':=.row (.slice (some ⟨g,0,none⟩) (xs.length+ys.length) cap) e (Enc.sz α) (xs++ys).length) hi rfl]; exact S.nodup
    · have hr:=run_append_grow_src (P:=P) w t tx ty e inf z ht hinf hzz (some ⟨g,0,none⟩) xs.length cap xsC (run_firstCells_some w.drew inf.size xs.length ⟨g,0,none⟩ xs.length cap xsC (by rw [hsize]; exact hxl) (fun j v hv=>by simpa using hcell j v hv)) u ys.length ysC (by rw [hsize]; exact hs) (by omega) h63' (growslice_fits (by omega) hb2)
      obtain ⟨H',hle,hsl,hst⟩:=grown cap (by omega)
      exact ⟨_,_,H',hr,hle,hsl,hst⟩
end
theorem Cells.ofBytes {H:Hp}:∀ (s:Str),Cells (α:=UInt8) H (s.map byt) s
  | []=>rfl
  | c :: s=>⟨[byt c],s.map byt,rfl,rfl,Cells.ofBytes s⟩
theorem zKV (s:Str):byteCells ⟨⟨s⟩⟩=s.map byt:=by
  unfold byteCells byt
  simp
section
variable {P:Program} {N:Frm} {f:Fr} {w w0:World} {H0 H:Hp} {L:List Ent} {ops:Array Oper} {rest:List Oper} {Q:Fr→World→Prop} {d:Nat} {od:Option Nat} {ty:TypeId} {pos:String} {af:Array Edge} {g:Option (Nat×Bool)}
theorem W.appStr {T T' e : TypeId} {x y : Operand} {v : Value} {xs ys zs : Str} {i : Nat} (S : St w0 H0 w H L) (hE : Elem P T e 1) (hT : P.underlying T' = some .string) (hi : L[i]? = some (.row v e 1 xs.length))
    (hx:ev N f x=v) (hy:ev N f y=str ys) (hX:Sl (α:=UInt8) H v xs) (h:xapp xs ys=some zs)
    (k:∀ v' w' H',H.le H'→Sl (α:=UInt8) H' v' zs→St w0 H0 w' H' (L.set i (.row v' e 1 zs.length))→WL P N ops rest Q (upd f d v') w'):WL P N ops (⟨some d,.call ⟨.builtin .append,#[x,y],#[T,T']⟩,ty,pos,af,none⟩ :: rest) Q f w:=by
  have hs:Src P (Enc.sz UInt8) T' (str ys) ys.length (ys.map byt) w:=by
    have:=Src.ofString (P:=P) w hT ⟨⟨ys⟩⟩
    rw [zKV] at this
    exact this
  obtain ⟨v',w',H',hr,hle,hsl,hst⟩:=S.appendSrc (α:=UInt8) (P:=P) (t:=T) (ty:=ty) hE hi hX hs (Cells.ofBytes ys) h
  refine WL.w (v:=v') (w':=w') ?_ (k v' w' H' hle hsl hst)
  simp only [execOp,resolve,invoke,builtin,Sem.run_bind,Sem.run_pure,Result.andThen_ok,List.map_toArray,List.map_cons,List.map_nil,hx,hy,hr]
end
end Go.Eng
