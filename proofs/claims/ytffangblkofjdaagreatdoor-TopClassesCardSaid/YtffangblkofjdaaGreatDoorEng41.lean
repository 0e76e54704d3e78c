/- A part. -/
import Derived.Test.YtffangblkofjdaaGreatDoorEng35
import Derived.Scope
import Derived.WalkSpells
set_option linter.unusedVariables false
namespace Go.Eng
open Go Go.RowKit
def MR {α:Type} [Enc α] (H:Hp) (en:Ent) (T:TypeId) (v:Value) (xs:List α):Prop :=
  (v=.slice none 0 0∧xs=[]∧en=.row (.slice none 0 0) T (Enc.sz α) 0) ∨
  ∃ b cap cur cs,v=.slice (some ⟨b,0,none⟩) xs.length cap∧en=.obj b (.cells cur T (0,0))∧xs.length≤cap∧cap≤maxLen∧cur.size=cap*Enc.sz α∧cur.toList.take (xs.length*Enc.sz α)=cs∧Cells H cs xs
section
variable {α:Type} [Enc α] {H H':Hp} {en:Ent} {T:TypeId} {v:Value} {xs:List α}
theorem MR.nil:MR (α:=α) H (.row (.slice none 0 0) T (Enc.sz α) 0) T (.slice none 0 0) []:=.inl ⟨rfl,rfl,rfl⟩
theorem MR.mono (h:MR H en T v xs) (hl:H.le H'):MR H' en T v xs:=by
  rcases h with h | ⟨b,cap,cur,cs,h1,h2,h3,h4,h5,h6,h7⟩
  · exact .inl h
  · exact .inr ⟨b,cap,cur,cs,h1,h2,h3,h4,h5,h6,h7.mono hl⟩
theorem MR.shape (h:MR H en T v xs):∃ a c,v=.slice a xs.length c∧xs.length≤c:=by
  rcases h with ⟨rfl,rfl,_⟩ | ⟨b,cap,cur,cs,rfl,_,h3,_⟩
  · exact ⟨none,0,rfl,Nat.le_refl _⟩
  · exact ⟨_,cap,rfl,h3⟩
end
section
variable {P:Program} {N:Frm} {f:Fr} {w w' w0:World} {H0 H:Hp} {L:List Ent} {ops:Array Oper} {rest:List Oper} {Q:Fr→World→Prop} {d:Nat} {od:Option Nat} {ty:TypeId} {pos:String} {af:Array Edge} {α:Type} [Enc α]
theorem St.freshObj (S : St w0 H0 w H L) {i : Nat} {en : Ent} {o : Obj} (hi : L[i]? = some en) (hoth : ∀ k, k < w.heap.size → w'.heap[k]? = w.heap[k]?) (hsz : w.heap.size < w'.heap.size)
    (hos:w'.os=w.os∧w'.tape=w.tape∧w'.output=w.output) (hg:w'.heap[w.heap.size]?=some o):St w0 H0 w' H (L.set i (.obj w.heap.size o)):=by
  have hlt:i<L.length:=(List.getElem?_eq_some_iff.1 hi).1
  have hbel:=S.post.below
  obtain ⟨hnd,_⟩:=zDF (e':=.obj w.heap.size o) (B:=w.heap.size) rfl L i S.nodup fun b hb=>S.lt hb
  refine ⟨⟨hbel.trans ⟨hos.1,hos.2.1,hos.2.2,Nat.le_of_lt hsz,fun k hk=>hoth k (Nat.lt_of_lt_of_le hk hbel.size)⟩,S.post.le,S.post.eqb,?_⟩,?_,?_,hnd⟩
  · intro k T' l hk
    obtain ⟨cs,fz,hc',hr⟩:=S.holds k T' l hk
    exact ⟨cs,fz,by rw [hoth k (Array.getElem?_eq_some_iff.1 hc').1]; exact hc',hr⟩
  · intro e he
    obtain ⟨j,hj⟩:=List.mem_iff_getElem?.1 he
    by_cases hij:i=j
    · subst hij
      rw [List.getElem?_set_self hlt] at hj
      simp at hj; subst hj
      exact ⟨S.holds.none_of_size (Nat.le_refl _),hg⟩
    · rw [List.getElem?_set_ne hij] at hj
      refine Ent.ok_keep (S.ents e (List.mem_of_getElem? hj)) fun k hk=>?_
      exact ⟨hoth k (Ent.ok_lt (S.ents e (List.mem_of_getElem? hj)) hk),rfl⟩
  · intro e he k hk
    obtain ⟨j,hj⟩:=List.mem_iff_getElem?.1 he
    by_cases hij:i=j
    · subst hij
      rw [List.getElem?_set_self hlt] at hj
      simp at hj; subst hj
      simp [Ent.blk] at hk; subst hk
      exact hbel.size
    · rw [List.getElem?_set_ne hij] at hj
      exact S.own e (List.mem_of_getElem? hj) k hk
theorem St.setRowObj (S : St w0 H0 w H L) {i g : Nat} {cur : Array Value} {e : TypeId} (hi : L[i]? = some (.obj g (.cells cur e (0, 0)))) (cur' : Array Value) :
    St w0 H0 (w.setRow g cur') H (L.set i (.obj g (.cells cur' e (0,0)))):=by
  obtain ⟨hH,hc⟩:ObjOk w H g _:=S.ents _ (List.mem_of_getElem? hi)
  exact S.renew hi rfl rfl hH (fun k hk=>setRow_other w g k _ hk) (by simp) ⟨rfl,rfl,rfl⟩ ⟨hH,setRow_heap w g cur _ e _ hc⟩
theorem zNp {L:List Ent} {i:Nat} {e:Ent} (hi:L[i]?=some e):L.set i e=L:=by
  apply List.ext_getElem?
  intro j
  by_cases hij:i=j
  · subst hij; rw [List.getElem?_set_self (List.getElem?_eq_some_iff.1 hi).1,hi]
  · rw [List.getElem?_set_ne hij]
theorem St.appendM (S : St w0 H0 w H L) {i : Nat} {t ty e : TypeId} {v u : Value} {xs ys zs : List α} {en : Ent} (hE : Elem P t e (Enc.sz α)) (hi : L[i]? = some en)
    (hx:MR H en e v xs) (hy:Sl H u ys) (hz:xapp xs ys=some zs) :
    ∃ v' en' w',(Builtin.append_ #[t,t] ty #[v,u]).run P w=.ok v' w'∧MR H en' e v' zs∧St w0 H0 w' H (L.set i en'):=by
  have hsz:=Enc.pos (α:=α)
  unfold xapp at hz
  split at hz
  case isFalse=>cases hz
  rename_i hbig
  simp only [Option.some.injEq] at hz
  subst hz
  by_cases hne:ys=[]
  · subst hne
    obtain ⟨a,c,hv,h1⟩:=hx.shape
    obtain ⟨a',c',rfl,_⟩:=hy
    refine ⟨v,en,w,?_,by rw [List.append_nil]; exact hx,by rw [zNp hi]; exact S⟩
    rw [hv]; exact zFn t ty e _ hE a xs.length c h1 a' c'
  obtain ⟨ad,c',ysC,rfl,hyl,hyc,hyC⟩:=hy.news S.holds hne
  have hE':=hE
  obtain ⟨ht,inf,z,hinf,hzz,hsize,hzs,hbytes⟩:=hE'
  have hm:0<ys.length:=List.length_pos_iff.2 hne
  have hb2:(xs.length+ys.length)*inf.bytes≤140737488355328:=by
    have h1:=Nat.mul_le_mul hbig hbytes
    exact Nat.le_trans h1 (by simp [big])
  have h63:xs.length+ys.length≤maxLen:=Nat.le_trans hbig (by simp [big,maxLen])
  have h63':((xs.length+ys.length:Nat):Int)≤9223372036854775807:=by simp only [maxLen] at h63; omega
  have hlen:(xs++ys).length=xs.length+ys.length:=List.length_append
  have grown : ∀ (old : Nat) (xsC : List Value), old < xs.length + ys.length → Cells H xsC xs →
      MR H (.obj w.heap.size (.cells (xsC.toArray++ysC.toArray++Builtin.zeroCells z.cells (grownCap w (xs.length+ys.length) old e - (xs.length+ys.length))) e (0,0))) e
        (.slice (some ⟨w.heap.size,0,none⟩) (xs.length+ys.length) (grownCap w (xs.length+ys.length) old e)) (xs++ys) ∧
      St w0 H0 (w.drew.alloc (.cells (xsC.toArray++ysC.toArray++Builtin.zeroCells z.cells (grownCap w (xs.length+ys.length) old e - (xs.length+ys.length))) e)) H
        (L.set i (.obj w.heap.size (.cells (xsC.toArray++ysC.toArray++Builtin.zeroCells z.cells (grownCap w (xs.length+ys.length) old e - (xs.length+ys.length))) e (0,0)))):=by
    intro old xsC hold hxC
    have hxl:=hxC.length
    have hxylen:(xsC++ysC).length=(xs.length+ys.length)*Enc.sz α:=by rw [List.length_append,hxl,hyl,Nat.add_mul]
    have hge:=grownCap_ge w (xs.length+ys.length) old e
    have hcm:grownCap w (xs.length+ys.length) old e≤maxLen:=grownCap_le_maxLen w (xs.length+ys.length) old e h63
    generalize grownCap w (xs.length+ys.length) old e=cap at *
    refine ⟨.inr ⟨w.heap.size,cap,_,xsC++ysC,by rw [hlen],rfl,by rw [hlen]; exact hge,hcm,?_,?_,hxC.append hyC⟩,?_⟩
    · simp only [Array.size_append,List.size_toArray,size_zeroCells,hzs,hxl,hyl,← Nat.add_mul]
      congr 1; omega
    · rw [hlen,← hxylen]
      have e3:∀ Z:Array Value,(xsC.toArray++ysC.toArray++Z).toList=(xsC++ysC)++Z.toList:=by simp
      rw [e3,List.take_left]
    · exact S.freshObj hi (fun k hk=>Below.heap_alloc w.drew _ k hk) (zGM _ _) ⟨rfl,rfl,rfl⟩ (heap_alloc_new w.drew _)
  rcases hx with ⟨rfl,rfl,rfl⟩ | ⟨g,cap,cur,xsC,rfl,rfl,hnc,hcm,hcs,htk,hxC⟩
  · have hr:=run_append_nil (P:=P) w t ty e inf z ht hinf hzz ad ys.length c' ysC (by rw [hsize]; exact hyl) hyc hm (by simpa using h63') (by have hb:=hb2; simp only [List.length_nil,Nat.zero_add] at hb; omega)
    obtain ⟨hmr,hst⟩:=grown 0 [] (by simpa using hm) rfl
    simp only [List.length_nil,Nat.zero_add,List.nil_append] at hmr hst
    exact ⟨_,_,_,hr,by simpa using hmr,by simpa using hst⟩
  · obtain ⟨hH,hg⟩:ObjOk w H g _:=S.ents _ (List.mem_of_getElem? hi)
    have hxl:=hxC.length
    have hcell:∀ j u,xsC[j]?=some u→w.cell? ((⟨g,0,none⟩:Addr).add j)=some u:=by
      intro j u hu
      rw [Addr.add_lit,Nat.zero_add,zH3 hg,← Array.getElem?_toList]
      have hlt:=(List.getElem?_eq_some_iff.1 hu).1
      rw [← htk] at hu hlt
      rw [List.getElem?_take_of_lt (by rw [List.length_take] at hlt; omega)] at hu
      exact hu
    by_cases hroom:xs.length+ys.length≤cap
    · have hfit:xs.length*inf.size+ysC.length≤cur.size:=by rw [hyl,hcs,hsize,← Nat.add_mul]; exact Nat.mul_le_mul_right _ hroom
      have hr:=run_append_room (P:=P) w t ty e inf ht hinf g xs.length cap cur hg ad ys.length c' ysC (by rw [hsize]; exact hyl) hyc (hyC.one) hroom hfit
      rw [hsize,htk] at hr
      have hxylen:(xsC++ysC).length=(xs.length+ys.length)*Enc.sz α:=by rw [List.length_append,hxl,hyl,Nat.add_mul]
      refine ⟨_,.obj g (.cells (xsC++ysC++cur.toList.drop (xs.length*Enc.sz α+ysC.length)).toArray e (0,0)),_,hr,.inr ⟨g,cap,_,xsC++ysC,by rw [hlen],rfl,by rw [hlen]; exact hroom,hcm,?_,?_,hxC.append hyC⟩,S.setRowObj hi _⟩
      · have h1:xs.length*Enc.sz α+ysC.length≤cur.size:=by rw [← hsize]; exact hfit
        simp only [List.size_toArray,List.length_append,List.length_drop,Array.length_toList,hxl]
        omega
      · rw [hlen,← hxylen]
        have e3:∀ Z:List Value,(xsC++ysC++Z).toArray.toList=(xsC++ysC)++Z:=by simp
        rw [e3,List.take_left]
    · have hr:=run_append_grow (P:=P) w t ty e inf z ht hinf hzz ⟨g,0,none⟩ xs.length cap xsC (by rw [hsize]; exact hxl) hcell ad ys.length c' ysC (by rw [hsize]; exact hyl) hyc (by omega) h63' (growslice_fits (by omega) hb2)
      obtain ⟨hmr,hst⟩:=grown cap xsC (by omega) hxC
      exact ⟨_,_,_,hr,hmr,hst⟩
theorem W.appM {T e : TypeId} {x y : Operand} {v u : Value} {xs ys zs : List α} {i : Nat} {en : Ent} (S : St w0 H0 w H L) (hE : Elem P T e (Enc.sz α)) (hi : L[i]? = some en)
    (hx:ev N f x=v) (hy:ev N f y=u) (hX:MR H en e v xs) (hY:Sl H u ys) (h:xapp xs ys=some zs)
    (k:∀ v' en' w',MR H en' e v' zs→St w0 H0 w' H (L.set i en')→WL P N ops rest Q (upd f d v') w'):WL P N ops (⟨some d,.call ⟨.builtin .append,#[x,y],#[T,T]⟩,ty,pos,af,none⟩ :: rest) Q f w:=by
  obtain ⟨v',en',w',hr,hm,hst⟩:=S.appendM (P:=P) (t:=T) (ty:=ty) hE hi hX hY h
  refine WL.w (v:=v') (w':=w') ?_ (k v' en' w' hm hst)
  simp only [execOp,resolve,Go.invoke,Go.builtin,Sem.run_bind,Sem.run_pure,Result.andThen_ok,List.map_toArray,List.map_cons,List.map_nil,hx,hy,hr]
theorem St.settleM (S : St w0 H0 w H L) {i : Nat} {en : Ent} {e : TypeId} {v : Value} {xs : List α} (hi : L[i]? = some en) (hx : MR H en e v xs) :
    ∃ H',H.le H'∧Sl H' v xs∧St w0 H0 w H' (L.eraseIdx i):=by
  rcases hx with ⟨rfl,rfl,rfl⟩ | ⟨g,cap,cur,xsC,rfl,rfl,hnc,hcm,hcs,htk,hxC⟩
  · refine ⟨H,Hp.le.refl _,Sl.nil,S.drop _ (List.eraseIdx_sublist ..)⟩
  · obtain ⟨hH,hg⟩:ObjOk w H g _:=S.ents _ (List.mem_of_getElem? hi)
    have S1:St w0 H0 w H (L.set i (.box g e xsC)):=by
      refine S.renew hi rfl rfl hH (fun _ _=>rfl) rfl ⟨rfl,rfl,rfl⟩ ⟨hH,cur,(0,0),hg,⟨cur.toList.drop (xs.length*Enc.sz α),?_⟩,fun _ _ h=>Nat.not_lt_zero _ h.2⟩
      rw [← htk,List.take_append_drop]
    have hlt:i<L.length:=(List.getElem?_eq_some_iff.1 hi).1
    obtain ⟨H',hle,hHn,hHo,S2⟩:=S1.settle (i:=i) (by rw [List.getElem?_set_self hlt])
    refine ⟨H',hle,⟨_,cap,rfl,hnc,hcm,.inr ⟨g,0,xsC,rfl,⟨e,_,rfl,hHn,[],by simp⟩,hxC.mono hle⟩⟩,?_⟩
    have:(L.set i (.box g e xsC)).eraseIdx i=L.eraseIdx i:=by
      apply List.ext_getElem?
      intro j
      rw [List.getElem?_eraseIdx,List.getElem?_eraseIdx]
      split
      · rw [List.getElem?_set_ne (by omega)]
      · rw [List.getElem?_set_ne (by omega)]
    rw [this] at S2; exact S2
end
end Go.Eng
namespace Go.Eng
open Go Go.RowKit
section
variable {P:Program} {N:Frm} {f:Fr} {w w' w0:World} {H0 H:Hp} {L:List Ent} {ops:Array Oper} {rest:List Oper} {Q:Fr→World→Prop} {d:Nat} {od:Option Nat} {ty:TypeId} {pos:String} {af:Array Edge} {g:Option (Nat×Bool)} {α:Type} [Enc α]
theorem St.same (S:St w0 H0 w H L) {H1 H':Hp} (hp:Post w H1 w' H'):St w0 H0 w' H L:=by
  have hb:=hp.below
  have hoth:∀ k,k<w.heap.size→w'.heap[k]?=w.heap[k]?:=hb.block
  refine ⟨⟨S.post.below.trans ⟨hb.os,hb.tape,hb.output,hb.size,fun k hk=>hoth k (Nat.lt_of_lt_of_le hk S.post.below.size)⟩,S.post.le,S.post.eqb,?_⟩,?_,S.own,S.nodup⟩
  · intro k T' l hk
    obtain ⟨cs,fz,hc',hr⟩:=S.holds k T' l hk
    exact ⟨cs,fz,by rw [hoth k (Array.getElem?_eq_some_iff.1 hc').1]; exact hc',hr⟩
  · intro e he
    exact Ent.ok_keep (S.ents e he) fun k hk=>⟨hoth k (Ent.ok_lt (S.ents e he) hk),rfl⟩
theorem W.callF {k : FuncId} {xs : List Operand} {ats : Array TypeId} {args : List Value} {R : Hp → Value → Prop} {H1 : Hp} (S : St w0 H0 w H L) (ha : xs.map (ev N f) = args) (C : Con P k args w H1 R)
    (K:∀ v w' H',R H' v→St w0 H0 w' H L→WL P N ops rest Q (updo f od v) w'):WL P N ops (⟨od,.call ⟨.value (.func k),xs.toArray,ats⟩,ty,pos,af,none⟩ :: rest) Q f w:=by
  refine WL.enterw (w':=w) (k:=k) (args:=args.toArray) ?_ (Calls.mono C.2 fun e w' ⟨v,H',he,hp,hv⟩=>⟨v,he,K v w' H' hv (S.same hp)⟩)
  have:(execOp (ev N f) ⟨od,.call ⟨.value (.func k),xs.toArray,ats⟩,ty,pos,af,none⟩)=callFunc k (#[]++xs.toArray.map (ev N f)++#[]):=rfl
  rw [this]
  have e:(#[]++xs.toArray.map (ev N f)++#[])=args.toArray:=by simp [ha]
  rw [e]
  exact C.1 w
theorem W.callvF {k : FuncId} {x : Operand} {xs : List Operand} {ats : Array TypeId} {args caps : List Value} {R : Hp → Value → Prop} {H1 : Hp} (S : St w0 H0 w H L) (hx : ev N f x = .func (.func k) #[] caps.toArray) (ha : xs.map (ev N f) = args) (C : Con P k (args ++ caps) w H1 R)
    (K:∀ v w' H',R H' v→St w0 H0 w' H L→WL P N ops rest Q (updo f od v) w'):WL P N ops (⟨od,.call ⟨.value x,xs.toArray,ats⟩,ty,pos,af,none⟩ :: rest) Q f w:=by
  obtain ⟨hC1,hC2⟩:=C
  refine WL.enterw (w':=w) (k:=k) (args:=(args++caps).toArray) ?_ (Calls.mono hC2 fun e w' ⟨v,H',he,hp,hv⟩=>⟨v,he,K v w' H' hv (S.same hp)⟩)
  have e:xs.toArray.map (ev N f)++caps.toArray=(args++caps).toArray:=by simp [ha]
  have:(execOp (ev N f) ⟨od,.call ⟨.value x,xs.toArray,ats⟩,ty,pos,af,none⟩).run P w=(callFunc k (#[]++xs.toArray.map (ev N f)++caps.toArray)).run P w:=by
    simp [execOp,resolve,hx,Deferred.ofValue,Go.invoke]
  rw [this,Array.empty_append,e]
  exact hC1 w
theorem St.view_ (S:St w0 H0 w H L) {i:Nat} {en:Ent} {e:TypeId} {v:Value} {xs:List α} (hi:L[i]?=some en) (hx:MR H en e v xs):∃ H1,H.le H1∧Holds w H1∧Sl H1 v xs:=by
  obtain ⟨H1,hle,hs,S1⟩:=S.settleM hi hx
  exact ⟨H1,hle,S1.holds,hs⟩
theorem objAt {i b:Nat} {o:Obj} (S:St w0 H0 w H L) (hi:L[i]?=some (.obj b o)):H b=none∧w.heap[b]?=some o:=S.ents _ (List.mem_of_getElem? hi)
theorem R.idxN {T e : TypeId} {x i : Operand} {b n c sz : Nat} {m : Int} (hx : ev N f x = .slice (some ⟨b, 0, none⟩) n c) (hi : ev N f i = int m) (hE : Elem P T e sz) (h : 0 ≤ m ∧ m < n) :
    (execOp (ev N f) ⟨od,.indexAddr T x i,ty,pos,af,g⟩).run P w=.ok (.value (ptr b (m.toNat*sz))) w:=by
  obtain ⟨ht,inf,z,hinf,_,hsize,_⟩:=hE
  simp [execOp,Instr.indexAt,asIntOf,hx,hi,int,run_underlying ht,h,sizeOf,typeInfo,hinf,hsize,Addr.add_lit,ptr]
theorem W.storeO {T e : TypeId} {a x : Operand} {b o i n : Nat} {bb : Bool} {v : Value} {cur : Array Value} (S : St w0 H0 w H L) (ha : ev N f a = ptr b o) (hx : ev N f x = v) (hi : L[i]? = some (.obj b (.cells cur e (0, 0)))) (hT : lay P T = some (bb, n))
    (hn:v.cells.size=n) (h1:v.cells.toList.all Value.oneCell'=true) (ho:o+n≤cur.size)
    (k:∀ w' cur',cur'.toList=cur.toList.take o++v.cells.toList++cur.toList.drop (o+n)→St w0 H0 w' H (L.set i (.obj b (.cells cur' e (0,0))))→WL P N ops rest Q (updo f od undef) w'):WL P N ops (⟨od,.store T a x,ty,pos,af,none⟩ :: rest) Q f w:=by
  obtain ⟨_,h2⟩:=zC7 (w:=w) hT
  obtain ⟨hH,hb⟩:=objAt S hi
  have hlen:v.cells.toList.length=n:=by simpa using hn
  obtain ⟨w',arr',hrun,hoth,hsz,hos,hb',harr⟩:=zDf (P:=P) b o e (0,0) v.cells.toList 0 cur w hb (by omega) (fun u hu=>List.all_eq_true.1 h1 u hu) (fun j _ h4 h=>Nat.not_lt_zero _ h.2)
  refine WL.skipw (w':=w') ?_ (k w' arr' ?_ (S.renew hi rfl rfl hH hoth hsz hos ⟨hH,hb'⟩))
  · simp only [execOp,Instr.storeAt,Instr.sureAddr,ha,hx,ptr,storeVar,Sem.run_bind,Sem.run_pure,Result.andThen_ok,h2,hn,ne_eq,not_true_eq_false,if_false,hrun]
  · rw [harr,hlen]; rfl
theorem zPy {z:Array Value} (hz:z.all Value.oneCell'=true) (n:Nat):∀ v ∈ (Builtin.zeroCells z n).toList,v.oneCell'=true:=by
  intro v hv
  unfold Builtin.zeroCells at hv
  simp only [Array.toList_map,Array.toList_range,List.mem_map,List.mem_range] at hv
  obtain ⟨j,hj,rfl⟩:=hv
  have hp:0<z.size:=by
    rcases Nat.eq_zero_or_pos z.size with h | h
    · rw [h,Nat.mul_zero] at hj; exact absurd hj (Nat.not_lt_zero _)
    · exact h
  have hlt:=Nat.mod_lt j hp
  rw [getElem!_pos z _ hlt]
  exact Array.all_eq_true.1 hz _ hlt
theorem W.clearO {T e : TypeId} {x : Operand} {b i k n c : Nat} {cur : Array Value} (S : St w0 H0 w H L) (hE : Elem P T e (Enc.sz α)) (h1z : ∀ z, zer P e = some z → z.all Value.oneCell' = true) (hx : ev N f x = .slice (some ⟨b, k * Enc.sz α, none⟩) n c) (hi : L[i]? = some (.obj b (.cells cur e (0, 0))))
    (ho:k*Enc.sz α+n*Enc.sz α≤cur.size)
    (K:∀ w' cur',cur'.size=cur.size→cur'.toList.take (k*Enc.sz α)=cur.toList.take (k*Enc.sz α)→St w0 H0 w' H (L.set i (.obj b (.cells cur' e (0,0))))→WL P N ops rest Q (updo f od (.tuple #[])) w') :
    WL P N ops (⟨od,.call ⟨.builtin .clear,#[x],#[T]⟩,ty,pos,af,none⟩ :: rest) Q f w:=by
  obtain ⟨ht,inf,z,hinf,hzz,hsize,hzs,hbytes⟩:=hE
  obtain ⟨hH,hb⟩:=objAt S hi
  have hz1:z.cells.all Value.oneCell'=true:=by
    have:zer P e=some z.cells.toList:=by unfold zer; rw [hinf]; simp [hzz]
    have:=h1z _ this
    rw [← Array.all_toList]; exact this
  by_cases hn:n=0
  · subst hn
    refine WL.w (v:=.tuple #[]) (w':=w) ?_ (K w cur rfl rfl (by rw [zNp hi]; exact S))
    simp [execOp,resolve,Go.invoke,Go.builtin,hx,Builtin.clear_,run_underlying ht]
  · have hzl:(Builtin.zeroCells z.cells n).toList.length=n*Enc.sz α:=by rw [Array.length_toList,size_zeroCells,hzs]
    obtain ⟨w',arr',hrun,hoth,hsz,hos,hb',harr⟩:=zDf (P:=P) b (k*Enc.sz α) e (0,0) (Builtin.zeroCells z.cells n).toList 0 cur w hb (by rw [hzl]; omega) (zPy hz1 n) (fun j _ h4 h=>Nat.not_lt_zero _ h.2)
    have hzv:(zeroValue e).run P w=.ok z w:=by simp [zeroValue,typeInfo,hinf,hzz]
    refine WL.w (v:=.tuple #[]) (w':=w') ?_ (K w' arr' ?_ ?_ (S.renew hi rfl rfl hH hoth hsz hos ⟨hH,hb'⟩))
    · have hm : ∀ (n : Nat), n ≠ 0 → (Builtin.clear_ #[T] ty #[.slice (some ⟨b, k * Enc.sz α, none⟩) n c]).run P w = ((storeCells ⟨b, k * Enc.sz α, none⟩ (Builtin.zeroCells z.cells n).toList).run P w).andThen fun _ w => .ok (.tuple #[]) w := by
        intro n hn
        cases n with
        | zero=>exact absurd rfl hn
        | succ n=>simp [Builtin.clear_,run_underlying ht,hzv]
      simp only [execOp,resolve,Go.invoke,Go.builtin,Sem.run_bind,Sem.run_pure,Result.andThen_ok,List.map_toArray,List.map_cons,List.map_nil,hx,hm n hn,hrun]
    · rw [← Array.length_toList,harr,List.length_append,List.length_append,List.length_take,List.length_drop,hzl,Array.length_toList]; omega
    · rw [harr,Nat.add_zero,List.append_assoc,List.take_append_of_le_length (by rw [List.length_take,Array.length_toList]; omega),List.take_take,Nat.min_self]
end
def DelI {α:Type} [Enc α] (H:Hp) (xs:List α) (cur:Array Value) (K:List α) (m:Nat):Prop :=
  K.length<m∧m≤xs.length∧∃ kc jc rc tl,cur.toList=kc++(jc++(rc++tl))∧Cells H kc K∧jc.length=(m - K.length)*Enc.sz α∧Cells H rc (xs.drop m)
section
variable {α:Type} [Enc α] {H:Hp} {xs K:List α} {cur cur':Array Value} {m:Nat}
theorem DelI.look (h:DelI H xs cur K m) (hm:m<xs.length):∃ cs,(cur.toList.drop (m*Enc.sz α)).take (Enc.sz α)=cs∧cs.length=Enc.sz α∧Enc.cells H cs xs[m]:=by
  obtain ⟨h1,h2,kc,jc,rc,tl,hl,hk,hj,hr⟩:=h
  rw [List.drop_eq_getElem_cons hm] at hr
  obtain ⟨cs,r,rfl,hc,_⟩:=hr
  have hlen:=Enc.len hc
  refine ⟨cs,?_,hlen,hc⟩
  have e:(kc++jc).length=m*Enc.sz α:=by
    rw [List.length_append,hk.length,hj,← Nat.add_mul]; congr 1; omega
  rw [hl,← List.append_assoc,← e,List.drop_left,List.append_assoc,← hlen,List.take_left]
theorem DelI.skip (h:DelI H xs cur K m) (hm:m<xs.length):DelI H xs cur K (m+1):=by
  obtain ⟨h1,h2,kc,jc,rc,tl,hl,hk,hj,hr⟩:=h
  rw [List.drop_eq_getElem_cons hm] at hr
  obtain ⟨cs,r,rfl,hc,hr'⟩:=hr
  have hlen:=Enc.len hc
  refine ⟨by omega,hm,kc,jc++cs,r,tl,by rw [hl]; simp,hk,?_,hr'⟩
  rw [List.length_append,hj,hlen,show m+1 - K.length=(m - K.length)+1 by omega,Nat.add_mul,Nat.one_mul]
theorem DelI.keep (h : DelI H xs cur K m) (hm : m < xs.length) {cs : List Value} (hcs : (cur.toList.drop (m * Enc.sz α)).take (Enc.sz α) = cs) (hc : cur'.toList = cur.toList.take (K.length * Enc.sz α) ++ cs ++ cur.toList.drop (K.length * Enc.sz α + Enc.sz α)) :
    DelI H xs cur' (K++[xs[m]]) (m+1):=by
  obtain ⟨cs',hcs',hlen',hcell⟩:=h.look hm
  have:cs'=cs:=by rw [← hcs',hcs]
  subst this
  have h0:=h.1
  obtain ⟨h1,h2,kc,jc,rc,tl,hl,hk,hj,hr⟩:=h.skip hm
  have hkl:=hk.length
  have hjl:Enc.sz α≤jc.length:=by
    rw [hj]
    exact Nat.le_mul_of_pos_left _ (by omega)
  refine ⟨by simp; omega,h2,kc++cs',jc.drop (Enc.sz α),rc,tl,?_,hk.append ⟨cs',[],by simp,hcell,rfl⟩,?_,hr⟩
  · have e1:cur.toList.take (K.length*Enc.sz α)=kc:=by rw [hl,← hkl,List.take_left]
    have e2:cur.toList.drop (K.length*Enc.sz α+Enc.sz α)=jc.drop (Enc.sz α)++(rc++tl):=by
      rw [hl,← hkl,← List.drop_drop,List.drop_left,List.drop_append_of_le_length hjl]
    rw [hc,e1,e2]
  · have e3:m+1 - K.length=(m+1 - (K.length+1))+1:=by omega
    rw [List.length_drop,hj,List.length_append,List.length_singleton,e3,Nat.succ_mul,Nat.add_sub_cancel]
theorem Cells.split {H:Hp}:∀ {a b:List α} {cs:List Value},Cells H cs (a++b)→∃ c1 c2,cs=c1++c2∧Cells H c1 a∧Cells H c2 b
  | [],_,cs,h=>⟨[],cs,rfl,rfl,h⟩
  | x :: a,b,cs,⟨c,r,e,hc,hr⟩=>by
    obtain ⟨c1,c2,rfl,h1,h2⟩:=Cells.split hr
    exact ⟨c++c1,c2,by rw [e]; simp,⟨c,c1,rfl,hc,h1⟩,h2⟩
theorem DelI.start {cs:List Value} {i:Nat} (htk:cur.toList.take (xs.length*Enc.sz α)=cs) (hC:Cells H cs xs) (hi:i<xs.length):DelI H xs cur (xs.take i) (i+1):=by
  have hx:xs=xs.take i++([xs[i]]++xs.drop (i+1)):=by
    rw [List.singleton_append,← List.drop_eq_getElem_cons hi,List.take_append_drop]
  rw [hx] at hC
  obtain ⟨c1,c23,rfl,h1,h23⟩:=Cells.split hC
  obtain ⟨c2,c3,rfl,h2,h3⟩:=Cells.split h23
  have hl:(xs.take i).length=i:=by rw [List.length_take]; omega
  refine ⟨by omega,hi,c1,c2,c3,cur.toList.drop (xs.length*Enc.sz α),?_,h1,?_,h3⟩
  · exact (List.take_append_drop (xs.length*Enc.sz α) cur.toList).symm.trans (by rw [htk]; simp)
  · have:=h2.length
    rw [List.length_singleton] at this
    rw [hl,this]; congr 1; omega
theorem DelI.front (h:DelI H xs cur K m):∃ kc,cur.toList.take (K.length*Enc.sz α)=kc∧Cells H kc K:=by
  obtain ⟨h1,h2,kc,jc,rc,tl,hl,hk,hj,hr⟩:=h
  exact ⟨kc,by rw [hl,← hk.length,List.take_left],hk⟩
end
section
variable {P:Program} {N:Frm} {f:Fr} {w:World} {od:Option Nat} {ty:TypeId} {pos:String} {af:Array Edge} {g:Option (Nat×Bool)}
theorem R.sliceLo {T e : TypeId} {x i : Operand} {b n c sz k : Nat} (hx : ev N f x = .slice (some ⟨b, 0, none⟩) n c) (hi : ev N f i = int k) (hE : Elem P T e sz) (hk : k ≤ n) (hkc : k < c) :
    (execOp (ev N f) ⟨od,.slice T x (some i) none none,ty,pos,af,g⟩).run P w=.ok (.value (.slice (some ⟨b,k*sz,none⟩) (n - k) (c - k))) w:=by
  obtain ⟨ht,inf,z,hinf,_,hsize,_⟩:=hE
  have h1:(0:Int)≤k∧(k:Int)≤n:=⟨by omega,by omega⟩
  simp [execOp,Instr.sliceAt,Instr.slice,Instr.sliceBounds,Instr.sliceBound,asIntOf,hx,hi,int,run_underlying ht,h1,sizeOf,typeInfo,hinf,hsize,Addr.add_lit]
  rw [if_pos hk,if_neg (by omega)]
theorem R.sliceHi {T e : TypeId} {x i : Operand} {b n c sz k : Nat} (hx : ev N f x = .slice (some ⟨b, 0, none⟩) n c) (hi : ev N f i = int k) (hE : Elem P T e sz) (hk : k ≤ c) :
    (execOp (ev N f) ⟨od,.slice T x none (some i) none,ty,pos,af,g⟩).run P w=.ok (.value (.slice (some ⟨b,0,none⟩) k c)) w:=by
  obtain ⟨ht,inf,z,hinf,_,hsize,_⟩:=hE
  have h1:(0:Int)≤k∧(k:Int)≤c:=⟨by omega,by omega⟩
  simp [execOp,Instr.sliceAt,Instr.slice,Instr.sliceBounds,Instr.sliceBound,asIntOf,hx,hi,int,run_underlying ht,h1,sizeOf,typeInfo,hinf,Addr.add_lit]
  intro hc; omega
end
def delL {α:Type} (xs:List α) (p:α→Option Bool) (s:List α×Int):Option ((List α×Int) ⊕ List α) :=
  bif decide (s.2<(xs.length:Int)) then (xnth xs s.2).bind fun x=>(p x).bind fun b=>some (.inl (bif b then s.1 else s.1++[x],s.2+1)) else some (.inr s.1)
noncomputable def delR {α:Type} (xs:List α) (p:α→Option Bool) (i:Int):Option (List α) :=
  bif i==-1 then some xs else bif decide (0≤i∧i<(xs.length:Int)) then zAE (delL xs p) (xs.take i.toNat,i+1) else none
end Go.Eng
namespace Go.Eng
open Go
def InQ (fn:Func) (N:Frm) (P:Program) (K:Value→World→Prop):Exit→Fr→World→Prop:=fun e f w=>(e=.ret∨e=.normal)∧∃ v,(results fn (tm N f)).run P w=.ok v w∧K v w
section
variable {P:Program} {N:Frm} {f:Fr} {w w0:World} {H0 H:Hp} {L:List Ent} {ops:Array Oper} {rest:List Oper} {Q:Fr→World→Prop} {d:Nat} {od:Option Nat} {ty:TypeId} {pos:String} {af:Array Edge} {g:Option (Nat×Bool)}
theorem R.mkFuncB {k : FuncId} {ys xs : List Operand} {bs vs : List Value} (hb : ys.map (ev N f) = bs) (h : xs.map (ev N f) = vs) :
    (execOp (ev N f) ⟨od,.makeFunc (.func k) ys.toArray xs.toArray,ty,pos,af,g⟩).run P w=.ok (.value (.func (.func k) bs.toArray vs.toArray)) w:=by
  subst h; subst hb
  simp [execOp,Instr.makeFunc]
theorem InR.one {fn:Func} {r:ResultVar} {v:Value} {K:Value→World→Prop} (hr:fn.results=#[r]) (h:Res P N f w r v) (hK:K v w):∃ v,(results fn (tm N f)).run P w=.ok v w∧K v w:=by
  refine ⟨v,?_,hK⟩
  have:=zAm h
  rw [zCw,hr]
  simp only [List.mapM_toArray,List.mapM_cons,List.mapM_nil,Sem.run_bind,Sem.run_map,this,Result.andThen_ok,Sem.run_pure]
  rfl
theorem In.one {fn:Func} {r:ResultVar} {v:Value} {K:Value→World→Prop} (hr:fn.results=#[r]) (h:Res P N f w r v) (hK:K v w):InQ fn N P K .ret f w:=⟨.inl rfl,InR.one hr h hK⟩
theorem R.lookX {T K E : TypeId} {x y : Operand} {b i : Nat} {m : List (Str × Value)} {k : Str} {zc v : Value} {o : Bool} (S : St w0 H0 w H L) (hx : ev N f x = mapv b) (hy : ev N f y = str k) (hi : L[i]? = some (.mp b (encm (fun v => v) m)))
    (hT:P.underlying T=some (.map K E)) (hK:P.underlying K=some .string) (hz:((P.info? E).bind (·.zero))=some zc) (h:mget m k zc=(v,o)) :
    (execOp (ev N f) ⟨od,.lookup T x y true,ty,pos,af,g⟩).run P w=.ok (.value (.tuple ⟨[v,boo o]⟩)) w:=by
  have:=R.lookup (od:=od) (ty:=ty) (pos:=pos) (af:=af) (g:=g) (fun v=>v) S hx hy hi hT hK hz (z:=zc) rfl
  rw [h] at this; exact this
theorem R.lookX1 {T K E : TypeId} {x y : Operand} {b i : Nat} {m : List (Str × Value)} {k : Str} {zc v : Value} {o : Bool} (S : St w0 H0 w H L) (hx : ev N f x = mapv b) (hy : ev N f y = str k) (hi : L[i]? = some (.mp b (encm (fun v => v) m)))
    (hT:P.underlying T=some (.map K E)) (hK:P.underlying K=some .string) (hz:((P.info? E).bind (·.zero))=some zc) (h:mget m k zc=(v,o)) :
    (execOp (ev N f) ⟨od,.lookup T x y false,ty,pos,af,g⟩).run P w=.ok (.value v) w:=by
  have:=R.lookup1 (od:=od) (ty:=ty) (pos:=pos) (af:=af) (g:=g) (fun v=>v) S hx hy hi hT hK hz (z:=zc) rfl
  rw [h] at this; exact this
theorem WP.scope {c:Code} {Q:Exit→Fr→World→Prop} (h:WP P N c (fun e f w=>match e with | .goto _=>False | e=>Q e f w) f w):WP P N (.scope c) Q f w:=by
  refine wp_scope_straight (Code.wp_mono (fun e a w' ⟨f',ha,q⟩=>?_) h)
  cases e with
  | goto l=>exact q.elim
  | _=>exact ⟨f',ha,q⟩
theorem WP.label {l:Nat} {Q:Exit→Fr→World→Prop} (h:Q .normal f w):WP P N (.label l) Q f w:=wp_label ⟨f,rfl,h⟩
theorem R.eqlMN {T T' a b : TypeId} {x y : Operand} {p : Option Nat} (hx : ev N f x = .map p) (hy : ev N f y = .map none) (hT : P.underlying T = some (.map a b)) :
    (execOp (ev N f) ⟨od,.binOp .eql T x y T',ty,pos,af,g⟩).run P w=.ok (.value (boo p.isNone)) w:=by
  have:=run_eql_map_nil (P:=P) w T a b p hT
  simp [execOp,eqGuard,hx,hy,this,boo]
theorem R.neqMN {T T' a b : TypeId} {x y : Operand} {p : Option Nat} (hx : ev N f x = .map p) (hy : ev N f y = .map none) (hT : P.underlying T = some (.map a b)) :
    (execOp (ev N f) ⟨od,.binOp .neq T x y T',ty,pos,af,g⟩).run P w=.ok (.value (boo (!p.isNone))) w:=by
  have:=run_neq_map_nil (P:=P) w T a b p hT
  simp [execOp,eqGuard,hx,hy,this,boo]
theorem R.loadO1 {T e : TypeId} {x : Operand} {b o i : Nat} {cur : Array Value} {v : Value} (S : St w0 H0 w H L) (hx : ev N f x = ptr b o) (hi : L[i]? = some (.obj b (.cells cur e (0, 0)))) (hT : lay P T = some (false, 1)) (hv : (cur.toList.drop o).take 1 = [v]) :
    (execOp (ev N f) ⟨od,.load T x,ty,pos,af,g⟩).run P w=.ok (.value v) w:=by
  refine R.load1 hx hT ?_
  rw [zH3 (objAt S hi).2,← Array.getElem?_toList]
  have:=congrArg (fun l:List Value=>l[0]?) hv
  simpa [List.getElem?_take,List.getElem?_drop] using this
def xroom (n:Int):Option Unit:=if 0≤n∧n≤1048576 then some () else none
theorem W.makeRow {α : Type} [Enc α] {T e : TypeId} {x y : Operand} {n : Int} {zv : Value} {u : Unit} (S : St w0 H0 w H L) (hE : Elem P T e 1) (h1 : Enc.sz α = 1) (hx : ev N f x = int 0) (hy : ev N f y = int n) (hz : zer P e = some [zv])
    (h:xroom n=some u) (K:∀ v w' H',H.le H'→Sl (α:=α) H' v []→St w0 H0 w' H' (.row v e 1 0 :: L)→WL P N ops rest Q (upd f d v) w') :
    WL P N ops (⟨some d,.makeSlice T x y,ty,pos,af,none⟩ :: rest) Q f w:=by
  unfold xroom at h
  split at h
  case isFalse=>cases h
  rename_i h0
  obtain ⟨ht,inf,zz,hinf,hzz,hsize,hzs,hbytes⟩:=hE
  have hzc:zz.cells.toList=[zv]:=by
    unfold zer at hz
    rw [hinf] at hz
    simpa [hzz] using hz
  have hza:zz.cells=#[zv]:=by
    apply Array.toList_inj.1; simpa using hzc
  generalize harr:((Array.range (n.toNat*1)).map (zz.cells[· % zz.cells.size]!))=arr
  have hsz:arr.size=n.toNat:=by rw [← harr]; simp
  have hmax:n.toNat≤maxLen:=by simp only [maxLen]; omega
  have S1:=S.box e arr (0,0) [] arr.toList (by simp) (by intro i hi; exact absurd hi (Nat.not_lt_zero _))
  obtain ⟨H',hle,hHn,hHo,S2⟩:=S1.settle (i:=0) rfl
  simp only [List.eraseIdx_cons_zero] at S2
  have hSl:Sl (α:=α) H' (.slice (some ⟨w.heap.size,0,none⟩) 0 n.toNat) [] :=
    ⟨some ⟨w.heap.size,0,none⟩,n.toNat,rfl,Nat.zero_le _,hmax,.inr ⟨w.heap.size,0,[],rfl,⟨e,_,rfl,hHn,[],by simp⟩,rfl⟩⟩
  have hrow:RowOk (w.alloc (.cells arr e)) H' (.slice (some ⟨w.heap.size,0,none⟩) 0 n.toNat) e 1 0 :=
    .inr ⟨w.heap.size,n.toNat,arr,rfl,heap_alloc_new w _,Nat.zero_le _,hmax,by omega,by rw [hHn]; simp⟩
  have S3:St w0 H0 (w.alloc (.cells arr e)) H' (.row (.slice (some ⟨w.heap.size,0,none⟩) 0 n.toNat) e 1 0 :: L):=by
    refine ⟨S2.post,?_,?_,?_⟩
    · intro x hxm
      rcases List.mem_cons.1 hxm with rfl | hxm
      · exact hrow
      · exact S2.ents x hxm
    · intro x hxm b hb
      rcases List.mem_cons.1 hxm with rfl | hxm
      · simp [Ent.blk,Value.ownBlock] at hb; subst hb; exact S.post.below.size
      · exact S2.own x hxm b hb
    · have:(Ent.row (.slice (some ⟨w.heap.size,0,none⟩) 0 n.toNat) e 1 0).blk=some w.heap.size:=rfl
      rw [List.filterMap_cons,this]
      exact List.nodup_cons.2 ⟨fun hm=>Nat.lt_irrefl _ (S.lt hm),S.nodup⟩
  refine WL.w (v:=.slice (some ⟨w.heap.size,0,none⟩) 0 n.toNat) (w':=w.alloc (.cells arr e)) ?_ (K _ _ H' hle hSl S3)
  have hw:IntKind.i64.wrap n=n:=wr_eq ⟨by omega,by omega⟩
  have hw0:IntKind.i64.wrap 0=0:=wr_eq ⟨by omega,by omega⟩
  have hb:¬ ((inf.bytes:Int)*n > 2 ^ 48):=by
    have h1:(inf.bytes:Int)≤512:=by omega
    have:(inf.bytes:Int)*n≤512*1048576:=Int.mul_le_mul h1 h0.2 h0.1 (by omega)
    omega
  have hroom:¬ (n.toNat*inf.bytes > roomBytes):=by
    have:n.toNat*inf.bytes≤1048576*512:=Nat.mul_le_mul (by omega) hbytes
    unfold roomBytes; omega
  have e0:ev N f x=.int .i64 0:=hx
  have e1:ev N f y=.int .i64 n:=hy
  have hne:¬ ((decide (n<0)||decide ((inf.bytes:Int)*n > 2 ^ 48))||decide ((0:Int)<0)||decide ((0:Int) > n))=true:=by
    simp only [Bool.or_eq_true,decide_eq_true_eq]; omega
  simp only [execOp,Instr.makeSlice,run_underlying ht,asInt,asIntOf,e0,e1,typeInfo,hinf,Sem.run_bind,run_program,Result.andThen_ok,Sem.run_pure,hw,hw0]
  rw [if_neg (by simpa using hne)]
  simp only [askRoom,hroom,if_false,Sem.run_bind,Sem.run_pure,Result.andThen_ok,sizeOf,typeInfo,run_program,hinf,hsize,zeroValue]
  by_cases hn:n.toNat*1=0
  · have ha0:arr=#[]:=Array.eq_empty_of_size_eq_zero (by omega)
    subst ha0
    simp only [hn,if_true,newRow]
    simp
    have e0:∀ g:Nat→Value,(Array.range 0).map g=#[]:=fun g=>Array.eq_empty_of_size_eq_zero (by simp)
    rw [e0]
  · simp only [hn,if_false,Sem.run_bind,run_program,hinf,hzz,Sem.run_pure,Result.andThen_ok,newRow,harr]
    simp
end
end Go.Eng
namespace Go.Eng
open Go Go.RowKit
section
variable {α:Type} [Enc α] {H:Hp} {xs:List α} {cur:Array Value}
end
section
variable {P:Program} {N:Frm} {f:Fr} {w w0:World} {H0 H:Hp} {L:List Ent} {ops:Array Oper} {rest:List Oper} {Q:Fr→World→Prop} {d:Nat} {od:Option Nat} {ty:TypeId} {pos:String} {af:Array Edge} {g:Option (Nat×Bool)}
end
def pick (L T:List Ent):List Nat→List Ent
  | []=>T
  | i :: is=>match L[i]? with | some e=>e :: pick L T is | none=>pick L T is
def okpk:List Nat→Bool
  | []=>true
  | i :: is=>!is.elem i&&okpk is
theorem zIq {L T:List Ent} {e:Ent}:∀ {is:List Nat},e ∈ pick L T is→e ∈ T∨∃ j ∈ is,L[j]?=some e
  | [],h=>.inl h
  | i :: is,h=>by
    have ih:e ∈ pick L T is→e ∈ T∨∃ j ∈ i :: is,L[j]?=some e:=fun h=>by
      rcases zIq h with h | ⟨j,hj,hl⟩
      · exact .inl h
      · exact .inr ⟨j,List.mem_cons_of_mem _ hj,hl⟩
    unfold pick at h
    split at h
    case h_2=>exact ih h
    rename_i e' he'
    rcases List.mem_cons.1 h with rfl | h
    · exact .inr ⟨i,List.mem_cons_self,he'⟩
    · exact ih h
section
variable {w0 w:World} {H0 H:Hp} {L L':List Ent}
theorem St.picked (S:St w0 H0 w H L) {T:List Ent} (hT:T.Sublist L) {is:List Nat} (hn:okpk is=true) (hj:∀ e ∈ T,∃ j,j ∉ is∧L[j]?=some e):St w0 H0 w H (pick L T is):=by
  have hm:∀ e ∈ pick L T is,e ∈ L:=fun e h=>by
    rcases zIq h with h | ⟨j,_,hj⟩
    · exact hT.subset h
    · exact List.mem_of_getElem? hj
  refine ⟨S.post,fun e h=>S.ents e (hm e h),fun e h=>S.own e (hm e h),?_⟩
  have key:∀ is,okpk is=true→(∀ e ∈ T,∃ j,j ∉ is∧L[j]?=some e)→((pick L T is).filterMap Ent.blk).Nodup:=by
    intro is
    induction is with
    | nil=>intro _ _; exact S.nodup.sublist (hT.filterMap _)
    | cons i is ih =>
      intro h hj
      simp only [okpk,Bool.and_eq_true,Bool.not_eq_true'] at h
      obtain ⟨hi,ho⟩:=h
      have ih:=ih ho fun e he=>by
        obtain ⟨j,h1,h2⟩:=hj e he
        exact ⟨j,fun h=>h1 (List.mem_cons_of_mem _ h),h2⟩
      unfold pick
      split
      case h_2=>exact ih
      rename_i e he
      rw [List.filterMap_cons]
      cases hb:e.blk with
      | none=>exact ih
      | some b =>
        refine List.nodup_cons.2 ⟨fun hmem=>?_,ih⟩
        obtain ⟨e',he',hb'⟩:=List.mem_filterMap.1 hmem
        rcases zIq he' with h | ⟨j,hjm,hl⟩
        · obtain ⟨j,h1,h2⟩:=hj e' h
          exact S.blk_ne he h2 hb hb' (fun h=>h1 (h ▸ List.mem_cons_self)) rfl
        · refine S.blk_ne he hl hb hb' ?_ rfl
          rintro rfl
          rw [List.elem_eq_true_of_mem hjm] at hi
          cases hi
  exact key is hn hj
theorem St.pk (S:St w0 H0 w H L) (is:List Nat) (hn:okpk is=true:=by exact rfl) (he:pick L [] is=L':=by exact rfl):St w0 H0 w H L':=by
  subst he
  exact S.picked (List.nil_sublist L) hn fun e h=>nomatch h
end
end Go.Eng
namespace Go.Eng
open Go
def u64 (a:Int):Value:=.int .u64 a
section
variable {P:Program} {N:Frm} {f:Fr} {w:World} {d:Option Nat} {ty:TypeId} {pos:String} {af:Array Edge} {g:Option (Nat×Bool)}
section
variable {x y:Operand} {a b:Int} {T T':TypeId} (hx:ev N f x=u64 a) (hy:ev N f y=u64 b)
include hx hy
end
theorem zQk (q:Nat) (h:q<256):((toU8 (q:Int)).toNat:Int)=q:=by
  rw [toU8,UInt8.toNat_ofNat']; omega
section
variable {x y:Operand} {a b:UInt8} {n:Int} {T T':TypeId}
theorem R.quo8 (hx:ev N f x=byt a) (hy:ev N f y=byt b) (h0:b≠0):(execOp (ev N f) ⟨d,.binOp .quo T x y T',ty,pos,af,g⟩).run P w=.ok (.value (byt (a / b))) w:=by
  have h1:(b.toNat:Int)≠0:=fun h=>h0 (UInt8.toNat_inj.1 (by simpa using h))
  have h2:IntKind.wrap .u8 ((a.toNat:Int).tdiv b.toNat)=((a / b).toNat:Int):=by
    have h:=a.toNat_lt
    have hd:a.toNat / b.toNat≤a.toNat:=Nat.div_le_self _ _
    have e:(a.toNat:Int).tdiv b.toNat=((a.toNat / b.toNat:Nat):Int):=by rw [Int.tdiv_eq_ediv_of_nonneg (by omega)]; simp
    rw [wrap_u8,e,zQk _ (Nat.lt_of_le_of_lt hd h),UInt8.toNat_div]
  simp only [execOp,eqGuard,hx,hy,byt,binOp,Op.intDiv]
  rw [if_neg h1,h2]; rfl
theorem R.rem8 (hx:ev N f x=byt a) (hy:ev N f y=byt b) (h0:b≠0):(execOp (ev N f) ⟨d,.binOp .rem T x y T',ty,pos,af,g⟩).run P w=.ok (.value (byt (a % b))) w:=by
  have h2:(a.toNat:Int).tmod b.toNat=((a % b).toNat:Int):=by
    rw [Int.tmod_eq_emod_of_nonneg (by omega),UInt8.toNat_mod]; simp
  have h1:(b.toNat:Int)≠0:=fun h=>h0 (UInt8.toNat_inj.1 (by simpa using h))
  simp only [execOp,eqGuard,hx,hy,byt,binOp,Op.intDiv]
  rw [if_neg h1,h2]; rfl
def bor (a b:UInt8):UInt8:=a ||| b
theorem R.or8 {x y:Operand} {a b:UInt8} (hx:ev N f x=byt a) (hy:ev N f y=byt b):(execOp (ev N f) ⟨d,.binOp .or T x y T',ty,pos,af,g⟩).run P w=.ok (.value (byt (bor a b))) w:=by
  have e:IntKind.wrap .u8 ((BitVec.ofInt 8 (a.toNat:Int) ||| BitVec.ofInt 8 (b.toNat:Int)).toNat:Int)=((a ||| b).toNat:Int):=by
    have h1:(BitVec.ofInt 8 (a.toNat:Int) ||| BitVec.ofInt 8 (b.toNat:Int)).toNat=(a ||| b).toNat:=by
      rw [BitVec.toNat_or,UInt8.toNat_or]
      have ha:=a.toNat_lt; have hb:=b.toNat_lt
      congr 1 <;> (rw [BitVec.ofInt_natCast,BitVec.toNat_ofNat]; omega)
    rw [h1,wrap_u8,toU8]
    have hc:=(a ||| b).toNat_lt
    rw [UInt8.toNat_ofNat']; omega
  simp only [execOp,eqGuard,hx,hy,byt,binOp,Op.intBits,bor]
  simp
  exact e
end
end
end Go.Eng
