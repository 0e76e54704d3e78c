/- A part. -/
import Derived.Test.YtljjaiijlaeoeaaGreatDoorEng13
import Derived.StillTail
import Derived.Maps.Keyed
import Derived.Sort.Grow
import Derived.Sort.EncStr
import Derived.Lib.SlicesCompact
import Derived.Lib.LaidTab
import Derived.Lib.ItoaNum
namespace Go.Eng
open Go Go.ChangeMaps
set_option linter.unusedVariables false
set_option linter.unusedSimpArgs false
section
variable {P:Program} {N:Frm} {f:Fr} {w w' w0:World} {H0 H:Hp} {L:List Ent} {ops:Array Oper} {rest:List Oper} {Q:Fr→World→Prop} {d:Nat} {od:Option Nat} {ty:TypeId} {pos:String} {af:Array Edge} {g:Option (Nat×Bool)}
theorem St.new (S:St w0 H0 w H L) (o:Obj) (e:Ent) (hb:e.blk=some w.heap.size) (hok:e.ok (w.alloc o) H):St w0 H0 (w.alloc o) H (e :: L):=by
  have hsz:w0.heap.size≤w.heap.size:=S.post.below.size
  have hold:∀ i,i<w.heap.size→(w.alloc o).heap[i]?=w.heap[i]?:=fun i hi=>RowKit.Below.heap_alloc w _ i hi
  refine ⟨⟨S.post.below.alloc hsz _,S.post.le,S.post.eqb,fun b T' l hbb=>?_⟩,?_,?_,?_⟩
  · obtain ⟨cs',fz',hc,hr'⟩:=S.holds b T' l hbb
    exact ⟨cs',fz',by rw [hold b (Array.getElem?_eq_some_iff.1 hc).1]; exact hc,hr'⟩
  · intro e' he
    rcases List.mem_cons.1 he with rfl | he
    · exact hok
    · exact Ent.ok_keep (S.ents e' he) fun b hb=>⟨hold b (Ent.ok_lt (S.ents e' he) hb),rfl⟩
  · intro e' he b hbb
    rcases List.mem_cons.1 he with rfl | he
    · rw [hb] at hbb; cases hbb; exact hsz
    · exact S.own e' he b hbb
  · rw [List.filterMap_cons,hb]
    exact List.nodup_cons.2 ⟨fun hm=>Nat.lt_irrefl _ (S.lt hm),S.nodup⟩
theorem St.renew (S : St w0 H0 w H L) {i b : Nat} {e e' : Ent} (hi : L[i]? = some e) (hb : e.blk = some b) (hb' : e'.blk = some b) (hH : H b = none)
    (hoth:∀ k,k≠b→w'.heap[k]?=w.heap[k]?) (hsz:w'.heap.size=w.heap.size) (hos:w'.os=w.os∧w'.tape=w.tape∧w'.output=w.output) (hok:e'.ok w' H):St w0 H0 w' H (L.set i e'):=by
  have hmem:=List.mem_of_getElem? hi
  have hown:w0.heap.size≤b:=S.own _ hmem b hb
  refine ⟨⟨S.post.below.trans ⟨hos.1,hos.2.1,hos.2.2,by omega,fun k hk=>hoth k (by omega)⟩,S.post.le,S.post.eqb,?_⟩,?_,?_,?_⟩
  · intro k T' l hk
    have hne:k≠b:=fun h=>by subst h; rw [hH] at hk; cases hk
    rw [hoth k hne]; exact S.holds k T' l hk
  · intro e2 he
    obtain ⟨j,hj⟩:=List.mem_iff_getElem?.1 he
    by_cases hij:i=j
    · subst hij
      have hlt:=(List.getElem?_eq_some_iff.1 hi).1
      rw [List.getElem?_set_self hlt] at hj
      simp at hj; subst hj
      exact hok
    · rw [List.getElem?_set_ne hij] at hj
      refine Ent.ok_keep (S.ents e2 (List.mem_of_getElem? hj)) fun k hk=>⟨hoth k ?_,rfl⟩
      exact S.blk_ne hj hi hk hb (Ne.symm hij)
  · intro e2 he k hk
    obtain ⟨j,hj⟩:=List.mem_iff_getElem?.1 he
    by_cases hij:i=j
    · subst hij
      have hlt:=(List.getElem?_eq_some_iff.1 hi).1
      rw [List.getElem?_set_self hlt] at hj
      simp at hj; subst hj
      rw [hb'] at hk; cases hk; exact hown
    · rw [List.getElem?_set_ne hij] at hj
      exact S.own e2 (List.mem_of_getElem? hj) k hk
  · rw [zB8 (e':=e') hi (hb'.trans hb.symm)]; exact S.nodup
def mapv (b:Nat):Value:=.map (some b)
theorem St.mpOk (S:St w0 H0 w H L) {i b:Nat} {kvs:List (Value×Value)} (hi:L[i]?=some (.mp b kvs)):MpOk w H b kvs:=S.ents _ (List.mem_of_getElem? hi)
theorem W.makeMap {T:TypeId} (S:St w0 H0 w H L) (k:∀ b w',St w0 H0 w' H (.mp b [] :: L)→WL P N ops rest Q (upd f d (mapv b)) w'):WL P N ops (⟨some d,.makeMap T none,ty,pos,af,none⟩ :: rest) Q f w:=by
  refine WL.w (v:=mapv w.heap.size) (w':=w.alloc (.map #[] 0)) ?_ (k _ _ (S.new (.map #[] 0) (.mp w.heap.size []) rfl ⟨S.holds.none_of_size (Nat.le_refl _),#[],0,heap_alloc_new w _,rfl⟩))
  simp [execOp,Instr.makeMap,mapv]
def mget {β:Type} (m:List (Str×β)) (k:Str) (z:β):β×Bool:=match m.lookup k with | some v=>(v,true) | none=>(z,false)
def mset {β:Type}:List (Str×β)→Str→β→List (Str×β)
  | [],k,v=>[(k,v)]
  | p :: r,k,v=>if k==p.1 then (k,v) :: r else p :: mset r k v
def mdel {β:Type}:List (Str×β)→Str→List (Str×β)
  | [],_=>[]
  | p :: r,k=>if k==p.1 then r else p :: mdel r k
def encm {β:Type} (F:β→Value) (m:List (Str×β)):List (Value×Value):=m.map fun p=>(str p.1,F p.2)
theorem zGv (a b:Str):((⟨⟨a⟩⟩:ByteArray)==(⟨⟨b⟩⟩:ByteArray))=(a==b):=by
  show ((⟨a⟩:Array UInt8)==⟨b⟩)=_
  rw [Bool.eq_iff_iff,beq_iff_eq,beq_iff_eq]
  exact ⟨fun h=>by injection h,fun h=>by rw [h]⟩
theorem zDN {β : Type} (F : β → Value) (k : Str) : ∀ (m : List (Str × β)) (es : List MapEntry) (i : Nat), es.map (fun e => (e.key, e.val)) = encm F m →
    ∃ r,Instr.findNow .string (str k) es i=some r∧r.map (·.2)=(m.lookup k).map F∧(∀ j v,r=some (j,v)→i≤j∧j - i<es.length ∧
      ((es.modify (j - i) fun e=>{ e with key:=str k,val:=v })).map (fun e=>(e.key,e.val))=encm F m)
     ∧(∀ j v (u:β),r=some (j,v)→(es.modify (j - i) fun e=>{ e with key:=str k,val:=F u }).map (fun e=>(e.key,e.val))=encm F (mset m k u))
     ∧(r=none→∀ u,mset m k u=m++[(k,u)])
     ∧(∀ j v,r=some (j,v)→(es.eraseIdx (j - i)).map (fun e=>(e.key,e.val))=encm F (mdel m k))∧(r=none→mdel m k=m)∧(∀ j v,r=some (j,v)→(es[j - i]?).map (·.key)=some (str k)):=by
  intro m
  induction m with
  | nil =>
    intro es i h
    obtain rfl:es=[]:=by cases es with
      | nil=>rfl
      | cons _ _=>simp [encm] at h
    exact ⟨none,rfl,rfl,fun _ _ h=>by simp at h,fun _ _ _ h=>by simp at h,fun _ _=>rfl,fun _ _ h=>by simp at h,fun _=>rfl,fun _ _ h=>by simp at h⟩
  | cons p m ih =>
    intro es i h
    cases es with
    | nil=>simp [encm] at h
    | cons e es =>
      have h':(e.key,e.val)=(str p.1,F p.2)∧es.map (fun e=>(e.key,e.val))=encm F m:=by
        simp only [encm,List.map_cons,List.cons.injEq] at h; exact h
      obtain ⟨h1,h2⟩:=h'
      obtain ⟨hk,hv⟩:=Prod.mk.inj h1
      by_cases hkp:k=p.1
      · subst hkp
        refine ⟨some (i,e.val),?_,?_,?_,?_,?_,?_,?_,?_⟩
        · have : Instr.sameNow .string (str p.1) e.key = some true := by
            rw [hk]; simp only [str,Instr.sameNow]
            rw [zGv]; simp
          rw [Instr.findNow,this]
        · simp [hv,List.lookup]
        · intro j v hj
          obtain ⟨rfl,rfl⟩:=Prod.mk.inj (Option.some.inj hj)
          refine ⟨Nat.le_refl _,by simp,?_⟩
          rw [Nat.sub_self]
          simp [encm,h2,hv]
        · intro j v u hj
          obtain ⟨rfl,rfl⟩:=Prod.mk.inj (Option.some.inj hj)
          rw [Nat.sub_self]
          simp [List.modify,encm,mset]
          exact h2
        · intro hn; cases hn
        · intro j v hj
          obtain ⟨rfl,rfl⟩:=Prod.mk.inj (Option.some.inj hj)
          rw [Nat.sub_self]
          simp [mdel]
          exact h2
        · intro hn; cases hn
        · intro j v hj
          obtain ⟨rfl,rfl⟩:=Prod.mk.inj (Option.some.inj hj)
          rw [Nat.sub_self]
          simp [hk]
      · obtain ⟨r,hr1,hr2,hr3,hr4,hr5,hr6,hr7,hr8⟩:=ih es (i+1) h2
        have hne:(k==p.1)=false:=by simpa using hkp
        refine ⟨r,?_,?_,?_,?_,?_,?_,?_,?_⟩
        · have : Instr.sameNow .string (str k) e.key = some false := by
            rw [hk]; simp only [str,Instr.sameNow]
            rw [zGv,hne]
          rw [Instr.findNow,this]; exact hr1
        · rw [hr2,List.lookup,hne]
        · intro j v hj
          obtain ⟨g1,g2,g3⟩:=hr3 j v hj
          refine ⟨by omega,by simp; omega,?_⟩
          have e1:j - i=(j - (i+1))+1:=by omega
          rw [e1,List.modify_succ_cons,List.map_cons,g3]
          simp [encm,hk,hv]
        · intro j v u hj
          obtain ⟨g1,_,_⟩:=hr3 j v hj
          have e1:j - i=(j - (i+1))+1:=by omega
          rw [e1,List.modify_succ_cons,List.map_cons,hr4 j v u hj,mset,hne]
          simp [encm,hk,hv]
        · intro hn u
          rw [mset,hne,hr5 hn]; rfl
        · intro j v hj
          obtain ⟨g1,_,_⟩:=hr3 j v hj
          have e1:j - i=(j - (i+1))+1:=by omega
          rw [e1,List.eraseIdx_cons_succ,List.map_cons,hr6 j v hj,mdel,hne]
          simp [encm,hk,hv]
        · intro hn
          rw [mdel,hne,hr7 hn]; rfl
        · intro j v hj
          obtain ⟨g1,_,_⟩:=hr3 j v hj
          have e1:j - i=(j - (i+1))+1:=by omega
          rw [e1,List.getElem?_cons_succ]; exact hr8 j v hj
theorem zA2 {T:TypeId} (hT:P.underlying T=some .string) (e:Bool) (v:Value):(Instr.checkKey e 10000 T v).run P w=.ok () w:=by
  unfold Instr.checkKey
  rw [Sem.run_bind,run_underlying hT,Result.andThen_ok]
  rfl
theorem zDc {β : Type} {T : TypeId} (hT : P.underlying T = some .string) (F : β → Value) (k : Str) (m : List (Str × β)) (es : List MapEntry) (h : es.map (fun e => (e.key, e.val)) = encm F m) {r : Option (Nat × Value)} (hr : Instr.findNow .string (str k) es 0 = some r) :
    (Instr.findKey T (str k) es).run P w=.ok r w:=by
  unfold Instr.findKey
  rw [Sem.run_bind,run_underlying hT,Result.andThen_ok,hr]
  rfl
theorem R.lookup {β : Type} (F : β → Value) {T K E : TypeId} {x y : Operand} {b i : Nat} {m : List (Str × β)} {k : Str} {z : β} {zc : Value} (S : St w0 H0 w H L) (hx : ev N f x = mapv b) (hy : ev N f y = str k) (hi : L[i]? = some (.mp b (encm F m)))
    (hT:P.underlying T=some (.map K E)) (hK:P.underlying K=some .string) (hz:((P.info? E).bind (·.zero))=some zc) (hF:zc=F z) :
    (execOp (ev N f) ⟨od,.lookup T x y true,ty,pos,af,g⟩).run P w=.ok (.value (.tuple ⟨[F (mget m k z).1,boo (mget m k z).2]⟩)) w:=by
  obtain ⟨_,es,cl,hc,he⟩:=S.mpOk hi
  obtain ⟨r,hr1,hr2,_⟩:=zDN F k m es.toList 0 he
  have hg:(getObj b).run P w=.ok (.map es cl) w:=MapKept.run_getObj_map hc
  have hz':(zeroValue E).run P w=.ok (F z) w:=by
    cases hE:P.info? E with
    | none=>rw [hE] at hz; cases hz
    | some inf=>rw [hE] at hz; simp at hz; simp [zeroValue,typeInfo,hE,hz,hF]
  have hfk:=zDc (w:=w) hK F k m es.toList he hr1
  unfold mget
  cases hm:m.lookup k with
  | none =>
    rw [hm] at hr2
    have hr:r=none:=by cases r with
      | none=>rfl
      | some _=>simp at hr2
    subst hr
    simp [execOp,Instr.lookup,hx,hy,mapv,run_underlying hT,hg,zA2 hK,hfk,hz',Result.andThen,boo]
  | some v =>
    rw [hm] at hr2
    obtain ⟨j,u,rfl,hu⟩:∃ j u,r=some (j,u)∧u=F v:=by
      cases r with
      | none=>simp at hr2
      | some q=>exact ⟨q.1,q.2,rfl,by simpa using hr2⟩
    subst hu
    simp [execOp,Instr.lookup,hx,hy,mapv,run_underlying hT,hg,zA2 hK,hfk,Result.andThen,boo]
theorem R.lookup1 {β : Type} (F : β → Value) {T K E : TypeId} {x y : Operand} {b i : Nat} {m : List (Str × β)} {k : Str} {z : β} {zc : Value} (S : St w0 H0 w H L) (hx : ev N f x = mapv b) (hy : ev N f y = str k) (hi : L[i]? = some (.mp b (encm F m)))
    (hT:P.underlying T=some (.map K E)) (hK:P.underlying K=some .string) (hz:((P.info? E).bind (·.zero))=some zc) (hF:zc=F z) :
    (execOp (ev N f) ⟨od,.lookup T x y false,ty,pos,af,g⟩).run P w=.ok (.value (F (mget m k z).1)) w:=by
  obtain ⟨_,es,cl,hc,he⟩:=S.mpOk hi
  obtain ⟨r,hr1,hr2,_⟩:=zDN F k m es.toList 0 he
  have hg:(getObj b).run P w=.ok (.map es cl) w:=MapKept.run_getObj_map hc
  have hz':(zeroValue E).run P w=.ok (F z) w:=by
    cases hE:P.info? E with
    | none=>rw [hE] at hz; cases hz
    | some inf=>rw [hE] at hz; simp at hz; simp [zeroValue,typeInfo,hE,hz,hF]
  have hfk:=zDc (w:=w) hK F k m es.toList he hr1
  unfold mget
  cases hm:m.lookup k with
  | none =>
    rw [hm] at hr2
    have hr:r=none:=by cases r with
      | none=>rfl
      | some _=>simp at hr2
    subst hr
    simp [execOp,Instr.lookup,hx,hy,mapv,run_underlying hT,hg,zA2 hK,hfk,hz',Result.andThen]
  | some v =>
    rw [hm] at hr2
    obtain ⟨j,u,rfl,hu⟩:∃ j u,r=some (j,u)∧u=F v:=by
      cases r with
      | none=>simp at hr2
      | some q=>exact ⟨q.1,q.2,rfl,by simpa using hr2⟩
    subst hu
    simp [execOp,Instr.lookup,hx,hy,mapv,run_underlying hT,hg,zA2 hK,hfk,Result.andThen]
theorem zHg (w:World) (b:Nat) (o:Obj) (k:Nat) (h:k≠b):(setBlock w b o).heap[k]?=w.heap[k]?:=by
  simp [setBlock,Array.getElem?_setIfInBounds,Ne.symm h]
theorem St.setMp (S : St w0 H0 w H L) {i b : Nat} {kvs kvs' : List (Value × Value)} {es : Array MapEntry} {cl : Nat} (hi : L[i]? = some (.mp b kvs)) (he : es.toList.map (fun e => (e.key, e.val)) = kvs') :
    St w0 H0 (setBlock w b (.map es cl)) H (L.set i (.mp b kvs')):=by
  obtain ⟨hH,es0,cl0,hc,_⟩:=S.mpOk hi
  have hlt:=(Array.getElem?_eq_some_iff.1 hc).1
  refine S.renew hi rfl rfl hH (fun k hk=>zHg w b _ k hk) (by simp [setBlock]) ⟨rfl,rfl,rfl⟩ ⟨hH,es,cl,?_,he⟩
  simp [setBlock,Array.getElem?_setIfInBounds,hlt]
theorem W.mapUpdate {β : Type} (F : β → Value) {T K E : TypeId} {x y z : Operand} {b i : Nat} {m : List (Str × β)} {k : Str} {v : Value} (u : β) (S : St w0 H0 w H L) (hx : ev N f x = mapv b) (hy : ev N f y = str k) (hz : ev N f z = v) (hv : v = F u) (hi : L[i]? = some (.mp b (encm F m)))
    (hT:P.underlying T=some (.map K E)) (hK:P.underlying K=some .string)
    (kk:∀ w',St w0 H0 w' H (L.set i (.mp b (encm F (mset m k u))))→WL P N ops rest Q (updo f od undef) w'):WL P N ops (⟨od,.mapUpdate T x y z,ty,pos,af,none⟩ :: rest) Q f w:=by
  obtain ⟨hH,es,cl,hc,he⟩:=S.mpOk hi
  obtain ⟨r,hr1,hr2,hr3,hr4,hr5,_,_,hr8⟩:=zDN F k m es.toList 0 he
  have hg:(getObj b).run P w=.ok (.map es cl) w:=MapKept.run_getObj_map hc
  have hfk:=zDc (w:=w) hK F k m es.toList he hr1
  have hset:∀ es' cl',(setObj b (.map es' cl')).run P w=.ok () (setBlock w b (.map es' cl')):=fun es' cl'=>MapKept.run_setObj_map _ hc
  cases r with
  | none =>
    refine WL.skipw (w':=setBlock w b (.map (es.push { key:=str k,val:=v,born:=cl }) (cl+1))) ?_ (kk _ (S.setMp hi ?_))
    · simp [execOp,Instr.mapUpdate,hx,hy,hz,mapv,run_underlying hT,hg,zA2 hK,hfk,hset,Result.andThen]
    · rw [Array.toList_push,List.map_append,he,hr5 rfl]
      simp [encm,hv]
  | some q =>
    obtain ⟨j,u0⟩:=q
    have h8:=hr8 j u0 rfl
    have hk8:(((es[j]?).map (·.key)).getD (str k))=str k:=by
      rw [← Array.getElem?_toList]
      have:(es.toList[j]?).map (·.key)=some (str k):=h8
      rw [this]; rfl
    have hst:(Instr.keyThatStays (str k) (str k)).run P w=.ok (str k) w:=by
      have hb:Instr.sameBits 10000 (str k) (str k)=true:=by
        unfold Instr.sameBits
        exact (zGv k k).trans (by simp)
      simp [Instr.keyThatStays,hb]
    refine WL.skipw (w':=setBlock w b (.map (es.modify j fun e=>{ e with key:=str k,val:=v }) cl)) ?_ (kk _ (S.setMp hi ?_))
    · simp [execOp,Instr.mapUpdate,hx,hy,hz,mapv,run_underlying hT,hg,zA2 hK,hfk,hset,Result.andThen,hk8,hst]
    · rw [Array.toList_modify]
      have:=hr4 j u0 u rfl
      subst hv
      exact this
end
theorem R.ofEq {r:Result Next} {w:World} {v v':Value} (h:r=.ok (.value v) w) (e:v=v'):r=.ok (.value v') w:=by subst e; exact h
def RD (P:Program) (N:Frm) (c:Code) (Q:Exit→Fr→World→Prop) (n:Nat) (f:Fr) (w:World):Prop :=
  Code.rounds P c (fun e a w'=>∃ f',a=act N f'∧Q e f' w') n (act N f) w
section
variable {P:Program} {N:Frm} {f:Fr} {w w' w0:World} {H0 H:Hp} {L:List Ent} {ops:Array Oper} {rest:List Oper} {d:Nat} {od:Option Nat} {ty:TypeId} {pos:String} {af:Array Edge} {g:Option (Nat×Bool)}
theorem WP.loopRd {c:Code} {Q:Exit→Fr→World→Prop} (n:Nat) (h:RD P N c Q n f w):WP P N (.loop c) Q f w:=wp_loop_rounds n h
theorem RD.succ {c:Code} {Q:Exit→Fr→World→Prop} {n:Nat} (h:WP P N c (fun e f w=>match e with | .normal=>RD P N c Q n f w | e=>Q e f w) f w):RD P N c Q (n+1) f w:=by
  unfold RD
  rw [rounds_succ]
  refine Code.wp_mono (fun e a w ⟨f',ha,hq⟩=>?_) h
  subst ha
  cases e with
  | normal=>exact hq
  | _=>exact ⟨f',rfl,hq⟩
theorem R.nilCheckB {x:Operand} {b o:Nat} (hx:ev N f x=ptr b o):(execOp (ev N f) ⟨od,.nilCheck x,ty,pos,af,g⟩).run P w=.ok (.value (ptr b o)) w:=by
  simp [execOp,hx,ptr]
def ftype (P:Program) (T:TypeId) (k:Nat):Option (TypeId×Nat) :=
  match P.underlying T with
  | some (.struct fs)=>(fs[k]?).map fun g=>(g.type,g.offset)
  | _=>none
def partV (bb:Bool) (cs:List Value) (off m:Nat):Value:=bif bb then agg ((cs.drop off).take m) else cs.getD off undef
theorem R.fieldV {T t k off m : Nat} {bb : Bool} {x : Operand} {cs : List Value} {v : Value} (hx : ev N f x = agg cs) (hf : ftype P T k = some (t, off)) (ht : lay P t = some (bb, m)) (hv : (decide (off < cs.length) && true, partV bb cs off m) = (true, v)) :
    (execOp (ev N f) ⟨od,.field T x k,ty,pos,af,g⟩).run P w=.ok (.value v) w:=by
  obtain ⟨hlt,hv⟩:=Prod.mk.inj hv
  obtain ⟨g1,g2⟩:=zEB (w:=w) ht
  unfold ftype at hf
  split at hf
  case h_2=>cases hf
  rename_i fs hT
  cases hg:fs[k]? with
  | none=>rw [hg] at hf; cases hf
  | some q =>
    rw [hg] at hf
    simp only [Option.map_some,Option.some.injEq,Prod.mk.injEq] at hf
    obtain ⟨rfl,rfl⟩:=hf
    subst hv
    have hlt':q.offset<cs.length:=by simpa using hlt
    unfold partV
    cases bb with
    | true=>simp [execOp,Instr.field,hx,agg,run_underlying hT,hg,asAgg,part,g1,g2,Result.andThen,List.drop_take]
    | false=>simp [execOp,Instr.field,hx,agg,run_underlying hT,hg,asAgg,part,g1,Result.andThen,List.getElem?_eq_getElem hlt']
structure Raw (n:Nat) where
  l:List Value
  len:l.length=n
  one:l.all Value.oneCell'=true
instance (n:Nat):Enc (Raw (n+1)) where
  sz:=n+1
  cells H cs x:=cs=x.l
  pos:=Nat.succ_pos _
  len:=fun {H cs x} h=>by rw [h]; exact x.len
  mono:=fun h _=>h
  one:=fun {H cs x} h v hv=>by rw [h] at hv; exact List.all_eq_true.1 x.one v hv
def anyH (P:Program) (md:Region.Mode) (ops:Array Oper) (C:World→Prop) (n:Nat) (Lq:Array Bool→Act→Prop):Nat→Array Bool→Act→Prop
  | 0,listed,a=>Lq listed a
  | k+1,listed,a=>Region.ready md ops listed≠[]∧∀ i ∈ Region.ready md ops listed,i<n∧qOp P ops C i (anyH P md ops C n Lq k (listed.setIfInBounds i true)) a
variable {md:Region.Mode} {C:World→Prop} {n m:Nat} {Lq:Array Bool→Act→Prop}
theorem zHy {Q':Exit→Act→World→Prop} (hL:∀ listed a w,C w→Lq listed a→wpAny P md ops Q' m listed a w):∀ (k:Nat) (listed:Array Bool) (a:Act) (w:World),C w→anyH P md ops C n Lq k listed a→wpAny P md ops Q' (k+m) listed a w
  | 0,listed,a,w,hw,h=>by rw [Nat.zero_add]; exact hL _ _ _ hw h
  | k+1,listed,a,w,hw,h=>by
    have e:k+1+m=(k+m)+1:=by omega
    rw [e]
    exact ⟨fun h0=>absurd h0 h.1,fun i hi=>wpOp_of_qOp hw (fun a' w' hw' h'=>zHy hL k _ a' w' hw' h') (h.2 i hi).2⟩
theorem zIE {i : Nat} {oi : Oper} {v : Value} (hi : ops[i]? = some oi) (hsel : ∀ (j : Nat) (o : Oper) cs b, ops[j]? = some o → o.op ≠ .select cs b)
    (hs:Region.sinkB md ops n=true) (hc:Region.chainB md ops n=true) (hn:n<ops.size) (hin:i<n) (hdone:∀ listed a,Lq listed a→∀ j ∈ Region.ready md ops listed,n≤j) :
    ∀ (k:Nat) (listed:Array Bool) (a:Act),HeadInv md ops n listed →
      (∀ j oj,ops[j]?=some oj→j≠i→listed.getD j true=false→(∀ e ∈ oj.after,Region.binds md e=true→e.on≠i)→oi.apart ops oj=true) →
      i ∈ Region.ready md ops listed→YieldsIn P ops C oi v a→anyH P md ops C n Lq k (listed.setIfInBounds i true) (a.put oi.dst v)→anyH P md ops C n Lq (k+1) listed a:=by
  intro k
  induction k with
  | zero =>
    intro listed a inv _ hr hy H
    have hun:=(mem_ready.1 hr).1
    refine ⟨fun h=>by rw [h] at hr; exact absurd hr (List.not_mem_nil),fun j hj=>?_⟩
    have hjn:j<n:=Nat.lt_of_not_le fun h=>absurd hj (tail_waits hs hc hn inv _ i rfl hin hun j h)
    by_cases hji:j=i
    · subst hji; exact ⟨hjn,hy.qOp hi H⟩
    · exact absurd (hdone _ _ H j (ready_mono hj hji)) (by omega)
  | succ k ih =>
    intro listed a inv hfree hr hy H
    have hun:=(mem_ready.1 hr).1
    refine ⟨fun h=>by rw [h] at hr; exact absurd hr (List.not_mem_nil),fun j hj=>?_⟩
    have hjn:j<n:=Nat.lt_of_not_le fun h=>absurd hj (tail_waits hs hc hn inv _ i rfl hin hun j h)
    refine ⟨hjn,?_⟩
    by_cases hji:j=i
    · subst hji; exact hy.qOp hi H
    · obtain ⟨hjun,oj,hoj,hall⟩:=mem_ready.1 hj
      have hnot:∀ e ∈ oj.after,Region.binds md e=true→e.on≠i:=fun e he hb heq=>by
        have h1:=hall e he hb
        rw [heq,getD_both hun] at h1
        cases h1
      refine qOp_mono (fun a' h3=>ih (listed.setIfInBounds j true) a' (inv.set hj hjn) (fun x ox hx hxi hxu hxn=>?_) (ready_mono hr (Ne.symm hji)) h3.1 ?_)
        (qOp_put hoj (hfree j oj hoj hji hjun hnot) (fun cs b=>hsel i oi cs b hi) (fun cs b=>hsel j oj cs b hoj) hy (H.2 j (ready_mono hj hji)).2)
      · refine hfree x ox hx hxi ?_ hxn
        by_cases hjx:j=x
        · subst hjx; exact hjun
        · rw [getD_set_ne true hjx] at hxu; exact hxu
      · rw [Array.setIfInBounds_comm _ _ hji]
        exact h3.2
theorem zHz {Qa : Act → Prop} (hsel : Region.noSelect ops = true) (hs : Region.sinkB md ops n = true) (hc : Region.chainB md ops n = true) (hn : n < ops.size) :
    ∀ (l:List Oper) (k:Nat) (listed:Array Bool) (a:Act),(∀ j,j<l.length→l[j]?=ops[k+j]?)→k+l.length=n→HeadInv md ops n listed →
    Region.lexHead md ops m l.length k listed=true→wpQuiet P ops C Qa l a →
    anyH P md ops C n (fun listed' a'=>Region.seqB md ops m n listed'=true∧Qa a') l.length listed a
  | [],k,listed,a,_,hk,_,hB,h=>by
    obtain rfl:k=n:=by simpa using hk
    exact ⟨by simpa [Region.lexHead] using hB,h⟩
  | o :: l,k,listed,a,hl,hk,inv,hB,h=>by
    have h0:ops[k]?=some o:=by simpa using (hl 0 (by simp)).symm
    simp only [List.length_cons,Region.lexHead,Bool.and_eq_true] at hB
    obtain ⟨⟨hr,hf⟩,hB'⟩:=hB
    have hkn:k<n:=by simp only [List.length_cons] at hk; omega
    have hr':k ∈ Region.ready md ops listed:=by simpa using hr
    have hst:qOp P ops C k (wpQuiet P ops C Qa l) a:=by unfold qOp; simp only [h0]; exact h
    obtain ⟨v,hy,hK⟩:=yieldsIn_of_qOp h0 hst
    refine zIE h0 (Region.noSelect_spec hsel) hs hc hn hkn (fun listed' a' hL=>seqB_ready hL.1) l.length listed a inv (Region.free_spec h0 hf) hr' hy ?_
    refine zHz hsel hs hc hn l (k+1) _ _ (fun j hj=>?_) (by simp only [List.length_cons] at hk; omega) (inv.set hr' hkn) hB' hK
    have:=hl (j+1) (by simp; omega)
    simpa [Nat.add_assoc,Nat.add_comm 1 j] using this
theorem WL.all {l:List Oper} {Q:Exit→Fr→World→Prop} (h:WL P N ops l (fun f w=>Q .normal f w) f w):wpList P ops (fun e a w'=>∃ f',a=act N f'∧Q e f' w') l (act N f) w:=by
  have key:∀ (l:List Oper) (a:Act) (w:World),wpList P ops (fun e a w'=>∃ f',a=act N f'∧e=.normal∧Q .normal f' w') l a w→wpList P ops (fun e a w'=>∃ f',a=act N f'∧Q e f' w') l a w:=by
    intro l
    induction l with
    | nil=>intro a w ⟨f',ha,_,q⟩; exact ⟨f',ha,q⟩
    | cons o rest ih =>
      intro a w h
      unfold wpList at h ⊢
      split
      · rename_i hw
        rw [if_pos hw] at h
        rcases h with h | ⟨_,a0,w0,f0,_,hc,_⟩
        · refine .inl (Oper.wp_monoQ (fun a w hk=>ih _ _ hk) (fun e a w hne ⟨f',ha,he,_⟩=>absurd he hne) h)
        · cases hc
      · rename_i hw
        rw [if_neg hw] at h
        exact ih _ _ h
  exact key _ _ _ h.out
theorem WP.quietTail {id : Nat} {l : List Oper} {Q : Exit → Fr → World → Prop} (n : Nat) (S : St w0 H0 w H L) (hm : P.follows .mixedOrders = true) (hB : Region.lexTailB .any l.toArray n = true)
    (h:WQ P N l.toArray (Cl w0 H0 H L) (l.take n) (fun f'=>∀ w' H',H.le H'→St w0 H0 w' H' L→WL P N l.toArray (l.drop n) (fun f w=>Q .normal f w) f' w') f):WP P N (.region id l.toArray true) Q f w:=by
  simp only [Region.lexTailB,Bool.and_eq_true,decide_eq_true_eq] at hB
  obtain ⟨⟨⟨⟨hsel,hn⟩,hs⟩,hc⟩,hlex⟩:=hB
  have hn':n<l.length:=by simpa using hn
  have htl:(l.take n).length=n:=by simp; omega
  have hdl:(l.drop n).length=l.toArray.size - n:=by simp
  have inv0:HeadInv .any l.toArray n (Array.replicate l.toArray.size false) :=
    ⟨by simp,fun j oj _ hl=>(by rw [getD_replicate_false] at hl; cases hl),fun t _ ht=>getD_in (by simpa using ht) (getD_replicate_false _ _)⟩
  have hh:=zHz (P:=P) (C:=Cl w0 H0 H L) (md:=.any) (m:=l.toArray.size - n) hsel hs hc hn (l.take n) 0 _ (act N f) (fun j hj=>by
    have hj':j<n:=by rw [htl] at hj; exact hj
    simp [hj']) (by simpa using htl) inv0 (by rw [htl]; exact hlex) h.out
  refine wp_region_any hm ?_
  have:=zHy (m:=l.toArray.size - n) (Q':=fun e a w'=>∃ f',a=act N f'∧Q e f' w') (fun listed a' w' hw' hL=>by
    obtain ⟨H',hle,S'⟩:=hw'
    obtain ⟨f',ha,hq⟩:=hL.2
    subst ha
    have:=wpAny_of_seq (md:=.any) (Q':=fun e a w'=>∃ f',a=act N f'∧Q e f' w') (l.drop n) n listed (act N f') w' (fun j=>by simp [List.getElem?_drop]) (by rw [hdl]; exact hL.1) (WL.all (hq w' H' hle S'))
    rwa [hdl] at this) _ _ _ w.drew ⟨H,Hp.le.refl _,S.drew⟩ hh
  rw [htl,show n+(l.toArray.size - n)=l.toArray.size by omega] at this
  exact this
end
end Go.Eng
namespace Go.Eng
open Go Go.RowKit
section
variable {P:Program} {N:Frm} {f:Fr} {w w' w0:World} {H0 H:Hp} {L:List Ent} {ops:Array Oper} {rest:List Oper} {Q:Fr→World→Prop} {d:Nat} {od:Option Nat} {ty:TypeId} {pos:String} {af:Array Edge}
theorem St.turnRow (S : St w0 H0 w H L) (hw : Holds w0 H0) {i g n n' cap sz : Nat} {T : TypeId} {cur' : Array Value}
    (hi:L[i]?=some (.row (.slice (some ⟨g,0,none⟩) n cap) T sz n)) (hoth:∀ k,k≠g→k<w.heap.size→w'.heap[k]?=w.heap[k]?) (hsz:w.heap.size≤w'.heap.size)
    (hos:w'.os=w.os∧w'.tape=w.tape∧w'.output=w.output) (hg:w'.heap[g]?=some (.cells cur' T (0,0))) (hc:cur'.size=cap*sz) (hn:n'≤cap) (hcap:cap≤maxLen) :
    ∃ H',H0.le H'∧H' g=some (T,cur'.toList.take (n'*sz))∧St w0 H0 w' H' (L.set i (.row (.slice (some ⟨g,0,none⟩) n' cap) T sz n')):=by
  have hmem:=List.mem_of_getElem? hi
  have hown:w0.heap.size≤g:=S.own _ hmem g rfl
  have hgl:g<w.heap.size:=S.lt (List.mem_filterMap.2 ⟨_,hmem,rfl⟩)
  have h0g:H0 g=none:=hw.none_of_size hown
  have hle:H0.le (fun k=>if k=g then some (T,cur'.toList.take (n'*sz)) else H k):=by
    intro k T' l hk
    by_cases h:k=g
    · subst h; rw [h0g] at hk; cases hk
    · obtain ⟨l',hl'⟩:=S.post.le k T' l hk
      exact ⟨l',by simp only [if_neg h]; exact hl'⟩
  refine ⟨fun k=>if k=g then some (T,cur'.toList.take (n'*sz)) else H k,hle,by simp,?_⟩
  refine ⟨⟨S.post.below.trans ⟨hos.1,hos.2.1,hos.2.2,hsz,fun k hk=>hoth k (by omega) (by have:=S.post.below.size; omega)⟩,hle,fun k hk=>?_,?_⟩,?_,?_,?_⟩
  · show (if k=g then _ else H k)=H0 k
    rw [if_neg (by omega)]; exact S.post.eqb k hk
  · intro k T' l hk
    by_cases h:k=g
    · subst h
      simp at hk
      obtain ⟨rfl,rfl⟩:=hk
      exact ⟨cur',(0,0),hg,cur'.toList.drop (n'*sz),(List.take_append_drop _ _).symm⟩
    · simp only [if_neg h] at hk
      obtain ⟨cs,fz,hc',hr⟩:=S.holds k T' l hk
      exact ⟨cs,fz,by rw [hoth k h (Array.getElem?_eq_some_iff.1 hc').1]; exact hc',hr⟩
  · intro e he
    obtain ⟨j,hj⟩:=List.mem_iff_getElem?.1 he
    by_cases hij:i=j
    · subst hij
      have hlt:=(List.getElem?_eq_some_iff.1 hi).1
      rw [List.getElem?_set_self hlt] at hj
      simp at hj; subst hj
      exact .inr ⟨g,cap,cur',rfl,hg,hn,hcap,hc,by simp⟩
    · rw [List.getElem?_set_ne hij] at hj
      refine Ent.ok_keep (S.ents e (List.mem_of_getElem? hj)) fun k hk=>?_
      have hne:k≠g:=S.blk_ne hj hi hk rfl (Ne.symm hij)
      exact ⟨hoth k hne (Ent.ok_lt (S.ents e (List.mem_of_getElem? hj)) hk),if_neg hne⟩
  · intro e he k hk
    obtain ⟨j,hj⟩:=List.mem_iff_getElem?.1 he
    by_cases hij:i=j
    · subst hij
      have hlt:=(List.getElem?_eq_some_iff.1 hi).1
      rw [List.getElem?_set_self hlt] at hj
      simp at hj; subst hj
      simp [Ent.blk,Value.ownBlock] at hk; omega
    · rw [List.getElem?_set_ne hij] at hj
      exact S.own e (List.mem_of_getElem? hj) k hk
  · rw [zB8 (e':=.row (.slice (some ⟨g,0,none⟩) n' cap) T sz n') hi rfl]; exact S.nodup
theorem zHV {w : World} {g : Nat} {cur : Array Value} {T : TypeId} {fz : Nat × Nat} {d : Array Str} (h : w.heap[g]? = some (.cells cur T fz)) (hd : d.size ≤ cur.size) :
    ∃ cur',(Sort.putRow Proofs.encStr w g 0 d).heap[g]?=some (.cells cur' T fz)∧cur'.size=cur.size∧cur'.toList.take d.size=d.toList.map str:=by
  refine ⟨Sort.putCells Proofs.encStr 0 d cur,?_,by simp [Sort.putCells],?_⟩
  · simp [Sort.putRow,Sort.mapBlock,Array.getElem?_modify,h,Sort.onCells]
  · apply List.ext_getElem?
    intro k
    by_cases hk:k<d.size
    · rw [List.getElem?_take_of_lt hk]
      have h2:k<cur.size:=by omega
      simp [Sort.putCells,hk,h2,str,Proofs.encStr]
    · rw [List.getElem?_eq_none (by simp; omega),List.getElem?_eq_none (by simp; omega)]
theorem zHK {w:World} {g k:Nat} {d:Array Str} (h:k≠g):(Sort.putRow Proofs.encStr w g 0 d).heap[k]?=w.heap[k]?:=by
  simp [Sort.putRow,Sort.mapBlock,Array.getElem?_modify,Ne.symm h]
theorem zHe {w : World} {H : Hp} {g : Nat} {cur : Array Value} {T : TypeId} {xs : List Str} {cap : Nat} (hw : Holds w H) (hg : w.heap[g]? = some (.cells cur T (0, 0))) (hR : Sl H (.slice (some ⟨g, 0, none⟩) xs.length cap) xs) :
    Sort.Holds Proofs.encStr w g 0 xs.toArray:=by
  intro j hj
  have hj:j<xs.length:=by simpa using hj
  obtain ⟨a,c,hv,_,_,h3⟩:=hR
  rcases h3 with h3 | ⟨b,off,cs,ha,hat,hC⟩
  · subst h3; simp at hj
  · subst ha
    simp only [Value.slice.injEq,Option.some.injEq,Addr.mk.injEq] at hv
    obtain ⟨⟨rfl,rfl,_⟩,_⟩:=hv
    have hcs:=hC.strs
    have hget:cs[j]?=some (str xs[j]):=by rw [hcs]; simp [hj]
    refine ⟨?_,?_⟩
    · have:=hat.cell hw hget
      rw [Addr.add_lit,Nat.zero_add] at this
      rw [Nat.zero_add,this]
      simp [hj,str,Proofs.encStr]
    · simp [World.frozen?,hg]
structure SortCon (P:Program) (k:FuncId):Prop where
  enter:∀ (args:Array Value) (w:World),(callFunc k args).run P w=.ok (.enter k args) w
  none:∀ (p:Option Addr) (cap:Nat) (w:World),Calls P k #[.slice p 0 cap] w fun e w'=>e=.returned (.tuple #[])∧w'=w
  some:∀ (blk off cap:Nat) (ss:List Str) (w:World),Sort.Holds Proofs.encStr w blk off ss.toArray→blk<w.heap.size→ss.length<4611686018427387904 →
    Calls P k #[.slice (some ⟨blk,off,.none⟩) ss.length cap] w fun e w'=>e=.returned (.tuple #[])∧∃ n os,w'=Sort.grow (Sort.putRow Proofs.encStr (Sort.ahead w n) blk off (ss.mergeSort fun x y=>decide (x≤y)).toArray) os
def sortS (l:List Str):List Str:=l.mergeSort fun x y=>decide (x≤y)
theorem zE5 (l:List Str):(sortS l).length=l.length:=List.length_mergeSort l
noncomputable def slices_Sort_string (l:List Str):Option (List Str):=if l.length≤big then some (sortS l) else none
noncomputable def slices_Compact_string (l:List Str):Option (List Str):=some (Lib.compact l)
theorem zGa {H:Hp}:∀ {xs:List Str},Cells (α:=Str) H (xs.map str) xs
  | []=>rfl
  | x :: xs=>⟨[str x],xs.map str,rfl,rfl,zGa⟩
theorem W.sortRow {k : FuncId} {x : Operand} {ats : Array TypeId} {v : Value} {xs ys : List Str} {i : Nat} {T : TypeId} (C : SortCon P k) (hw : Holds w0 H0) (S : St w0 H0 w H L) (hi : L[i]? = some (.row v T 1 xs.length)) (hx : ev N f x = v) (hR : Sl H v xs)
    (h:slices_Sort_string xs=some ys)
    (K:∀ w' H',H0.le H'→Sl H' v ys→St w0 H0 w' H' (L.set i (.row v T 1 ys.length))→WL P N ops rest Q (updo f od (.tuple #[])) w'):WL P N ops (⟨od,.call ⟨.value (.func k),#[x],ats⟩,ty,pos,af,none⟩ :: rest) Q f w:=by
  have hbig:xs.length≤big:=by
    unfold slices_Sort_string at h
    split at h
    · assumption
    · cases h
  obtain rfl:sortS xs=ys:=by
    unfold slices_Sort_string at h
    rw [if_pos hbig] at h
    exact Option.some.inj h
  have hset:L.set i (.row v T 1 (sortS xs).length)=L:=by
    rw [zE5]
    apply List.ext_getElem?
    intro j
    by_cases hij:i=j
    · subst hij; rw [List.getElem?_set_self (List.getElem?_eq_some_iff.1 hi).1,hi]
    · rw [List.getElem?_set_ne hij]
  have hrun:∀ w,(execOp (ev N f) ⟨od,.call ⟨.value (.func k),#[x],ats⟩,ty,pos,af,.none⟩).run P w=.ok (.enter k #[v]) w:=by
    intro w
    have e1:(execOp (ev N f) ⟨od,.call ⟨.value (.func k),#[x],ats⟩,ty,pos,af,.none⟩)=callFunc k (#[]++#[x].map (ev N f)++#[]):=rfl
    have e:(#[]++#[x].map (ev N f)++#[])=#[v]:=by simp [hx]
    rw [e1,e]; exact C.enter _ _
  rcases (show RowOk w H v T 1 xs.length from S.ents _ (List.mem_of_getElem? hi)) with ⟨rfl,hn⟩ | ⟨g,cap,cur,rfl,hc,hnc,hcm,hcs,hH⟩
  · refine WL.enterw (w':=w) (hrun w) (Calls.mono (C.none _ _ _) fun e w' ⟨he,hw'⟩=>⟨_,he,?_⟩)
    subst hw'
    have hxs:xs=[]:=List.length_eq_zero_iff.1 hn
    subst hxs
    refine K _ H S.post.le ?_ (by rw [hset]; exact S)
    simpa [sortS] using hR
  · have hrow:=zHe S.holds hc hR
    have hg:g<w.heap.size:=(Array.getElem?_eq_some_iff.1 hc).1
    refine WL.enterw (w':=w) (hrun w) (Calls.mono (C.some g 0 cap xs w hrow hg (by simp only [big] at hbig; omega)) fun e w' ⟨he,n,os,hw'⟩=>⟨_,he,?_⟩)
    have hd:(sortS xs).toArray.size=xs.length:=by simp [zE5]
    obtain ⟨cur',hg',hsz',htk⟩:=zHV (w:=Sort.ahead w n) (g:=g) (d:=(sortS xs).toArray) hc (by rw [hd]; omega)
    have hsz2:w'.heap.size=w.heap.size+os.size:=by rw [hw']; simp
    have hgrow:∀ k,k<w.heap.size→w'.heap[k]?=(Sort.putRow Proofs.encStr (Sort.ahead w n) g 0 (sortS xs).toArray).heap[k]?:=by
      intro k hk
      rw [hw']
      show (_++os)[k]?=_
      rw [Array.getElem?_append_left (by simpa using hk)]
      rfl
    obtain ⟨H',hle,hH',S'⟩:=S.turnRow hw hi (w':=w') (n':=xs.length) (cur':=cur') (fun k hk hlt=>by rw [hgrow k hlt,zHK hk]; rfl) (by omega) (by rw [hw']; exact ⟨rfl,rfl,rfl⟩) (by rw [hgrow g hg]; exact hg') (by rw [hsz',hcs]) hnc hcm
    refine K w' H' hle ?_ (by rw [zE5]; exact S')
    refine ⟨some ⟨g,0,none⟩,cap,by rw [zE5],by rw [zE5]; exact hnc,hcm,?_⟩
    refine .inr ⟨g,0,(sortS xs).map str,rfl,⟨T,_,rfl,hH',[],?_⟩,zGa⟩
    rw [hd] at htk
    rw [List.drop_zero,Nat.mul_one,htk,List.append_nil]
structure CompactCon (P:Program) (k:FuncId):Prop where
  enter:∀ (args:Array Value) (w:World),(callFunc k args).run P w=.ok (.enter k args) w
  none:∀ (a:Option Addr) (cap:Nat) (w:World),Calls P k #[.slice a 0 cap] w fun e w'=>e=.returned (.slice a 0 cap)∧w'=w
  some:∀ (blk off cap:Nat) (zs:List Str) (w:World),Sort.Holds Proofs.encStr w blk off zs.toArray→zs.length≤9223372036854775807→zs.length≤cap →
    Calls P k #[.slice (some ⟨blk,off,.none⟩) zs.length cap] w fun e w'=>e=.returned (.slice (some ⟨blk,off,.none⟩) (Lib.compact zs).length cap)∧∃ q,w'=Sort.putRow Proofs.encStr (Sort.ahead w q) blk off (Lib.compact zs++List.replicate (zs.length - (Lib.compact zs).length) []).toArray
theorem zHk (l:List Str):(Lib.compact l).length≤l.length:=by
  unfold Lib.compact Lib.compactUpTo
  rw [List.length_map]
  exact Nat.le_trans (List.length_filter_le _ _) (by simp)
theorem W.compactRow {k : FuncId} {x : Operand} {ats : Array TypeId} {v : Value} {xs ys : List Str} {i : Nat} {T : TypeId} (C : CompactCon P k) (hw : Holds w0 H0) (S : St w0 H0 w H L) (hi : L[i]? = some (.row v T 1 xs.length)) (hx : ev N f x = v) (hR : Sl H v xs)
    (h:slices_Compact_string xs=some ys)
    (K:∀ v' w' H',H0.le H'→Sl H' v' ys→St w0 H0 w' H' (L.set i (.row v' T 1 ys.length))→WL P N ops rest Q (updo f od v') w'):WL P N ops (⟨od,.call ⟨.value (.func k),#[x],ats⟩,ty,pos,af,none⟩ :: rest) Q f w:=by
  obtain rfl:Lib.compact xs=ys:=by unfold slices_Compact_string at h; exact Option.some.inj h
  have hrun:∀ w,(execOp (ev N f) ⟨od,.call ⟨.value (.func k),#[x],ats⟩,ty,pos,af,.none⟩).run P w=.ok (.enter k #[v]) w:=by
    intro w
    have e1:(execOp (ev N f) ⟨od,.call ⟨.value (.func k),#[x],ats⟩,ty,pos,af,.none⟩)=callFunc k (#[]++#[x].map (ev N f)++#[]):=rfl
    have e:(#[]++#[x].map (ev N f)++#[])=#[v]:=by simp [hx]
    rw [e1,e]; exact C.enter _ _
  rcases (show RowOk w H v T 1 xs.length from S.ents _ (List.mem_of_getElem? hi)) with ⟨rfl,hn⟩ | ⟨g,cap,cur,rfl,hc,hnc,hcm,hcs,hH⟩
  · refine WL.enterw (w':=w) (hrun w) (Calls.mono (C.none _ _ _) fun e w' ⟨he,hw'⟩=>⟨_,he,?_⟩)
    subst hw'
    have hxs:xs=[]:=List.length_eq_zero_iff.1 hn
    subst hxs
    have hz:Lib.compact ([]:List Str)=[]:=rfl
    have hset:L.set i (.row (.slice none 0 0) T 1 (Lib.compact ([]:List Str)).length)=L:=by
      apply List.ext_getElem?
      intro j
      by_cases hij:i=j
      · subst hij; rw [List.getElem?_set_self (List.getElem?_eq_some_iff.1 hi).1,hi]; rfl
      · rw [List.getElem?_set_ne hij]
    exact K _ _ H S.post.le (by rw [hz]; exact hR) (by rw [hset]; exact S)
  · have hrow:=zHe S.holds hc hR
    have hg:g<w.heap.size:=(Array.getElem?_eq_some_iff.1 hc).1
    refine WL.enterw (w':=w) (hrun w) (Calls.mono (C.some g 0 cap xs w hrow (by simp only [maxLen] at hcm; omega) hnc) fun e w' ⟨he,n,hw'⟩=>⟨_,he,?_⟩)
    have hcl:=zHk xs
    have hd:(Lib.compact xs++List.replicate (xs.length - (Lib.compact xs).length) ([]:Str)).toArray.size=xs.length:=by simp; omega
    obtain ⟨cur',hg',hsz',htk⟩:=zHV (w:=Sort.ahead w n) (g:=g) (d:=(Lib.compact xs++List.replicate (xs.length - (Lib.compact xs).length) ([]:Str)).toArray) hc (by rw [hd]; omega)
    obtain ⟨H',hle,hH',S'⟩:=S.turnRow hw hi (w':=w') (n':=(Lib.compact xs).length) (cur':=cur') (fun k hk hlt=>by rw [hw',zHK hk]; rfl) (by rw [hw']; simp) (by rw [hw']; exact ⟨rfl,rfl,rfl⟩) (by rw [hw']; exact hg') (by rw [hsz',hcs]) (by omega) hcm
    refine K _ w' H' hle ?_ S'
    refine ⟨some ⟨g,0,none⟩,cap,rfl,by omega,hcm,?_⟩
    refine .inr ⟨g,0,(Lib.compact xs).map str,rfl,⟨T,_,rfl,hH',[],?_⟩,zGa⟩
    rw [hd] at htk
    have:cur'.toList.take (Lib.compact xs).length=(Lib.compact xs).map str:=by
      have h2:=congrArg (List.take (Lib.compact xs).length) htk
      rw [List.take_take,Nat.min_eq_left hcl] at h2
      rw [h2]
      simp
    rw [List.drop_zero,Nat.mul_one,this,List.append_nil]
section
variable {n:Nat} {listed:Array Bool}
theorem WA.two {i j : Nat} {o o' : Oper} (l1 l2 : Array Bool) (hi : ops[i]? = some o) (hj : ops[j]? = some o') (hr : Region.ready .any ops listed = [i, j]) (h1 : listed.setIfInBounds i true = l1) (h2 : listed.setIfInBounds j true = l2)
    (k1:WL P N ops [o] (fun f' w'=>WA P N ops n l1 Q f' w') f w) (k2:WL P N ops [o'] (fun f' w'=>WA P N ops n l2 Q f' w') f w):WA P N ops (n+1) listed Q f w:=by
  subst h1; subst h2
  refine wpAny_all hr (by simp) fun q hq=>?_
  have key:∀ (q:Nat) (o:Oper),ops[q]?=some o→WL P N ops [o] (fun f' w'=>WA P N ops n (listed.setIfInBounds q true) Q f' w') f w→wpOp P ops (fun e a w'=>∃ f',a=act N f'∧e=.normal∧Q f' w') q (wpAny P .any ops (fun e a w'=>∃ f',a=act N f'∧e=.normal∧Q f' w') n (listed.setIfInBounds q true)) (act N f) w:=by
    intro q o hq h
    unfold wpOp
    rw [hq]
    have h':wpList P ops (fun e a w'=>∃ f',a=act N f'∧e=.normal∧WA P N ops n (listed.setIfInBounds q true) Q f' w') [o] (act N f) w:=h.out
    unfold wpList at h'
    show if Region.wanted o (yielded ops (act N f).tmps)=true then _ else _
    split
    · rename_i hw
      rw [if_pos hw] at h'
      rcases h' with h' | ⟨_,a0,w0,f0,_,he,_⟩
      · refine .inl (Oper.wp_monoQ (fun a w hk=>?_) (fun e a w hne ⟨f',ha,he,_⟩=>absurd he hne) h')
        obtain ⟨f',ha,_,hq⟩:=hk
        subst ha; exact hq
      · cases he
    · rename_i hw
      rw [if_neg hw] at h'
      obtain ⟨f',ha,_,hq⟩:=h'
      rw [ha]; exact hq
  rcases List.mem_cons.1 hq with rfl | hq
  · exact key _ _ hi k1
  · rcases List.mem_singleton.1 hq with rfl
    exact key _ _ hj k2
end
end
end Go.Eng
namespace Go.Eng
open Go Go.RowKit
def strconv_Itoa (n:Int):Option Str:=if -9223372036854775808≤n∧n≤9223372036854775807 then some (Lib.itoa n) else none
theorem zHj (w:World) (k:Nat) (os:Array Obj):Below w.heap.size w (Sort.grow (w.drewN k) os) :=
  ⟨rfl,rfl,rfl,by show w.heap.size≤(w.heap++os).size; rw [Array.size_append]; omega,fun j hj=>by
    show (w.heap++os)[j]?=w.heap[j]?
    rw [Array.getElem?_append_left hj]⟩
theorem zJP {P : Program} {k : FuncId} {fn : Func} {c : Code} {w : World} {H : Hp} {n : Int} {r : Str} (hf : P.funcs[k]? = some fn) (hb : fn.body = some c) (hname : (fn.name == "runtime.NumGoroutine") = false) (hw : Holds w H)
    (htab:Lib.TabIs P w "internal/strconv.uint64pow10" .u64 Lib.pow10Tab) (h:strconv_Itoa n=some r)
    (hc:∀ (n:Int),-9223372036854775808≤n→n≤9223372036854775807→∀ (w:World),Lib.TabIs P w "internal/strconv.uint64pow10" .u64 Lib.pow10Tab →
      Calls P k #[.int .i64 n] w fun e w'=>e=.returned (.string ⟨(Lib.itoa n).toArray⟩)∧∃ k os,w'=Sort.grow (w.drewN k) os) :
    Con P k [int n] w H (fun _ u=>u=str r):=by
  unfold strconv_Itoa at h
  split at h
  case isFalse=>cases h
  rename_i h0
  simp only [Option.some.injEq] at h
  subst h
  refine Con.of_calls hf hb hname hw (Calls.mono (hc n h0.1 h0.2 w htab) fun _ _ ⟨he,q,os,hp⟩=>⟨he,?_⟩)
  subst hp
  exact zHj w q os
theorem zIR {P:Program} {w w':World} {g:Nat} {n:String} {cs:Array Value} {B:Nat} (hg:P.globalNamed n=some g) (h:w.var? P n=some cs) (hb:Below B w w') (hB:g<B):w'.var? P n=some cs:=by
  unfold World.var? at *
  rw [hg] at h ⊢
  simp only [Option.bind_some] at h ⊢
  rw [hb.block g hB]; exact h
theorem zJn {P:Program} {w:World} {g:Nat} {n:String} {cs:Array Value} (hg:P.globalNamed n=some g) (h:w.var? P n=some cs):g<w.heap.size:=by
  unfold World.var? at h
  rw [hg] at h
  simp only [Option.bind_some] at h
  cases hh:w.heap[g]? with
  | none=>rw [hh] at h; cases h
  | some o=>exact (Array.getElem?_eq_some_iff.1 hh).1
theorem zIn {P:Program} {w0 w:World} {H0 H:Hp} {g:Nat} {n:String} {k:IntKind} {zs:List Int} (hg:P.globalNamed n=some g) (h:Lib.TabIs P w0 n k zs) (p:Post w0 H0 w H):Lib.TabIs P w n k zs :=
  zIR hg h p.below (zJn hg h)
theorem zHa {P : Program} {W : World} {name : String} {k : IntKind} {zs : List Int} {l : List (String × DataW Unit)} {g : Nat} {t e : TypeId} {n : Nat} (hm : (name, Lib.tabData k zs) ∈ l)
    (hg:P.globalNamed name=some g) (hty:(P.globals[g]?).map (·.type)=some t) (ht:P.underlying t=some (.array n e)) (he:P.underlying e=some (.int k)) (hce:P.cellsOf e=1) (hct:P.cellsOf t=n)
    (h:laidMet P l W):Lib.TabIs P W name k zs:=by
  obtain ⟨ps,hl,_⟩:=h
  have key:∀ (l:List (String×DataW Unit)) (ps:List MemPlace),(name,Lib.tabData k zs) ∈ l→DataW.LaidVars P W l ps→∃ ps',DataW.LaidVars P W [(name,Lib.tabData k zs)] ps':=by
    intro l
    induction l with
    | nil=>intro ps hm; cases hm
    | cons x l ih =>
      intro ps hm hl
      obtain ⟨nm,d⟩:=x
      obtain ⟨g,t,cs,fuel,p,q,h1,h2,h3,h4,h5,rfl⟩:=hl
      rcases List.mem_cons.1 hm with hm | hm
      · cases hm
        exact ⟨_,g,t,cs,fuel,p,[],h1,h2,h3,h4,rfl,rfl⟩
      · exact ih q hm h5
  obtain ⟨ps',hl'⟩:=key l ps hm hl
  obtain ⟨g',t',cs,fuel,p,q,hg',ht',hvar,hd,_,_⟩:=hl'
  obtain rfl:=Option.some.inj (hg.symm.trans hg')
  obtain rfl:=Option.some.inj (hty.symm.trans ht')
  unfold Lib.TabIs
  rw [hvar,← Lib.cells_of_tab ht he hce hct hd]
end Go.Eng
namespace Go.Eng
open Go Go.RowKit
def ConS (P:Program) (k:FuncId) (args:List Value) (w0:World) (H0:Hp) (w:World) (H:Hp) (L2:List Ent) (R:Hp→Value→List Ent→Prop):Prop :=
  (∀ w,(callFunc k args.toArray).run P w=.ok (.enter k args.toArray) w) ∧
  Calls P k args.toArray w (fun e w'=>∃ v H' L',e=.returned v∧H.le H'∧St w0 H0 w' H' (L'++L2)∧R H' v L')
def OutS (P:Program) (fn:Func) (N:Frm) (w0:World) (H0 H:Hp) (L2:List Ent) (R:Hp→Value→List Ent→Prop):Exit→Fr→World→Prop:=fun e f w =>
  (e=.ret∨e=.normal)∧∃ v,(results fn (tm N f)).run P w=.ok v w∧∃ H' L',H.le H'∧St w0 H0 w H' (L'++L2)∧R H' v L'
section
variable {P:Program} {N:Frm} {f:Fr} {w w1 w0:World} {H0 H1 H:Hp} {L L2 L':List Ent} {ops:Array Oper} {rest:List Oper} {Q:Fr→World→Prop} {d:Nat} {od:Option Nat} {ty:TypeId} {pos:String} {af:Array Edge} {g:Option (Nat×Bool)}
theorem ConS.mk {N : Nat} {fn : Func} {c : Code} {k : FuncId} {args : List Value} {R : Hp → Value → List Ent → Prop} (hf : P.funcs[k]? = some fn) (hb : fn.body = some c) (hn : fn.ntmps = N) (hname : (fn.name == "runtime.NumGoroutine") = false)
    (hsz:Nat.ble args.length N=true) (h:WP P ⟨N,[]⟩ c (OutS P fn ⟨N,[]⟩ w0 H0 H L2 R) (init args) w):ConS P k args w0 H0 w H L2 R:=by
  refine ⟨fun w=>?_,?_⟩
  · simp only [callFunc,Sem.run_bind,run_program,Result.andThen_ok,hf,hname,hb]
    rfl
  · refine calls_of_wp hf hb ?_
    have hle:args.length≤N:=Nat.le_of_ble_eq_true hsz
    have e:({ tmps:=args.toArray++Array.replicate (fn.ntmps - args.toArray.size) undef,defers:=[] }:Act)=act ⟨N,[]⟩ (init args):=by
      simp only [act]
      congr 1
      apply Array.ext_getElem?
      intro t
      rw [zF0,hn,Array.getElem?_append]
      simp only [List.size_toArray,List.getElem?_toArray,init,List.getD_eq_getElem?_getD]
      by_cases h1:t<args.length
      · simp [h1,show t<N from by omega]
      · simp only [h1,if_false]
        rw [Array.getElem?_replicate]
        by_cases h2:t<N
        · rw [if_pos (by omega),if_pos h2,List.getElem?_eq_none (by omega)]; rfl
        · rw [if_neg (by omega),if_neg h2]
    rw [e]
    refine Code.wp_mono (fun e a w' ⟨f',ha,he,v,hv,H',L',hle,hS,hr⟩=>?_) h
    subst ha
    rcases he with rfl | rfl
    · exact ⟨rfl,v,hv,v,H',L',rfl,hle,hS,hr⟩
    · exact ⟨rfl,v,hv,v,H',L',rfl,hle,hS,hr⟩
theorem W.callS {k : FuncId} {xs : List Operand} {ats : Array TypeId} {args : List Value} {R : Hp → Value → List Ent → Prop} (ha : xs.map (ev N f) = args) (C : ConS P k args w0 H0 w H L2 R)
    (K:∀ v w' H' L',H.le H'→St w0 H0 w' H' (L'++L2)→R H' v L'→WL P N ops rest Q (updo f od v) w'):WL P N ops (⟨od,.call ⟨.value (.func k),xs.toArray,ats⟩,ty,pos,af,none⟩ :: rest) Q f w:=by
  refine WL.enterw (w':=w) (k:=k) (args:=args.toArray) ?_ (Calls.mono C.2 fun e w' ⟨v,H',L',he,hp,hS,hv⟩=>⟨v,he,K v w' H' L' hp hS hv⟩)
  have:(execOp (ev N f) ⟨od,.call ⟨.value (.func k),xs.toArray,ats⟩,ty,pos,af,none⟩)=callFunc k (#[]++xs.toArray.map (ev N f)++#[]):=rfl
  rw [this]
  have e:(#[]++xs.toArray.map (ev N f)++#[])=args.toArray:=by simp [ha]
  rw [e]
  exact C.1 w
theorem zGj {fn:Func} (hr:fn.results=#[]) (tmps:Array Value):(results fn tmps).run P w=.ok (.tuple #[]) w:=by
  rw [zBf,hr]
  simp only [List.mapM_toArray,List.mapM_nil,Sem.run_bind,Sem.run_map,Sem.run_pure,Result.andThen_ok]
  rfl
theorem OutS.zero {fn:Func} {R:Hp→Value→List Ent→Prop} {e:Exit} (he:e=.ret∨e=.normal) (hr:fn.results=#[]) (hle:H1.le H) (S:St w0 H0 w H (L'++L2)) (hR:R H (.tuple #[]) L'):OutS P fn N w0 H0 H1 L2 R e f w :=
  ⟨he,_,zGj hr _,H,L',hle,S,hR⟩
theorem OutS.one {fn:Func} {r:ResultVar} {v:Value} {R:Hp→Value→List Ent→Prop} (hr:fn.results=#[r]) (hle:H1.le H) (S:St w0 H0 w H (L'++L2)) (h:Res P N f w r v) (hR:R H v L'):OutS P fn N w0 H0 H1 L2 R .ret f w:=by
  refine ⟨.inl rfl,v,?_,H,L',hle,S,hR⟩
  have:=zAK h
  rw [zBf,hr]
  simp only [List.mapM_toArray,List.mapM_cons,List.mapM_nil,Sem.run_bind,Sem.run_map,this,Result.andThen_ok,Sem.run_pure]
  rfl
theorem OutS.two {fn:Func} {r1 r2:ResultVar} {v1 v2:Value} {R:Hp→Value→List Ent→Prop} (hr:fn.results=#[r1,r2]) (hle:H1.le H) (S:St w0 H0 w H (L'++L2)) (h1:Res P N f w r1 v1) (h2:Res P N f w r2 v2) (hR:R H (.tuple ⟨[v1,v2]⟩) L'):OutS P fn N w0 H0 H1 L2 R .ret f w:=by
  refine ⟨.inl rfl,_,?_,H,L',hle,S,hR⟩
  have h1:=zAK h1
  have h2:=zAK h2
  rw [zBf,hr]
  simp only [List.mapM_toArray,List.mapM_cons,List.mapM_nil,Sem.run_bind,Sem.run_map,h1,h2,Result.andThen_ok,Sem.run_pure]
  rfl
theorem St.front (S:St w0 H0 w H L) (i:Nat) {e:Ent} (hi:L[i]?=some e):St w0 H0 w H (e :: L.eraseIdx i):=by
  have hm:=List.mem_of_getElem? hi
  refine ⟨S.post,?_,?_,?_⟩
  · intro x hx
    rcases List.mem_cons.1 hx with rfl | hx
    · exact S.ents _ hm
    · exact S.ents _ ((List.eraseIdx_sublist _ _).subset hx)
  · intro x hx
    rcases List.mem_cons.1 hx with rfl | hx
    · exact S.own _ hm
    · exact S.own _ ((List.eraseIdx_sublist _ _).subset hx)
  · have hp : ∀ (L : List Ent) (i : Nat), L[i]? = some e → List.Perm (e :: L.eraseIdx i) L := by
      intro L
      induction L with
      | nil=>intro i hi; simp at hi
      | cons x L ih =>
        intro i hi
        cases i with
        | zero=>simp at hi; subst hi; simp
        | succ i =>
          simp at hi
          rw [List.eraseIdx_cons_succ]
          exact (List.Perm.swap x e _).trans ((ih i hi).cons x)
    exact ((hp L i hi).filterMap Ent.blk).nodup_iff.2 S.nodup
end
end Go.Eng
namespace Go.Eng
open Go
def iand (a b:Int):Int:=IntKind.wrap .i64 ((BitVec.ofInt 64 a &&& BitVec.ofInt 64 b).toNat:Int)
section
variable {P:Program} {N:Frm} {f:Fr} {w:World} {d:Option Nat} {ty:TypeId} {pos:String} {af:Array Edge} {g:Option (Nat×Bool)}
theorem R.and {x y:Operand} {a b:Int} {T T':TypeId} (hx:ev N f x=int a) (hy:ev N f y=int b):(execOp (ev N f) ⟨d,.binOp .and T x y T',ty,pos,af,g⟩).run P w=.ok (.value (int (iand a b))) w:=by
  simp [execOp,eqGuard,hx,hy,int,binOp,Op.intBits,iand]
  rfl
end
end Go.Eng
namespace Go.Eng
open Go
section
variable {P:Program} {N:Frm} {f:Fr} {w w0:World} {H0 H:Hp} {L:List Ent} {ops:Array Oper} {rest:List Oper} {Q:Fr→World→Prop} {d:Nat} {od:Option Nat} {ty:TypeId} {pos:String} {af:Array Edge}
theorem W.storeSl {α : Type} [Enc α] {T T' : TypeId} {a x : Operand} {b o i : Nat} {bb : Bool} {u : Value} {xs : List α} {cs : List Value} (cs' : List Value) (S : St w0 H0 w H L) (R : Sl H u xs) (ha : ev N f a = ptr b o) (hx : ev N f x = u) (hi : L[i]? = some (.box b T' cs)) (hT : lay P T = some (bb, 1))
    (ho:o+1≤cs.length) (hc:zGD cs o [u]=cs')
    (k:∀ w',St w0 H0 w' H (L.set i (.box b T' cs'))→WL P N ops rest Q (updo f od undef) w'):WL P N ops (⟨od,.store T a x,ty,pos,af,none⟩ :: rest) Q f w :=
  W.store cs' S ha hx hi hT (by rw [Sl.cellsOne R]; rfl) (by rw [Sl.cellsOne R]; simp [Sl.oneC R]) ho (by rw [Sl.cellsOne R]; exact hc) k
end
end Go.Eng
