/- A part. -/
import Derived.Test.YtihjhdoinmfddaaGreatDoorEng13
import Derived.StillTail
import Derived.Maps.Keyed
import Derived.Sort.Grow
import Derived.Sort.EncStr
import Derived.Lib.SlicesCompact
import Derived.Lib.LaidTab
import Derived.Lib.ItoaNum
set_option linter.unusedVariables false
set_option linter.unusedSimpArgs false
namespace Go.Eng
open Go Go.ChangeMaps
section
variable {P:Program} {N:Frm} {f:Fr} {w w' w0:World} {H0 H:Hp} {L:List Ent} {ops:Array Oper} {rest:List Oper} {Q:Fr→World→Prop} {d:Nat} {od:Option Nat} {ty:TypeId} {pos:String} {af:Array Edge} {g:Option (Nat×Bool)}
theorem St.new (S:St w0 H0 w H L) (o:Obj) (e:Ent) (hb:e.blk=some w.heap.size) (hok:e.ok (w.alloc o) H):St w0 H0 (w.alloc o) H (e :: L):=by
 have hsz:w0.heap.size≤w.heap.size:=S.post.below.size;have hold:∀ i,i<w.heap.size→(w.alloc o).heap[i]?=w.heap[i]?:=fun i hi=>RowKit.Below.heap_alloc w _ i hi
 refine ⟨⟨S.post.below.alloc hsz _,S.post.le,S.post.eqb,fun b T' l hbb=>?_⟩,?_,?_,?_⟩
 ·obtain ⟨cs',fz',hc,hr'⟩:=S.holds b T' l hbb
  grind
 ·intro e' he
  rcases List.mem_cons.1 he with rfl | he
  ·exact hok
  ·exact Ent.ok_keep (S.ents e' he) fun b hb=>⟨hold b (Ent.ok_lt (S.ents e' he) hb),rfl⟩
 ·intro e' he b hbb
  rcases List.mem_cons.1 he with rfl | he
  ·grind
  ·exact S.own e' he b hbb
 ·rw [List.filterMap_cons,hb]
  exact List.nodup_cons.2 ⟨fun hm=>Nat.lt_irrefl _ (S.lt hm),S.nodup⟩
variable {T:TypeId} {b i:Nat} {β:Type} {m:List (Str×β)}
theorem St.renew (S : St w0 H0 w H L) {e e' : Ent} (hi : L[i]? = some e) (hb : e.blk = some b) (hb' : e'.blk = some b) (hH : H b = none)
    (hoth:∀ k,k≠b→w'.heap[k]?=w.heap[k]?) (hsz:w'.heap.size=w.heap.size) (hos:w'.os=w.os∧w'.tape=w.tape∧w'.output=w.output) (hok:e'.ok w' H):St w0 H0 w' H (L.set i e'):=by
  have hmem:=lG hi;have hown:w0.heap.size≤b:=S.own _ hmem b hb;refine ⟨⟨S.post.below.trans ⟨hos.1,hos.2.1,hos.2.2,om,fun k hk=>hoth k om⟩,S.post.le,S.post.eqb,?_⟩,?_,?_,?_⟩
  · intro k T' l hk
    have hne:k≠b:=fun h=>by grind
    rw [hoth k hne]; exact S.holds k T' l hk
  · intro e2 he
    obtain ⟨j,hj⟩:=lI.1 he;by_cases hij:i=j
    · grind
    · rw [List.getElem?_set_ne hij] at hj
      refine Ent.ok_keep (S.ents e2 (lG hj)) fun k hk=>⟨hoth k ?_,rfl⟩
      exact S.blk_ne hj hi hk hb (Ne.symm hij)
  · intro e2 he k hk
    obtain ⟨j,hj⟩:=lI.1 he;by_cases hij:i=j
    · grind
    · rw [List.getElem?_set_ne hij] at hj
      exact S.own e2 (lG hj) k hk
  · rw [zDS (e':=e') hi (hb'.trans hb.symm)]; exact S.nodup
def mapv (b:Nat):Value:=.map (some b)
theorem St.mpOk (S:St w0 H0 w H L) {kvs:List (Value×Value)} (hi:L[i]?=some (.mp b kvs)):MpOk w H b kvs:=S.ents _ (lG hi)
theorem W.makeMap (S:St w0 H0 w H L) (k:∀ b w',St w0 H0 w' H (.mp b [] :: L)→WL P N ops rest Q (upd f d (mapv b)) w'):WL P N ops (⟨some d,.makeMap T none,ty,pos,af,none⟩ :: rest) Q f w:=by
 refine WL.wz (v:=mapv w.heap.size) (w':=w.alloc (.map #[] 0)) ?_ (k _ _ (S.new (.map #[] 0) (.mp w.heap.size []) rfl ⟨S.holds.none_of_size (nR _),#[],0,heap_alloc_new w _,rfl⟩));simp [execOp,Instr.makeMap,mapv]
def mget {β:Type} (m:List (Str×β)) (k:Str) (z:β):β×Bool:=match m.lookup k with | some v=>(v,true) | none=>(z,false)
def mset {β:Type}:List (Str×β)→Str→β→List (Str×β)
 | [],k,v=>[(k,v)]
 | p :: r,k,v=>if k==p.1 then (k,v) :: r else p :: mset r k v
def mdel {β:Type}:List (Str×β)→Str→List (Str×β)
 | [],_=>[]
 | p :: r,k=>if k==p.1 then r else p :: mdel r k
def encm {β:Type} (F:β→Value) (m:List (Str×β)):List (Value×Value):=m.map fun p=>(str p.1,F p.2)
theorem zLf (a b:Str):((⟨⟨a⟩⟩:ByteArray)==(⟨⟨b⟩⟩:ByteArray))=(a==b):=by
 show ((⟨a⟩:Array UInt8)==⟨b⟩)=_
 grind
theorem zGK (F : β → Value) (k : Str) : ∀ (m : List (Str × β)) (es : List MapEntry) (i : Nat), es.map (fun e => (e.key, e.val)) = encm F m →
    ∃ r,Instr.findNow .string (str k) es i=some r∧r.map (·.2)=(m.lookup k).map F∧(∀ j v,r=some (j,v)→i≤j∧j - i<es.length ∧
      ((es.modify (j - i) fun e=>{ e with key:=str k,val:=v })).map (fun e=>(e.key,e.val))=encm F m)
     ∧(∀ j v (u:β),r=some (j,v)→(es.modify (j - i) fun e=>{ e with key:=str k,val:=F u }).map (fun e=>(e.key,e.val))=encm F (mset m k u))
     ∧(r=none→∀ u,mset m k u=m++[(k,u)])
     ∧(∀ j v,r=some (j,v)→(es.eraseIdx (j - i)).map (fun e=>(e.key,e.val))=encm F (mdel m k))∧(r=none→mdel m k=m)∧(∀ j v,r=some (j,v)→(es[j - i]?).map (·.key)=some (str k)):=by
  intro m
  induction m with
  | nil =>
    intro es i h;obtain rfl:es=[]:=by simp_all [encm]
    exact ⟨none,rfl,rfl,fun _ _ h=>by simp at h,fun _ _ _ h=>by simp at h,fun _ _=>rfl,fun _ _ h=>by simp at h,fun _=>rfl,fun _ _ h=>by simp at h⟩
  | cons p m ih =>
    intro es i h;cases es with
    | nil=>simp [encm] at h
    | cons e es =>
      have h':(e.key,e.val)=(str p.1,F p.2)∧es.map (fun e=>(e.key,e.val))=encm F m:=by
        grind [encm]
      obtain ⟨h1,h2⟩:=h';obtain ⟨hk,hv⟩:=Prod.mk.inj h1;by_cases hkp:k=p.1
      · subst hkp
        refine ⟨some (i,e.val),?_,?_,?_,?_,?_,?_,?_,?_⟩
        · grind [Instr.sameNow,str,zLf,Instr.findNow]
        · grind
        · grind
        · grind [encm,mset]
        · intro hn; cases hn
        · intro j v hj
          obtain ⟨rfl,rfl⟩:=Prod.mk.inj (oJ hj)
          grind [mdel]
        all_goals grind
      · obtain ⟨r,hr1,hr2,hr3,hr4,hr5,hr6,hr7,hr8⟩:=ih es (i+1) h2
        have hne:(k==p.1)=false:=by simpa using hkp
        refine ⟨r,?_,?_,?_,?_,?_,?_,?_,?_⟩
        · grind [Instr.sameNow,str,zLf,Instr.findNow]
        · grind
        · grind
        · grind [mset,encm]
        · grind [mset]
        · intro j v hj
          obtain ⟨g1,_,_⟩:=hr3 j v hj;have e1:j - i=(j - (i+1))+1:=by omega
          grind [mdel,encm]
        all_goals grind [mdel]
theorem run_checkKey (hT:P.underlying T=some .string) (e:Bool) (v:Value):(Instr.checkKey e 10000 T v).run P w=.ok () w:=by
 unfold Instr.checkKey;simp_all [run_underlying]
theorem run_findKey (hT : P.underlying T = some .string) (F : β → Value) (k : Str) (m : List (Str × β)) (es : List MapEntry) (h : es.map (fun e => (e.key, e.val)) = encm F m) {r : Option (Nat × Value)} (hr : Instr.findNow .string (str k) es 0 = some r) :
  (Instr.findKey T (str k) es).run P w=.ok r w:=by
 simp_all [Instr.findKey,run_underlying]
theorem R.lookup (F : β → Value) {K E : TypeId} {x y : Operand} {k : Str} {z : β} {zc : Value} (S : St w0 H0 w H L) (hx : ev N f x = mapv b) (hy : ev N f y = str k) (hi : L[i]? = some (.mp b (encm F m)))
    (hT:P.underlying T=some (.map K E)) (hK:P.underlying K=some .string) (hz:((P.info? E).bind (·.zero))=some zc) (hF:zc=F z) :
    (execOp (ev N f) ⟨od,.lookup T x y true,ty,pos,af,g⟩).run P w=.ok (.value (.tuple ⟨[F (mget m k z).1,boo (mget m k z).2]⟩)) w:=by
  obtain ⟨_,es,cl,hc,he⟩:=S.mpOk hi;obtain ⟨r,hr1,hr2,_⟩:=zGK F k m es.toList 0 he;have hg:(getObj b).run P w=.ok (.map es cl) w:=MapKept.run_getObj_map hc;have hz':(zeroValue E).run P w=.ok (F z) w:=by
    cases hE:P.info? E <;> simp_all [zeroValue,typeInfo]
  have hfk:=run_findKey (w:=w) hK F k m es.toList he hr1;unfold mget;cases hm:m.lookup k with
  | none =>
    simp_all [execOp,Instr.lookup,mapv,run_underlying,run_checkKey,boo]
  | some v =>
    rw [hm] at hr2;obtain ⟨j,u,rfl,hu⟩:∃ j u,r=some (j,u)∧u=F v:=by
      simp_all
    simp_all [execOp,Instr.lookup,mapv,run_underlying,run_checkKey,boo]
theorem R.lookup1 (F : β → Value) {K E : TypeId} {x y : Operand} {k : Str} {z : β} {zc : Value} (S : St w0 H0 w H L) (hx : ev N f x = mapv b) (hy : ev N f y = str k) (hi : L[i]? = some (.mp b (encm F m)))
    (hT:P.underlying T=some (.map K E)) (hK:P.underlying K=some .string) (hz:((P.info? E).bind (·.zero))=some zc) (hF:zc=F z) :
    (execOp (ev N f) ⟨od,.lookup T x y false,ty,pos,af,g⟩).run P w=.ok (.value (F (mget m k z).1)) w:=by
  obtain ⟨_,es,cl,hc,he⟩:=S.mpOk hi;obtain ⟨r,hr1,hr2,_⟩:=zGK F k m es.toList 0 he;have hg:(getObj b).run P w=.ok (.map es cl) w:=MapKept.run_getObj_map hc;have hz':(zeroValue E).run P w=.ok (F z) w:=by
    cases hE:P.info? E <;> simp_all [zeroValue,typeInfo]
  have hfk:=run_findKey (w:=w) hK F k m es.toList he hr1;unfold mget;cases hm:m.lookup k with
  | none =>
    simp_all [execOp,Instr.lookup,mapv,run_underlying,run_checkKey]
  | some v =>
    rw [hm] at hr2;obtain ⟨j,u,rfl,hu⟩:∃ j u,r=some (j,u)∧u=F v:=by
      simp_all
    simp_all [execOp,Instr.lookup,mapv,run_underlying,run_checkKey]
theorem zPW (w:World) (b:Nat) (o:Obj) (k:Nat) (h:k≠b):(setBlock w b o).heap[k]?=w.heap[k]?:=by
 grind [setBlock]
theorem St.setMp (S : St w0 H0 w H L) {kvs kvs' : List (Value × Value)} {es : Array MapEntry} {cl : Nat} (hi : L[i]? = some (.mp b kvs)) (he : es.toList.map (fun e => (e.key, e.val)) = kvs') :
  St w0 H0 (setBlock w b (.map es cl)) H (L.set i (.mp b kvs')):=by
 obtain ⟨hH,es0,cl0,hc,_⟩:=S.mpOk hi;have hlt:=(Array.getElem?_eq_some_iff.1 hc).1;refine S.renew hi rfl rfl hH (fun k hk=>zPW w b _ k hk) (by simp [setBlock]) ⟨rfl,rfl,rfl⟩ ⟨hH,es,cl,?_,he⟩
 grind [setBlock]
theorem W.mapUpdate (F : β → Value) {K E : TypeId} {x y z : Operand} {k : Str} {v : Value} (u : β) (S : St w0 H0 w H L) (hx : ev N f x = mapv b) (hy : ev N f y = str k) (hz : ev N f z = v) (hv : v = F u) (hi : L[i]? = some (.mp b (encm F m)))
    (hT:P.underlying T=some (.map K E)) (hK:P.underlying K=some .string)
    (kk:∀ w',St w0 H0 w' H (L.set i (.mp b (encm F (mset m k u))))→WL P N ops rest Q (updo f od undef) w'):WL P N ops (⟨od,.mapUpdate T x y z,ty,pos,af,none⟩ :: rest) Q f w:=by
  obtain ⟨hH,es,cl,hc,he⟩:=S.mpOk hi;obtain ⟨r,hr1,hr2,hr3,hr4,hr5,_,_,hr8⟩:=zGK F k m es.toList 0 he;have hg:(getObj b).run P w=.ok (.map es cl) w:=MapKept.run_getObj_map hc;have hfk:=run_findKey (w:=w) hK F k m es.toList he hr1;have hset:∀ es' cl',(setObj b (.map es' cl')).run P w=.ok () (setBlock w b (.map es' cl')):=fun es' cl'=>MapKept.run_setObj_map _ hc
  cases r with
  | none =>
    refine WL.skipw (w':=setBlock w b (.map (es.push { key:=str k,val:=v,born:=cl }) (cl+1))) ?_ (kk _ (S.setMp hi ?_))
    all_goals simp_all [execOp,Instr.mapUpdate,mapv,run_underlying,run_checkKey,encm]
  | some q =>
    obtain ⟨j,u0⟩:=q;have h8:=hr8 j u0 rfl;have hk8:(((es[j]?).map (·.key)).getD (str k))=str k:=by
      grind
    have hst:(Instr.keyThatStays (str k) (str k)).run P w=.ok (str k) w:=by
      simp_all [Instr.sameBits,str,zLf,Instr.keyThatStays]
    refine WL.skipw (w':=setBlock w b (.map (es.modify j fun e=>{ e with key:=str k,val:=v }) cl)) ?_ (kk _ (S.setMp hi ?_))
    all_goals simp_all [execOp,Instr.mapUpdate,mapv,run_underlying,run_checkKey]
end
theorem R.ofEq {r:Result Next} {w:World} {v v':Value} (h:r=.ok (.value v) w) (e:v=v'):r=.ok (.value v') w:=by subst e; exact h
def RD (P:Program) (N:Frm) (c:Code) (Q:Exit→Fr→World→Prop) (n:Nat) (f:Fr) (w:World):Prop :=
 Code.rounds P c (fun e a w'=>∃ f',a=act N f'∧Q e f' w') n (act N f) w
section
variable {P:Program} {N:Frm} {f:Fr} {w w' w0:World} {H0 H:Hp} {L:List Ent} {ops:Array Oper} {rest:List Oper} {d:Nat} {od:Option Nat} {ty:TypeId} {pos:String} {af:Array Edge} {g:Option (Nat×Bool)}
variable {Q:Exit→Fr→World→Prop} {x:Operand}
theorem WP.loopRd {c:Code} (n:Nat) (h:RD P N c Q n f w):WP P N (.loop c) Q f w:=wp_loop_rounds n h
theorem RD.succ {c:Code} {n:Nat} (h:WP P N c (fun e f w=>match e with | .normal=>RD P N c Q n f w | e=>Q e f w) f w):RD P N c Q (n+1) f w:=by
 unfold RD;rw [rounds_succ];refine Code.wp_mono (fun e a w ⟨f',ha,hq⟩=>?_) h;subst ha;cases e with
 | normal=>exact hq
 | _=>exact ⟨f',rfl,hq⟩
theorem zV9 {α β:Type} {F:α→β} {l:List α} {n:Int} {c:α} (h:xnth l n=some c):0≤n∧n<l.length∧(l.map F)[n.toNat]?=some (F c):=by
 unfold xnth at h
 grind
theorem R.idxA {α : Type} (F : α → Value) {T e n : Nat} {y : Operand} {l : List α} {i : Int} {c : α} (hx : ev N f x = agg (l.map F)) (hy : ev N f y = int i) (hT : P.underlying T = some (.array n e)) (he : lay P e = some (false, 1)) (hn : l.length = n) (h : xnth l i = some c) :
  (execOp (ev N f) ⟨od,.index T x y,ty,pos,af,g⟩).run P w=.ok (.value (F c)) w:=by
 obtain ⟨h0,h1,h2⟩:=zV9 (F:=F) h;obtain ⟨g1,g2⟩:=zDF (w:=w) he;simp_all [execOp,Instr.index,asIntOf,int,agg,run_underlying,part]
theorem R.idxAddrA {T e n m : Nat} {bb : Bool} {y : Operand} {b o : Nat} {i : Int} (hx : ev N f x = ptr b o) (hy : ev N f y = int i) (hT : P.underlying T = some (.array n e)) (he : lay P e = some (bb, m)) (h : 0 ≤ i ∧ i < n) :
  (execOp (ev N f) ⟨od,.indexAddr T x y,ty,pos,af,g⟩).run P w=.ok (.value (ptr b (o+i.toNat*m))) w:=by
 obtain ⟨_,g2⟩:=zDF (w:=w) he;simp [execOp,Instr.indexAt,Instr.sureAddr,asIntOf,hx,hy,int,ptr,run_underlying hT,h.1,h.2,g2,Result.andThen,Addr.add_lit]
theorem R.nilCheck {a:Addr} (hx:ev N f x=.pointer (some a)):(execOp (ev N f) ⟨od,.nilCheck x,ty,pos,af,g⟩).run P w=.ok (.value (.pointer (some a))) w:=by
 simp [execOp,hx]
theorem R.nilCheckB {b o:Nat} (hx:ev N f x=ptr b o):(execOp (ev N f) ⟨od,.nilCheck x,ty,pos,af,g⟩).run P w=.ok (.value (ptr b o)) w:=by
 simp [execOp,hx,ptr]
def ftype (P:Program) (T:TypeId) (k:Nat):Option (TypeId×Nat) :=
 match P.underlying T with
 | some (.struct fs)=>(fs[k]?).map fun g=>(g.type,g.offset)
 | _=>none
def partV (bb:Bool) (cs:List Value) (off m:Nat):Value:=bif bb then agg ((cs.drop off).take m) else cs.getD off undef
theorem R.fieldV {T t k off m : Nat} {bb : Bool} {cs : List Value} {v : Value} (hx : ev N f x = agg cs) (hf : ftype P T k = some (t, off)) (ht : lay P t = some (bb, m)) (hv : (decide (off < cs.length) && true, partV bb cs off m) = (true, v)) :
  (execOp (ev N f) ⟨od,.field T x k,ty,pos,af,g⟩).run P w=.ok (.value v) w:=by
 obtain ⟨hlt,hv⟩:=Prod.mk.inj hv;obtain ⟨g1,g2⟩:=zDF (w:=w) ht;unfold ftype at hf;split at hf
 case h_2=>cases hf
 rename_i fs hT;cases hg:fs[k]? with
 | none=>grind
 | some q =>
  rw [hg] at hf;simp only [Option.map_some,oI,Prod.mk.injEq] at hf;obtain ⟨rfl,rfl⟩:=hf;subst hv;have hlt':q.offset<cs.length:=by simpa using hlt
  unfold partV;cases bb <;> simp_all [execOp,Instr.field,agg,run_underlying,asAgg,part]
structure Raw (n:Nat) where
 l:List Value
 len:l.length=n
 one:l.all Value.oneCell'=true
instance (n:Nat):Enc (Raw (n+1)) where
 sz:=n+1
 cells H cs x:=cs=x.l
 pos:=Nat.succ_pos _
 len:=fun {H cs x} h=>by rw [h]; exact x.len
 mono:=fun h _=>h
 one:=fun {H cs x} h v hv=>by rw [h] at hv; exact List.all_eq_true.1 x.one v hv
def anyH (P:Program) (md:Region.Mode) (ops:Array Oper) (C:World→Prop) (n:Nat) (Lq:Array Bool→Act→Prop):Nat→Array Bool→Act→Prop
 | 0,listed,a=>Lq listed a
 | k+1,listed,a=>Region.ready md ops listed≠[]∧∀ i ∈ Region.ready md ops listed,i<n∧qOp P ops C i (anyH P md ops C n Lq k (listed.setIfInBounds i true)) a
variable {md:Region.Mode} {C:World→Prop} {n m:Nat} {Lq:Array Bool→Act→Prop}
theorem zQj {Q':Exit→Act→World→Prop} (hL:∀ listed a w,C w→Lq listed a→wpAny P md ops Q' m listed a w):∀ (k:Nat) (listed:Array Bool) (a:Act) (w:World),C w→anyH P md ops C n Lq k listed a→wpAny P md ops Q' (k+m) listed a w
 | 0,listed,a,w,hw,h=>by rw [Nat.zero_add]; exact hL _ _ _ hw h
 | k+1,listed,a,w,hw,h=>by
  have e:k+1+m=(k+m)+1:=by omega
  rw [e];exact ⟨fun h0=>absurd h0 h.1,fun i hi=>wpOp_of_qOp hw (fun a' w' hw' h'=>zQj hL k _ a' w' hw' h') (h.2 i hi).2⟩
theorem zR0 {i : Nat} {oi : Oper} {v : Value} (hi : ops[i]? = some oi) (hsel : ∀ (j : Nat) (o : Oper) cs b, ops[j]? = some o → o.op ≠ .select cs b)
    (hs:Region.sinkB md ops n=true) (hc:Region.chainB md ops n=true) (hn:n<ops.size) (hin:i<n) (hdone:∀ listed a,Lq listed a→∀ j ∈ Region.ready md ops listed,n≤j) :
    ∀ (k:Nat) (listed:Array Bool) (a:Act),HeadInv md ops n listed →
      (∀ j oj,ops[j]?=some oj→j≠i→listed.getD j true=false→(∀ e ∈ oj.after,Region.binds md e=true→e.on≠i)→oi.apart ops oj=true) →
      i ∈ Region.ready md ops listed→YieldsIn P ops C oi v a→anyH P md ops C n Lq k (listed.setIfInBounds i true) (a.put oi.dst v)→anyH P md ops C n Lq (k+1) listed a:=by
  intro k
  induction k with
  | zero =>
    intro listed a inv _ hr hy H;have hun:=(mem_ready.1 hr).1;refine ⟨fun h=>gR,fun j hj=>?_⟩;have hjn:j<n:=Nat.lt_of_not_le fun h=>absurd hj (tail_waits hs hc hn inv _ i rfl hin hun j h)
    by_cases hji:j=i
    · subst hji; exact ⟨hjn,hy.qOp hi H⟩
    · exact absurd (hdone _ _ H j (ready_mono hj hji)) om
  | succ k ih =>
    intro listed a inv hfree hr hy H;have hun:=(mem_ready.1 hr).1;refine ⟨fun h=>gR,fun j hj=>?_⟩;have hjn:j<n:=Nat.lt_of_not_le fun h=>absurd hj (tail_waits hs hc hn inv _ i rfl hin hun j h)
    refine ⟨hjn,?_⟩;by_cases hji:j=i
    · subst hji; exact hy.qOp hi H
    · obtain ⟨hjun,oj,hoj,hall⟩:=mem_ready.1 hj
      have hnot:∀ e ∈ oj.after,Region.binds md e=true→e.on≠i:=fun e he hb heq=>by
        grind
      refine qOp_mono (fun a' h3=>ih (listed.setIfInBounds j true) a' (inv.set hj hjn) (fun x ox hx hxi hxu hxn=>?_) (ready_mono hr (Ne.symm hji)) h3.1 ?_)
        (qOp_put hoj (hfree j oj hoj hji hjun hnot) (fun cs b=>hsel i oi cs b hi) (fun cs b=>hsel j oj cs b hoj) hy (H.2 j (ready_mono hj hji)).2)
      · refine hfree x ox hx hxi ?_ hxn
        by_cases hjx:j=x
        all_goals simp_all
      grind [Array.setIfInBounds_comm]
theorem zRp {Qa : Act → Prop} (hsel : Region.noSelect ops = true) (hs : Region.sinkB md ops n = true) (hc : Region.chainB md ops n = true) (hn : n < ops.size) :
  ∀ (l:List Oper) (k:Nat) (listed:Array Bool) (a:Act),(∀ j,j<l.length→l[j]?=ops[k+j]?)→k+l.length=n→HeadInv md ops n listed →
  Region.lexHead md ops m l.length k listed=true→wpQuiet P ops C Qa l a →
  anyH P md ops C n (fun listed' a'=>Region.seqB md ops m n listed'=true∧Qa a') l.length listed a
 | [],k,listed,a,_,hk,_,hB,h=>by
  obtain rfl:k=n:=by simpa using hk
  exact ⟨by simpa [Region.lexHead] using hB,h⟩
 | o :: l,k,listed,a,hl,hk,inv,hB,h=>by
  have h0:ops[k]?=some o:=by simpa using (hl 0 (by simp)).symm
  simp only [lC,Region.lexHead,bQ] at hB;obtain ⟨⟨hr,hf⟩,hB'⟩:=hB;have hkn:k<n:=by simp only [lC] at hk; omega
  have hr':k ∈ Region.ready md ops listed:=by simpa using hr
  have hst:qOp P ops C k (wpQuiet P ops C Qa l) a:=by unfold qOp; simp only [h0]; exact h
  obtain ⟨v,hy,hK⟩:=yieldsIn_of_qOp h0 hst;refine zR0 h0 (Region.noSelect_spec hsel) hs hc hn hkn (fun listed' a' hL=>seqB_ready hL.1) l.length listed a inv (Region.free_spec h0 hf) hr' hy ?_;refine zRp hsel hs hc hn l (k+1) _ _ (fun j hj=>?_) (by simp only [lC] at hk; omega) (inv.set hr' hkn) hB' hK;have:=hl (j+1) (by simp; omega)
  grind
theorem WL.all {l:List Oper} (h:WL P N ops l (fun f w=>Q .normal f w) f w):wpList P ops (fun e a w'=>∃ f',a=act N f'∧Q e f' w') l (act N f) w:=by
 have key:∀ (l:List Oper) (a:Act) (w:World),wpList P ops (fun e a w'=>∃ f',a=act N f'∧e=.normal∧Q .normal f' w') l a w→wpList P ops (fun e a w'=>∃ f',a=act N f'∧Q e f' w') l a w:=by
  intro l
  induction l with
  | nil=>intro a w ⟨f',ha,_,q⟩; exact ⟨f',ha,q⟩
  | cons o rest ih =>
   intro a w h;unfold wpList at h ⊢;split
   ·rename_i hw
    rw [if_pos hw] at h;rcases h with h | ⟨_,a0,w0,f0,_,hc,_⟩
    all_goals grind [Oper.wp_monoQ]
   grind
 exact key _ _ _ h.out
theorem WP.quietTail {id : Nat} {l : List Oper} (n : Nat) (S : St w0 H0 w H L) (hm : P.follows .mixedOrders = true) (hB : Region.lexTailB .any l.toArray n = true)
    (h:WQ P N l.toArray (Cl w0 H0 H L) (l.take n) (fun f'=>∀ w' H',H.le H'→St w0 H0 w' H' L→WL P N l.toArray (l.drop n) (fun f w=>Q .normal f w) f' w') f):WP P N (.region id l.toArray true) Q f w:=by
  simp only [Region.lexTailB,bQ,decide_eq_true_eq] at hB;obtain ⟨⟨⟨⟨hsel,hn⟩,hs⟩,hc⟩,hlex⟩:=hB;have hn':n<l.length:=by simpa using hn
  have htl:(l.take n).length=n:=by simp; omega
  have hdl:(l.drop n).length=l.toArray.size - n:=by simp
  have inv0:HeadInv .any l.toArray n (Array.replicate l.toArray.size false) :=
    ⟨sI,fun j oj _ hl=>(by rw [getD_replicate_false] at hl; cases hl),fun t _ ht=>getD_in (by simpa using ht) (getD_replicate_false _ _)⟩
  have hh:=zRp (P:=P) (C:=Cl w0 H0 H L) (md:=.any) (m:=l.toArray.size - n) hsel hs hc hn (l.take n) 0 _ (act N f) (fun j hj=>by
    grind) (by simpa using htl) inv0 gR h.out
  refine wp_region_any hm ?_;have:=zQj (m:=l.toArray.size - n) (Q':=fun e a w'=>∃ f',a=act N f'∧Q e f' w') (fun listed a' w' hw' hL=>by
    obtain ⟨H',hle,S'⟩:=hw';obtain ⟨f',ha,hq⟩:=hL.2;subst ha;have:=wpAny_of_seq (md:=.any) (Q':=fun e a w'=>∃ f',a=act N f'∧Q e f' w') (l.drop n) n listed (act N f') w' (fun j=>by grind) gR (WL.all (hq w' H' hle S'))
    rwa [hdl] at this) _ _ _ w.drew ⟨H,Hp.le.refl _,S.drew⟩ hh
  rw [htl,show n+(l.toArray.size - n)=l.toArray.size by omega] at this;exact this
end
end Go.Eng
namespace Go.Eng
open Go Go.RowKit
section
variable {P:Program} {N:Frm} {f:Fr} {w w' w0:World} {H0 H:Hp} {L:List Ent} {ops:Array Oper} {rest:List Oper} {Q:Fr→World→Prop} {d:Nat} {od:Option Nat} {ty:TypeId} {pos:String} {af:Array Edge}
variable {T:TypeId} {xs:List Str}
theorem St.turnRow (S : St w0 H0 w H L) (hw : Holds w0 H0) {i g n n' cap sz : Nat} {cur' : Array Value}
    (hi:L[i]?=some (.row (.slice (some ⟨g,0,none⟩) n cap) T sz n)) (hoth:∀ k,k≠g→k<w.heap.size→w'.heap[k]?=w.heap[k]?) (hsz:w.heap.size≤w'.heap.size)
    (hos:w'.os=w.os∧w'.tape=w.tape∧w'.output=w.output) (hg:w'.heap[g]?=some (.cells cur' T (0,0))) (hc:cur'.size=cap*sz) (hn:n'≤cap) (hcap:cap≤maxLen) :
    ∃ H',H0.le H'∧H' g=some (T,cur'.toList.take (n'*sz))∧St w0 H0 w' H' (L.set i (.row (.slice (some ⟨g,0,none⟩) n' cap) T sz n')):=by
  have hmem:=lG hi;have hown:w0.heap.size≤g:=S.own _ hmem g rfl;have hgl:g<w.heap.size:=S.lt (List.mem_filterMap.2 ⟨_,hmem,rfl⟩);have h0g:H0 g=none:=hw.none_of_size hown;have hle:H0.le (fun k=>if k=g then some (T,cur'.toList.take (n'*sz)) else H k):=by
    intro k T' l hk;by_cases h:k=g
    · grind
    · obtain ⟨l',hl'⟩:=S.post.le k T' l hk
      grind
  refine ⟨fun k=>if k=g then some (T,cur'.toList.take (n'*sz)) else H k,hle,sI,?_⟩;refine ⟨⟨S.post.below.trans ⟨hos.1,hos.2.1,hos.2.2,hsz,fun k hk=>hoth k om om⟩,hle,fun k hk=>?_,?_⟩,?_,?_,?_⟩
  · show (if k=g then _ else H k)=H0 k
    rw [if_neg om]; exact S.post.eqb k hk
  · intro k T' l hk
    by_cases h:k=g
    · grind [List.take_append_drop]
    · simp only [if_neg h] at hk
      obtain ⟨cs,fz,hc',hr⟩:=S.holds k T' l hk
      grind
  · intro e he
    obtain ⟨j,hj⟩:=lI.1 he;by_cases hij:i=j
    · subst hij
      have hlt:=(List.getElem?_eq_some_iff.1 hi).1;rw [List.getElem?_set_self hlt] at hj;simp at hj; subst hj;exact .inr ⟨g,cap,cur',rfl,hg,hn,hcap,hc,sI⟩
    · rw [List.getElem?_set_ne hij] at hj
      refine Ent.ok_keep (S.ents e (lG hj)) fun k hk=>?_
      have hne:k≠g:=S.blk_ne hj hi hk rfl (Ne.symm hij);exact ⟨hoth k hne (Ent.ok_lt (S.ents e (lG hj)) hk),if_neg hne⟩
  · intro e he k hk
    obtain ⟨j,hj⟩:=lI.1 he;by_cases hij:i=j
    · grind [Ent.blk,Value.ownBlock]
    · rw [List.getElem?_set_ne hij] at hj
      exact S.own e (lG hj) k hk
  · rw [zDS (e':=.row (.slice (some ⟨g,0,none⟩) n' cap) T sz n') hi rfl]; exact S.nodup
theorem zOt {w : World} {g : Nat} {cur : Array Value} {fz : Nat × Nat} {d : Array Str} (h : w.heap[g]? = some (.cells cur T fz)) (hd : d.size ≤ cur.size) :
  ∃ cur',(Sort.putRow Proofs.encStr w g 0 d).heap[g]?=some (.cells cur' T fz)∧cur'.size=cur.size∧cur'.toList.take d.size=d.toList.map str:=by
 refine ⟨Sort.putCells Proofs.encStr 0 d cur,?_,by simp [Sort.putCells],?_⟩
 ·grind [Sort.putRow,Sort.mapBlock,Sort.onCells]
 ·apply List.ext_getElem?
  grind [Sort.putCells,str]
theorem zNK {w:World} {g k:Nat} {d:Array Str} (h:k≠g):(Sort.putRow Proofs.encStr w g 0 d).heap[k]?=w.heap[k]?:=by
 grind [Sort.putRow,Sort.mapBlock]
theorem zOy {w : World} {H : Hp} {g : Nat} {cur : Array Value} {cap : Nat} (hw : Holds w H) (hg : w.heap[g]? = some (.cells cur T (0, 0))) (hR : Sl H (.slice (some ⟨g, 0, none⟩) xs.length cap) xs) :
  Sort.Holds Proofs.encStr w g 0 xs.toArray:=by
 intro j hj;have hj:j<xs.length:=by simpa using hj
 obtain ⟨a,c,hv,_,_,h3⟩:=hR;rcases h3 with h3 | ⟨b,off,cs,ha,hat,hC⟩
 ·grind
 ·subst ha
  simp only [Value.slice.injEq,oI,Addr.mk.injEq] at hv;obtain ⟨⟨rfl,rfl,_⟩,_⟩:=hv;have hcs:=hC.strs;have hget:cs[j]?=some (str xs[j]):=by grind
  refine ⟨?_,?_⟩
  ·have:=hat.cell hw hget
   grind [Addr.add_lit,str]
  ·simp [World.frozen?,hg]
structure SortCon (P:Program) (k:FuncId):Prop where
 enter:∀ (args:Array Value) (w:World),(callFunc k args).run P w=.ok (.enter k args) w
 none:∀ (p:Option Addr) (cap:Nat) (w:World),Calls P k #[.slice p 0 cap] w fun e w'=>e=.returned (.tuple #[])∧w'=w
 some:∀ (blk off cap:Nat) (ss:List Str) (w:World),Sort.Holds Proofs.encStr w blk off ss.toArray→blk<w.heap.size→ss.length<4611686018427387904 →
  Calls P k #[.slice (some ⟨blk,off,.none⟩) ss.length cap] w fun e w'=>e=.returned (.tuple #[])∧∃ n os,w'=Sort.grow (Sort.putRow Proofs.encStr (Sort.ahead w n) blk off (ss.mergeSort fun x y=>decide (x≤y)).toArray) os
def sortS (l:List Str):List Str:=l.mergeSort fun x y=>decide (x≤y)
theorem zIf (l:List Str):(sortS l).length=l.length:=List.length_mergeSort l
def slices_Sort_string (l:List Str):Option (List Str):=if l.length≤big then some (sortS l) else none
def slices_Compact_string (l:List Str):Option (List Str):=some (Lib.compact l)
theorem zKo {H:Hp}:∀ {xs:List Str},Cells (α:=Str) H (xs.map str) xs
 | []=>rfl
 | x :: xs=>⟨[str x],xs.map str,rfl,rfl,zKo⟩
theorem W.sortRow {k : FuncId} {x : Operand} {ats : Array TypeId} {v : Value} {ys : List Str} {i : Nat} (C : SortCon P k) (hw : Holds w0 H0) (S : St w0 H0 w H L) (hi : L[i]? = some (.row v T 1 xs.length)) (hx : ev N f x = v) (hR : Sl H v xs)
    (h:slices_Sort_string xs=some ys)
    (K:∀ w' H',H0.le H'→Sl H' v ys→St w0 H0 w' H' (L.set i (.row v T 1 ys.length))→WL P N ops rest Q (updo f od (.tuple #[])) w'):WL P N ops (⟨od,.call ⟨.value (.func k),#[x],ats⟩,ty,pos,af,none⟩ :: rest) Q f w:=by
  have hbig:xs.length≤big:=by
    unfold slices_Sort_string at h
    grind
  obtain rfl:sortS xs=ys:=by
    unfold slices_Sort_string at h
    grind
  have hset:L.set i (.row v T 1 (sortS xs).length)=L:=by
    rw [zIf];apply List.ext_getElem?
    grind
  have hrun:∀ w,(execOp (ev N f) ⟨od,.call ⟨.value (.func k),#[x],ats⟩,ty,pos,af,.none⟩).run P w=.ok (.enter k #[v]) w:=by
    intro w;have e1:(execOp (ev N f) ⟨od,.call ⟨.value (.func k),#[x],ats⟩,ty,pos,af,.none⟩)=callFunc k (#[]++#[x].map (ev N f)++#[]):=rfl;have e:(#[]++#[x].map (ev N f)++#[])=#[v]:=by simp [hx]
    rw [e1,e]; exact C.enter _ _
  rcases (show RowOk w H v T 1 xs.length from S.ents _ (lG hi)) with ⟨rfl,hn⟩ | ⟨g,cap,cur,rfl,hc,hnc,hcm,hcs,hH⟩
  · refine WL.enterw (w':=w) (hrun w) (Calls.mono (C.none _ _ _) fun e w' ⟨he,hw'⟩=>⟨_,he,?_⟩)
    subst hw';have hxs:xs=[]:=List.length_eq_zero_iff.1 hn;subst hxs;refine K _ H S.post.le ?_ (by rw [hset]; exact S)
    grind
  · have hrow:=zOy S.holds hc hR
    have hg:g<w.heap.size:=(Array.getElem?_eq_some_iff.1 hc).1;refine WL.enterw (w':=w) (hrun w) (Calls.mono (C.some g 0 cap xs w hrow hg (by grind [big])) fun e w' ⟨he,n,os,hw'⟩=>⟨_,he,?_⟩);have hd:(sortS xs).toArray.size=xs.length:=by simp [zIf]
    obtain ⟨cur',hg',hsz',htk⟩:=zOt (w:=Sort.ahead w n) (g:=g) (d:=(sortS xs).toArray) hc (by rw [hd]; omega);have hsz2:w'.heap.size=w.heap.size+os.size:=by rw [hw']; simp
    have hgrow:∀ k,k<w.heap.size→w'.heap[k]?=(Sort.putRow Proofs.encStr (Sort.ahead w n) g 0 (sortS xs).toArray).heap[k]?:=by
      intro k hk;rw [hw']
      show (_++os)[k]?=_
      rw [Array.getElem?_append_left (by simpa using hk)];rfl
    obtain ⟨H',hle,hH',S'⟩:=S.turnRow hw hi (w':=w') (n':=xs.length) (cur':=cur') (fun k hk hlt=>by rw [hgrow k hlt,zNK hk]; rfl) om (by rw [hw']; exact ⟨rfl,rfl,rfl⟩) gR (by rw [hsz',hcs]) hnc hcm;refine K w' H' hle ?_ gR;refine ⟨some ⟨g,0,none⟩,cap,by rw [zIf],gR,hcm,?_⟩;refine .inr ⟨g,0,(sortS xs).map str,rfl,⟨T,_,rfl,hH',[],?_⟩,zKo⟩
    grind
structure CompactCon (P:Program) (k:FuncId):Prop where
 enter:∀ (args:Array Value) (w:World),(callFunc k args).run P w=.ok (.enter k args) w
 none:∀ (a:Option Addr) (cap:Nat) (w:World),Calls P k #[.slice a 0 cap] w fun e w'=>e=.returned (.slice a 0 cap)∧w'=w
 some:∀ (blk off cap:Nat) (zs:List Str) (w:World),Sort.Holds Proofs.encStr w blk off zs.toArray→zs.length≤9223372036854775807→zs.length≤cap →
  Calls P k #[.slice (some ⟨blk,off,.none⟩) zs.length cap] w fun e w'=>e=.returned (.slice (some ⟨blk,off,.none⟩) (Lib.compact zs).length cap)∧∃ q,w'=Sort.putRow Proofs.encStr (Sort.ahead w q) blk off (Lib.compact zs++List.replicate (zs.length - (Lib.compact zs).length) []).toArray
theorem zMW (l:List Str):(Lib.compact l).length≤l.length:=by
 unfold Lib.compact Lib.compactUpTo
 grind
theorem W.compactRow {k : FuncId} {x : Operand} {ats : Array TypeId} {v : Value} {ys : List Str} {i : Nat} (C : CompactCon P k) (hw : Holds w0 H0) (S : St w0 H0 w H L) (hi : L[i]? = some (.row v T 1 xs.length)) (hx : ev N f x = v) (hR : Sl H v xs)
    (h:slices_Compact_string xs=some ys)
    (K:∀ v' w' H',H0.le H'→Sl H' v' ys→St w0 H0 w' H' (L.set i (.row v' T 1 ys.length))→WL P N ops rest Q (updo f od v') w'):WL P N ops (⟨od,.call ⟨.value (.func k),#[x],ats⟩,ty,pos,af,none⟩ :: rest) Q f w:=by
  obtain rfl:Lib.compact xs=ys:=by unfold slices_Compact_string at h; grind
  have hrun:∀ w,(execOp (ev N f) ⟨od,.call ⟨.value (.func k),#[x],ats⟩,ty,pos,af,.none⟩).run P w=.ok (.enter k #[v]) w:=by
    intro w;have e1:(execOp (ev N f) ⟨od,.call ⟨.value (.func k),#[x],ats⟩,ty,pos,af,.none⟩)=callFunc k (#[]++#[x].map (ev N f)++#[]):=rfl;have e:(#[]++#[x].map (ev N f)++#[])=#[v]:=by simp [hx]
    rw [e1,e]; exact C.enter _ _
  rcases (show RowOk w H v T 1 xs.length from S.ents _ (lG hi)) with ⟨rfl,hn⟩ | ⟨g,cap,cur,rfl,hc,hnc,hcm,hcs,hH⟩
  · refine WL.enterw (w':=w) (hrun w) (Calls.mono (C.none _ _ _) fun e w' ⟨he,hw'⟩=>⟨_,he,?_⟩)
    subst hw';have hxs:xs=[]:=List.length_eq_zero_iff.1 hn;subst hxs;have hz:Lib.compact ([]:List Str)=[]:=rfl;have hset:L.set i (.row (.slice none 0 0) T 1 (Lib.compact ([]:List Str)).length)=L:=by
      apply List.ext_getElem?
      grind
    exact K _ _ H S.post.le (by rw [hz]; exact hR) (by rw [hset]; exact S)
  · have hrow:=zOy S.holds hc hR
    have hg:g<w.heap.size:=(Array.getElem?_eq_some_iff.1 hc).1;refine WL.enterw (w':=w) (hrun w) (Calls.mono (C.some g 0 cap xs w hrow (by grind [maxLen]) hnc) fun e w' ⟨he,n,hw'⟩=>⟨_,he,?_⟩);have hcl:=zMW xs;have hd:(Lib.compact xs++List.replicate (xs.length - (Lib.compact xs).length) ([]:Str)).toArray.size=xs.length:=by simp; omega
    obtain ⟨cur',hg',hsz',htk⟩:=zOt (w:=Sort.ahead w n) (g:=g) (d:=(Lib.compact xs++List.replicate (xs.length - (Lib.compact xs).length) ([]:Str)).toArray) hc (by rw [hd]; omega);obtain ⟨H',hle,hH',S'⟩:=S.turnRow hw hi (w':=w') (n':=(Lib.compact xs).length) (cur':=cur') (fun k hk hlt=>by rw [hw',zNK hk]; rfl) (by rw [hw']; simp) (by rw [hw']; exact ⟨rfl,rfl,rfl⟩) (by rw [hw']; exact hg') (by rw [hsz',hcs]) om hcm;refine K _ w' H' hle ?_ S';refine ⟨some ⟨g,0,none⟩,cap,rfl,om,hcm,?_⟩;refine .inr ⟨g,0,(Lib.compact xs).map str,rfl,⟨T,_,rfl,hH',[],?_⟩,zKo⟩;rw [hd] at htk;have:cur'.toList.take (Lib.compact xs).length=(Lib.compact xs).map str:=by
      have h2:=congrArg (List.take (Lib.compact xs).length) htk
      grind
    grind
section
variable {n:Nat} {listed:Array Bool}
theorem WA.two {i j : Nat} {o o' : Oper} (l1 l2 : Array Bool) (hi : ops[i]? = some o) (hj : ops[j]? = some o') (hr : Region.ready .any ops listed = [i, j]) (h1 : listed.setIfInBounds i true = l1) (h2 : listed.setIfInBounds j true = l2)
    (k1:WL P N ops [o] (fun f' w'=>WA P N ops n l1 Q f' w') f w) (k2:WL P N ops [o'] (fun f' w'=>WA P N ops n l2 Q f' w') f w):WA P N ops (n+1) listed Q f w:=by
  subst h1; subst h2;refine wpAny_all hr sI fun q hq=>?_
  have key:∀ (q:Nat) (o:Oper),ops[q]?=some o→WL P N ops [o] (fun f' w'=>WA P N ops n (listed.setIfInBounds q true) Q f' w') f w→wpOp P ops (fun e a w'=>∃ f',a=act N f'∧e=.normal∧Q f' w') q (wpAny P .any ops (fun e a w'=>∃ f',a=act N f'∧e=.normal∧Q f' w') n (listed.setIfInBounds q true)) (act N f) w:=by
    intro q o hq h;unfold wpOp;rw [hq];have h':wpList P ops (fun e a w'=>∃ f',a=act N f'∧e=.normal∧WA P N ops n (listed.setIfInBounds q true) Q f' w') [o] (act N f) w:=h.out;unfold wpList at h'
    show if Region.wanted o (yielded ops (act N f).tmps)=true then _ else _
    split
    · rename_i hw
      rw [if_pos hw] at h';rcases h' with h' | ⟨_,a0,w0,f0,_,he,_⟩
      · refine .inl (Oper.wp_monoQ (fun a w hk=>?_) (fun e a w hne ⟨f',ha,he,_⟩=>absurd he hne) h')
        obtain ⟨f',ha,_,hq⟩:=hk;subst ha; exact hq
      · cases he
    · rename_i hw
      rw [if_neg hw] at h';obtain ⟨f',ha,_,hq⟩:=h';rw [ha]; exact hq
  grind
end
end
def strconv_Itoa (n:Int):Option Str:=if -9223372036854775808≤n∧n≤9223372036854775807 then some (Lib.itoa n) else none
theorem zPl (w:World) (k:Nat) (os:Array Obj):Below w.heap.size w (Sort.grow (w.drewN k) os) :=
 ⟨rfl,rfl,rfl,by simp_all,fun j hj=>by
  show (w.heap++os)[j]?=w.heap[j]?
  grind⟩
variable {P:Program} {w:World}
theorem zXJ {k : FuncId} {fn : Func} {c : Code} {H : Hp} {n : Int} {r : Str} (hf : P.funcs[k]? = some fn) (hb : fn.body = some c) (hname : (fn.name == "runtime.NumGoroutine") = false) (hw : Holds w H)
    (htab:Lib.TabIs P w "internal/strconv.uint64pow10" .u64 Lib.pow10Tab) (h:strconv_Itoa n=some r)
    (hc:∀ (n:Int),-9223372036854775808≤n→n≤9223372036854775807→∀ (w:World),Lib.TabIs P w "internal/strconv.uint64pow10" .u64 Lib.pow10Tab →
      Calls P k #[.int .i64 n] w fun e w'=>e=.returned (.string ⟨(Lib.itoa n).toArray⟩)∧∃ k os,w'=Sort.grow (w.drewN k) os) :
    Con P k [int n] w H (fun _ u=>u=str r):=by
  unfold strconv_Itoa at h;split at h
  case isFalse=>cases h
  rename_i h0;simp only [oI] at h;subst h;refine Con.of_calls hf hb hname hw (Calls.mono (hc n h0.1 h0.2 w htab) fun _ _ ⟨he,q,os,hp⟩=>⟨he,?_⟩)
  grind [zPl]
theorem zSi {w':World} {g:Nat} {n:String} {cs:Array Value} {B:Nat} (hg:P.globalNamed n=some g) (h:w.var? P n=some cs) (hb:Below B w w') (hB:g<B):w'.var? P n=some cs:=by
 unfold World.var? at *
 rw [hg] at h ⊢;simp only [Option.bind_some] at h ⊢;rw [hb.block g hB]; exact h
theorem zYa {g:Nat} {n:String} {cs:Array Value} (hg:P.globalNamed n=some g) (h:w.var? P n=some cs):g<w.heap.size:=by
 unfold World.var? at h
 grind
theorem zWD {w0:World} {H0 H:Hp} {g:Nat} {n:String} {k:IntKind} {zs:List Int} (hg:P.globalNamed n=some g) (h:Lib.TabIs P w0 n k zs) (p:Post w0 H0 w H):Lib.TabIs P w n k zs :=
 zSi hg h p.below (zYa hg h)
theorem zOP {W : World} {name : String} {k : IntKind} {zs : List Int} {l : List (String × DataW Unit)} {g : Nat} {t e : TypeId} {n : Nat} (hm : (name, Lib.tabData k zs) ∈ l)
    (hg:P.globalNamed name=some g) (hty:(P.globals[g]?).map (·.type)=some t) (ht:P.underlying t=some (.array n e)) (he:P.underlying e=some (.int k)) (hce:P.cellsOf e=1) (hct:P.cellsOf t=n)
    (h:laidMet P l W):Lib.TabIs P W name k zs:=by
  obtain ⟨ps,hl,_⟩:=h;have key:∀ (l:List (String×DataW Unit)) (ps:List MemPlace),(name,Lib.tabData k zs) ∈ l→DataW.LaidVars P W l ps→∃ ps',DataW.LaidVars P W [(name,Lib.tabData k zs)] ps':=by
    intro l
    induction l with
    | nil=>grind
    | cons x l ih =>
      intro ps hm hl;obtain ⟨nm,d⟩:=x;obtain ⟨g,t,cs,fuel,p,q,h1,h2,h3,h4,h5,rfl⟩:=hl;rcases List.mem_cons.1 hm with hm | hm
      · cases hm
        exact ⟨_,g,t,cs,fuel,p,[],h1,h2,h3,h4,rfl,rfl⟩
      grind
  obtain ⟨ps',hl'⟩:=key l ps hm hl;obtain ⟨g',t',cs,fuel,p,q,hg',ht',hvar,hd,_,_⟩:=hl';obtain rfl:=oJ (hg.symm.trans hg');obtain rfl:=oJ (hty.symm.trans ht');unfold Lib.TabIs;rw [hvar,← Lib.cells_of_tab ht he hce hct hd]
end Go.Eng
namespace Go.Eng
open Go Go.RowKit
def ConS (P:Program) (k:FuncId) (args:List Value) (w0:World) (H0:Hp) (w:World) (H:Hp) (L2:List Ent) (R:Hp→Value→List Ent→Prop):Prop :=
 (∀ w,(callFunc k args.toArray).run P w=.ok (.enter k args.toArray) w) ∧
 Calls P k args.toArray w (fun e w'=>∃ v H' L',e=.returned v∧H.le H'∧St w0 H0 w' H' (L'++L2)∧R H' v L')
def OutS (P:Program) (fn:Func) (N:Frm) (w0:World) (H0 H:Hp) (L2:List Ent) (R:Hp→Value→List Ent→Prop):Exit→Fr→World→Prop:=fun e f w =>
 (e=.ret∨e=.normal)∧∃ v,(results fn (tm N f)).run P w=.ok v w∧∃ H' L',H.le H'∧St w0 H0 w H' (L'++L2)∧R H' v L'
section
variable {P:Program} {N:Frm} {f:Fr} {w w1 w0:World} {H0 H1 H:Hp} {L L2 L':List Ent} {ops:Array Oper} {rest:List Oper} {Q:Fr→World→Prop} {d:Nat} {od:Option Nat} {ty:TypeId} {pos:String} {af:Array Edge} {g:Option (Nat×Bool)}
variable {R:Hp→Value→List Ent→Prop} {args:List Value} {fn:Func} {r1 r2:ResultVar}
theorem ConS.mk {N : Nat} {c : Code} {k : FuncId} (hf : P.funcs[k]? = some fn) (hb : fn.body = some c) (hn : fn.ntmps = N) (hname : (fn.name == "runtime.NumGoroutine") = false)
    (hsz:Nat.ble args.length N=true) (h:WP P ⟨N,[]⟩ c (OutS P fn ⟨N,[]⟩ w0 H0 H L2 R) (init args) w):ConS P k args w0 H0 w H L2 R:=by
  refine ⟨fun w=>?_,?_⟩
  · simp_all [callFunc]
  · refine calls_of_wp hf hb ?_
    have hle:args.length≤N:=nL hsz;have e:({ tmps:=args.toArray++Array.replicate (fn.ntmps - args.toArray.size) undef,defers:=[] }:Act)=act ⟨N,[]⟩ (init args):=by
      simp only [act];congr 1;apply Array.ext_getElem?
      grind [zHG,init]
    rw [e];refine Code.wp_mono (fun e a w' ⟨f',ha,he,v,hv,H',L',hle,hS,hr⟩=>?_) h;subst ha;rcases he with rfl | rfl
    · exact ⟨rfl,v,hv,v,H',L',rfl,hle,hS,hr⟩
    · exact ⟨rfl,v,hv,v,H',L',rfl,hle,hS,hr⟩
theorem W.callS {k : FuncId} {xs : List Operand} {ats : Array TypeId} (ha : xs.map (ev N f) = args) (C : ConS P k args w0 H0 w H L2 R)
    (K:∀ v w' H' L',H.le H'→St w0 H0 w' H' (L'++L2)→R H' v L'→WL P N ops rest Q (updo f od v) w'):WL P N ops (⟨od,.call ⟨.value (.func k),xs.toArray,ats⟩,ty,pos,af,none⟩ :: rest) Q f w:=by
  refine WL.enterw (w':=w) (k:=k) (args:=args.toArray) ?_ (Calls.mono C.2 fun e w' ⟨v,H',L',he,hp,hS,hv⟩=>⟨v,he,K v w' H' L' hp hS hv⟩);have:(execOp (ev N f) ⟨od,.call ⟨.value (.func k),xs.toArray,ats⟩,ty,pos,af,none⟩)=callFunc k (#[]++xs.toArray.map (ev N f)++#[]):=rfl;rw [this];have e:(#[]++xs.toArray.map (ev N f)++#[])=args.toArray:=by simp [ha]
  rw [e];exact C.1 w
theorem W.callvS {k : FuncId} {x : Operand} {xs : List Operand} {ats : Array TypeId} {caps : List Value} (hx : ev N f x = .func (.func k) #[] caps.toArray) (ha : xs.map (ev N f) = args) (C : ConS P k (args ++ caps) w0 H0 w H L2 R)
    (K:∀ v w' H' L',H.le H'→St w0 H0 w' H' (L'++L2)→R H' v L'→WL P N ops rest Q (updo f od v) w'):WL P N ops (⟨od,.call ⟨.value x,xs.toArray,ats⟩,ty,pos,af,none⟩ :: rest) Q f w:=by
  refine WL.enterw (w':=w) (k:=k) (args:=(args++caps).toArray) ?_ (Calls.mono C.2 fun e w' ⟨v,H',L',he,hp,hS,hv⟩=>⟨v,he,K v w' H' L' hp hS hv⟩);have e:xs.toArray.map (ev N f)++caps.toArray=(args++caps).toArray:=by simp [ha]
  have:(execOp (ev N f) ⟨od,.call ⟨.value x,xs.toArray,ats⟩,ty,pos,af,none⟩).run P w=(callFunc k (#[]++xs.toArray.map (ev N f)++caps.toArray)).run P w:=by
    simp [execOp,resolve,hx,Deferred.ofValue,invoke]
  rw [this,Array.empty_append,e];exact C.1 w
theorem zPQ (hr:fn.results=#[]) (tmps:Array Value):(results fn tmps).run P w=.ok (.tuple #[]) w:=by
 rw [zEI,hr];simp_all
theorem OutS.zero {e:Exit} (he:e=.ret∨e=.normal) (hr:fn.results=#[]) (hle:H1.le H) (S:St w0 H0 w H (L'++L2)) (hR:R H (.tuple #[]) L'):OutS P fn N w0 H0 H1 L2 R e f w :=
 ⟨he,_,zPQ hr _,H,L',hle,S,hR⟩
theorem OutS.one {r:ResultVar} {v:Value} (hr:fn.results=#[r]) (hle:H1.le H) (S:St w0 H0 w H (L'++L2)) (h:Res P N f w r v) (hR:R H v L'):OutS P fn N w0 H0 H1 L2 R .ret f w:=by
 refine ⟨.inl rfl,v,?_,H,L',hle,S,hR⟩;have:=zA7 h;rw [zEI,hr];simp_all
theorem OutS.two {v1 v2:Value} (hr:fn.results=#[r1,r2]) (hle:H1.le H) (S:St w0 H0 w H (L'++L2)) (h1:Res P N f w r1 v1) (h2:Res P N f w r2 v2) (hR:R H (.tuple ⟨[v1,v2]⟩) L'):OutS P fn N w0 H0 H1 L2 R .ret f w:=by
 refine ⟨.inl rfl,_,?_,H,L',hle,S,hR⟩;have h1:=zA7 h1;have h2:=zA7 h2;rw [zEI,hr];simp_all
theorem St.front (S:St w0 H0 w H L) (i:Nat) {e:Ent} (hi:L[i]?=some e):St w0 H0 w H (e :: L.eraseIdx i):=by
 have hm:=lG hi;refine ⟨S.post,?_,?_,?_⟩
 ·intro x hx
  rcases List.mem_cons.1 hx with rfl | hx
  ·exact S.ents _ hm
  ·exact S.ents _ ((List.eraseIdx_sublist _ _).subset hx)
 ·intro x hx
  rcases List.mem_cons.1 hx with rfl | hx
  ·exact S.own _ hm
  ·exact S.own _ ((List.eraseIdx_sublist _ _).subset hx)
 ·have hp : ∀ (L : List Ent) (i : Nat), L[i]? = some e → List.Perm (e :: L.eraseIdx i) L := by
   intro L
   induction L with
   | nil=>grind
   | cons x L ih =>
    intro i hi;cases i with
    | zero=>simp_all
    | succ i =>
     simp at hi;rw [List.eraseIdx_cons_succ];exact (List.Perm.swap x e _).trans ((ih i hi).cons x)
  exact ((hp L i hi).filterMap Ent.blk).nodup_iff.2 S.nodup
end
end Go.Eng
namespace Go.Eng
open Go
def iand (a b:Int):Int:=IntKind.wrap .i64 ((BitVec.ofInt 64 a &&& BitVec.ofInt 64 b).toNat:Int)
def band (a b:UInt8):UInt8:=a &&& b
section
variable {P:Program} {N:Frm} {f:Fr} {w:World} {d:Option Nat} {ty:TypeId} {pos:String} {af:Array Edge} {g:Option (Nat×Bool)}
theorem R.and {x y:Operand} {a b:Int} {T T':TypeId} (hx:ev N f x=int a) (hy:ev N f y=int b):(execOp (ev N f) ⟨d,.binOp .and T x y T',ty,pos,af,g⟩).run P w=.ok (.value (int (iand a b))) w:=by
 simp [execOp,eqGuard,hx,hy,int,binOp,Op.intBits,iand];rfl
theorem R.and8 {x y:Operand} {a b:UInt8} {T T':TypeId} (hx:ev N f x=byt a) (hy:ev N f y=byt b):(execOp (ev N f) ⟨d,.binOp .and T x y T',ty,pos,af,g⟩).run P w=.ok (.value (byt (band a b))) w:=by
 have e:IntKind.wrap .u8 ((BitVec.ofInt 8 (a.toNat:Int) &&& BitVec.ofInt 8 (b.toNat:Int)).toNat:Int)=((a &&& b).toNat:Int):=by
  have h1:(BitVec.ofInt 8 (a.toNat:Int) &&& BitVec.ofInt 8 (b.toNat:Int)).toNat=(a &&& b).toNat:=by
   simp_all
  rw [h1,wrap_u8,toU8];have hc:=(a &&& b).toNat_lt;rw [UInt8.toNat_ofNat']; omega
 simp only [execOp,eqGuard,hx,hy,byt,binOp,Op.intBits,band];simp;exact e
end
section
variable {P:Program} {N:Frm} {f:Fr} {w w0:World} {H0 H:Hp} {L:List Ent} {ops:Array Oper} {rest:List Oper} {Q:Fr→World→Prop} {d:Nat} {od:Option Nat} {ty:TypeId} {pos:String} {af:Array Edge}
theorem W.storeSl {α : Type} [Enc α] {T T' : TypeId} {a x : Operand} {b o i : Nat} {bb : Bool} {u : Value} {xs : List α} {cs : List Value} (cs' : List Value) (S : St w0 H0 w H L) (R : Sl H u xs) (ha : ev N f a = ptr b o) (hx : ev N f x = u) (hi : L[i]? = some (.box b T' cs)) (hT : lay P T = some (bb, 1))
    (ho:o+1≤cs.length) (hc:zEH cs o [u]=cs')
    (k:∀ w',St w0 H0 w' H (L.set i (.box b T' cs'))→WL P N ops rest Q (updo f od undef) w'):WL P N ops (⟨od,.store T a x,ty,pos,af,none⟩ :: rest) Q f w :=
  W.store cs' S ha hx hi hT (by rw [Sl.cellsOne R]; rfl) (by rw [Sl.cellsOne R]; simp [Sl.oneC R]) ho (by rw [Sl.cellsOne R]; exact hc) k
end
end Go.Eng
