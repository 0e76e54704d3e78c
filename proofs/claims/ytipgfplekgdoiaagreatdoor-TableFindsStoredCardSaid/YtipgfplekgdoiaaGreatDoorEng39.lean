/- A part. -/
import Derived.Test.YtipgfplekgdoiaaGreatDoorEng33
import Derived.Scope
import Derived.WalkSpells
namespace Go.Eng
open Go Go.RowKit
section
variable {P:Program} {N:Frm} {f:Fr} {w w' w0:World} {H0 H:Hp} {L:List Ent} {ops:Array Oper} {rest:List Oper} {Q:Fr→World→Prop} {d:Nat} {od:Option Nat} {ty:TypeId} {pos:String} {af:Array Edge}
def Kept (H H':Hp) (L:List Ent) (i:Nat):Prop:=∀ {β:Type} [Scal β] {j:Nat} {v:Value} {T:TypeId} {n:Nat} {xs:List β},i≠j→L[j]?=some (.row v T 1 n)→Sl H v xs→Sl H' v xs
theorem St.kept (S:St w0 H0 w H L) {i:Nat} {e:Ent} {g:Nat} {H':Hp} (hi:L[i]?=some e) (hg:e.blk=some g) (hk:∀ k,k≠g→H' k=H k):Kept H H' L i:=by
  intro β _ j v T n xs hij hj hR
  refine hR.keepS fun b off ⟨m,c,hv⟩=>hk b ?_
  rcases (show RowOk w H v T 1 n from S.ents _ (List.mem_of_getElem? hj)) with ⟨h,_⟩ | ⟨g',cap,cur,h,_⟩
  · rw [h] at hv; cases hv
  · rw [h] at hv
    simp only [Value.slice.injEq,Option.some.injEq,Addr.mk.injEq] at hv
    obtain ⟨⟨rfl,_⟩,_⟩:=hv
    exact Ne.symm (S.blk_ne (b:=g) (b':=g') hi hj hg (by rw [h]; rfl) hij)
theorem zR2 {H H':Hp} (h:H.le H') (L:List Ent) (i:Nat):Kept H H' L i:=fun _ _ hR=>Sl.mono hR h
theorem zL9 {α : Type} [Scal α] {g cap : Nat} {cur : Array Value} {T : TypeId} {xs : List α} (hcs : cur.size = cap * 1) (hn : xs.length ≤ cap) (hH : H g = some (T, cur.toList.take (xs.length * 1)))
    (hR:Sl H (.slice (some ⟨g,0,none⟩) xs.length cap) xs):cur.toList=xs.map Scal.enc++cur.toList.drop xs.length:=by
  rw [Nat.mul_one] at hH hcs
  have hl:(cur.toList.take xs.length).length=xs.length:=by simp; omega
  by_cases hx:xs=[]
  · subst hx; simp
  obtain ⟨a,c,hv,_,_,h3⟩:=hR
  rcases h3 with h3 | ⟨b,off,cs,ha,⟨T',l,hs,hl',r,hr⟩,hC⟩
  · exact absurd h3 hx
  subst ha
  simp only [Value.slice.injEq,Option.some.injEq,Addr.mk.injEq] at hv
  obtain ⟨⟨rfl,rfl,_⟩,_⟩:=hv
  rw [show H g=_ from hH] at hl'
  simp only [Option.some.injEq,Prod.mk.injEq] at hl'
  obtain ⟨rfl,rfl⟩:=hl'
  have hC':=Scal.Cells.1 hC
  subst hC'
  have:cur.toList.take xs.length=xs.map Scal.enc:=by
    have h1:cur.toList.take xs.length=xs.map Scal.enc++r:=by simpa using hr
    have h2:=congrArg List.length h1
    rw [hl,List.length_append,List.length_map] at h2
    have:r=[]:=List.eq_nil_of_length_eq_zero (by omega)
    rw [h1,this,List.append_nil]
  rw [← this,List.take_append_drop]
theorem zOw {α:Type} [Scal α] {g cap:Nat} {T:TypeId} {zs:List α} {l:List Value} (hH:H g=some (T,l)) (hl:l=zs.map Scal.enc) (hn:zs.length≤cap) (hc:cap≤maxLen):Sl H (.slice (some ⟨g,0,none⟩) zs.length cap) zs :=
  ⟨_,_,rfl,hn,hc,.inr ⟨g,0,zs.map Scal.enc,rfl,⟨T,l,rfl,hH,[],by rw [hl]; simp⟩,Scal.Cells.2 rfl⟩⟩
theorem zI4 {g:Nat} {cur:Array Value} {T:TypeId} {fz:Nat×Nat} (h:w.heap[g]?=some (.cells cur T fz)) (j:Nat):w.cell? ⟨g,j,none⟩=cur[j]?:=by simp [World.cell?,h]
theorem zJb {g:Nat} {cur:Array Value} {T:TypeId} (h:w.heap[g]?=some (.cells cur T (0,0))) (j:Nat):w.frozen? ⟨g,j,none⟩=false:=by simp [World.frozen?,h]
theorem zNM {g:Nat} {cur:Array Value} {T:TypeId} {fz:Nat×Nat} (h:w.heap[g]?=some (.cells cur T fz)):w.shape? g=some (T,cur.size):=by simp [World.shape?,h]
theorem zHk (w:World) (o:Obj):w.heap.size<(w.alloc o).heap.size:=by
  show w.heap.size<(w.heap.push o).size
  rw [Array.size_push]; exact Nat.lt_succ_self _
theorem zQC {α:Type} [Scal α] (xs:List α) (i:Nat) (y:α):(xs.take i++[y]++xs.drop i).map Scal.enc=(xs.map Scal.enc).take i++[Scal.enc y]++(xs.map Scal.enc).drop i:=by simp [List.map_take,List.map_drop]
theorem W.insertRow {α : Type} [Scal α] {k : FuncId} {x o u : Operand} {ats : Array TypeId} {v uv : Value} {xs ys zs : List α} {at_ : Int} {i j : Nat} {T : TypeId} {zc : Array Value} {bytes : Nat} (C : InsCon P k T zc bytes) (hz : zc.size = 1) (hbt : bytes ≤ 16)
    (hw:Holds w0 H0) (S:St w0 H0 w H L) (hij:i≠j) (hi:L[i]?=some (.row v T 1 xs.length)) (hj:L[j]?=some (.row uv T 1 ys.length)) (hx:ev N f x=v) (ho:ev N f o=int at_) (hu:ev N f u=uv) (hR:Sl H v xs) (hU:Sl H uv ys)
    (h:insS xs at_ ys=some zs)
    (K:∀ v' w' H',H0.le H'→Kept H H' L i→Sl H' v' zs→St w0 H0 w' H' (L.set i (.row v' T 1 zs.length))→WL P N ops rest Q (updo f od v') w') :
    WL P N ops (⟨od,.call ⟨.value (.func k),#[x,o,u],ats⟩,ty,pos,af,none⟩ :: rest) Q f w:=by
  unfold insS at h
  split at h
  case isFalse=>cases h
  rename_i hg
  simp only [Option.some.injEq] at h
  obtain ⟨h0,h1,h2,h3⟩:=hg
  obtain ⟨m,rfl⟩:=Int.eq_ofNat_of_zero_le h0
  rw [Int.toNat_natCast] at h
  subst h
  have hmn:m≤xs.length:=by omega
  obtain ⟨y,rfl⟩:∃ y,ys=[y]:=by
    match ys,h2 with
    | [y],_=>exact ⟨y,rfl⟩
  have hrun:∀ w,(execOp (ev N f) ⟨od,.call ⟨.value (.func k),#[x,o,u],ats⟩,ty,pos,af,.none⟩).run P w=.ok (.enter k #[v,.int .i64 m,uv]) w:=by
    intro w
    have e1:(execOp (ev N f) ⟨od,.call ⟨.value (.func k),#[x,o,u],ats⟩,ty,pos,af,.none⟩)=callFunc k (#[]++#[x,o,u].map (ev N f)++#[]):=rfl
    have e:(#[]++#[x,o,u].map (ev N f)++#[])=#[v,.int .i64 m,uv]:=by simp [hx,ho,hu,int]
    rw [e1,e]; exact C.enter _ _
  obtain ⟨ub,uc,ucur,rfl,huc,hu1,hucap,hucs,huH⟩:∃ ub uc ucur,uv=.slice (some ⟨ub,0,none⟩) 1 uc∧w.heap[ub]?=some (.cells ucur T (0,0))∧1≤uc∧uc≤maxLen∧ucur.size=uc*1∧H ub=some (T,ucur.toList.take (1*1)):=by
    rcases (show RowOk w H uv T 1 [y].length from S.ents _ (List.mem_of_getElem? hj)) with ⟨_,h⟩ | ⟨g,cap,cur,rfl,hc,hnc,hcm,hcs,hH⟩
    · cases h
    · exact ⟨g,cap,cur,rfl,hc,hnc,hcm,hcs,hH⟩
  have huy:=zL9 hucs (xs:=[y]) hu1 huH hU
  have hu0:ucur[0]?=some (Scal.enc y):=by
    rw [← Array.getElem?_toList,huy]; rfl
  have hvs:∀ j v,[Scal.enc y][j]?=some v→w.cell? ⟨ub,0+j,none⟩=some v:=by
    intro j v hv
    match j,hv with
    | 0,hv=>rw [zI4 huc]; simpa [hu0] using hv
  have h1v:∀ v ∈ [Scal.enc y],v.oneCell'=true:=by
    intro v hv; rw [List.mem_singleton.1 hv]; exact Scal.enc1 y
  have h1c:∀ v ∈ xs.map Scal.enc,v.oneCell'=true:=by
    intro v hv; obtain ⟨x,_,rfl⟩:=List.mem_map.1 hv; exact Scal.enc1 x
  have hlen:(xs.take m++[y]++xs.drop m).length=xs.length+1:=by simp; omega
  have hcl:(xs.map (Scal.enc (α:=α))).length=xs.length:=List.length_map ..
  have hbig:(xs.length+1)*bytes≤140737488355328:=by
    have:=Nat.mul_le_mul h3 hbt
    exact Nat.le_trans this (by simp [big])
  have h63:xs.length+1≤maxLen:=Nat.le_trans h3 (by simp [big,maxLen])
  have hubl:ub<w.heap.size:=(Array.getElem?_eq_some_iff.1 huc).1
  have fresh : ∀ (old : Nat) (w' : World) (cur' : Array Value), (∀ k, k < w.heap.size → w'.heap[k]? = w.heap[k]?) → w.heap.size < w'.heap.size → (w'.os = w.os ∧ w'.tape = w.tape ∧ w'.output = w.output) →
      w'.heap[w.heap.size]?=some (.cells cur' T (0,0))→cur'.size=grownCap w (xs.length+1) old T→cur'.toList.take (xs.length+1)=(xs.take m++[y]++xs.drop m).map Scal.enc →
      WL P N ops rest Q (updo f od (.slice (some ⟨w.heap.size,0,none⟩) (xs.length+1) (grownCap w (xs.length+1) old T))) w':=by
    intro old w' cur' hoth hsz hos hgc hsize htk
    have hge:=grownCap_ge w (xs.length+1) old T
    have hcm:=grownCap_le_maxLen w (xs.length+1) old T h63
    obtain ⟨H',hle,hH',_,S'⟩:=S.freshRow (n':=xs.length+1) hi hoth hsz hos hgc (by rw [Nat.mul_one]; exact hsize) hge hcm
    refine K _ w' H' (S.post.le.trans hle) (zR2 hle _ _) ?_ (by rw [hlen]; exact S')
    have hs:=zOw (zs:=xs.take m++[y]++xs.drop m) hH' (by rw [Nat.mul_one,htk]) (by rw [hlen]; exact hge) hcm
    rw [hlen] at hs; exact hs
  rcases (show RowOk w H v T 1 xs.length from S.ents _ (List.mem_of_getElem? hi)) with ⟨rfl,hn⟩ | ⟨g,cap,cur,rfl,hc,hnc,hcm,hcs,hH⟩
  · -- the nil slice
    have hxs:xs=[]:=List.length_eq_zero_iff.1 hn
    subst hxs
    have hm0:m=0:=by simpa using hmn
    subst hm0
    refine WL.enterw (w':=w) (hrun w) (Calls.mono (C.endGrow none 0 0 ub uc [] (Scal.enc y) w (by omega) (Nat.le_refl _) (by omega) (by simpa using hbig) rfl rfl (fun _=>rfl) (fun a h=>by cases h) hvs h1v) fun e w' ⟨he,hw'⟩=>⟨_,he,?_⟩)
    have hge:=grownCap_ge w 1 0 T
    refine fresh 0 w' (([]++[Scal.enc y]).toArray++Builtin.zeroCells zc (grownCap w (0+1) 0 T - (0+1))) ?_ ?_ ?_ ?_ ?_ ?_
    · intro k hk; rw [hw']; exact Below.heap_alloc w.drew _ k hk
    · rw [hw']; exact zHk _ _
    · rw [hw']; exact ⟨rfl,rfl,rfl⟩
    · rw [hw']; exact heap_alloc_new w.drew _
    · simp only [Array.size_append,size_zeroCells,hz]; simp at hge ⊢; omega
    · simp
  · have hcells:=zL9 hcs hnc hH hR
    have hsz1:cur.size=cap:=by rw [hcs,Nat.mul_one]
    have hgl:g<w.heap.size:=(Array.getElem?_eq_some_iff.1 hc).1
    have hcell:∀ j v,(xs.map (Scal.enc (α:=α)))[j]?=some v→w.cell? ⟨g,0+j,none⟩=some v:=by
      intro j v hv
      rw [zI4 hc,Nat.zero_add,← Array.getElem?_toList,hcells]
      have hlt:=(List.getElem?_eq_some_iff.1 hv).1
      rw [List.getElem?_append_left hlt]; exact hv
    have hgub:ub≠g:=S.blk_ne (b:=ub) (b':=g) hj hi rfl rfl (Ne.symm hij)
    have hdl:(cur.toList.drop xs.length).length=cap - xs.length:=by rw [List.length_drop,Array.length_toList,hsz1]
    by_cases hend:m=xs.length
    · subst hend
      have hzs:xs.take xs.length++[y]++xs.drop xs.length=xs++[y]:=by simp
      by_cases hroom:xs.length+1≤cap
      · refine WL.enterw (w':=w) (hrun w) (Calls.mono (C.room g xs.length cap ub uc (Scal.enc y) w (by omega) hroom (by simp only [maxLen] at hcm; omega) rfl (fun j hj=>?_) (fun j hj=>zJb hc _) hvs h1v) fun e w' ⟨he,hw'⟩=>⟨_,he,?_⟩)
        · rw [zI4 hc,Array.getElem?_eq_getElem (by omega)]; rfl
        · obtain ⟨cur',hg',hl'⟩:=zDP g [Scal.enc y] (0+xs.length) w cur hc (by simp; omega)
          obtain ⟨r1,r2,r3,r4⟩:=zDG g [Scal.enc y] (0+xs.length) w
          have hsz':cur'.size=cap:=by
            rw [← Array.length_toList,hl']; simp [hsz1]; omega
          obtain ⟨H',hle,hH',hko,S'⟩:=S.turnRow2 hw hi (w':=w') (n':=xs.length+1) (cur':=cur') (fun k hk _=>by rw [hw']; exact zD5 g hk _ _ _) (by rw [hw',r1]; exact Nat.le_refl _) (by rw [hw']; exact ⟨r2,r3,r4⟩) (by rw [hw']; exact hg') (by rw [hsz',Nat.mul_one]) hroom hcm
          refine K _ w' H' hle (S.kept hi rfl hko) ?_ (by rw [hlen]; exact S')
          have hs:=zOw (zs:=xs.take xs.length++[y]++xs.drop xs.length) hH' ?_ (by rw [hlen]; exact hroom) hcm
          · rw [hlen] at hs; exact hs
          rw [Nat.mul_one,hl',hzs,ins_end hcells hcl,List.map_append]
          rfl
      · refine WL.enterw (w':=w) (hrun w) (Calls.mono (C.endGrow (some ⟨g,0,none⟩) xs.length cap ub uc (xs.map Scal.enc) (Scal.enc y) w (by omega) hnc (by omega) hbig hcl rfl (fun h=>by cases h) (fun a h j v hv=>by cases h; rw [Addr.add_lit]; exact hcell j v hv) hvs h1v) fun e w' ⟨he,hw'⟩=>⟨_,he,?_⟩)
        have hge:=grownCap_ge w (xs.length+1) cap T
        refine fresh cap w' ((xs.map Scal.enc++[Scal.enc y]).toArray++Builtin.zeroCells zc (grownCap w (xs.length+1) cap T - (xs.length+1))) ?_ ?_ ?_ ?_ ?_ ?_
        · intro k hk; rw [hw']; exact Below.heap_alloc w.drew _ k hk
        · rw [hw']; exact zHk _ _
        · rw [hw']; exact ⟨rfl,rfl,rfl⟩
        · rw [hw']; exact heap_alloc_new w.drew _
        · simp only [Array.size_append,size_zeroCells,hz]; simp; omega
        · have h3':(xs.map Scal.enc++[Scal.enc y]).length=xs.length+1:=by rw [List.length_append,hcl]; rfl
          rw [hzs,List.map_append,Array.toList_append,List.toList_toArray,← h3',List.take_left]
          rfl
    · have hlt:m<xs.length:=by omega
      by_cases hroom:xs.length+1≤cap
      · refine WL.enterw (w':=w) (hrun w) (Calls.mono (C.shift g xs.length cap m ub uc (xs.map Scal.enc) (Scal.enc y) w hlt (by omega) hroom (by simp only [maxLen] at hcm; omega) hgub hcl rfl hcell (fun j hj=>?_) (fun j hj=>zJb hc _) hvs h1c h1v _ _ _ _ (zNM huc) (zNM hc) (by omega) (zJb huc _) (zJb huc _)) fun e w' ⟨he,hw'⟩=>⟨_,he,?_⟩)
        · rw [zI4 hc,Array.getElem?_eq_getElem (by omega)]; rfl
        · have hc1:w.drew.heap[g]?=some (.cells cur T (0,0)):=hc
          have hdrop:((xs.map (Scal.enc (α:=α))).drop m).length=xs.length - m:=by simp
          obtain ⟨cur1,hg1,hl1⟩:=zDP g ((xs.map Scal.enc).drop m) (0+(m+1)) w.drew cur hc1 (by rw [hdrop]; omega)
          have hsz1':cur1.size=cap:=by
            rw [← Array.length_toList,hl1]; simp [hsz1]; omega
          obtain ⟨cur',hg',hl'⟩:=zDP g [Scal.enc y] (0+m) _ cur1 hg1 (by simp; omega)
          have hsz':cur'.size=cap:=by
            rw [← Array.length_toList,hl']; simp [hsz1']; omega
          obtain ⟨r1,r2,r3,r4⟩:=zDG g [Scal.enc y] (0+m) (w.drew.setCells g (0+(m+1)) ((xs.map Scal.enc).drop m))
          obtain ⟨q1,q2,q3,q4⟩:=zDG g ((xs.map (Scal.enc (α:=α))).drop m) (0+(m+1)) w.drew
          obtain ⟨H',hle,hH',hko,S'⟩:=S.turnRow2 hw hi (w':=w') (n':=xs.length+1) (cur':=cur') (fun k hk _=>by rw [hw',zD5 g hk,zD5 g hk]; rfl) (by rw [hw',r1,q1]; exact Nat.le_refl _) (by rw [hw']; exact ⟨r2.trans q2,r3.trans q3,r4.trans q4⟩) (by rw [hw']; exact hg') (by rw [hsz',Nat.mul_one]) hroom hcm
          refine K _ w' H' hle (S.kept hi rfl hko) ?_ (by rw [hlen]; exact S')
          have hs:=zOw (zs:=xs.take m++[y]++xs.drop m) hH' ?_ (by rw [hlen]; exact hroom) hcm
          · rw [hlen] at hs; exact hs
          rw [Nat.mul_one,zQC,hl',hl1]
          exact ins_list (n:=xs.length) (by rw [hcells,List.take_append_of_le_length (by rw [hcl]; omega)]) (by rw [hcl]; omega) (by have hcz:=Array.length_toList (xs:=cur); omega) hcl
      · refine WL.enterw (w':=w) (hrun w) (Calls.mono (C.grow g xs.length cap m ub uc (xs.map Scal.enc) (Scal.enc y) w hlt (by omega) hnc (by omega) hbig hcl rfl hcell hvs h1c h1v) fun e w' ⟨he,hw'⟩=>⟨_,he,?_⟩)
        have hge:=grownCap_ge w (xs.length+1) cap T
        generalize hG:grownCap w (xs.length+1) cap T=G at *
        have hnew:(w.alloc (.cells (((xs.map (Scal.enc (α:=α))).take m).toArray++Builtin.zeroCells zc (xs.length+1 - m)++Builtin.zeroCells zc (G - (xs.length+1))) T)).drew.heap[w.heap.size]?=some (.cells (((xs.map (Scal.enc (α:=α))).take m).toArray++Builtin.zeroCells zc (xs.length+1 - m)++Builtin.zeroCells zc (G - (xs.length+1))) T (0,0)):=heap_alloc_new w _
        have hsA:(((xs.map (Scal.enc (α:=α))).take m).toArray++Builtin.zeroCells zc (xs.length+1 - m)++Builtin.zeroCells zc (G - (xs.length+1))).size=G:=by
          simp only [Array.size_append,size_zeroCells,hz,List.size_toArray,List.length_take,hcl]; omega
        generalize hA:(((xs.map (Scal.enc (α:=α))).take m).toArray++Builtin.zeroCells zc (xs.length+1 - m)++Builtin.zeroCells zc (G - (xs.length+1)))=A at *
        obtain ⟨cur1,hg1,hl1⟩:=zDP w.heap.size [Scal.enc y] m _ A hnew (by simp; omega)
        have hsz1':cur1.size=G:=by
          rw [← Array.length_toList,hl1]; simp [hsA]; omega
        have hdrop:((xs.map (Scal.enc (α:=α))).drop m).length=xs.length - m:=by simp
        obtain ⟨cur',hg',hl'⟩:=zDP w.heap.size ((xs.map Scal.enc).drop m) (m+1) (((w.alloc (.cells A T)).drew.setCells w.heap.size m [Scal.enc y]).drew) cur1 hg1 (by rw [hdrop]; omega)
        have hsz':cur'.size=G:=by
          rw [← Array.length_toList,hl']; simp [hsz1']; omega
        obtain ⟨r1,r2,r3,r4⟩:=zDG w.heap.size ((xs.map (Scal.enc (α:=α))).drop m) (m+1) (((w.alloc (.cells A T)).drew.setCells w.heap.size m [Scal.enc y]).drew)
        obtain ⟨q1,q2,q3,q4⟩:=zDG w.heap.size [Scal.enc y] m ((w.alloc (.cells A T)).drew)
        have F:=fresh cap w' cur'
        rw [hG] at F
        refine F ?_ ?_ ?_ ?_ ?_ ?_
        · intro k hk
          rw [hw',zD5 _ (Nat.ne_of_lt hk)]
          show ((w.alloc (.cells A T)).drew.setCells w.heap.size m [Scal.enc y]).heap[k]?=_
          rw [zD5 _ (Nat.ne_of_lt hk)]
          exact Below.heap_alloc w _ k hk
        · rw [hw',r1]
          show w.heap.size<((w.alloc (.cells A T)).drew.setCells w.heap.size m [Scal.enc y]).heap.size
          rw [q1]; exact zHk _ _
        · rw [hw']; exact ⟨r2.trans q2,r3.trans q3,r4.trans q4⟩
        · rw [hw']; exact hg'
        · exact hsz'
        · rw [zQC,hl',hl1]
          exact ins_list2 (n:=xs.length) (by rw [← hA,Array.toList_append,Array.toList_append,List.toList_toArray,List.append_assoc,List.take_append_of_le_length (by rw [List.length_take,hcl]; omega),List.take_take,Nat.min_self]) (by rw [hcl]; omega) (by have hcz:=Array.length_toList (xs:=A); omega) hcl
 where
  ins_end {A C D:List Value} {n:Nat} {y:Value} (hA:A=C++D) (hc:C.length=n):(A.take (0+n)++[y]++A.drop (0+n+[y].length)).take (n+1)=C++[y]:=by
    have h1:A.take (0+n)=C:=by rw [Nat.zero_add,hA,← hc,List.take_left]
    rw [h1]
    have h3:(C++[y]).length=n+1:=by rw [List.length_append,hc]; rfl
    rw [← h3,List.take_left]
  ins_list {A C : List Value} {m n : Nat} {y : Value} (hA : A.take m = C.take m) (hm : m < C.length) (hlen : n + 1 ≤ A.length) (hc : C.length = n) :
      (((A.take (0+(m+1))++C.drop m++A.drop (0+(m+1)+(C.drop m).length)).take (0+m)++[y]++(A.take (0+(m+1))++C.drop m++A.drop (0+(m+1)+(C.drop m).length)).drop (0+m+[y].length))).take (n+1)=C.take m++[y]++C.drop m:=by
    have hl1:(A.take (m+1)).length=m+1:=by rw [List.length_take]; omega
    have e1:(A.take (0+(m+1))++C.drop m++A.drop (0+(m+1)+(C.drop m).length)).take (0+m)=C.take m:=by
      rw [Nat.zero_add,Nat.zero_add,List.append_assoc,List.take_append_of_le_length (by omega),List.take_take,Nat.min_eq_left (by omega),hA]
    have e2:(A.take (0+(m+1))++C.drop m++A.drop (0+(m+1)+(C.drop m).length)).drop (0+m+[y].length)=C.drop m++A.drop (m+1+(C.drop m).length):=by
      rw [Nat.zero_add,Nat.zero_add,List.append_assoc]
      have:m+[y].length=(A.take (m+1)).length:=by rw [hl1]; rfl
      rw [this,List.drop_left]
    rw [e1,e2]
    have h3:(C.take m++[y]++C.drop m).length=n+1:=by simp; omega
    rw [show C.take m++[y]++(C.drop m++A.drop (m+1+(C.drop m).length))=(C.take m++[y]++C.drop m)++A.drop (m+1+(C.drop m).length) by simp]
    rw [← h3,List.take_left]
  ins_list2 {A C : List Value} {m n : Nat} {y : Value} (hA : A.take m = C.take m) (hm : m < C.length) (hlen : n + 1 ≤ A.length) (hc : C.length = n) :
      (((A.take m++[y]++A.drop (m+[y].length)).take (m+1)++C.drop m++(A.take m++[y]++A.drop (m+[y].length)).drop (m+1+(C.drop m).length))).take (n+1)=C.take m++[y]++C.drop m:=by
    have hl1:(A.take m++[y]).length=m+1:=by rw [List.length_append,List.length_take]; simp; omega
    have e1:(A.take m++[y]++A.drop (m+[y].length)).take (m+1)=C.take m++[y]:=by
      rw [← hl1,List.take_left,hA]
    rw [e1]
    have h3:(C.take m++[y]++C.drop m).length=n+1:=by simp; omega
    rw [← h3,List.take_left]
end
end Go.Eng
namespace Go.Eng
open Go Go.ChangeMaps
def enci (l:List (Int×Value)):List (Value×Value):=l.map fun p=>(int p.1,p.2)
theorem zL8 {e k:Int} {v:Value} {m:List (Int×Value)} (h:decide (e=k)=true):((k,v) :: m).lookup e=some v:=by
  rw [of_decide_eq_true h]; simp [List.lookup]
theorem zI8 {e k:Int} {v:Value} {m:List (Int×Value)} {r:Option Value} (h:decide (e=k)=false) (hr:m.lookup e=r):((k,v) :: m).lookup e=r:=by
  have:(e==k)=false:=by simpa using of_decide_eq_false h
  simp [List.lookup,this,hr]
theorem zO7 {e:Int}:([]:List (Int×Value)).lookup e=none:=rfl
theorem zGo (k:Int):∀ (m:List (Int×Value)) (es:List MapEntry) (i:Nat),es.map (fun e=>(e.key,e.val))=enci m→∃ r,Instr.findNow (.int .i64) (int k) es i=some r∧r.map (·.2)=m.lookup k
  | [],[],i,_=>⟨none,rfl,rfl⟩
  | [],e :: es,i,h=>by cases h
  | p :: m,[],i,h=>by cases h
  | (a,v) :: m,e :: es,i,h=>by
    simp only [enci,List.map_cons,List.cons.injEq,Prod.mk.injEq] at h
    obtain ⟨⟨h1,h2⟩,h3⟩:=h
    by_cases hk:k=a
    · subst hk
      refine ⟨some (i,e.val),?_,?_⟩
      · unfold Instr.findNow
        rw [h1]; simp [Instr.sameNow,int]
      · simp [h2,List.lookup]
    · obtain ⟨r,hr1,hr2⟩:=zGo k m es (i+1) h3
      refine ⟨r,?_,?_⟩
      · unfold Instr.findNow
        have:(k==a)=false:=by simpa using hk
        rw [h1]; simp only [Instr.sameNow,int,if_true,this]
        exact hr1
      · have:(k==a)=false:=by simpa using hk
        rw [hr2]; simp [List.lookup,this]
section
variable {P:Program} {N:Frm} {f:Fr} {w w' w0:World} {H0 H:Hp} {L:List Ent} {ops:Array Oper} {rest:List Oper} {Q:Fr→World→Prop} {d:Nat} {od:Option Nat} {ty:TypeId} {pos:String} {af:Array Edge} {g:Option (Nat×Bool)}
theorem zGp {T:TypeId} (hT:P.underlying T=some (.int .i64)) (e:Bool) (v:Value):(Instr.checkKey e 10000 T v).run P w=.ok () w:=by
  unfold Instr.checkKey
  rw [Sem.run_bind,run_underlying hT,Result.andThen_ok]
  rfl
theorem zHM {T:TypeId} (hT:P.underlying T=some (.int .i64)) {k:Int} {es:List MapEntry} {r:Option (Nat×Value)} (hr:Instr.findNow (.int .i64) (int k) es 0=some r):(Instr.findKey T (int k) es).run P w=.ok r w:=by
  unfold Instr.findKey
  rw [Sem.run_bind,run_underlying hT,Result.andThen_ok,hr]
  rfl
theorem R.lookupI {T K E : TypeId} {x y : Operand} {b i : Nat} {m : List (Int × Value)} {k : Int} {v : Value} (S : St w0 H0 w H L) (hx : ev N f x = mapv b) (hy : ev N f y = int k) (hi : L[i]? = some (.mp b (enci m)))
    (hT:P.underlying T=some (.map K E)) (hK:P.underlying K=some (.int .i64)) (h:m.lookup k=some v) :
    (execOp (ev N f) ⟨od,.lookup T x y true,ty,pos,af,g⟩).run P w=.ok (.value (.tuple ⟨[v,boo true]⟩)) w:=by
  obtain ⟨_,es,cl,hc,he⟩:=S.mpOk hi
  obtain ⟨r,hr1,hr2⟩:=zGo k m es.toList 0 he
  have hg:(getObj b).run P w=.ok (.map es cl) w:=MapKept.run_getObj_map hc
  have hfk:=zHM (w:=w) hK hr1
  rw [h] at hr2
  obtain ⟨j,rfl⟩:∃ j,r=some (j,v):=by
    cases r with
    | none=>simp at hr2
    | some q=>obtain ⟨j,u⟩:=q; simp at hr2; exact ⟨j,by rw [hr2]⟩
  simp [execOp,Instr.lookup,hx,hy,mapv,run_underlying hT,hg,zGp hK,hfk,Result.andThen,boo]
theorem R.lookupIN {T K E : TypeId} {x y : Operand} {b i : Nat} {m : List (Int × Value)} {k : Int} {zc : Value} (S : St w0 H0 w H L) (hx : ev N f x = mapv b) (hy : ev N f y = int k) (hi : L[i]? = some (.mp b (enci m)))
    (hT:P.underlying T=some (.map K E)) (hK:P.underlying K=some (.int .i64)) (hz:((P.info? E).bind (·.zero))=some zc) (h:m.lookup k=none) :
    (execOp (ev N f) ⟨od,.lookup T x y true,ty,pos,af,g⟩).run P w=.ok (.value (.tuple ⟨[zc,boo false]⟩)) w:=by
  obtain ⟨_,es,cl,hc,he⟩:=S.mpOk hi
  obtain ⟨r,hr1,hr2⟩:=zGo k m es.toList 0 he
  have hg:(getObj b).run P w=.ok (.map es cl) w:=MapKept.run_getObj_map hc
  have hz':(zeroValue E).run P w=.ok zc w:=by
    cases hE:P.info? E with
    | none=>rw [hE] at hz; cases hz
    | some inf=>rw [hE] at hz; simp at hz; simp [zeroValue,typeInfo,hE,hz]
  have hfk:=zHM (w:=w) hK hr1
  rw [h] at hr2
  have hr:r=none:=by cases r with
    | none=>rfl
    | some _=>simp at hr2
  subst hr
  simp [execOp,Instr.lookup,hx,hy,mapv,run_underlying hT,hg,zGp hK,hfk,hz',Result.andThen,boo]
theorem W.insertI {T K E : TypeId} {x y z : Operand} {b i : Nat} {m : List (Int × Value)} {k : Int} {v : Value} (S : St w0 H0 w H L) (hx : ev N f x = mapv b) (hy : ev N f y = int k) (hz : ev N f z = v) (hi : L[i]? = some (.mp b (enci m)))
    (hT:P.underlying T=some (.map K E)) (hK:P.underlying K=some (.int .i64)) (h:m.lookup k=none)
    (kk:∀ w',St w0 H0 w' H (L.set i (.mp b (enci (m++[(k,v)]))))→WL P N ops rest Q (updo f od undef) w'):WL P N ops (⟨od,.insert T x y z,ty,pos,af,none⟩ :: rest) Q f w:=by
  obtain ⟨hH,es,cl,hc,he⟩:=S.mpOk hi
  obtain ⟨r,hr1,hr2⟩:=zGo k m es.toList 0 he
  have hg:(getObj b).run P w=.ok (.map es cl) w:=MapKept.run_getObj_map hc
  have hfk:=zHM (w:=w) hK hr1
  have hset:∀ es' cl',(setObj b (.map es' cl')).run P w=.ok () (setBlock w b (.map es' cl')):=fun es' cl'=>MapKept.run_setObj_map _ hc
  rw [h] at hr2
  have hr:r=none:=by cases r with
    | none=>rfl
    | some _=>simp at hr2
  subst hr
  refine WL.skipw (w':=setBlock w b (.map (es.push { key:=int k,val:=v,born:=cl }) (cl+1))) ?_ (kk _ (S.setMp hi ?_))
  · simp [execOp,Instr.mapUpdate,hx,hy,hz,mapv,run_underlying hT,hg,zGp hK,hfk,hset,Result.andThen]
  · rw [Array.toList_push,List.map_append,he]
    simp [enci]
end
end Go.Eng
namespace Go.Eng
open Go Go.RowKit
def MR {α:Type} [Enc α] (H:Hp) (en:Ent) (T:TypeId) (v:Value) (xs:List α):Prop :=
  (v=.slice none 0 0∧xs=[]∧en=.row (.slice none 0 0) T (Enc.sz α) 0) ∨
  ∃ b cap cur cs,v=.slice (some ⟨b,0,none⟩) xs.length cap∧en=.obj b (.cells cur T (0,0))∧xs.length≤cap∧cap≤maxLen∧cur.size=cap*Enc.sz α∧cur.toList.take (xs.length*Enc.sz α)=cs∧Cells H cs xs
section
variable {α:Type} [Enc α] {H H':Hp} {en:Ent} {T:TypeId} {v:Value} {xs:List α}
theorem MR.nil:MR (α:=α) H (.row (.slice none 0 0) T (Enc.sz α) 0) T (.slice none 0 0) []:=.inl ⟨rfl,rfl,rfl⟩
theorem MR.mono (h:MR H en T v xs) (hl:H.le H'):MR H' en T v xs:=by
  rcases h with h | ⟨b,cap,cur,cs,h1,h2,h3,h4,h5,h6,h7⟩
  · exact .inl h
  · exact .inr ⟨b,cap,cur,cs,h1,h2,h3,h4,h5,h6,h7.mono hl⟩
theorem MR.oneC (h:MR H en T v xs):v.oneCell'=true:=by
  rcases h with ⟨rfl,_⟩ | ⟨b,cap,cur,cs,rfl,_⟩ <;> rfl
theorem MR.cellsOne (h:MR H en T v xs):v.cells=#[v]:=by
  rcases h with ⟨rfl,_⟩ | ⟨b,cap,cur,cs,rfl,_⟩ <;> rfl
theorem MR.shape (h:MR H en T v xs):∃ a c,v=.slice a xs.length c∧xs.length≤c:=by
  rcases h with ⟨rfl,rfl,_⟩ | ⟨b,cap,cur,cs,rfl,_,h3,_⟩
  · exact ⟨none,0,rfl,Nat.le_refl _⟩
  · exact ⟨_,cap,rfl,h3⟩
end
section
variable {P:Program} {N:Frm} {f:Fr} {w w' w0:World} {H0 H:Hp} {L:List Ent} {ops:Array Oper} {rest:List Oper} {Q:Fr→World→Prop} {d:Nat} {od:Option Nat} {ty:TypeId} {pos:String} {af:Array Edge} {α:Type} [Enc α]
theorem St.freshObj (S : St w0 H0 w H L) {i : Nat} {en : Ent} {o : Obj} (hi : L[i]? = some en) (hoth : ∀ k, k < w.heap.size → w'.heap[k]? = w.heap[k]?) (hsz : w.heap.size < w'.heap.size)
    (hos:w'.os=w.os∧w'.tape=w.tape∧w'.output=w.output) (hg:w'.heap[w.heap.size]?=some o):St w0 H0 w' H (L.set i (.obj w.heap.size o)):=by
  have hlt:i<L.length:=(List.getElem?_eq_some_iff.1 hi).1
  have hbel:=S.post.below
  obtain ⟨hnd,_⟩:=zES (e':=.obj w.heap.size o) (B:=w.heap.size) rfl L i S.nodup fun b hb=>S.lt hb
  refine ⟨⟨hbel.trans ⟨hos.1,hos.2.1,hos.2.2,Nat.le_of_lt hsz,fun k hk=>hoth k (Nat.lt_of_lt_of_le hk hbel.size)⟩,S.post.le,S.post.eqb,?_⟩,?_,?_,hnd⟩
  · intro k T' l hk
    obtain ⟨cs,fz,hc',hr⟩:=S.holds k T' l hk
    exact ⟨cs,fz,by rw [hoth k (Array.getElem?_eq_some_iff.1 hc').1]; exact hc',hr⟩
  · intro e he
    obtain ⟨j,hj⟩:=List.mem_iff_getElem?.1 he
    by_cases hij:i=j
    · subst hij
      rw [List.getElem?_set_self hlt] at hj
      simp at hj; subst hj
      exact ⟨S.holds.none_of_size (Nat.le_refl _),hg⟩
    · rw [List.getElem?_set_ne hij] at hj
      refine Ent.ok_keep (S.ents e (List.mem_of_getElem? hj)) fun k hk=>?_
      exact ⟨hoth k (Ent.ok_lt (S.ents e (List.mem_of_getElem? hj)) hk),rfl⟩
  · intro e he k hk
    obtain ⟨j,hj⟩:=List.mem_iff_getElem?.1 he
    by_cases hij:i=j
    · subst hij
      rw [List.getElem?_set_self hlt] at hj
      simp at hj; subst hj
      simp [Ent.blk] at hk; subst hk
      exact hbel.size
    · rw [List.getElem?_set_ne hij] at hj
      exact S.own e (List.mem_of_getElem? hj) k hk
theorem St.setRowObj (S : St w0 H0 w H L) {i g : Nat} {cur : Array Value} {e : TypeId} (hi : L[i]? = some (.obj g (.cells cur e (0, 0)))) (cur' : Array Value) :
    St w0 H0 (w.setRow g cur') H (L.set i (.obj g (.cells cur' e (0,0)))):=by
  obtain ⟨hH,hc⟩:ObjOk w H g _:=S.ents _ (List.mem_of_getElem? hi)
  exact S.renew hi rfl rfl hH (fun k hk=>setRow_other w g k _ hk) (by simp) ⟨rfl,rfl,rfl⟩ ⟨hH,setRow_heap w g cur _ e _ hc⟩
theorem zNZ {L:List Ent} {i:Nat} {e:Ent} (hi:L[i]?=some e):L.set i e=L:=by
  apply List.ext_getElem?
  intro j
  by_cases hij:i=j
  · subst hij; rw [List.getElem?_set_self (List.getElem?_eq_some_iff.1 hi).1,hi]
  · rw [List.getElem?_set_ne hij]
theorem St.appendM (S : St w0 H0 w H L) {i : Nat} {t ty e : TypeId} {v u : Value} {xs ys zs : List α} {en : Ent} (hE : Elem P t e (Enc.sz α)) (hi : L[i]? = some en)
    (hx:MR H en e v xs) (hy:Sl H u ys) (hz:xapp xs ys=some zs) :
    ∃ v' en' w',(Builtin.append_ #[t,t] ty #[v,u]).run P w=.ok v' w'∧MR H en' e v' zs∧St w0 H0 w' H (L.set i en'):=by
  have hsz:=Enc.pos (α:=α)
  unfold xapp at hz
  split at hz
  case isFalse=>cases hz
  rename_i hbig
  simp only [Option.some.injEq] at hz
  subst hz
  by_cases hne:ys=[]
  · subst hne
    obtain ⟨a,c,hv,h1⟩:=hx.shape
    obtain ⟨a',c',rfl,_⟩:=hy
    refine ⟨v,en,w,?_,by rw [List.append_nil]; exact hx,by rw [zNZ hi]; exact S⟩
    rw [hv]; exact zG7 t ty e _ hE a xs.length c h1 a' c'
  obtain ⟨ad,c',ysC,rfl,hyl,hyc,hyC⟩:=hy.news S.holds hne
  have hE':=hE
  obtain ⟨ht,inf,z,hinf,hzz,hsize,hzs,hbytes⟩:=hE'
  have hm:0<ys.length:=List.length_pos_iff.2 hne
  have hb2:(xs.length+ys.length)*inf.bytes≤140737488355328:=by
    have h1:=Nat.mul_le_mul hbig hbytes
    exact Nat.le_trans h1 (by simp [big])
  have h63:xs.length+ys.length≤maxLen:=Nat.le_trans hbig (by simp [big,maxLen])
  have h63':((xs.length+ys.length:Nat):Int)≤9223372036854775807:=by simp only [maxLen] at h63; omega
  have hlen:(xs++ys).length=xs.length+ys.length:=List.length_append
  have grown : ∀ (old : Nat) (xsC : List Value), old < xs.length + ys.length → Cells H xsC xs →
      MR H (.obj w.heap.size (.cells (xsC.toArray++ysC.toArray++Builtin.zeroCells z.cells (grownCap w (xs.length+ys.length) old e - (xs.length+ys.length))) e (0,0))) e
        (.slice (some ⟨w.heap.size,0,none⟩) (xs.length+ys.length) (grownCap w (xs.length+ys.length) old e)) (xs++ys) ∧
      St w0 H0 (w.drew.alloc (.cells (xsC.toArray++ysC.toArray++Builtin.zeroCells z.cells (grownCap w (xs.length+ys.length) old e - (xs.length+ys.length))) e)) H
        (L.set i (.obj w.heap.size (.cells (xsC.toArray++ysC.toArray++Builtin.zeroCells z.cells (grownCap w (xs.length+ys.length) old e - (xs.length+ys.length))) e (0,0)))):=by
    intro old xsC hold hxC
    have hxl:=hxC.length
    have hxylen:(xsC++ysC).length=(xs.length+ys.length)*Enc.sz α:=by rw [List.length_append,hxl,hyl,Nat.add_mul]
    have hge:=grownCap_ge w (xs.length+ys.length) old e
    have hcm:grownCap w (xs.length+ys.length) old e≤maxLen:=grownCap_le_maxLen w (xs.length+ys.length) old e h63
    generalize grownCap w (xs.length+ys.length) old e=cap at *
    refine ⟨.inr ⟨w.heap.size,cap,_,xsC++ysC,by rw [hlen],rfl,by rw [hlen]; exact hge,hcm,?_,?_,hxC.append hyC⟩,?_⟩
    · simp only [Array.size_append,List.size_toArray,size_zeroCells,hzs,hxl,hyl,← Nat.add_mul]
      congr 1; omega
    · rw [hlen,← hxylen]
      have e3:∀ Z:Array Value,(xsC.toArray++ysC.toArray++Z).toList=(xsC++ysC)++Z.toList:=by simp
      rw [e3,List.take_left]
    · exact S.freshObj hi (fun k hk=>Below.heap_alloc w.drew _ k hk) (zHk _ _) ⟨rfl,rfl,rfl⟩ (heap_alloc_new w.drew _)
  rcases hx with ⟨rfl,rfl,rfl⟩ | ⟨g,cap,cur,xsC,rfl,rfl,hnc,hcm,hcs,htk,hxC⟩
  · have hr:=run_append_nil (P:=P) w t ty e inf z ht hinf hzz ad ys.length c' ysC (by rw [hsize]; exact hyl) hyc hm (by simpa using h63') (by have hb:=hb2; simp only [List.length_nil,Nat.zero_add] at hb; omega)
    obtain ⟨hmr,hst⟩:=grown 0 [] (by simpa using hm) rfl
    simp only [List.length_nil,Nat.zero_add,List.nil_append] at hmr hst
    exact ⟨_,_,_,hr,by simpa using hmr,by simpa using hst⟩
  · obtain ⟨hH,hg⟩:ObjOk w H g _:=S.ents _ (List.mem_of_getElem? hi)
    have hxl:=hxC.length
    have hcell:∀ j u,xsC[j]?=some u→w.cell? ((⟨g,0,none⟩:Addr).add j)=some u:=by
      intro j u hu
      rw [Addr.add_lit,Nat.zero_add,zI4 hg,← Array.getElem?_toList]
      have hlt:=(List.getElem?_eq_some_iff.1 hu).1
      rw [← htk] at hu hlt
      rw [List.getElem?_take_of_lt (by rw [List.length_take] at hlt; omega)] at hu
      exact hu
    by_cases hroom:xs.length+ys.length≤cap
    · have hfit:xs.length*inf.size+ysC.length≤cur.size:=by rw [hyl,hcs,hsize,← Nat.add_mul]; exact Nat.mul_le_mul_right _ hroom
      have hr:=run_append_room (P:=P) w t ty e inf ht hinf g xs.length cap cur hg ad ys.length c' ysC (by rw [hsize]; exact hyl) hyc (hyC.one) hroom hfit
      rw [hsize,htk] at hr
      have hxylen:(xsC++ysC).length=(xs.length+ys.length)*Enc.sz α:=by rw [List.length_append,hxl,hyl,Nat.add_mul]
      refine ⟨_,.obj g (.cells (xsC++ysC++cur.toList.drop (xs.length*Enc.sz α+ysC.length)).toArray e (0,0)),_,hr,.inr ⟨g,cap,_,xsC++ysC,by rw [hlen],rfl,by rw [hlen]; exact hroom,hcm,?_,?_,hxC.append hyC⟩,S.setRowObj hi _⟩
      · have h1:xs.length*Enc.sz α+ysC.length≤cur.size:=by rw [← hsize]; exact hfit
        simp only [List.size_toArray,List.length_append,List.length_drop,Array.length_toList,hxl]
        omega
      · rw [hlen,← hxylen]
        have e3:∀ Z:List Value,(xsC++ysC++Z).toArray.toList=(xsC++ysC)++Z:=by simp
        rw [e3,List.take_left]
    · have hr:=run_append_grow (P:=P) w t ty e inf z ht hinf hzz ⟨g,0,none⟩ xs.length cap xsC (by rw [hsize]; exact hxl) hcell ad ys.length c' ysC (by rw [hsize]; exact hyl) hyc (by omega) h63' (growslice_fits (by omega) hb2)
      obtain ⟨hmr,hst⟩:=grown cap xsC (by omega) hxC
      exact ⟨_,_,_,hr,hmr,hst⟩
theorem W.appM {T e : TypeId} {x y : Operand} {v u : Value} {xs ys zs : List α} {i : Nat} {en : Ent} (S : St w0 H0 w H L) (hE : Elem P T e (Enc.sz α)) (hi : L[i]? = some en)
    (hx:ev N f x=v) (hy:ev N f y=u) (hX:MR H en e v xs) (hY:Sl H u ys) (h:xapp xs ys=some zs)
    (k:∀ v' en' w',MR H en' e v' zs→St w0 H0 w' H (L.set i en')→WL P N ops rest Q (upd f d v') w'):WL P N ops (⟨some d,.call ⟨.builtin .append,#[x,y],#[T,T]⟩,ty,pos,af,none⟩ :: rest) Q f w:=by
  obtain ⟨v',en',w',hr,hm,hst⟩:=S.appendM (P:=P) (t:=T) (ty:=ty) hE hi hX hY h
  refine WL.w (v:=v') (w':=w') ?_ (k v' en' w' hm hst)
  simp only [execOp,resolve,Go.invoke,Go.builtin,Sem.run_bind,Sem.run_pure,Result.andThen_ok,List.map_toArray,List.map_cons,List.map_nil,hx,hy,hr]
theorem St.settleM (S : St w0 H0 w H L) {i : Nat} {en : Ent} {e : TypeId} {v : Value} {xs : List α} (hi : L[i]? = some en) (hx : MR H en e v xs) :
    ∃ H',H.le H'∧Sl H' v xs∧St w0 H0 w H' (L.eraseIdx i):=by
  rcases hx with ⟨rfl,rfl,rfl⟩ | ⟨g,cap,cur,xsC,rfl,rfl,hnc,hcm,hcs,htk,hxC⟩
  · refine ⟨H,Hp.le.refl _,Sl.nil,S.drop _ (List.eraseIdx_sublist ..)⟩
  · obtain ⟨hH,hg⟩:ObjOk w H g _:=S.ents _ (List.mem_of_getElem? hi)
    have S1:St w0 H0 w H (L.set i (.box g e xsC)):=by
      refine S.renew hi rfl rfl hH (fun _ _=>rfl) rfl ⟨rfl,rfl,rfl⟩ ⟨hH,cur,(0,0),hg,⟨cur.toList.drop (xs.length*Enc.sz α),?_⟩,fun _ _ h=>Nat.not_lt_zero _ h.2⟩
      rw [← htk,List.take_append_drop]
    have hlt:i<L.length:=(List.getElem?_eq_some_iff.1 hi).1
    obtain ⟨H',hle,hHn,hHo,S2⟩:=S1.settle (i:=i) (by rw [List.getElem?_set_self hlt])
    refine ⟨H',hle,⟨_,cap,rfl,hnc,hcm,.inr ⟨g,0,xsC,rfl,⟨e,_,rfl,hHn,[],by simp⟩,hxC.mono hle⟩⟩,?_⟩
    have:(L.set i (.box g e xsC)).eraseIdx i=L.eraseIdx i:=by
      apply List.ext_getElem?
      intro j
      rw [List.getElem?_eraseIdx,List.getElem?_eraseIdx]
      split
      · rw [List.getElem?_set_ne (by omega)]
      · rw [List.getElem?_set_ne (by omega)]
    rw [this] at S2; exact S2
end
end Go.Eng
namespace Go.Eng
open Go Go.RowKit
section
variable {P:Program} {N:Frm} {f:Fr} {w w' w0:World} {H0 H:Hp} {L:List Ent} {ops:Array Oper} {rest:List Oper} {Q:Fr→World→Prop} {d:Nat} {od:Option Nat} {ty:TypeId} {pos:String} {af:Array Edge} {g:Option (Nat×Bool)} {α:Type} [Enc α]
theorem St.same (S:St w0 H0 w H L) {H1 H':Hp} (hp:Post w H1 w' H'):St w0 H0 w' H L:=by
  have hb:=hp.below
  have hoth:∀ k,k<w.heap.size→w'.heap[k]?=w.heap[k]?:=hb.block
  refine ⟨⟨S.post.below.trans ⟨hb.os,hb.tape,hb.output,hb.size,fun k hk=>hoth k (Nat.lt_of_lt_of_le hk S.post.below.size)⟩,S.post.le,S.post.eqb,?_⟩,?_,S.own,S.nodup⟩
  · intro k T' l hk
    obtain ⟨cs,fz,hc',hr⟩:=S.holds k T' l hk
    exact ⟨cs,fz,by rw [hoth k (Array.getElem?_eq_some_iff.1 hc').1]; exact hc',hr⟩
  · intro e he
    exact Ent.ok_keep (S.ents e he) fun k hk=>⟨hoth k (Ent.ok_lt (S.ents e he) hk),rfl⟩
theorem W.callF {k : FuncId} {xs : List Operand} {ats : Array TypeId} {args : List Value} {R : Hp → Value → Prop} {H1 : Hp} (S : St w0 H0 w H L) (ha : xs.map (ev N f) = args) (C : Con P k args w H1 R)
    (K:∀ v w' H',R H' v→St w0 H0 w' H L→WL P N ops rest Q (updo f od v) w'):WL P N ops (⟨od,.call ⟨.value (.func k),xs.toArray,ats⟩,ty,pos,af,none⟩ :: rest) Q f w:=by
  refine WL.enterw (w':=w) (k:=k) (args:=args.toArray) ?_ (Calls.mono C.2 fun e w' ⟨v,H',he,hp,hv⟩=>⟨v,he,K v w' H' hv (S.same hp)⟩)
  have:(execOp (ev N f) ⟨od,.call ⟨.value (.func k),xs.toArray,ats⟩,ty,pos,af,none⟩)=callFunc k (#[]++xs.toArray.map (ev N f)++#[]):=rfl
  rw [this]
  have e:(#[]++xs.toArray.map (ev N f)++#[])=args.toArray:=by simp [ha]
  rw [e]
  exact C.1 w
theorem W.callvF {k : FuncId} {x : Operand} {xs : List Operand} {ats : Array TypeId} {args caps : List Value} {R : Hp → Value → Prop} {H1 : Hp} (S : St w0 H0 w H L) (hx : ev N f x = .func (.func k) #[] caps.toArray) (ha : xs.map (ev N f) = args) (C : Con P k (args ++ caps) w H1 R)
    (K:∀ v w' H',R H' v→St w0 H0 w' H L→WL P N ops rest Q (updo f od v) w'):WL P N ops (⟨od,.call ⟨.value x,xs.toArray,ats⟩,ty,pos,af,none⟩ :: rest) Q f w:=by
  obtain ⟨hC1,hC2⟩:=C
  refine WL.enterw (w':=w) (k:=k) (args:=(args++caps).toArray) ?_ (Calls.mono hC2 fun e w' ⟨v,H',he,hp,hv⟩=>⟨v,he,K v w' H' hv (S.same hp)⟩)
  have e:xs.toArray.map (ev N f)++caps.toArray=(args++caps).toArray:=by simp [ha]
  have:(execOp (ev N f) ⟨od,.call ⟨.value x,xs.toArray,ats⟩,ty,pos,af,none⟩).run P w=(callFunc k (#[]++xs.toArray.map (ev N f)++caps.toArray)).run P w:=by
    simp [execOp,resolve,hx,Deferred.ofValue,Go.invoke]
  rw [this,Array.empty_append,e]
  exact hC1 w
theorem W.storeMR {T T' : TypeId} {e : TypeId} {a x : Operand} {b o i : Nat} {bb : Bool} {u : Value} {xs : List α} {en : Ent} {cs : List Value} (cs' : List Value) (S : St w0 H0 w H L) (R : MR H en e u xs) (ha : ev N f a = ptr b o) (hx : ev N f x = u) (hi : L[i]? = some (.box b T' cs)) (hT : lay P T = some (bb, 1))
    (ho:o+1≤cs.length) (hc:zHb cs o [u]=cs')
    (k:∀ w',St w0 H0 w' H (L.set i (.box b T' cs'))→WL P N ops rest Q (updo f od undef) w'):WL P N ops (⟨od,.store T a x,ty,pos,af,none⟩ :: rest) Q f w :=
  W.store cs' S ha hx hi hT (by rw [MR.cellsOne R]; rfl) (by rw [MR.cellsOne R]; simp [MR.oneC R]) ho (by rw [MR.cellsOne R]; exact hc) k
theorem St.view_ (S:St w0 H0 w H L) {i:Nat} {en:Ent} {e:TypeId} {v:Value} {xs:List α} (hi:L[i]?=some en) (hx:MR H en e v xs):∃ H1,H.le H1∧Holds w H1∧Sl H1 v xs:=by
  obtain ⟨H1,hle,hs,S1⟩:=S.settleM hi hx
  exact ⟨H1,hle,S1.holds,hs⟩
theorem objAt {i b:Nat} {o:Obj} (S:St w0 H0 w H L) (hi:L[i]?=some (.obj b o)):H b=none∧w.heap[b]?=some o:=S.ents _ (List.mem_of_getElem? hi)
theorem R.loadO {T e : TypeId} {x : Operand} {b o i n : Nat} {cur : Array Value} {vs : List Value} (S : St w0 H0 w H L) (hx : ev N f x = ptr b o) (hi : L[i]? = some (.obj b (.cells cur e (0, 0)))) (hT : lay P T = some (true, n)) (hn : vs.length = n) (hv : (cur.toList.drop o).take n = vs) :
    (execOp (ev N f) ⟨od,.load T x,ty,pos,af,g⟩).run P w=.ok (.value (agg vs)) w:=by
  refine R.loadN hx hT hn fun j v hj=>?_
  rw [Addr.add_lit,zI4 (objAt S hi).2,← Array.getElem?_toList]
  rw [← hv,List.getElem?_take,List.getElem?_drop] at hj
  split at hj
  · exact hj
  · cases hj
theorem R.idxN {T e : TypeId} {x i : Operand} {b n c sz : Nat} {m : Int} (hx : ev N f x = .slice (some ⟨b, 0, none⟩) n c) (hi : ev N f i = int m) (hE : Elem P T e sz) (h : 0 ≤ m ∧ m < n) :
    (execOp (ev N f) ⟨od,.indexAddr T x i,ty,pos,af,g⟩).run P w=.ok (.value (ptr b (m.toNat*sz))) w:=by
  obtain ⟨ht,inf,z,hinf,_,hsize,_⟩:=hE
  simp [execOp,Instr.indexAt,asIntOf,hx,hi,int,run_underlying ht,h,sizeOf,typeInfo,hinf,hsize,Addr.add_lit,ptr]
theorem W.storeO {T e : TypeId} {a x : Operand} {b o i n : Nat} {bb : Bool} {v : Value} {cur : Array Value} (S : St w0 H0 w H L) (ha : ev N f a = ptr b o) (hx : ev N f x = v) (hi : L[i]? = some (.obj b (.cells cur e (0, 0)))) (hT : lay P T = some (bb, n))
    (hn:v.cells.size=n) (h1:v.cells.toList.all Value.oneCell'=true) (ho:o+n≤cur.size)
    (k:∀ w' cur',cur'.toList=cur.toList.take o++v.cells.toList++cur.toList.drop (o+n)→St w0 H0 w' H (L.set i (.obj b (.cells cur' e (0,0))))→WL P N ops rest Q (updo f od undef) w'):WL P N ops (⟨od,.store T a x,ty,pos,af,none⟩ :: rest) Q f w:=by
  obtain ⟨_,h2⟩:=zGT (w:=w) hT
  obtain ⟨hH,hb⟩:=objAt S hi
  have hlen:v.cells.toList.length=n:=by simpa using hn
  obtain ⟨w',arr',hrun,hoth,hsz,hos,hb',harr⟩:=zEp (P:=P) b o e (0,0) v.cells.toList 0 cur w hb (by omega) (fun u hu=>List.all_eq_true.1 h1 u hu) (fun j _ h4 h=>Nat.not_lt_zero _ h.2)
  refine WL.skipw (w':=w') ?_ (k w' arr' ?_ (S.renew hi rfl rfl hH hoth hsz hos ⟨hH,hb'⟩))
  · simp only [execOp,Instr.storeAt,Instr.sureAddr,ha,hx,ptr,storeVar,Sem.run_bind,Sem.run_pure,Result.andThen_ok,h2,hn,ne_eq,not_true_eq_false,if_false,hrun]
  · rw [harr,hlen]; rfl
theorem zOz {z:Array Value} (hz:z.all Value.oneCell'=true) (n:Nat):∀ v ∈ (Builtin.zeroCells z n).toList,v.oneCell'=true:=by
  intro v hv
  unfold Builtin.zeroCells at hv
  simp only [Array.toList_map,Array.toList_range,List.mem_map,List.mem_range] at hv
  obtain ⟨j,hj,rfl⟩:=hv
  have hp:0<z.size:=by
    rcases Nat.eq_zero_or_pos z.size with h | h
    · rw [h,Nat.mul_zero] at hj; exact absurd hj (Nat.not_lt_zero _)
    · exact h
  have hlt:=Nat.mod_lt j hp
  rw [getElem!_pos z _ hlt]
  exact Array.all_eq_true.1 hz _ hlt
theorem W.clearO {T e : TypeId} {x : Operand} {b i k n c : Nat} {cur : Array Value} (S : St w0 H0 w H L) (hE : Elem P T e (Enc.sz α)) (h1z : ∀ z, zer P e = some z → z.all Value.oneCell' = true) (hx : ev N f x = .slice (some ⟨b, k * Enc.sz α, none⟩) n c) (hi : L[i]? = some (.obj b (.cells cur e (0, 0))))
    (ho:k*Enc.sz α+n*Enc.sz α≤cur.size)
    (K:∀ w' cur',cur'.size=cur.size→cur'.toList.take (k*Enc.sz α)=cur.toList.take (k*Enc.sz α)→St w0 H0 w' H (L.set i (.obj b (.cells cur' e (0,0))))→WL P N ops rest Q (updo f od (.tuple #[])) w') :
    WL P N ops (⟨od,.call ⟨.builtin .clear,#[x],#[T]⟩,ty,pos,af,none⟩ :: rest) Q f w:=by
  obtain ⟨ht,inf,z,hinf,hzz,hsize,hzs,hbytes⟩:=hE
  obtain ⟨hH,hb⟩:=objAt S hi
  have hz1:z.cells.all Value.oneCell'=true:=by
    have:zer P e=some z.cells.toList:=by unfold zer; rw [hinf]; simp [hzz]
    have:=h1z _ this
    rw [← Array.all_toList]; exact this
  by_cases hn:n=0
  · subst hn
    refine WL.w (v:=.tuple #[]) (w':=w) ?_ (K w cur rfl rfl (by rw [zNZ hi]; exact S))
    simp [execOp,resolve,Go.invoke,Go.builtin,hx,Builtin.clear_,run_underlying ht]
  · have hzl:(Builtin.zeroCells z.cells n).toList.length=n*Enc.sz α:=by rw [Array.length_toList,size_zeroCells,hzs]
    obtain ⟨w',arr',hrun,hoth,hsz,hos,hb',harr⟩:=zEp (P:=P) b (k*Enc.sz α) e (0,0) (Builtin.zeroCells z.cells n).toList 0 cur w hb (by rw [hzl]; omega) (zOz hz1 n) (fun j _ h4 h=>Nat.not_lt_zero _ h.2)
    have hzv:(zeroValue e).run P w=.ok z w:=by simp [zeroValue,typeInfo,hinf,hzz]
    refine WL.w (v:=.tuple #[]) (w':=w') ?_ (K w' arr' ?_ ?_ (S.renew hi rfl rfl hH hoth hsz hos ⟨hH,hb'⟩))
    · have hm : ∀ (n : Nat), n ≠ 0 → (Builtin.clear_ #[T] ty #[.slice (some ⟨b, k * Enc.sz α, none⟩) n c]).run P w = ((storeCells ⟨b, k * Enc.sz α, none⟩ (Builtin.zeroCells z.cells n).toList).run P w).andThen fun _ w => .ok (.tuple #[]) w := by
        intro n hn
        cases n with
        | zero=>exact absurd rfl hn
        | succ n=>simp [Builtin.clear_,run_underlying ht,hzv]
      simp only [execOp,resolve,Go.invoke,Go.builtin,Sem.run_bind,Sem.run_pure,Result.andThen_ok,List.map_toArray,List.map_cons,List.map_nil,hx,hm n hn,hrun]
    · rw [← Array.length_toList,harr,List.length_append,List.length_append,List.length_take,List.length_drop,hzl,Array.length_toList]; omega
    · rw [harr,Nat.add_zero,List.append_assoc,List.take_append_of_le_length (by rw [List.length_take,Array.length_toList]; omega),List.take_take,Nat.min_self]
end
def DelI {α:Type} [Enc α] (H:Hp) (xs:List α) (cur:Array Value) (K:List α) (m:Nat):Prop :=
  K.length<m∧m≤xs.length∧∃ kc jc rc tl,cur.toList=kc++(jc++(rc++tl))∧Cells H kc K∧jc.length=(m - K.length)*Enc.sz α∧Cells H rc (xs.drop m)
section
variable {α:Type} [Enc α] {H:Hp} {xs K:List α} {cur cur':Array Value} {m:Nat}
theorem DelI.look (h:DelI H xs cur K m) (hm:m<xs.length):∃ cs,(cur.toList.drop (m*Enc.sz α)).take (Enc.sz α)=cs∧cs.length=Enc.sz α∧Enc.cells H cs xs[m]:=by
  obtain ⟨h1,h2,kc,jc,rc,tl,hl,hk,hj,hr⟩:=h
  rw [List.drop_eq_getElem_cons hm] at hr
  obtain ⟨cs,r,rfl,hc,_⟩:=hr
  have hlen:=Enc.len hc
  refine ⟨cs,?_,hlen,hc⟩
  have e:(kc++jc).length=m*Enc.sz α:=by
    rw [List.length_append,hk.length,hj,← Nat.add_mul]; congr 1; omega
  rw [hl,← List.append_assoc,← e,List.drop_left,List.append_assoc,← hlen,List.take_left]
theorem DelI.skip (h:DelI H xs cur K m) (hm:m<xs.length):DelI H xs cur K (m+1):=by
  obtain ⟨h1,h2,kc,jc,rc,tl,hl,hk,hj,hr⟩:=h
  rw [List.drop_eq_getElem_cons hm] at hr
  obtain ⟨cs,r,rfl,hc,hr'⟩:=hr
  have hlen:=Enc.len hc
  refine ⟨by omega,hm,kc,jc++cs,r,tl,by rw [hl]; simp,hk,?_,hr'⟩
  rw [List.length_append,hj,hlen,show m+1 - K.length=(m - K.length)+1 by omega,Nat.add_mul,Nat.one_mul]
theorem DelI.keep (h : DelI H xs cur K m) (hm : m < xs.length) {cs : List Value} (hcs : (cur.toList.drop (m * Enc.sz α)).take (Enc.sz α) = cs) (hc : cur'.toList = cur.toList.take (K.length * Enc.sz α) ++ cs ++ cur.toList.drop (K.length * Enc.sz α + Enc.sz α)) :
    DelI H xs cur' (K++[xs[m]]) (m+1):=by
  obtain ⟨cs',hcs',hlen',hcell⟩:=h.look hm
  have:cs'=cs:=by rw [← hcs',hcs]
  subst this
  have h0:=h.1
  obtain ⟨h1,h2,kc,jc,rc,tl,hl,hk,hj,hr⟩:=h.skip hm
  have hkl:=hk.length
  have hjl:Enc.sz α≤jc.length:=by
    rw [hj]
    exact Nat.le_mul_of_pos_left _ (by omega)
  refine ⟨by simp; omega,h2,kc++cs',jc.drop (Enc.sz α),rc,tl,?_,hk.append ⟨cs',[],by simp,hcell,rfl⟩,?_,hr⟩
  · have e1:cur.toList.take (K.length*Enc.sz α)=kc:=by rw [hl,← hkl,List.take_left]
    have e2:cur.toList.drop (K.length*Enc.sz α+Enc.sz α)=jc.drop (Enc.sz α)++(rc++tl):=by
      rw [hl,← hkl,← List.drop_drop,List.drop_left,List.drop_append_of_le_length hjl]
    rw [hc,e1,e2]
  · have e3:m+1 - K.length=(m+1 - (K.length+1))+1:=by omega
    rw [List.length_drop,hj,List.length_append,List.length_singleton,e3,Nat.succ_mul,Nat.add_sub_cancel]
theorem Cells.split {H:Hp}:∀ {a b:List α} {cs:List Value},Cells H cs (a++b)→∃ c1 c2,cs=c1++c2∧Cells H c1 a∧Cells H c2 b
  | [],_,cs,h=>⟨[],cs,rfl,rfl,h⟩
  | x :: a,b,cs,⟨c,r,e,hc,hr⟩=>by
    obtain ⟨c1,c2,rfl,h1,h2⟩:=Cells.split hr
    exact ⟨c++c1,c2,by rw [e]; simp,⟨c,c1,rfl,hc,h1⟩,h2⟩
theorem DelI.start {cs:List Value} {i:Nat} (htk:cur.toList.take (xs.length*Enc.sz α)=cs) (hC:Cells H cs xs) (hi:i<xs.length):DelI H xs cur (xs.take i) (i+1):=by
  have hx:xs=xs.take i++([xs[i]]++xs.drop (i+1)):=by
    rw [List.singleton_append,← List.drop_eq_getElem_cons hi,List.take_append_drop]
  rw [hx] at hC
  obtain ⟨c1,c23,rfl,h1,h23⟩:=Cells.split hC
  obtain ⟨c2,c3,rfl,h2,h3⟩:=Cells.split h23
  have hl:(xs.take i).length=i:=by rw [List.length_take]; omega
  refine ⟨by omega,hi,c1,c2,c3,cur.toList.drop (xs.length*Enc.sz α),?_,h1,?_,h3⟩
  · exact (List.take_append_drop (xs.length*Enc.sz α) cur.toList).symm.trans (by rw [htk]; simp)
  · have:=h2.length
    rw [List.length_singleton] at this
    rw [hl,this]; congr 1; omega
theorem DelI.front (h:DelI H xs cur K m):∃ kc,cur.toList.take (K.length*Enc.sz α)=kc∧Cells H kc K:=by
  obtain ⟨h1,h2,kc,jc,rc,tl,hl,hk,hj,hr⟩:=h
  exact ⟨kc,by rw [hl,← hk.length,List.take_left],hk⟩
end
section
variable {P:Program} {N:Frm} {f:Fr} {w:World} {od:Option Nat} {ty:TypeId} {pos:String} {af:Array Edge} {g:Option (Nat×Bool)}
theorem R.sliceLo {T e : TypeId} {x i : Operand} {b n c sz k : Nat} (hx : ev N f x = .slice (some ⟨b, 0, none⟩) n c) (hi : ev N f i = int k) (hE : Elem P T e sz) (hk : k ≤ n) (hkc : k < c) :
    (execOp (ev N f) ⟨od,.slice T x (some i) none none,ty,pos,af,g⟩).run P w=.ok (.value (.slice (some ⟨b,k*sz,none⟩) (n - k) (c - k))) w:=by
  obtain ⟨ht,inf,z,hinf,_,hsize,_⟩:=hE
  have h1:(0:Int)≤k∧(k:Int)≤n:=⟨by omega,by omega⟩
  simp [execOp,Instr.sliceAt,Instr.slice,Instr.sliceBounds,Instr.sliceBound,asIntOf,hx,hi,int,run_underlying ht,h1,sizeOf,typeInfo,hinf,hsize,Addr.add_lit]
  rw [if_pos hk,if_neg (by omega)]
theorem R.sliceHi {T e : TypeId} {x i : Operand} {b n c sz k : Nat} (hx : ev N f x = .slice (some ⟨b, 0, none⟩) n c) (hi : ev N f i = int k) (hE : Elem P T e sz) (hk : k ≤ c) :
    (execOp (ev N f) ⟨od,.slice T x none (some i) none,ty,pos,af,g⟩).run P w=.ok (.value (.slice (some ⟨b,0,none⟩) k c)) w:=by
  obtain ⟨ht,inf,z,hinf,_,hsize,_⟩:=hE
  have h1:(0:Int)≤k∧(k:Int)≤c:=⟨by omega,by omega⟩
  simp [execOp,Instr.sliceAt,Instr.slice,Instr.sliceBounds,Instr.sliceBound,asIntOf,hx,hi,int,run_underlying ht,h1,sizeOf,typeInfo,hinf,Addr.add_lit]
  intro hc; omega
end
def delL {α:Type} (xs:List α) (p:α→Option Bool) (s:List α×Int):Option ((List α×Int) ⊕ List α) :=
  bif decide (s.2<(xs.length:Int)) then (xnth xs s.2).bind fun x=>(p x).bind fun b=>some (.inl (bif b then s.1 else s.1++[x],s.2+1)) else some (.inr s.1)
noncomputable def delR {α:Type} (xs:List α) (p:α→Option Bool) (i:Int):Option (List α) :=
  bif i==-1 then some xs else bif decide (0≤i∧i<(xs.length:Int)) then zAF (delL xs p) (xs.take i.toNat,i+1) else none
end Go.Eng
namespace Go.Eng
open Go
def InQ (fn:Func) (N:Frm) (P:Program) (K:Value→World→Prop):Exit→Fr→World→Prop:=fun e f w=>(e=.ret∨e=.normal)∧∃ v,(results fn (tm N f)).run P w=.ok v w∧K v w
section
variable {P:Program} {N:Frm} {f:Fr} {w w0:World} {H0 H:Hp} {L:List Ent} {ops:Array Oper} {rest:List Oper} {Q:Fr→World→Prop} {d:Nat} {od:Option Nat} {ty:TypeId} {pos:String} {af:Array Edge} {g:Option (Nat×Bool)}
theorem InR.one {fn:Func} {r:ResultVar} {v:Value} {K:Value→World→Prop} (hr:fn.results=#[r]) (h:Res P N f w r v) (hK:K v w):∃ v,(results fn (tm N f)).run P w=.ok v w∧K v w:=by
  refine ⟨v,?_,hK⟩
  have:=zBN h
  rw [zEX,hr]
  simp only [List.mapM_toArray,List.mapM_cons,List.mapM_nil,Sem.run_bind,Sem.run_map,this,Result.andThen_ok,Sem.run_pure]
  rfl
theorem In.one {fn:Func} {r:ResultVar} {v:Value} {K:Value→World→Prop} (hr:fn.results=#[r]) (h:Res P N f w r v) (hK:K v w):InQ fn N P K .ret f w:=⟨.inl rfl,InR.one hr h hK⟩
end
end Go.Eng
