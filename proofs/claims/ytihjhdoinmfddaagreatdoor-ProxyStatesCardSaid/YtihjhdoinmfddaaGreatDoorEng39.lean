/- A part. -/
import Derived.Test.YtihjhdoinmfddaaGreatDoorEng33
import Derived.Scope
set_option linter.unusedVariables false
set_option linter.unusedSimpArgs false
namespace Go.Eng
open Go Go.RowKit
section
variable {P:Program} {N:Frm} {f:Fr} {w w' w0:World} {H0 H:Hp} {L:List Ent} {ops:Array Oper} {rest:List Oper} {Q:Fr→World→Prop} {d:Nat} {od:Option Nat} {ty:TypeId} {pos:String} {af:Array Edge}
def Kept (H H':Hp) (L:List Ent) (i:Nat):Prop:=∀ {β:Type} [Scal β] {j:Nat} {v:Value} {T:TypeId} {n:Nat} {xs:List β},i≠j→L[j]?=some (.row v T 1 n)→Sl H v xs→Sl H' v xs
variable {T:TypeId} {cur:Array Value} {g:Nat} {α:Type}
theorem St.kept (S:St w0 H0 w H L) {i:Nat} {e:Ent} {H':Hp} (hi:L[i]?=some e) (hg:e.blk=some g) (hk:∀ k,k≠g→H' k=H k):Kept H H' L i:=by
 intro β _ j v T n xs hij hj hR;refine hR.keepS fun b off ⟨m,c,hv⟩=>hk b ?_
 rcases (show RowOk w H v T 1 n from S.ents _ (lG hj)) with ⟨h,_⟩ | ⟨g',cap,cur,h,_⟩
 ·grind
 ·rw [h] at hv
  simp only [Value.slice.injEq,oI,Addr.mk.injEq] at hv;obtain ⟨⟨rfl,_⟩,_⟩:=hv;exact Ne.symm (S.blk_ne (b:=g) (b':=g') hi hj hg (by rw [h]; rfl) hij)
theorem zWx {H H':Hp} (h:H.le H') (L:List Ent) (i:Nat):Kept H H' L i:=fun _ _ hR=>Sl.mono hR h
theorem zO9 [Scal α] {cap : Nat} {xs : List α} (hcs : cur.size = cap * 1) (hn : xs.length ≤ cap) (hH : H g = some (T, cur.toList.take (xs.length * 1)))
    (hR:Sl H (.slice (some ⟨g,0,none⟩) xs.length cap) xs):cur.toList=xs.map Scal.enc++cur.toList.drop xs.length:=by
  rw [Nat.mul_one] at hH hcs;have hl:(cur.toList.take xs.length).length=xs.length:=by simp; omega
  by_cases hx:xs=[]
  · subst hx; simp
  obtain ⟨a,c,hv,_,_,h3⟩:=hR;rcases h3 with h3 | ⟨b,off,cs,ha,⟨T',l,hs,hl',r,hr⟩,hC⟩
  all_goals grind [Scal.Cells,List.take_append_drop]
theorem zUY [Scal α] {cap:Nat} {zs:List α} {l:List Value} (hH:H g=some (T,l)) (hl:l=zs.map Scal.enc) (hn:zs.length≤cap) (hc:cap≤maxLen):Sl H (.slice (some ⟨g,0,none⟩) zs.length cap) zs :=
 ⟨_,_,rfl,hn,hc,.inr ⟨g,0,zs.map Scal.enc,rfl,⟨T,l,rfl,hH,[],by rw [hl]; simp⟩,Scal.Cells.2 rfl⟩⟩
theorem zHW {fz:Nat×Nat} (h:w.heap[g]?=some (.cells cur T fz)) (j:Nat):w.cell? ⟨g,j,none⟩=cur[j]?:=by simp [World.cell?,h]
theorem zLo (h:w.heap[g]?=some (.cells cur T (0,0))) (j:Nat):w.frozen? ⟨g,j,none⟩=false:=by simp [World.frozen?,h]
theorem zQ4 {fz:Nat×Nat} (h:w.heap[g]?=some (.cells cur T fz)):w.shape? g=some (T,cur.size):=by simp [World.shape?,h]
theorem zK6 (w:World) (o:Obj):w.heap.size<(w.alloc o).heap.size:=by
 simp_all
theorem zSx [Scal α] (xs:List α) (i:Nat) (y:α):(xs.take i++[y]++xs.drop i).map Scal.enc=(xs.map Scal.enc).take i++[Scal.enc y]++(xs.map Scal.enc).drop i:=by simp_all
theorem W.insertRow [Scal α] {k : FuncId} {x o u : Operand} {ats : Array TypeId} {v uv : Value} {xs ys zs : List α} {at_ : Int} {i j : Nat} {zc : Array Value} {bytes : Nat} (C : InsCon P k T zc bytes) (hz : zc.size = 1) (hbt : bytes ≤ 16)
    (hw:Holds w0 H0) (S:St w0 H0 w H L) (hij:i≠j) (hi:L[i]?=some (.row v T 1 xs.length)) (hj:L[j]?=some (.row uv T 1 ys.length)) (hx:ev N f x=v) (ho:ev N f o=int at_) (hu:ev N f u=uv) (hR:Sl H v xs) (hU:Sl H uv ys)
    (h:insS xs at_ ys=some zs)
    (K:∀ v' w' H',H0.le H'→Kept H H' L i→Sl H' v' zs→St w0 H0 w' H' (L.set i (.row v' T 1 zs.length))→WL P N ops rest Q (updo f od v') w') :
    WL P N ops (⟨od,.call ⟨.value (.func k),#[x,o,u],ats⟩,ty,pos,af,none⟩ :: rest) Q f w:=by
  unfold insS at h;split at h
  case isFalse=>cases h
  rename_i hg;simp only [oI] at h;obtain ⟨h0,h1,h2,h3⟩:=hg;obtain ⟨m,rfl⟩:=Int.eq_ofNat_of_zero_le h0;rw [Int.toNat_natCast] at h;subst h;have hmn:m≤xs.length:=by omega
  obtain ⟨y,rfl⟩:∃ y,ys=[y]:=by
    match ys,h2 with
    | [y],_=>exact ⟨y,rfl⟩
  have hrun:∀ w,(execOp (ev N f) ⟨od,.call ⟨.value (.func k),#[x,o,u],ats⟩,ty,pos,af,.none⟩).run P w=.ok (.enter k #[v,.int .i64 m,uv]) w:=by
    intro w;have e1:(execOp (ev N f) ⟨od,.call ⟨.value (.func k),#[x,o,u],ats⟩,ty,pos,af,.none⟩)=callFunc k (#[]++#[x,o,u].map (ev N f)++#[]):=rfl;have e:(#[]++#[x,o,u].map (ev N f)++#[])=#[v,.int .i64 m,uv]:=by simp [hx,ho,hu,int]
    rw [e1,e]; exact C.enter _ _
  obtain ⟨ub,uc,ucur,rfl,huc,hu1,hucap,hucs,huH⟩:∃ ub uc ucur,uv=.slice (some ⟨ub,0,none⟩) 1 uc∧w.heap[ub]?=some (.cells ucur T (0,0))∧1≤uc∧uc≤maxLen∧ucur.size=uc*1∧H ub=some (T,ucur.toList.take (1*1)):=by
    rcases (show RowOk w H uv T 1 [y].length from S.ents _ (lG hj)) with ⟨_,h⟩ | ⟨g,cap,cur,rfl,hc,hnc,hcm,hcs,hH⟩
    all_goals grind
  have huy:=zO9 hucs (xs:=[y]) hu1 huH hU;have hu0:ucur[0]?=some (Scal.enc y):=by
    rw [← Array.getElem?_toList,huy]; rfl
  have hvs:∀ j v,[Scal.enc y][j]?=some v→w.cell? ⟨ub,0+j,none⟩=some v:=by
    grind [zHW]
  have h1v:∀ v ∈ [Scal.enc y],v.oneCell'=true:=by
    grind [Scal.enc1]
  have h1c:∀ v ∈ xs.map Scal.enc,v.oneCell'=true:=by
    grind [Scal.enc1]
  have hlen:(xs.take m++[y]++xs.drop m).length=xs.length+1:=by simp; omega
  have hcl:(xs.map (Scal.enc (α:=α))).length=xs.length:=List.length_map ..;have hbig:(xs.length+1)*bytes≤140737488355328:=by
    have:=Nat.mul_le_mul h3 hbt
    grind [big]
  have h63:xs.length+1≤maxLen:=nT h3 (by simp [big,maxLen]);have hubl:ub<w.heap.size:=(Array.getElem?_eq_some_iff.1 huc).1
  have fresh : ∀ (old : Nat) (w' : World) (cur' : Array Value), (∀ k, k < w.heap.size → w'.heap[k]? = w.heap[k]?) → w.heap.size < w'.heap.size → (w'.os = w.os ∧ w'.tape = w.tape ∧ w'.output = w.output) →
      w'.heap[w.heap.size]?=some (.cells cur' T (0,0))→cur'.size=grownCap w (xs.length+1) old T→cur'.toList.take (xs.length+1)=(xs.take m++[y]++xs.drop m).map Scal.enc →
      WL P N ops rest Q (updo f od (.slice (some ⟨w.heap.size,0,none⟩) (xs.length+1) (grownCap w (xs.length+1) old T))) w':=by
    intro old w' cur' hoth hsz hos hgc hsize htk;have hge:=grownCap_ge w (xs.length+1) old T;have hcm:=grownCap_le_maxLen w (xs.length+1) old T h63;obtain ⟨H',hle,hH',_,S'⟩:=S.freshRow (n':=xs.length+1) hi hoth hsz hos hgc gR hge hcm;refine K _ w' H' (S.post.le.trans hle) (zWx hle _ _) ?_ (by rw [hlen]; exact S')
    grind [zUY]
  rcases (show RowOk w H v T 1 xs.length from S.ents _ (lG hi)) with ⟨rfl,hn⟩ | ⟨g,cap,cur,rfl,hc,hnc,hcm,hcs,hH⟩
  · -- the nil slice
    have hxs:xs=[]:=List.length_eq_zero_iff.1 hn;subst hxs;have hm0:m=0:=by simpa using hmn
    subst hm0;refine WL.enterw (w':=w) (hrun w) (Calls.mono (C.endGrow none 0 0 ub uc [] (Scal.enc y) w om (nR _) om (by simpa using hbig) rfl rfl (fun _=>rfl) (fun a h=>by cases h) hvs h1v) fun e w' ⟨he,hw'⟩=>⟨_,he,?_⟩);have hge:=grownCap_ge w 1 0 T;refine fresh 0 w' (([]++[Scal.enc y]).toArray++Builtin.zeroCells zc (grownCap w (0+1) 0 T - (0+1))) ?_ ?_ ?_ ?_ ?_ ?_
    · intro k hk; rw [hw']; exact Below.heap_alloc w.drew _ k hk
    · rw [hw']; simp
    · rw [hw']; exact ⟨rfl,rfl,rfl⟩
    · rw [hw']; exact heap_alloc_new w.drew _
    all_goals grind [size_zeroCells]
  · have hcells:=zO9 hcs hnc hH hR
    have hsz1:cur.size=cap:=by omega
    have hgl:g<w.heap.size:=(Array.getElem?_eq_some_iff.1 hc).1;have hcell:∀ j v,(xs.map (Scal.enc (α:=α)))[j]?=some v→w.cell? ⟨g,0+j,none⟩=some v:=by
      grind [zHW]
    have hgub:ub≠g:=S.blk_ne (b:=ub) (b':=g) hj hi rfl rfl (Ne.symm hij);have hdl:(cur.toList.drop xs.length).length=cap - xs.length:=by grind
    by_cases hend:m=xs.length
    · subst hend
      have hzs:xs.take xs.length++[y]++xs.drop xs.length=xs++[y]:=by simp
      by_cases hroom:xs.length+1≤cap
      · refine WL.enterw (w':=w) (hrun w) (Calls.mono (C.room g xs.length cap ub uc (Scal.enc y) w om hroom (by grind [maxLen]) rfl (fun j hj=>?_) (fun j hj=>zLo hc _) hvs h1v) fun e w' ⟨he,hw'⟩=>⟨_,he,?_⟩)
        · rw [zHW hc,Array.getElem?_eq_getElem om]; rfl
        · obtain ⟨cur',hg',hl'⟩:=zDT g [Scal.enc y] (0+xs.length) w cur hc (by simp; omega)
          obtain ⟨r1,r2,r3,r4⟩:=zDN g [Scal.enc y] (0+xs.length) w;have hsz':cur'.size=cap:=by
            grind [Array.length_toList]
          obtain ⟨H',hle,hH',hko,S'⟩:=S.turnRow2 hw hi (w':=w') (n':=xs.length+1) (cur':=cur') (fun k hk _=>by grind [zEE]) gR gR (by rw [hw']; exact hg') gR hroom hcm;refine K _ w' H' hle (S.kept hi rfl hko) ?_ (by rw [hlen]; exact S')
          grind [zUY]
      · refine WL.enterw (w':=w) (hrun w) (Calls.mono (C.endGrow (some ⟨g,0,none⟩) xs.length cap ub uc (xs.map Scal.enc) (Scal.enc y) w om hnc om hbig hcl rfl (fun h=>by cases h) (fun a h j v hv=>by grind [Addr.add_lit]) hvs h1v) fun e w' ⟨he,hw'⟩=>⟨_,he,?_⟩)
        have hge:=grownCap_ge w (xs.length+1) cap T;refine fresh cap w' ((xs.map Scal.enc++[Scal.enc y]).toArray++Builtin.zeroCells zc (grownCap w (xs.length+1) cap T - (xs.length+1))) ?_ ?_ ?_ ?_ ?_ ?_
        · intro k hk; rw [hw']; exact Below.heap_alloc w.drew _ k hk
        · rw [hw']; simp
        · rw [hw']; exact ⟨rfl,rfl,rfl⟩
        · rw [hw']; exact heap_alloc_new w.drew _
        all_goals grind [size_zeroCells]
    · have hlt:m<xs.length:=by omega
      by_cases hroom:xs.length+1≤cap
      · refine WL.enterw (w':=w) (hrun w) (Calls.mono (C.shift g xs.length cap m ub uc (xs.map Scal.enc) (Scal.enc y) w hlt om hroom (by grind [maxLen]) hgub hcl rfl hcell (fun j hj=>?_) (fun j hj=>zLo hc _) hvs h1c h1v _ _ _ _ (zQ4 huc) (zQ4 hc) om (zLo huc _) (zLo huc _)) fun e w' ⟨he,hw'⟩=>⟨_,he,?_⟩)
        · rw [zHW hc,Array.getElem?_eq_getElem om]; rfl
        · have hc1:w.drew.heap[g]?=some (.cells cur T (0,0)):=hc
          have hdrop:((xs.map (Scal.enc (α:=α))).drop m).length=xs.length - m:=by simp
          obtain ⟨cur1,hg1,hl1⟩:=zDT g ((xs.map Scal.enc).drop m) (0+(m+1)) w.drew cur hc1 (by rw [hdrop]; omega);have hsz1':cur1.size=cap:=by
            rw [← Array.length_toList,hl1]; simp [hsz1]; omega
          obtain ⟨cur',hg',hl'⟩:=zDT g [Scal.enc y] (0+m) _ cur1 hg1 (by simp; omega);have hsz':cur'.size=cap:=by
            rw [← Array.length_toList,hl']; grind
          obtain ⟨r1,r2,r3,r4⟩:=zDN g [Scal.enc y] (0+m) (w.drew.setCells g (0+(m+1)) ((xs.map Scal.enc).drop m));obtain ⟨q1,q2,q3,q4⟩:=zDN g ((xs.map (Scal.enc (α:=α))).drop m) (0+(m+1)) w.drew;obtain ⟨H',hle,hH',hko,S'⟩:=S.turnRow2 hw hi (w':=w') (n':=xs.length+1) (cur':=cur') (fun k hk _=>by rw [hw',zEE g hk,zEE g hk]; rfl) (by rw [hw',r1,q1]; exact nR _) (by rw [hw']; exact ⟨r2.trans q2,r3.trans q3,r4.trans q4⟩) gR om hroom hcm;refine K _ w' H' hle (S.kept hi rfl hko) ?_ gR;have hs:=zUY (zs:=xs.take m++[y]++xs.drop m) hH' ?_ om hcm
          · grind
          rw [Nat.mul_one,zSx,hl',hl1];exact ins_list (n:=xs.length) gR (by rw [hcl]; omega) gR hcl
      · refine WL.enterw (w':=w) (hrun w) (Calls.mono (C.grow g xs.length cap m ub uc (xs.map Scal.enc) (Scal.enc y) w hlt om hnc om hbig hcl rfl hcell hvs h1c h1v) fun e w' ⟨he,hw'⟩=>⟨_,he,?_⟩)
        have hge:=grownCap_ge w (xs.length+1) cap T;generalize hG:grownCap w (xs.length+1) cap T=G at *
        have hnew:(w.alloc (.cells (((xs.map (Scal.enc (α:=α))).take m).toArray++Builtin.zeroCells zc (xs.length+1 - m)++Builtin.zeroCells zc (G - (xs.length+1))) T)).drew.heap[w.heap.size]?=some (.cells (((xs.map (Scal.enc (α:=α))).take m).toArray++Builtin.zeroCells zc (xs.length+1 - m)++Builtin.zeroCells zc (G - (xs.length+1))) T (0,0)):=heap_alloc_new w _;have hsA:(((xs.map (Scal.enc (α:=α))).take m).toArray++Builtin.zeroCells zc (xs.length+1 - m)++Builtin.zeroCells zc (G - (xs.length+1))).size=G:=by
          grind [size_zeroCells]
        generalize hA:(((xs.map (Scal.enc (α:=α))).take m).toArray++Builtin.zeroCells zc (xs.length+1 - m)++Builtin.zeroCells zc (G - (xs.length+1)))=A at *
        obtain ⟨cur1,hg1,hl1⟩:=zDT w.heap.size [Scal.enc y] m _ A hnew (by simp; omega);have hsz1':cur1.size=G:=by
          grind [Array.length_toList]
        have hdrop:((xs.map (Scal.enc (α:=α))).drop m).length=xs.length - m:=by simp
        obtain ⟨cur',hg',hl'⟩:=zDT w.heap.size ((xs.map Scal.enc).drop m) (m+1) (((w.alloc (.cells A T)).drew.setCells w.heap.size m [Scal.enc y]).drew) cur1 hg1 (by rw [hdrop]; omega);have hsz':cur'.size=G:=by
          rw [← Array.length_toList,hl']; grind
        obtain ⟨r1,r2,r3,r4⟩:=zDN w.heap.size ((xs.map (Scal.enc (α:=α))).drop m) (m+1) (((w.alloc (.cells A T)).drew.setCells w.heap.size m [Scal.enc y]).drew);obtain ⟨q1,q2,q3,q4⟩:=zDN w.heap.size [Scal.enc y] m ((w.alloc (.cells A T)).drew);have F:=fresh cap w' cur';rw [hG] at F;refine F ?_ ?_ ?_ ?_ ?_ ?_
        · intro k hk
          rw [hw',zEE _ (Nat.ne_of_lt hk)]
          show ((w.alloc (.cells A T)).drew.setCells w.heap.size m [Scal.enc y]).heap[k]?=_
          rw [zEE _ (Nat.ne_of_lt hk)];exact Below.heap_alloc w _ k hk
        · grind
        · rw [hw']; exact ⟨r2.trans q2,r3.trans q3,r4.trans q4⟩
        · grind
        · exact hsz'
        · rw [zSx,hl',hl1]
          exact ins_list2 (n:=xs.length) gR (by rw [hcl]; omega) gR hcl
 where
  ins_end {A C D:List Value} {n:Nat} {y:Value} (hA:A=C++D) (hc:C.length=n):(A.take (0+n)++[y]++A.drop (0+n+[y].length)).take (n+1)=C++[y]:=by
    grind
  ins_list {A C : List Value} {m n : Nat} {y : Value} (hA : A.take m = C.take m) (hm : m < C.length) (hlen : n + 1 ≤ A.length) (hc : C.length = n) :
      (((A.take (0+(m+1))++C.drop m++A.drop (0+(m+1)+(C.drop m).length)).take (0+m)++[y]++(A.take (0+(m+1))++C.drop m++A.drop (0+(m+1)+(C.drop m).length)).drop (0+m+[y].length))).take (n+1)=C.take m++[y]++C.drop m:=by
    have hl1:(A.take (m+1)).length=m+1:=by grind
    have e1:(A.take (0+(m+1))++C.drop m++A.drop (0+(m+1)+(C.drop m).length)).take (0+m)=C.take m:=by
      grind
    have e2:(A.take (0+(m+1))++C.drop m++A.drop (0+(m+1)+(C.drop m).length)).drop (0+m+[y].length)=C.drop m++A.drop (m+1+(C.drop m).length):=by
      simp_all
    rw [e1,e2];have h3:(C.take m++[y]++C.drop m).length=n+1:=by simp; omega
    grind
  ins_list2 {A C : List Value} {m n : Nat} {y : Value} (hA : A.take m = C.take m) (hm : m < C.length) (hlen : n + 1 ≤ A.length) (hc : C.length = n) :
      (((A.take m++[y]++A.drop (m+[y].length)).take (m+1)++C.drop m++(A.take m++[y]++A.drop (m+[y].length)).drop (m+1+(C.drop m).length))).take (n+1)=C.take m++[y]++C.drop m:=by
    have hl1:(A.take m++[y]).length=m+1:=by grind
    have e1:(A.take m++[y]++A.drop (m+[y].length)).take (m+1)=C.take m++[y]:=by
      grind
    rw [e1];have h3:(C.take m++[y]++C.drop m).length=n+1:=by simp; omega
    grind
end
end Go.Eng
namespace Go.Eng
open Go Go.ChangeMaps
def enci (l:List (Int×Value)):List (Value×Value):=l.map fun p=>(int p.1,p.2)
theorem zPE {e k:Int} {v:Value} {m:List (Int×Value)} (h:decide (e=k)=true):((k,v) :: m).lookup e=some v:=by
 grind
theorem zKf {e k:Int} {v:Value} {m:List (Int×Value)} {r:Option Value} (h:decide (e=k)=false) (hr:m.lookup e=r):((k,v) :: m).lookup e=r:=by
 grind
theorem zTX {e:Int}:([]:List (Int×Value)).lookup e=none:=rfl
theorem zHi (k:Int):∀ (m:List (Int×Value)) (es:List MapEntry) (i:Nat),es.map (fun e=>(e.key,e.val))=enci m→∃ r,Instr.findNow (.int .i64) (int k) es i=some r∧r.map (·.2)=m.lookup k
 | [],[],i,_=>⟨none,rfl,rfl⟩
 | [],e :: es,i,h=>by cases h
 | p :: m,[],i,h=>by cases h
 | (a,v) :: m,e :: es,i,h=>by
  simp only [enci,List.map_cons,List.cons.injEq,Prod.mk.injEq] at h;obtain ⟨⟨h1,h2⟩,h3⟩:=h;by_cases hk:k=a
  ·simp_all [Instr.findNow,Instr.sameNow,int]
  ·obtain ⟨r,hr1,hr2⟩:=zHi k m es (i+1) h3
   grind [Instr.findNow,Instr.sameNow,int]
section
variable {P:Program} {N:Frm} {f:Fr} {w w' w0:World} {H0 H:Hp} {L:List Ent} {ops:Array Oper} {rest:List Oper} {Q:Fr→World→Prop} {d:Nat} {od:Option Nat} {ty:TypeId} {pos:String} {af:Array Edge} {g:Option (Nat×Bool)}
variable {T:TypeId} {m:List (Int×Value)}
theorem zHz (hT:P.underlying T=some (.int .i64)) (e:Bool) (v:Value):(Instr.checkKey e 10000 T v).run P w=.ok () w:=by
 unfold Instr.checkKey;simp_all [run_underlying]
theorem zIP (hT:P.underlying T=some (.int .i64)) {k:Int} {es:List MapEntry} {r:Option (Nat×Value)} (hr:Instr.findNow (.int .i64) (int k) es 0=some r):(Instr.findKey T (int k) es).run P w=.ok r w:=by
 simp_all [Instr.findKey,run_underlying]
theorem R.lookupI {K E : TypeId} {x y : Operand} {b i : Nat} {k : Int} {v : Value} (S : St w0 H0 w H L) (hx : ev N f x = mapv b) (hy : ev N f y = int k) (hi : L[i]? = some (.mp b (enci m)))
    (hT:P.underlying T=some (.map K E)) (hK:P.underlying K=some (.int .i64)) (h:m.lookup k=some v) :
    (execOp (ev N f) ⟨od,.lookup T x y true,ty,pos,af,g⟩).run P w=.ok (.value (.tuple ⟨[v,boo true]⟩)) w:=by
  obtain ⟨_,es,cl,hc,he⟩:=S.mpOk hi;obtain ⟨r,hr1,hr2⟩:=zHi k m es.toList 0 he;have hg:(getObj b).run P w=.ok (.map es cl) w:=MapKept.run_getObj_map hc;have hfk:=zIP (w:=w) hK hr1;rw [h] at hr2;obtain ⟨j,rfl⟩:∃ j,r=some (j,v):=by
    simp_all
  simp_all [execOp,Instr.lookup,mapv,run_underlying,zHz,boo]
theorem R.lookupIN {K E : TypeId} {x y : Operand} {b i : Nat} {k : Int} {zc : Value} (S : St w0 H0 w H L) (hx : ev N f x = mapv b) (hy : ev N f y = int k) (hi : L[i]? = some (.mp b (enci m)))
    (hT:P.underlying T=some (.map K E)) (hK:P.underlying K=some (.int .i64)) (hz:((P.info? E).bind (·.zero))=some zc) (h:m.lookup k=none) :
    (execOp (ev N f) ⟨od,.lookup T x y true,ty,pos,af,g⟩).run P w=.ok (.value (.tuple ⟨[zc,boo false]⟩)) w:=by
  obtain ⟨_,es,cl,hc,he⟩:=S.mpOk hi;obtain ⟨r,hr1,hr2⟩:=zHi k m es.toList 0 he;have hg:(getObj b).run P w=.ok (.map es cl) w:=MapKept.run_getObj_map hc;have hz':(zeroValue E).run P w=.ok zc w:=by
    cases hE:P.info? E <;> simp_all [zeroValue,typeInfo]
  have hfk:=zIP (w:=w) hK hr1;rw [h] at hr2;simp_all [execOp,Instr.lookup,mapv,run_underlying,zHz,boo]
theorem W.insertI {K E : TypeId} {x y z : Operand} {b i : Nat} {k : Int} {v : Value} (S : St w0 H0 w H L) (hx : ev N f x = mapv b) (hy : ev N f y = int k) (hz : ev N f z = v) (hi : L[i]? = some (.mp b (enci m)))
    (hT:P.underlying T=some (.map K E)) (hK:P.underlying K=some (.int .i64)) (h:m.lookup k=none)
    (kk:∀ w',St w0 H0 w' H (L.set i (.mp b (enci (m++[(k,v)]))))→WL P N ops rest Q (updo f od undef) w'):WL P N ops (⟨od,.insert T x y z,ty,pos,af,none⟩ :: rest) Q f w:=by
  obtain ⟨hH,es,cl,hc,he⟩:=S.mpOk hi;obtain ⟨r,hr1,hr2⟩:=zHi k m es.toList 0 he;have hg:(getObj b).run P w=.ok (.map es cl) w:=MapKept.run_getObj_map hc;have hfk:=zIP (w:=w) hK hr1;have hset:∀ es' cl',(setObj b (.map es' cl')).run P w=.ok () (setBlock w b (.map es' cl')):=fun es' cl'=>MapKept.run_setObj_map _ hc
  rw [h] at hr2;have hr:r=none:=by simp_all
  subst hr;refine WL.skipw (w':=setBlock w b (.map (es.push { key:=int k,val:=v,born:=cl }) (cl+1))) ?_ (kk _ (S.setMp hi ?_))
  all_goals simp_all [execOp,Instr.mapUpdate,mapv,run_underlying,zHz,enci]
end
end Go.Eng
namespace Go.Eng
open Go Go.RowKit
def MR {α:Type} [Enc α] (H:Hp) (en:Ent) (T:TypeId) (v:Value) (xs:List α):Prop :=
 (v=.slice none 0 0∧xs=[]∧en=.row (.slice none 0 0) T (Enc.sz α) 0) ∨
 ∃ b cap cur cs,v=.slice (some ⟨b,0,none⟩) xs.length cap∧en=.obj b (.cells cur T (0,0))∧xs.length≤cap∧cap≤maxLen∧cur.size=cap*Enc.sz α∧cur.toList.take (xs.length*Enc.sz α)=cs∧Cells H cs xs
section
variable {α:Type} [Enc α] {H H':Hp} {en:Ent} {T:TypeId} {v:Value} {xs:List α}
theorem MR.nil:MR (α:=α) H (.row (.slice none 0 0) T (Enc.sz α) 0) T (.slice none 0 0) []:=.inl ⟨rfl,rfl,rfl⟩
theorem MR.mono (h:MR H en T v xs) (hl:H.le H'):MR H' en T v xs:=by
 rcases h with h | ⟨b,cap,cur,cs,h1,h2,h3,h4,h5,h6,h7⟩
 ·exact .inl h
 ·exact .inr ⟨b,cap,cur,cs,h1,h2,h3,h4,h5,h6,h7.mono hl⟩
theorem MR.oneC (h:MR H en T v xs):v.oneCell'=true:=by
 rcases h with ⟨rfl,_⟩ | ⟨b,cap,cur,cs,rfl,_⟩ <;> rfl
theorem MR.cellsOne (h:MR H en T v xs):v.cells=#[v]:=by
 rcases h with ⟨rfl,_⟩ | ⟨b,cap,cur,cs,rfl,_⟩ <;> rfl
theorem MR.shape (h:MR H en T v xs):∃ a c,v=.slice a xs.length c∧xs.length≤c:=by
 rcases h with ⟨rfl,rfl,_⟩ | ⟨b,cap,cur,cs,rfl,_,h3,_⟩
 all_goals grind
end
section
variable {P:Program} {N:Frm} {f:Fr} {w w' w0:World} {H0 H:Hp} {L:List Ent} {ops:Array Oper} {rest:List Oper} {Q:Fr→World→Prop} {d:Nat} {od:Option Nat} {ty:TypeId} {pos:String} {af:Array Edge} {α:Type} [Enc α]
variable {e:TypeId} {i:Nat}
theorem St.freshObj (S : St w0 H0 w H L) {en : Ent} {o : Obj} (hi : L[i]? = some en) (hoth : ∀ k, k < w.heap.size → w'.heap[k]? = w.heap[k]?) (hsz : w.heap.size < w'.heap.size)
    (hos:w'.os=w.os∧w'.tape=w.tape∧w'.output=w.output) (hg:w'.heap[w.heap.size]?=some o):St w0 H0 w' H (L.set i (.obj w.heap.size o)):=by
  have hlt:i<L.length:=(List.getElem?_eq_some_iff.1 hi).1;have hbel:=S.post.below;obtain ⟨hnd,_⟩:=zEf (e':=.obj w.heap.size o) (B:=w.heap.size) rfl L i S.nodup fun b hb=>S.lt hb
  refine ⟨⟨hbel.trans ⟨hos.1,hos.2.1,hos.2.2,Nat.le_of_lt hsz,fun k hk=>hoth k (Nat.lt_of_lt_of_le hk hbel.size)⟩,S.post.le,S.post.eqb,?_⟩,?_,?_,hnd⟩
  · intro k T' l hk
    obtain ⟨cs,fz,hc',hr⟩:=S.holds k T' l hk
    grind
  · intro e he
    obtain ⟨j,hj⟩:=lI.1 he;by_cases hij:i=j
    · subst hij
      rw [List.getElem?_set_self hlt] at hj;simp at hj; subst hj;exact ⟨S.holds.none_of_size (nR _),hg⟩
    · rw [List.getElem?_set_ne hij] at hj
      refine Ent.ok_keep (S.ents e (lG hj)) fun k hk=>?_
      exact ⟨hoth k (Ent.ok_lt (S.ents e (lG hj)) hk),rfl⟩
  · intro e he k hk
    obtain ⟨j,hj⟩:=lI.1 he;by_cases hij:i=j
    · subst hij
      rw [List.getElem?_set_self hlt] at hj;simp at hj; subst hj;simp [Ent.blk] at hk; subst hk;exact hbel.size
    · rw [List.getElem?_set_ne hij] at hj
      exact S.own e (lG hj) k hk
theorem St.setRowObj (S : St w0 H0 w H L) {g : Nat} {cur : Array Value} (hi : L[i]? = some (.obj g (.cells cur e (0, 0)))) (cur' : Array Value) :
  St w0 H0 (w.setRow g cur') H (L.set i (.obj g (.cells cur' e (0,0)))):=by
 obtain ⟨hH,hc⟩:ObjOk w H g _:=S.ents _ (lG hi);exact S.renew hi rfl rfl hH (fun k hk=>setRow_other w g k _ hk) sI ⟨rfl,rfl,rfl⟩ ⟨hH,setRow_heap w g cur _ e _ hc⟩
theorem zNc {L:List Ent} {e:Ent} (hi:L[i]?=some e):L.set i e=L:=by
 apply List.ext_getElem?
 grind
theorem St.appendM (S : St w0 H0 w H L) {t ty : TypeId} {v u : Value} {xs ys zs : List α} {en : Ent} (hE : Elem P t e (Enc.sz α)) (hi : L[i]? = some en)
    (hx:MR H en e v xs) (hy:Sl H u ys) (hz:xapp xs ys=some zs) :
    ∃ v' en' w',(Builtin.append_ #[t,t] ty #[v,u]).run P w=.ok v' w'∧MR H en' e v' zs∧St w0 H0 w' H (L.set i en'):=by
  have hsz:=Enc.pos (α:=α);unfold xapp at hz;split at hz
  case isFalse=>cases hz
  rename_i hbig;simp only [oI] at hz;subst hz;by_cases hne:ys=[]
  · subst hne
    obtain ⟨a,c,hv,h1⟩:=hx.shape;obtain ⟨a',c',rfl,_⟩:=hy;refine ⟨v,en,w,?_,gR,by rw [zNc hi]; exact S⟩
    grind [zH4]
  obtain ⟨ad,c',ysC,rfl,hyl,hyc,hyC⟩:=hy.news S.holds hne;have hE':=hE;obtain ⟨ht,inf,z,hinf,hzz,hsize,hzs,hbytes⟩:=hE';have hm:0<ys.length:=List.length_pos_iff.2 hne;have hb2:(xs.length+ys.length)*inf.bytes≤140737488355328:=by
    have h1:=Nat.mul_le_mul hbig hbytes
    grind [big]
  have h63:xs.length+ys.length≤maxLen:=nT hbig (by simp [big,maxLen]);have h63':((xs.length+ys.length:Nat):Int)≤9223372036854775807:=by grind [maxLen]
  have hlen:(xs++ys).length=xs.length+ys.length:=lA
  have grown : ∀ (old : Nat) (xsC : List Value), old < xs.length + ys.length → Cells H xsC xs →
      MR H (.obj w.heap.size (.cells (xsC.toArray++ysC.toArray++Builtin.zeroCells z.cells (grownCap w (xs.length+ys.length) old e - (xs.length+ys.length))) e (0,0))) e
        (.slice (some ⟨w.heap.size,0,none⟩) (xs.length+ys.length) (grownCap w (xs.length+ys.length) old e)) (xs++ys) ∧
      St w0 H0 (w.drew.alloc (.cells (xsC.toArray++ysC.toArray++Builtin.zeroCells z.cells (grownCap w (xs.length+ys.length) old e - (xs.length+ys.length))) e)) H
        (L.set i (.obj w.heap.size (.cells (xsC.toArray++ysC.toArray++Builtin.zeroCells z.cells (grownCap w (xs.length+ys.length) old e - (xs.length+ys.length))) e (0,0)))):=by
    intro old xsC hold hxC;have hxl:=hxC.length;have hxylen:(xsC++ysC).length=(xs.length+ys.length)*Enc.sz α:=by grind
    have hge:=grownCap_ge w (xs.length+ys.length) old e;have hcm:grownCap w (xs.length+ys.length) old e≤maxLen:=grownCap_le_maxLen w (xs.length+ys.length) old e h63;generalize grownCap w (xs.length+ys.length) old e=cap at *
    refine ⟨.inr ⟨w.heap.size,cap,_,xsC++ysC,by rw [hlen],rfl,om,hcm,?_,?_,hxC.append hyC⟩,?_⟩
    · simp only [Array.size_append,List.size_toArray,size_zeroCells,hzs,hxl,hyl,← Nat.add_mul]
      congr 1; omega
    · grind
    · exact S.freshObj hi (fun k hk=>Below.heap_alloc w.drew _ k hk) (zK6 _ _) ⟨rfl,rfl,rfl⟩ (heap_alloc_new w.drew _)
  rcases hx with ⟨rfl,rfl,rfl⟩ | ⟨g,cap,cur,xsC,rfl,rfl,hnc,hcm,hcs,htk,hxC⟩
  · have hr:=run_append_nil (P:=P) w t ty e inf z ht hinf hzz ad ys.length c' ysC gR hyc hm (by simpa using h63') gR
    obtain ⟨hmr,hst⟩:=grown 0 [] (by simpa using hm) rfl
    grind
  · obtain ⟨hH,hg⟩:ObjOk w H g _:=S.ents _ (lG hi)
    have hxl:=hxC.length;have hcell:∀ j u,xsC[j]?=some u→w.cell? ((⟨g,0,none⟩:Addr).add j)=some u:=by
      grind [Addr.add_lit,zHW]
    by_cases hroom:xs.length+ys.length≤cap
    · have hfit:xs.length*inf.size+ysC.length≤cur.size:=by rw [hyl,hcs,hsize,← Nat.add_mul]; exact Nat.mul_le_mul_right _ hroom
      have hr:=run_append_room (P:=P) w t ty e inf ht hinf g xs.length cap cur hg ad ys.length c' ysC gR hyc (hyC.one) hroom hfit;rw [hsize,htk] at hr;have hxylen:(xsC++ysC).length=(xs.length+ys.length)*Enc.sz α:=by grind
      refine ⟨_,.obj g (.cells (xsC++ysC++cur.toList.drop (xs.length*Enc.sz α+ysC.length)).toArray e (0,0)),_,hr,.inr ⟨g,cap,_,xsC++ysC,by rw [hlen],rfl,gR,hcm,?_,?_,hxC.append hyC⟩,S.setRowObj hi _⟩
      all_goals grind
    grind [run_append_grow,growslice_fits]
theorem W.appM {T : TypeId} {x y : Operand} {v u : Value} {xs ys zs : List α} {en : Ent} (S : St w0 H0 w H L) (hE : Elem P T e (Enc.sz α)) (hi : L[i]? = some en)
    (hx:ev N f x=v) (hy:ev N f y=u) (hX:MR H en e v xs) (hY:Sl H u ys) (h:xapp xs ys=some zs)
    (k:∀ v' en' w',MR H en' e v' zs→St w0 H0 w' H (L.set i en')→WL P N ops rest Q (upd f d v') w'):WL P N ops (⟨some d,.call ⟨.builtin .append,#[x,y],#[T,T]⟩,ty,pos,af,none⟩ :: rest) Q f w:=by
  obtain ⟨v',en',w',hr,hm,hst⟩:=S.appendM (P:=P) (t:=T) (ty:=ty) hE hi hX hY h;refine WL.wz (v:=v') (w':=w') ?_ (k v' en' w' hm hst) <;> simp_all [execOp,resolve,Go.invoke,Go.builtin]
theorem St.settleM (S : St w0 H0 w H L) {en : Ent} {v : Value} {xs : List α} (hi : L[i]? = some en) (hx : MR H en e v xs) :
  ∃ H',H.le H'∧Sl H' v xs∧St w0 H0 w H' (L.eraseIdx i):=by
 rcases hx with ⟨rfl,rfl,rfl⟩ | ⟨g,cap,cur,xsC,rfl,rfl,hnc,hcm,hcs,htk,hxC⟩
 ·refine ⟨H,Hp.le.refl _,Sl.nil,S.drop _ (List.eraseIdx_sublist ..)⟩
 ·obtain ⟨hH,hg⟩:ObjOk w H g _:=S.ents _ (lG hi)
  have S1:St w0 H0 w H (L.set i (.box g e xsC)):=by
   refine S.renew hi rfl rfl hH (fun _ _=>rfl) rfl ⟨rfl,rfl,rfl⟩ ⟨hH,cur,(0,0),hg,⟨cur.toList.drop (xs.length*Enc.sz α),?_⟩,fun _ _ h=>Nat.not_lt_zero _ h.2⟩;rw [← htk,List.take_append_drop]
  have hlt:i<L.length:=(List.getElem?_eq_some_iff.1 hi).1;obtain ⟨H',hle,hHn,hHo,S2⟩:=S1.settle (i:=i) (by rw [List.getElem?_set_self hlt]);refine ⟨H',hle,⟨_,cap,rfl,hnc,hcm,.inr ⟨g,0,xsC,rfl,⟨e,_,rfl,hHn,[],sI⟩,hxC.mono hle⟩⟩,?_⟩
  grind
end
section
variable {P:Program} {N:Frm} {f:Fr} {w w' w0:World} {H0 H:Hp} {L:List Ent} {ops:Array Oper} {rest:List Oper} {Q:Fr→World→Prop} {d:Nat} {od:Option Nat} {ty:TypeId} {pos:String} {af:Array Edge} {g:Option (Nat×Bool)} {α:Type} [Enc α]
theorem St.same (S:St w0 H0 w H L) {H1 H':Hp} (hp:Post w H1 w' H'):St w0 H0 w' H L:=by
 have hb:=hp.below;have hoth:∀ k,k<w.heap.size→w'.heap[k]?=w.heap[k]?:=hb.block;refine ⟨⟨S.post.below.trans ⟨hb.os,hb.tape,hb.output,hb.size,fun k hk=>hoth k (Nat.lt_of_lt_of_le hk S.post.below.size)⟩,S.post.le,S.post.eqb,?_⟩,?_,S.own,S.nodup⟩
 ·intro k T' l hk
  obtain ⟨cs,fz,hc',hr⟩:=S.holds k T' l hk
  grind
 ·intro e he
  exact Ent.ok_keep (S.ents e he) fun k hk=>⟨hoth k (Ent.ok_lt (S.ents e he) hk),rfl⟩
theorem W.callF {k : FuncId} {xs : List Operand} {ats : Array TypeId} {args : List Value} {R : Hp → Value → Prop} {H1 : Hp} (S : St w0 H0 w H L) (ha : xs.map (ev N f) = args) (C : Con P k args w H1 R)
    (K:∀ v w' H',R H' v→St w0 H0 w' H L→WL P N ops rest Q (updo f od v) w'):WL P N ops (⟨od,.call ⟨.value (.func k),xs.toArray,ats⟩,ty,pos,af,none⟩ :: rest) Q f w:=by
  refine WL.enterw (w':=w) (k:=k) (args:=args.toArray) ?_ (Calls.mono C.2 fun e w' ⟨v,H',he,hp,hv⟩=>⟨v,he,K v w' H' hv (S.same hp)⟩);have:(execOp (ev N f) ⟨od,.call ⟨.value (.func k),xs.toArray,ats⟩,ty,pos,af,none⟩)=callFunc k (#[]++xs.toArray.map (ev N f)++#[]):=rfl;rw [this];have e:(#[]++xs.toArray.map (ev N f)++#[])=args.toArray:=by simp [ha]
  rw [e];exact C.1 w
variable {T:TypeId} {b:Nat} {cur:Array Value} {e:TypeId} {i:Nat} {x:Operand}
theorem W.callvF {k : FuncId} {xs : List Operand} {ats : Array TypeId} {args caps : List Value} {R : Hp → Value → Prop} {H1 : Hp} (S : St w0 H0 w H L) (hx : ev N f x = .func (.func k) #[] caps.toArray) (ha : xs.map (ev N f) = args) (C : Con P k (args ++ caps) w H1 R)
    (K:∀ v w' H',R H' v→St w0 H0 w' H L→WL P N ops rest Q (updo f od v) w'):WL P N ops (⟨od,.call ⟨.value x,xs.toArray,ats⟩,ty,pos,af,none⟩ :: rest) Q f w:=by
  obtain ⟨hC1,hC2⟩:=C;refine WL.enterw (w':=w) (k:=k) (args:=(args++caps).toArray) ?_ (Calls.mono hC2 fun e w' ⟨v,H',he,hp,hv⟩=>⟨v,he,K v w' H' hv (S.same hp)⟩) <;> simp_all [execOp,resolve,Deferred.ofValue,Go.invoke]
theorem W.storeMR {T' : TypeId} {a : Operand} {o : Nat} {bb : Bool} {u : Value} {xs : List α} {en : Ent} {cs : List Value} (cs' : List Value) (S : St w0 H0 w H L) (R : MR H en e u xs) (ha : ev N f a = ptr b o) (hx : ev N f x = u) (hi : L[i]? = some (.box b T' cs)) (hT : lay P T = some (bb, 1))
    (ho:o+1≤cs.length) (hc:zEH cs o [u]=cs')
    (k:∀ w',St w0 H0 w' H (L.set i (.box b T' cs'))→WL P N ops rest Q (updo f od undef) w'):WL P N ops (⟨od,.store T a x,ty,pos,af,none⟩ :: rest) Q f w :=
  W.store cs' S ha hx hi hT (by rw [MR.cellsOne R]; rfl) (by rw [MR.cellsOne R]; simp [MR.oneC R]) ho (by rw [MR.cellsOne R]; exact hc) k
theorem St.view_ (S:St w0 H0 w H L) {en:Ent} {v:Value} {xs:List α} (hi:L[i]?=some en) (hx:MR H en e v xs):∃ H1,H.le H1∧Holds w H1∧Sl H1 v xs:=by
 obtain ⟨H1,hle,hs,S1⟩:=S.settleM hi hx;exact ⟨H1,hle,S1.holds,hs⟩
theorem objAt {o:Obj} (S:St w0 H0 w H L) (hi:L[i]?=some (.obj b o)):H b=none∧w.heap[b]?=some o:=S.ents _ (lG hi)
theorem R.loadO {o n : Nat} {vs : List Value} (S : St w0 H0 w H L) (hx : ev N f x = ptr b o) (hi : L[i]? = some (.obj b (.cells cur e (0, 0)))) (hT : lay P T = some (true, n)) (hn : vs.length = n) (hv : (cur.toList.drop o).take n = vs) :
  (execOp (ev N f) ⟨od,.load T x,ty,pos,af,g⟩).run P w=.ok (.value (agg vs)) w:=by
 refine R.loadN hx hT hn fun j v hj=>?_
 grind [Addr.add_lit,zHW,objAt]
theorem R.idxN {i : Operand} {n c sz : Nat} {m : Int} (hx : ev N f x = .slice (some ⟨b, 0, none⟩) n c) (hi : ev N f i = int m) (hE : Elem P T e sz) (h : 0 ≤ m ∧ m < n) :
  (execOp (ev N f) ⟨od,.indexAddr T x i,ty,pos,af,g⟩).run P w=.ok (.value (ptr b (m.toNat*sz))) w:=by
 obtain ⟨ht,inf,z,hinf,_,hsize,_⟩:=hE;simp [execOp,Instr.indexAt,asIntOf,hx,hi,int,run_underlying ht,h,sizeOf,typeInfo,hinf,hsize,Addr.add_lit,ptr]
theorem W.storeO {a : Operand} {o n : Nat} {bb : Bool} {v : Value} (S : St w0 H0 w H L) (ha : ev N f a = ptr b o) (hx : ev N f x = v) (hi : L[i]? = some (.obj b (.cells cur e (0, 0)))) (hT : lay P T = some (bb, n))
    (hn:v.cells.size=n) (h1:v.cells.toList.all Value.oneCell'=true) (ho:o+n≤cur.size)
    (k:∀ w' cur',cur'.toList=cur.toList.take o++v.cells.toList++cur.toList.drop (o+n)→St w0 H0 w' H (L.set i (.obj b (.cells cur' e (0,0))))→WL P N ops rest Q (updo f od undef) w'):WL P N ops (⟨od,.store T a x,ty,pos,af,none⟩ :: rest) Q f w:=by
  obtain ⟨_,h2⟩:=zDF (w:=w) hT;obtain ⟨hH,hb⟩:=objAt S hi;have hlen:v.cells.toList.length=n:=by simpa using hn
  obtain ⟨w',arr',hrun,hoth,hsz,hos,hb',harr⟩:=zDj (P:=P) b o e (0,0) v.cells.toList 0 cur w hb om (fun u hu=>List.all_eq_true.1 h1 u hu) (fun j _ h4 h=>Nat.not_lt_zero _ h.2);refine WL.skipw (w':=w') ?_ (k w' arr' ?_ (S.renew hi rfl rfl hH hoth hsz hos ⟨hH,hb'⟩))
  all_goals simp_all [execOp,Instr.storeAt,Instr.sureAddr,ptr,storeVar]
theorem zU0 {z:Array Value} (hz:z.all Value.oneCell'=true) (n:Nat):∀ v ∈ (Builtin.zeroCells z n).toList,v.oneCell'=true:=by
 grind [Builtin.zeroCells,Nat.mod_lt]
theorem W.clearO {k n c : Nat} (S : St w0 H0 w H L) (hE : Elem P T e (Enc.sz α)) (h1z : ∀ z, zer P e = some z → z.all Value.oneCell' = true) (hx : ev N f x = .slice (some ⟨b, k * Enc.sz α, none⟩) n c) (hi : L[i]? = some (.obj b (.cells cur e (0, 0))))
    (ho:k*Enc.sz α+n*Enc.sz α≤cur.size)
    (K:∀ w' cur',cur'.size=cur.size→cur'.toList.take (k*Enc.sz α)=cur.toList.take (k*Enc.sz α)→St w0 H0 w' H (L.set i (.obj b (.cells cur' e (0,0))))→WL P N ops rest Q (updo f od (.tuple #[])) w') :
    WL P N ops (⟨od,.call ⟨.builtin .clear,#[x],#[T]⟩,ty,pos,af,none⟩ :: rest) Q f w:=by
  obtain ⟨ht,inf,z,hinf,hzz,hsize,hzs,hbytes⟩:=hE;obtain ⟨hH,hb⟩:=objAt S hi;have hz1:z.cells.all Value.oneCell'=true:=by
    have:zer P e=some z.cells.toList:=by grind [zer]
    grind
  by_cases hn:n=0
  · subst hn
    refine WL.wz (v:=.tuple #[]) (w':=w) ?_ (K w cur rfl rfl (by rw [zNc hi]; exact S));simp [execOp,resolve,Go.invoke,Go.builtin,hx,Builtin.clear_,run_underlying ht]
  · have hzl:(Builtin.zeroCells z.cells n).toList.length=n*Enc.sz α:=by grind [size_zeroCells]
    obtain ⟨w',arr',hrun,hoth,hsz,hos,hb',harr⟩:=zDj (P:=P) b (k*Enc.sz α) e (0,0) (Builtin.zeroCells z.cells n).toList 0 cur w hb (by rw [hzl]; omega) (zU0 hz1 n) (fun j _ h4 h=>Nat.not_lt_zero _ h.2);have hzv:(zeroValue e).run P w=.ok z w:=by simp [zeroValue,typeInfo,hinf,hzz]
    refine WL.wz (v:=.tuple #[]) (w':=w') ?_ (K w' arr' ?_ ?_ (S.renew hi rfl rfl hH hoth hsz hos ⟨hH,hb'⟩))
    · simp_all [Builtin.clear_,run_underlying,execOp,resolve,Go.invoke,Go.builtin]
    all_goals grind [lA]
end
def DelI {α:Type} [Enc α] (H:Hp) (xs:List α) (cur:Array Value) (K:List α) (m:Nat):Prop :=
 K.length<m∧m≤xs.length∧∃ kc jc rc tl,cur.toList=kc++(jc++(rc++tl))∧Cells H kc K∧jc.length=(m - K.length)*Enc.sz α∧Cells H rc (xs.drop m)
section
variable {α:Type} [Enc α] {H:Hp} {xs K:List α} {cur cur':Array Value} {m:Nat}
theorem DelI.look (h:DelI H xs cur K m) (hm:m<xs.length):∃ cs,(cur.toList.drop (m*Enc.sz α)).take (Enc.sz α)=cs∧cs.length=Enc.sz α∧Enc.cells H cs xs[m]:=by
 obtain ⟨h1,h2,kc,jc,rc,tl,hl,hk,hj,hr⟩:=h;rw [lD hm] at hr;obtain ⟨cs,r,rfl,hc,_⟩:=hr;have hlen:=Enc.len hc;refine ⟨cs,?_,hlen,hc⟩;have e:(kc++jc).length=m*Enc.sz α:=by
  rw [lA,hk.length,hj,← Nat.add_mul]; congr 1; omega
 grind
theorem DelI.skip (h:DelI H xs cur K m) (hm:m<xs.length):DelI H xs cur K (m+1):=by
 obtain ⟨h1,h2,kc,jc,rc,tl,hl,hk,hj,hr⟩:=h;rw [lD hm] at hr;obtain ⟨cs,r,rfl,hc,hr'⟩:=hr;have hlen:=Enc.len hc;refine ⟨by omega,hm,kc,jc++cs,r,tl,by rw [hl]; simp,hk,?_,hr'⟩;rw [lA,hj,hlen,show m+1 - K.length=(m - K.length)+1 by omega,Nat.add_mul,Nat.one_mul]
theorem DelI.keep (h : DelI H xs cur K m) (hm : m < xs.length) {cs : List Value} (hcs : (cur.toList.drop (m * Enc.sz α)).take (Enc.sz α) = cs) (hc : cur'.toList = cur.toList.take (K.length * Enc.sz α) ++ cs ++ cur.toList.drop (K.length * Enc.sz α + Enc.sz α)) :
  DelI H xs cur' (K++[xs[m]]) (m+1):=by
 obtain ⟨cs',hcs',hlen',hcell⟩:=h.look hm;have:cs'=cs:=by rw [← hcs',hcs]
 subst this;have h0:=h.1;obtain ⟨h1,h2,kc,jc,rc,tl,hl,hk,hj,hr⟩:=h.skip hm;have hkl:=hk.length;have hjl:Enc.sz α≤jc.length:=by
  rw [hj];exact Nat.le_mul_of_pos_left _ om
 refine ⟨by simp; omega,h2,kc++cs',jc.drop (Enc.sz α),rc,tl,?_,hk.append ⟨cs',[],sI,hcell,rfl⟩,?_,hr⟩
 ·grind [List.drop_drop,List.drop_left]
 ·have e3:m+1 - K.length=(m+1 - (K.length+1))+1:=by omega
  simp_all [Nat.succ_mul]
theorem Cells.split {H:Hp}:∀ {a b:List α} {cs:List Value},Cells H cs (a++b)→∃ c1 c2,cs=c1++c2∧Cells H c1 a∧Cells H c2 b
 | [],_,cs,h=>⟨[],cs,rfl,rfl,h⟩
 | x :: a,b,cs,⟨c,r,e,hc,hr⟩=>by
  obtain ⟨c1,c2,rfl,h1,h2⟩:=Cells.split hr;exact ⟨c++c1,c2,by rw [e]; simp,⟨c,c1,rfl,hc,h1⟩,h2⟩
theorem DelI.start {cs:List Value} {i:Nat} (htk:cur.toList.take (xs.length*Enc.sz α)=cs) (hC:Cells H cs xs) (hi:i<xs.length):DelI H xs cur (xs.take i) (i+1):=by
 have hx:xs=xs.take i++([xs[i]]++xs.drop (i+1)):=by
  simp_all
 rw [hx] at hC;obtain ⟨c1,c23,rfl,h1,h23⟩:=Cells.split hC;obtain ⟨c2,c3,rfl,h2,h3⟩:=Cells.split h23;have hl:(xs.take i).length=i:=by grind
 refine ⟨om,hi,c1,c2,c3,cur.toList.drop (xs.length*Enc.sz α),?_,h1,?_,h3⟩
 ·grind [List.take_append_drop]
 ·have:=h2.length
  grind
theorem DelI.front (h:DelI H xs cur K m):∃ kc,cur.toList.take (K.length*Enc.sz α)=kc∧Cells H kc K:=by
 obtain ⟨h1,h2,kc,jc,rc,tl,hl,hk,hj,hr⟩:=h;exact ⟨kc,by rw [hl,← hk.length,List.take_left],hk⟩
end
section
variable {P:Program} {N:Frm} {f:Fr} {w:World} {od:Option Nat} {ty:TypeId} {pos:String} {af:Array Edge} {g:Option (Nat×Bool)}
theorem R.sliceLo {T e : TypeId} {x i : Operand} {b n c sz k : Nat} (hx : ev N f x = .slice (some ⟨b, 0, none⟩) n c) (hi : ev N f i = int k) (hE : Elem P T e sz) (hk : k ≤ n) (hkc : k < c) :
  (execOp (ev N f) ⟨od,.slice T x (some i) none none,ty,pos,af,g⟩).run P w=.ok (.value (.slice (some ⟨b,k*sz,none⟩) (n - k) (c - k))) w:=by
 obtain ⟨ht,inf,z,hinf,_,hsize,_⟩:=hE;have h1:(0:Int)≤k∧(k:Int)≤n:=⟨om,om⟩;simp [execOp,Instr.sliceAt,Instr.slice,Instr.sliceBounds,Instr.sliceBound,asIntOf,hx,hi,int,run_underlying ht,h1,sizeOf,typeInfo,hinf,hsize,Addr.add_lit]
 grind
theorem R.sliceHi {T e : TypeId} {x i : Operand} {b n c sz k : Nat} (hx : ev N f x = .slice (some ⟨b, 0, none⟩) n c) (hi : ev N f i = int k) (hE : Elem P T e sz) (hk : k ≤ c) :
  (execOp (ev N f) ⟨od,.slice T x none (some i) none,ty,pos,af,g⟩).run P w=.ok (.value (.slice (some ⟨b,0,none⟩) k c)) w:=by
 obtain ⟨ht,inf,z,hinf,_,hsize,_⟩:=hE;simp_all [execOp,Instr.sliceAt,Instr.slice,Instr.sliceBounds,Instr.sliceBound,asIntOf,int,run_underlying,sizeOf,typeInfo,Addr.add_lit]
end
def delL {α:Type} (xs:List α) (p:α→Option Bool) (s:List α×Int):Option ((List α×Int) ⊕ List α) :=
 bif decide (s.2<(xs.length:Int)) then (xnth xs s.2).bind fun x=>(p x).bind fun b=>some (.inl (bif b then s.1 else s.1++[x],s.2+1)) else some (.inr s.1)
noncomputable def delR {α:Type} (xs:List α) (p:α→Option Bool) (i:Int):Option (List α) :=
 bif i==-1 then some xs else bif decide (0≤i∧i<(xs.length:Int)) then zAB (delL xs p) (xs.take i.toNat,i+1) else none
end Go.Eng
namespace Go.Eng
open Go
def InQ (fn:Func) (N:Frm) (P:Program) (K:Value→World→Prop):Exit→Fr→World→Prop:=fun e f w=>(e=.ret∨e=.normal)∧∃ v,(results fn (tm N f)).run P w=.ok v w∧K v w
section
variable {P:Program} {N:Frm} {f:Fr} {w w0:World} {H0 H:Hp} {L:List Ent} {ops:Array Oper} {rest:List Oper} {Q:Fr→World→Prop} {d:Nat} {od:Option Nat} {ty:TypeId} {pos:String} {af:Array Edge} {g:Option (Nat×Bool)}
variable {K:Value→World→Prop} {T:TypeId} {b:Nat} {c:Code} {e:TypeId} {fn:Func} {i:Nat} {k:Str} {m:List (Str×Value)} {r1 r2 r3:ResultVar} {v v1 v2 v3:Value} {x:Operand} {xs:List Operand} {y:Operand}
theorem R.mkFuncB {k : FuncId} {ys : List Operand} {bs vs : List Value} (hb : ys.map (ev N f) = bs) (h : xs.map (ev N f) = vs) :
  (execOp (ev N f) ⟨od,.makeFunc (.func k) ys.toArray xs.toArray,ty,pos,af,g⟩).run P w=.ok (.value (.func (.func k) bs.toArray vs.toArray)) w:=by
 simp_all [execOp,Instr.makeFunc]
theorem InR.one {r:ResultVar} (hr:fn.results=#[r]) (h:Res P N f w r v) (hK:K v w):∃ v,(results fn (tm N f)).run P w=.ok v w∧K v w:=by
 refine ⟨v,?_,hK⟩;have:=zA7 h;rw [zEI,hr];simp_all
theorem In.one {r:ResultVar} (hr:fn.results=#[r]) (h:Res P N f w r v) (hK:K v w):InQ fn N P K .ret f w:=⟨.inl rfl,InR.one hr h hK⟩
theorem R.lookX {K E : TypeId} {zc : Value} {o : Bool} (S : St w0 H0 w H L) (hx : ev N f x = mapv b) (hy : ev N f y = str k) (hi : L[i]? = some (.mp b (encm (fun v => v) m)))
    (hT:P.underlying T=some (.map K E)) (hK:P.underlying K=some .string) (hz:((P.info? E).bind (·.zero))=some zc) (h:mget m k zc=(v,o)) :
    (execOp (ev N f) ⟨od,.lookup T x y true,ty,pos,af,g⟩).run P w=.ok (.value (.tuple ⟨[v,boo o]⟩)) w:=by
  grind [R.lookup]
theorem R.lookX1 {K E : TypeId} {zc : Value} {o : Bool} (S : St w0 H0 w H L) (hx : ev N f x = mapv b) (hy : ev N f y = str k) (hi : L[i]? = some (.mp b (encm (fun v => v) m)))
    (hT:P.underlying T=some (.map K E)) (hK:P.underlying K=some .string) (hz:((P.info? E).bind (·.zero))=some zc) (h:mget m k zc=(v,o)) :
    (execOp (ev N f) ⟨od,.lookup T x y false,ty,pos,af,g⟩).run P w=.ok (.value v) w:=by
  grind [R.lookup1]
theorem WP.scope {Q:Exit→Fr→World→Prop} (h:WP P N c (fun e f w=>match e with | .goto _=>False | e=>Q e f w) f w):WP P N (.scope c) Q f w:=by
 refine wp_scope_straight (Code.wp_mono (fun e a w' ⟨f',ha,q⟩=>?_) h);cases e with
 | goto l=>exact q.elim
 | _=>exact ⟨f',ha,q⟩
theorem WP.label {l:Nat} {Q:Exit→Fr→World→Prop} (h:Q .normal f w):WP P N (.label l) Q f w:=wp_label ⟨f,rfl,h⟩
theorem R.eqlMN {T' a b : TypeId} {p : Option Nat} (hx : ev N f x = .map p) (hy : ev N f y = .map none) (hT : P.underlying T = some (.map a b)) :
  (execOp (ev N f) ⟨od,.binOp .eql T x y T',ty,pos,af,g⟩).run P w=.ok (.value (boo p.isNone)) w:=by
 have:=run_eql_map_nil (P:=P) w T a b p hT;simp [execOp,eqGuard,hx,hy,this,boo]
theorem R.neqMN {T' a b : TypeId} {p : Option Nat} (hx : ev N f x = .map p) (hy : ev N f y = .map none) (hT : P.underlying T = some (.map a b)) :
  (execOp (ev N f) ⟨od,.binOp .neq T x y T',ty,pos,af,g⟩).run P w=.ok (.value (boo (!p.isNone))) w:=by
 have:=run_neq_map_nil (P:=P) w T a b p hT;simp [execOp,eqGuard,hx,hy,this,boo]
theorem R.loadO1 {o : Nat} {cur : Array Value} (S : St w0 H0 w H L) (hx : ev N f x = ptr b o) (hi : L[i]? = some (.obj b (.cells cur e (0, 0)))) (hT : lay P T = some (false, 1)) (hv : (cur.toList.drop o).take 1 = [v]) :
  (execOp (ev N f) ⟨od,.load T x,ty,pos,af,g⟩).run P w=.ok (.value v) w:=by
 refine R.load1 hx hT ?_;rw [zHW (objAt S hi).2,← Array.getElem?_toList];have:=congrArg (fun l:List Value=>l[0]?) hv
 grind
def xroom (n:Int):Option Unit:=if 0≤n∧n≤1048576 then some () else none
theorem W.makeRow {α : Type} [Enc α] {n : Int} {zv : Value} {u : Unit} (S : St w0 H0 w H L) (hE : Elem P T e 1) (h1 : Enc.sz α = 1) (hx : ev N f x = int 0) (hy : ev N f y = int n) (hz : zer P e = some [zv])
    (h:xroom n=some u) (K:∀ v w' H',H.le H'→Sl (α:=α) H' v []→St w0 H0 w' H' (.row v e 1 0 :: L)→WL P N ops rest Q (upd f d v) w') :
    WL P N ops (⟨some d,.makeSlice T x y,ty,pos,af,none⟩ :: rest) Q f w:=by
  unfold xroom at h;split at h
  case isFalse=>cases h
  rename_i h0;obtain ⟨ht,inf,zz,hinf,hzz,hsize,hzs,hbytes⟩:=hE;have hzc:zz.cells.toList=[zv]:=by
    unfold zer at hz
    grind
  have hza:zz.cells=#[zv]:=by
    grind
  generalize harr:((Array.range (n.toNat*1)).map (zz.cells[· % zz.cells.size]!))=arr;have hsz:arr.size=n.toNat:=by grind
  have hmax:n.toNat≤maxLen:=by simp only [maxLen]; omega
  have S1:=S.box e arr (0,0) [] arr.toList sI om;obtain ⟨H',hle,hHn,hHo,S2⟩:=S1.settle (i:=0) rfl;simp only [List.eraseIdx_cons_zero] at S2
  have hSl:Sl (α:=α) H' (.slice (some ⟨w.heap.size,0,none⟩) 0 n.toNat) [] :=
    ⟨some ⟨w.heap.size,0,none⟩,n.toNat,rfl,Nat.zero_le _,hmax,.inr ⟨w.heap.size,0,[],rfl,⟨e,_,rfl,hHn,[],sI⟩,rfl⟩⟩
  have hrow:RowOk (w.alloc (.cells arr e)) H' (.slice (some ⟨w.heap.size,0,none⟩) 0 n.toNat) e 1 0 :=
    .inr ⟨w.heap.size,n.toNat,arr,rfl,heap_alloc_new w _,Nat.zero_le _,hmax,om,by rw [hHn]; simp⟩
  have S3:St w0 H0 (w.alloc (.cells arr e)) H' (.row (.slice (some ⟨w.heap.size,0,none⟩) 0 n.toNat) e 1 0 :: L):=by
    refine ⟨S2.post,?_,?_,?_⟩
    · intro x hxm
      rcases List.mem_cons.1 hxm with rfl | hxm
      · exact hrow
      · exact S2.ents x hxm
    · intro x hxm b hb
      rcases List.mem_cons.1 hxm with rfl | hxm
      · simp [Ent.blk,Value.ownBlock] at hb; subst hb; exact S.post.below.size
      · exact S2.own x hxm b hb
    · have:(Ent.row (.slice (some ⟨w.heap.size,0,none⟩) 0 n.toNat) e 1 0).blk=some w.heap.size:=rfl
      rw [List.filterMap_cons,this];exact List.nodup_cons.2 ⟨fun hm=>Nat.lt_irrefl _ (S.lt hm),S.nodup⟩
  refine WL.wz (v:=.slice (some ⟨w.heap.size,0,none⟩) 0 n.toNat) (w':=w.alloc (.cells arr e)) ?_ (K _ _ H' hle hSl S3);have hw:IntKind.i64.wrap n=n:=wr_eq ⟨om,om⟩;have hw0:IntKind.i64.wrap 0=0:=wr_eq ⟨om,om⟩;have hb:¬ ((inf.bytes:Int)*n > 2 ^ 48):=by
    have h1:(inf.bytes:Int)≤512:=by omega
    have:(inf.bytes:Int)*n≤512*1048576:=Int.mul_le_mul h1 h0.2 h0.1 om;omega
  have hroom:¬ (n.toNat*inf.bytes > roomBytes):=by
    have:n.toNat*inf.bytes≤1048576*512:=Nat.mul_le_mul om hbytes;unfold roomBytes; omega
  have e0:ev N f x=.int .i64 0:=hx;have e1:ev N f y=.int .i64 n:=hy;have hne:¬ ((decide (n<0)||decide ((inf.bytes:Int)*n > 2 ^ 48))||decide ((0:Int)<0)||decide ((0:Int) > n))=true:=by
    grind
  simp only [execOp,Instr.makeSlice,run_underlying ht,asInt,asIntOf,e0,e1,typeInfo,hinf,Sem.run_bind,run_program,Result.andThen_ok,Sem.run_pure,hw,hw0];rw [if_neg (by simpa using hne)];simp only [askRoom,hroom,if_false,Sem.run_bind,Sem.run_pure,Result.andThen_ok,sizeOf,typeInfo,run_program,hinf,hsize,zeroValue];simp_all [Array.eq_empty_of_size_eq_zero,newRow]
theorem W.makeMr {α : Type} [Enc α] {n : Int} {z : α} {zv : Value} {xs : List α} (S : St w0 H0 w H L) (hE : Elem P T e 1) (h1 : Enc.sz α = 1) (hx : ev N f x = int n) (hy : ev N f y = int n) (hz : zer P e = some [zv]) (hc : Enc.cells H [zv] z)
    (h:xmake n z=some xs) (K:∀ v en w',MR H en e v xs→St w0 H0 w' H (en :: L)→WL P N ops rest Q (upd f d v) w') :
    WL P N ops (⟨some d,.makeSlice T x y,ty,pos,af,none⟩ :: rest) Q f w:=by
  unfold xmake at h;split at h
  case isFalse=>cases h
  rename_i h0;injection h with h
  subst h;obtain ⟨ht,inf,zz,hinf,hzz,hsize,hzs,hbytes⟩:=hE;have hzc:zz.cells.toList=[zv]:=by
    unfold zer at hz
    grind
  have hza:zz.cells=#[zv]:=by
    grind
  have hrow:((Array.range (n.toNat*1)).map (zz.cells[· % zz.cells.size]!)).toList=List.replicate n.toNat zv:=by
    rw [hza];apply List.ext_getElem?
    grind
  generalize harr:(Array.range (n.toNat*1)).map (zz.cells[· % zz.cells.size]!)=arr at hrow;have hsz:arr.size=n.toNat:=by rw [← harr]; simp
  have S1:=S.new (.cells arr e (0,0)) (.obj w.heap.size (.cells arr e (0,0))) rfl ⟨S.holds.none_of_size (nR _),heap_alloc_new w _⟩;have K1:=K (.slice (some ⟨w.heap.size,0,none⟩) (List.replicate n.toNat z).length n.toNat) _ _ (.inr ⟨w.heap.size,n.toNat,arr,List.replicate n.toNat zv,rfl,rfl,sI,by simp only [maxLen]; omega,by rw [h1,hsz,Nat.mul_one],by rw [h1,hrow]; simp,Cells.rep hc n.toNat⟩) S1;rw [List.length_replicate] at K1;refine WL.wz (v:=.slice (some ⟨w.heap.size,0,none⟩) n.toNat n.toNat) (w':=w.alloc (.cells arr e)) ?_ K1;subst harr;have hw:IntKind.i64.wrap n=n:=wr_eq ⟨om,om⟩;have hb:¬ ((inf.bytes:Int)*n > 2 ^ 48):=by
    have h1:(inf.bytes:Int)≤512:=by omega
    have:(inf.bytes:Int)*n≤512*1048576:=Int.mul_le_mul h1 h0.2 h0.1 om;omega
  have hroom:¬ (n.toNat*inf.bytes > roomBytes):=by
    have:n.toNat*inf.bytes≤1048576*512:=Nat.mul_le_mul om hbytes;unfold roomBytes; omega
  have e0:ev N f x=.int .i64 n:=hx;have e1:ev N f y=.int .i64 n:=hy;have hne:¬ ((decide (n<0)||decide ((inf.bytes:Int)*n > 2 ^ 48))||decide (n<0)||decide (n > n))=true:=by
    grind
  simp only [execOp,Instr.makeSlice,run_underlying ht,asInt,asIntOf,e0,e1,typeInfo,hinf,Sem.run_bind,run_program,Result.andThen_ok,Sem.run_pure,hw];rw [if_neg (by simpa using hne)];simp only [askRoom,hroom,if_false,Sem.run_bind,Sem.run_pure,Result.andThen_ok,sizeOf,typeInfo,run_program,hinf,hsize,zeroValue,hzz];by_cases hn:n.toNat*1=0
  · simp only [hn,if_true,Sem.run_pure,Result.andThen_ok,newRow]
    simp
    grind
  · simp only [hn,if_false,Sem.run_bind,run_program,hinf,hzz,Sem.run_pure,Result.andThen_ok,newRow]
    simp
end
end Go.Eng
