/- A part. -/
import Derived.Test.YtihjhdoinmfddaaGreatDoorDelS
set_option linter.unusedVariables false
set_option linter.unusedSimpArgs false
set_option maxHeartbeats 4000000
set_option maxRecDepth 100000
namespace Go.Proofs
open Go Go.Eng Go.VI Go.Eng.Pure
theorem zZI:EqClo Tryz.prog 125:=mkC Tryz.func125
theorem zYq:EqClo Tryz.prog 209:=mkC Tryz.func209
theorem dfX:SpecOk Tryz.prog 124 (zQa (U:=UU) 9 9 [125,209]):=df_ok zWw (cloC zZI (cloC zYq clo0)) (fun hG p_s p_del _ _ _ _ _ _ _ _ S hj hne RM F r h=>zD4 ⟨hG.1.gl,hG.1,hG.2⟩ p_s p_del S hj hne RM (fun hle hw hA _ x0 rr hr=>F hle hw hA x0 rr hr) h)
theorem dfC {l:List (GE UU)} (h:GamOk Tryz.prog (gal l)):GamOk Tryz.prog (gal (⟨124,zQa 9 9 [125,209]⟩ :: l)):=acons (F:=⟨124,_⟩) dfX h
theorem ctX:SpecOk Tryz.prog 59 (zPR (U:=UU) 79 (.st 278) 87 (fun x=>(zBW x).map fun r=>(r.fAxes,r.fEntries))):=ct_ok fun hG S v x y hR hy=>by
 obtain ⟨cs,rfl,⟨v0,v1,rfl,R0,R1⟩⟩:=hR;obtain ⟨r,hr,rfl⟩:=Option.map_eq_some_iff.1 hy;have C:=zGM ⟨hG.1.gl,hG.1,hG.2⟩ _ S R0 R1 hr;exact ⟨C.1,Calls.mono C.2 fun x w' ⟨v,H',L',hx,hle,hS,u1,u2,e1,hL,hv,h1,h2⟩=>⟨v,H',L',hx,hle,hS,u1,u2,e1,hL,hv,h1,h2⟩⟩
theorem ctC {l:List (GE UU)} (h:GamOk Tryz.prog (gal l)):GamOk Tryz.prog (gal (⟨59,zPR 79 (.st 278) 87 (fun x=>(zBW x).map fun r=>(r.fAxes,r.fEntries))⟩ :: l)):=acons (F:=⟨59,_⟩) ctX h
theorem clC {l:List (GE UU)} (h:GamOk Tryz.prog (gal l)):GamOk Tryz.prog (gal (⟨31,zRq 9⟩ :: l)):=acons (F:=⟨31,_⟩) clX h
noncomputable section
variable {l:List (GE UU)} (h:GamOk Tryz.prog (gal l))
def wI30:WE Tryz.prog UU:=wI 30 h (.e) Tryz.func30
def wI58:WE Tryz.prog UU:=wI 58 h (.e) Tryz.func58
def wI36:WE Tryz.prog UU:=wI 36 h (.e) Tryz.func36
def wI20:WE Tryz.prog UU:=wI 20 h (.e) Tryz.func20
def wI21:WE Tryz.prog UU:=wI 21 h (.e) Tryz.func21
def zWa:WE Tryz.prog UU:=wJ 64 h (.e) [] [⟨0,4,.mr .str,some 9,[]⟩] Tryz.func64 [(1,10,[.t 0,.t 1,.t 2,.t 3,.t 4,.t 5,.t 7,.p 8,.pl 6,.r,.l 9 true,.l 10 false,.l 11 false,.l 12 false])]
def zWQ:WE Tryz.prog UU:=wJ 38 h (.e) [.boo] [⟨0,4,.mr .str,some 9,[]⟩] Tryz.func38
def wSet0:WE Tryz.prog UU:=wJ 143 h (.e) [] [⟨0,3,.int,none,[]⟩,⟨0,4,.mr .str,some 9,[]⟩,⟨0,0,.mp (.st 79),none,[5]⟩] Tryz.func143 [(1,14,[.t 0,.t 1,.t 2,.t 3,.t 4,.t 6,.t 7,.t 8,.t 9,.t 10,.t 11,.l 5 true,.l 12 true,.t 13,.l 14 false,.l 15 false,.l 16 false,.l 17 false]),(3,6,[.t 0,.t 1,.t 2,.t 3,.t 4,.t 5,.l 6 false]),(4,5,[.t 0,.t 1,.t 2,.t 3,.t 4,.l 5 false])]
def wSet:WE Tryz.prog UU:=⟨143,stl3 (wSet0 h).S,zW5 (wSet0 h).ok⟩
def zUv:WE Tryz.prog UU:=wJ 85 h (.e) [.boo] [⟨0,3,.int,none,[]⟩,⟨0,4,.mr .str,some 9,[]⟩,⟨0,0,.mp (.st 79),none,[5]⟩] Tryz.func85
def zTY:WE Tryz.prog UU:=wJ 148 h (.lp ⟨[iS 2 .int,iC 0 3 .int,⟨.cs 0 4,.mr .str,some 9⟩,⟨.cp 0 [5] 0,.mp (.st 79),none⟩],none,[]⟩ (some ⟨[iC 0 3 .int,⟨.cs 0 4,.mr .str,some 9⟩,⟨.cp 0 [5] 0,.mp (.st 79),none⟩],none,[]⟩) false (.n .e (.n (.n .e (.n .e (.n (.n .e (.j ⟨[iS 7 .int],none,[]⟩ false .e)) (.n (.n .e (.j ⟨[iS 2 .int],none,[]⟩ false .e)) .e)))) .e))) [] [⟨0,3,.int,none,[]⟩,⟨0,4,.mr .str,some 9,[]⟩,⟨0,0,.mp (.st 79),none,[5]⟩] Tryz.func148
def wPut:WE Tryz.prog UU:=wJ 94 h (.n .e (.n (.j ⟨[],none,[]⟩ true .e) .e)) [.boo] [⟨0,3,.int,none,[]⟩,⟨0,4,.mr .str,some 9,[]⟩,⟨0,0,.mp (.st 79),none,[5]⟩] Tryz.func94 [(1,10,[.t 0,.l 1 true,.t 2,.t 3,.t 4,.t 6,.t 7,.t 8,.t 9,.l 5 true,.l 10 false,.l 11 false,.l 12 false,.l 13 false,.l 14 false,.l 15 false,.l 16 false,.l 17 false,.l 18 false,.l 19 false,.l 20 false,.l 21 false]),(3,14,[.t 0,.t 1,.t 2,.t 3,.t 4,.t 5,.t 6,.t 7,.t 8,.t 9,.t 10,.t 11,.p 13,.pl 12,.r,.l 14 false])]
def zQk:WE Tryz.prog UU:=wJ 87 h (.e) [.boo] [⟨0,3,.int,none,[]⟩,⟨0,4,.mr .str,some 9,[]⟩,⟨0,0,.mp (.st 79),none,[5]⟩] Tryz.func87 [(5,10,[.t 0,.t 1,.t 2,.t 3,.t 4,.t 5,.t 6,.l 7 true,.t 8,.l 9 true,.l 10 false,.l 11 false]),(10,5,[.t 0,.t 1,.t 2,.t 3,.l 4 true,.l 5 false,.l 6 false])]
end
theorem replC {l:List (GE UU)} (h:GamOk Tryz.prog (gal l)):GamOk Tryz.prog (gal (⟨59,FE.spec (U:=UU) ⟨59,[(.st 79)],[(.st 79)],fun x=>zBW x⟩⟩ :: ⟨87,(zQk (ctC h)).S⟩ :: ⟨59,zPR 79 (.st 278) 87 (fun x=>(zBW x).map fun r=>(r.fAxes,r.fEntries))⟩ :: l)):=fcons c59 (wc zQk (ctC h))
end Go.Proofs
namespace Go.Proofs
open Go Go.RowKit Go.Extern.Stop Go.Stop Go.Extern
open Go.Eng (kr)
theorem zYU (t:Value) (w:World):Calls Tryz.prog 33 #[.nilIface,t] w fun e w'=>e=.returned (.bool false)∧w'=w:=by
 go_enter Tryz.func33,Tryz.ntmps33
 go_wp2
 go_ret
 exact ⟨rfl,rfl⟩
theorem zP3 (t : Addr) (w : World) : (ReflectliteValue.unpack (.iface 73 (.pointer (some t)))).run Tryz.prog w
   =.ok (.agg #[.pointer (some ⟨10,73,none⟩),.pointer (some ⟨w.heap.size,0,none⟩),.int .u64 150]) (w.alloc (.cells #[.pointer (some t)] 73)):=kr
theorem zVf (a : Addr) (w : World) : (ReflectliteValue.methodAny (ReflectliteValue.valueError "reflectlite.Value.Type" 0) (fun t _ _ _ => ReflectliteType.toType t) #[.agg #[.pointer (some ⟨10, 73, none⟩), .pointer (some a), .int .u64 150]]).run Tryz.prog w
   =.ok (.iface 184 (.agg #[.pointer (some ⟨10,73,none⟩)])) w:=kr
theorem zNy (h:Value) (w:World):(Go.method 568 184 (.agg #[h]) "Kind").run Tryz.prog w=.ok (370,h) w:=kr
theorem zVj (w:World):((ReflectliteType.abiMethod fun t=>(fun a:Nat=>Value.int IntKind.u8 (a:Int)) <$> Rtype.kind t) #[.pointer (some ⟨10,73,none⟩)]).run Tryz.prog w=.ok (.int .u8 22) w:=kr
theorem zVT (w:World):((ReflectliteType.abiMethod fun t=>(fun a:Nat=>Value.int IntKind.u8 (a:Int)) <$> Rtype.kind t) #[.pointer (some ⟨10,71,none⟩)]).run Tryz.prog w=.ok (.int .u8 25) w:=kr
theorem zWT (z : Sem Value) (f : TypeId → Addr → Nat → Nat → Sem Value) (v : Value) :
  ReflectliteValue.method z f #[v]=(do match ← ReflectliteValue.parts v with | none=>z | some (t,a,fl)=>f t a fl (fl % 32)):=rfl
theorem zOl (a:Addr) (w:World):(ReflectliteValue.parts (.agg #[.pointer (some ⟨10,73,none⟩),.pointer (some a),.int .u64 150])).run Tryz.prog w=.ok (some (73,a,150)) w:=kr
theorem zSm (a p : Addr) (W : World) (ha : W.cell? a = some (.pointer (some p))) :
  (ReflectliteValue.method (ReflectliteValue.valueError "reflectlite.Value.IsNil" 0) ReflectliteValue.isNil #[.agg #[.pointer (some ⟨10,73,none⟩),.pointer (some a),.int .u64 150]]).run Tryz.prog W=.ok (.bool false) W:=by
 rw [zWT];simp only [Sem.run_bind,zOl,Result.andThen];simp [ReflectliteValue.isNil,loadVar,isAgg,underlying,Tryz.underlying73,ha,Result.andThen]
theorem zNf (h:Value) (w:World):(Go.method 568 184 (.agg #[h]) "Elem").run Tryz.prog w=.ok (381,.agg #[h]) w:=kr
theorem zJn (h:Value) (w:World):(Go.method 568 184 (.agg #[h]) "Implements").run Tryz.prog w=.ok (382,.agg #[h]) w:=kr
theorem zIZ (h:Value) (w:World):(Go.method 568 184 (.agg #[h]) "AssignableTo").run Tryz.prog w=.ok (379,.agg #[h]) w:=kr
theorem zVt (w:World):(ReflectliteType.method ReflectliteType.elem #[.agg #[.pointer (some ⟨10,73,none⟩)]]).run Tryz.prog w=.ok (.iface 184 (.agg #[.pointer (some ⟨10,71,none⟩)])) w:=kr
theorem zMs (w:World):(ReflectliteType.relation "Implements" ReflectliteType.implements_ #[.agg #[.pointer (some ⟨10,71,none⟩)],.iface 184 (.agg #[.pointer (some ⟨10,67,none⟩)])]).run Tryz.prog w=.ok (.bool true) w:=kr
theorem zSC (v:Value) (w:World):(ReflectliteType.typeOf #[.iface 71 v]).run Tryz.prog w=.ok (.iface 184 (.agg #[.pointer (some ⟨10,71,none⟩)])) w:=kr
theorem zMv (w:World):(ReflectliteType.relation "AssignableTo" ReflectliteType.assignableTo #[.agg #[.pointer (some ⟨10,71,none⟩)],.iface 184 (.agg #[.pointer (some ⟨10,71,none⟩)])]).run Tryz.prog w=.ok (.bool true) w:=kr
theorem zP9 (n e : Value) (w : World) : (ReflectliteValue.unpack (.iface 71 (.agg #[n, e]))).run Tryz.prog w
   =.ok (.agg #[.pointer (some ⟨10,71,none⟩),.pointer (some ⟨w.heap.size,0,none⟩),.int .u64 153]) (w.alloc (.cells #[n,e] 71)):=kr
theorem zSR (w:World):(Rtype.elem? 73).run Tryz.prog w=.ok (some 71) w:=kr
theorem zZJ (p:Addr) (w:World):(ReflectliteValue.mk 71 p ReflectliteValue.flagAddr).run Tryz.prog w=.ok (.agg #[.pointer (some ⟨10,71,none⟩),.pointer (some p),.int .u64 409]) w:=kr
theorem zV2 (a p : Addr) (W : World) (ha : W.cell? a = some (.pointer (some p))) :
    (ReflectliteValue.method (ReflectliteValue.valueError "reflectlite.Value.Elem" 0) ReflectliteValue.elem #[.agg #[.pointer (some ⟨10,73,none⟩),.pointer (some a),.int .u64 150]]).run Tryz.prog W
     =.ok (.agg #[.pointer (some ⟨10,71,none⟩),.pointer (some p),.int .u64 409]) W:=by
  rw [zWT];simp only [Sem.run_bind,zOl,Result.andThen];simp [ReflectliteValue.elem,loadVar,isAgg,underlying,Tryz.underlying73,ha,Result.andThen,zSR,zZJ]
theorem zTS (a:Addr) (w:World):(ReflectliteValue.parts (.agg #[.pointer (some ⟨10,71,none⟩),.pointer (some a),.int .u64 409])).run Tryz.prog w=.ok (some (71,a,409)) w:=kr
theorem zTH (a:Addr) (w:World):(ReflectliteValue.parts (.agg #[.pointer (some ⟨10,71,none⟩),.pointer (some a),.int .u64 153])).run Tryz.prog w=.ok (some (71,a,153)) w:=kr
theorem zTQ (w:World):(Rtype.directlyAssignable 71 71).run Tryz.prog w=.ok true w:=kr
theorem zYK (v x : Value) : ReflectliteValue.set #[v, x] = (do
    let (some (dst,a,fl),some (src,b,_)):=(← ReflectliteValue.parts v,← ReflectliteValue.parts x)
      | unsupported (.noEntry "extern/(internal/reflectlite.Value).Set.zeroValue")
    if fl / ReflectliteValue.flagAddr % 2==0 then unsupported (.noEntry "extern/(internal/reflectlite.Value).Set.unaddressable")
    let val ← loadVar src b
    if ← Rtype.directlyAssignable dst src then storeVar dst a val
    else if ← Rtype.implements dst src then
      if (← Rtype.kind src)==20 then
        match val with
        | .nilIface=>unsupported (.noEntry "extern/reflectlite: a nil value of one interface type handed on as a value of another")
        | _=>storeVar dst a val
      else storeVar dst a (.iface src val)
    else panicString ("reflectlite.Set: value of type "++(← Rtype.spelt src)++ " is not assignable to type "++(← Rtype.spelt dst))
    pure (.tuple #[])):=rfl
theorem zY9 (ta b : Addr) (n e : Value) (W W' : World) (hl : (loadVar 71 b).run Tryz.prog W = .ok (.agg #[n, e]) W) (hs : (storeVar 71 ta (.agg #[n, e])).run Tryz.prog W = .ok () W') :
  (ReflectliteValue.set #[.agg #[.pointer (some ⟨10,71,none⟩),.pointer (some ta),.int .u64 409],.agg #[.pointer (some ⟨10,71,none⟩),.pointer (some b),.int .u64 153]]).run Tryz.prog W=.ok (.tuple #[]) W':=by
 rw [zYK];simp only [Sem.run_bind,zTS,zTH,Result.andThen];simp [ReflectliteValue.flagAddr,hl,Result.andThen,zTQ,hs]
open Go.Eng in
theorem zR5 {P:Program} {w:World} {H:Hp} {b T T':Nat} {n e:Value} (hT:lay P T=some (true,2)) (h:BoxOk w H b T' [n,e]):(loadVar T ⟨b,0,none⟩).run P w=.ok (.agg #[n,e]) w:=by
 obtain ⟨h1,h2⟩:=zDF (w:=w) hT;have h3:=run_loadCells_list (P:=P) (w:=w) ⟨b,0,none⟩ [n,e] (fun j v hj=>by rw [Addr.add_lit,Nat.zero_add]; exact h.cell hj);simp only [lC,List.length_nil] at h3;simp [loadVar,h1,h2,h3]
open Go.Eng in
theorem zQR {P:Program} {w w':World} {T:Nat} {ta:Addr} {n e:Value} (hT:lay P T=some (true,2)) (h:(storeCells ta [n,e] 0).run P w=.ok () w'):(storeVar T ta (.agg #[n,e])).run P w=.ok () w':=by
 obtain ⟨h1,h2⟩:=zDF (w:=w) hT;simp [storeVar,h2,Value.cells,h]
open Go.Eng in
theorem zYY {w0 w : World} {H0 H : Hp} {L : List Ent} {q kb : Nat} {o1 o2 n e : Value} (S : St w0 H0 w H L) (hi : L[q]? = some (.box kb 71 [o1, o2])) (hn : n.oneCell' = true) (he : e.oneCell' = true) (hg : w.cell? ⟨1, 0, none⟩ = some (.iface 184 (.agg #[.pointer (some ⟨10, 67, none⟩)]))) :
  Calls Tryz.prog 33 #[.iface 71 (.agg #[n,e]),.iface 73 (.pointer (some ⟨kb,0,none⟩))] w fun ev w'=>ev=.returned (.bool true)∧St w0 H0 w' H (L.set q (.box kb 71 [n,e])):=by
 have S1:=S.box 73 #[.pointer (some ⟨kb,0,none⟩)] (0,0) [.pointer (some ⟨kb,0,none⟩)] [] (by simp) (by omega);have S2:=S1.box 110 #[.pointer (some ⟨10,73,none⟩),.pointer (some ⟨w.heap.size,0,none⟩),.int .u64 150] (0,0) [.pointer (some ⟨10,73,none⟩),.pointer (some ⟨w.heap.size,0,none⟩),.int .u64 150] [] (by simp) (by omega);have S3:=S2.box 110 #[.pointer (some ⟨10,73,none⟩),.pointer (some ⟨w.heap.size,0,none⟩),.int .u64 150] (0,0) [.pointer (some ⟨10,73,none⟩),.pointer (some ⟨w.heap.size,0,none⟩),.int .u64 150] [] (by simp) (by omega);have S4:=S3.box 71 #[n,e] (0,0) [n,e] [] (by simp) (by omega);have hT:lay Tryz.prog 71=some (true,2):=kr
 have n8:=zSm ⟨w.heap.size,0,none⟩ ⟨kb,0,none⟩ _ ((S2.boxOk (i:=1) rfl).cell (o:=0) rfl);have el:=zV2 ⟨w.heap.size,0,none⟩ ⟨kb,0,none⟩ _ ((S3.boxOk (i:=2) rfl).cell (o:=0) rfl);have hi4:∀ a b c d:Ent,(a :: b :: c :: d :: L)[q+4]?=some (.box kb 71 [o1,o2]):=fun a b c d=>by simpa using hi
 obtain ⟨_,arr,fz,hb,⟨r,hr⟩,hf⟩:=S4.boxOk (hi4 _ _ _ _);have harrl:arr.size=2+r.length:=by rw [← Array.length_toList,hr,lA]; rfl
 obtain ⟨w',arr',hrun,hoth,hsz,hos,hb',harr⟩:=zDj (P:=Tryz.prog) kb 0 71 fz [n,e] 0 arr _ hb (by simp; omega) (by grind) (fun j _ h4=>hf j (by simpa using h4));have S5:=S4.stored (hi4 _ _ _ _) (cs':=[n,e]) rfl hoth hsz hos (by
  grind)
 have S6:St w0 H0 w' H (L.set q (.box kb 71 [n,e])):=by
  have:=S5;simp only [List.set_cons_succ] at this;exact ((((this.drop _ (List.sublist_cons_self ..)).drop _ (List.sublist_cons_self ..)).drop _ (List.sublist_cons_self ..)).drop _ (List.sublist_cons_self ..))
 have hl:=zR5 (P:=Tryz.prog) hT (S4.boxOk (i:=0) rfl);have hs:=zQR (P:=Tryz.prog) (ta:=⟨kb,0,none⟩) hT hrun;have st:=zY9 _ _ n e _ _ hl hs;have hz:∀ (x:World) (o:Obj),(x.alloc o).heap.size=x.heap.size+1:=fun x o=>by simp
 rw [hz,hz,hz] at st;have hlt:1<w.heap.size:=by
  rcases Nat.lt_or_ge 1 w.heap.size with h | h
  ·exact h
  ·simp [World.cell?,Array.getElem?_eq_none h] at hg
 have hg2:((w.alloc (.cells #[.pointer (some ⟨kb,0,none⟩)] 73)).alloc (.cells #[.pointer (some ⟨10,73,none⟩),.pointer (some ⟨w.heap.size,0,none⟩),.int .u64 150] 110)).cell? ⟨1,0,none⟩=some (.iface 184 (.agg #[.pointer (some ⟨10,67,none⟩)])):=by
  rw [World.cell?_alloc_lt _ _ ⟨1,0,none⟩ (by simp; omega),World.cell?_alloc_lt _ _ ⟨1,0,none⟩ hlt]; exact hg
 have h51:=@run_callFunc_extern Tryz.prog 51 _ (fun args=>ReflectliteValue.unpack (args.getD 0 (.tuple #[]))) Tryz.func51 kr kr kr kr;have h52:=@run_callFunc_extern Tryz.prog 52 _ (ReflectliteValue.methodAny (ReflectliteValue.valueError "reflectlite.Value.Type" 0) (fun t _ _ _=>ReflectliteType.toType t)) Tryz.func52 kr kr kr kr;have h53:=@run_callFunc_extern Tryz.prog 53 _ (ReflectliteValue.method (ReflectliteValue.valueError "reflectlite.Value.IsNil" 0) ReflectliteValue.isNil) Tryz.func53 kr kr kr kr;have h370:=@run_callFunc_extern Tryz.prog 370 _ (ReflectliteType.abiMethod fun t=>do pure (.int .u8 (← Rtype.kind t))) Tryz.func370 kr kr kr kr;have h381:=@run_callFunc_extern Tryz.prog 381 _ (ReflectliteType.method ReflectliteType.elem) Tryz.func381 kr kr kr kr;have h382:=@run_callFunc_extern Tryz.prog 382 _ (ReflectliteType.relation "Implements" ReflectliteType.implements_) Tryz.func382 kr kr kr kr;have h104:=@run_callFunc_extern Tryz.prog 104 _ ReflectliteType.typeOf Tryz.func104 kr kr kr kr;have h379:=@run_callFunc_extern Tryz.prog 379 _ (ReflectliteType.relation "AssignableTo" ReflectliteType.assignableTo) Tryz.func379 kr kr kr kr;have h105:=@run_callFunc_extern Tryz.prog 105 _ (ReflectliteValue.method (ReflectliteValue.valueError "reflectlite.Value.Elem" 0) ReflectliteValue.elem) Tryz.func105 kr kr kr kr;have h106:=@run_callFunc_extern Tryz.prog 106 _ ReflectliteValue.set Tryz.func106 kr kr kr kr;have tO:=zSC;have mA:=zIZ;have aR:=zMv;have vR:=zP9;have f51:=zP3;have f52:=zVf;have mK:=zNy;have mE:=zNf;have mI:=zJn;have kP:=zVj;have kR:=zVT;have eP:=zVt;have iR:=zMs
 go_enter Tryz.func33,Tryz.ntmps33
 go_wp2
 refine wp_loop_rounds 1 ?_;rw [rounds_succ]
 go_wp2
 go_ret
 exact ⟨rfl,S6⟩
end Go.Proofs
namespace Go.Proofs
open Go Go.Eng Go.VI
theorem ent33 (args:Array Value) (w:World):(callFunc 33 args).run Tryz.prog w=.ok (.enter 33 args) w:=by
 simp_all
theorem asX {U:UV} (hU:U.gl 1=some [.iface 184 (.agg #[.pointer (some ⟨10,67,none⟩)])]):SpecOk Tryz.prog 33 (zQt (U:=U) 71 73) :=
 as_ok ent33 zYU fun _ hgl S hi hn he=>zYY S hi hn he (by
  have:=((hgl.g 1 _ hU).2.cell S.holds (j:=0) rfl)
  simpa [Addr.add] using this)
end Go.Proofs
namespace Go.Proofs
open Go Go.Eng Go.VI Go.Eng.Pure
theorem asC {l:List (GE UU)} (h:GamOk Tryz.prog (gal l)):GamOk Tryz.prog (gal (⟨33,zQt 71 73⟩ :: l)):=acons (F:=⟨33,_⟩) (asX rfl) h
noncomputable section
variable {l:List (GE UU)} (h:GamOk Tryz.prog (gal l))
def wI19:WE Tryz.prog UU:=wI 19 h (.e) Tryz.func19
def wI32:WE Tryz.prog UU:=wI 32 h (.e) Tryz.func32 [(3,9,[.t 0,.t 1,.t 2,.t 4,.l 3 true,.t 5,.t 6,.l 7 true,.l 8 true,.l 9 false]),(7,9,[.t 0,.t 1,.t 2,.t 4,.l 3 true,.t 5,.t 6,.l 7 true,.l 8 true,.l 9 false]),(8,3,[.t 0,.t 1,.l 2 true,.l 3 false,.l 4 false])]
def wI6:WE Tryz.prog UU:=wI 6 h (.e) Tryz.func6
def wI17:WE Tryz.prog UU:=wI 17 h (.e) Tryz.func17
def wI7:WE Tryz.prog UU:=wI 7 h (.e) Tryz.func7
def wI8:WE Tryz.prog UU:=wI 8 h (.e) Tryz.func8
def wI9:WE Tryz.prog UU:=wI 9 h (.e) Tryz.func9
def wI10:WE Tryz.prog UU:=wI 10 h (.e) Tryz.func10
def wOut:WE Tryz.prog UU:=wJ 41 h (.n .e (.n .e (.n .e (.n (.n .e (.j ⟨[iC 4 1 .str],none,[]⟩ false .e)) (.n .e (.n (.n .e (.j ⟨[iS 7 .str],none,[]⟩ false .e)) (.n (.n .e (.j ⟨[iC 4 3 (.sl (.st 138))],none,[]⟩ false .e)) .e))))))) [.str] [] Tryz.func41 [(1,6,[.t 0,.t 1,.t 2,.t 3,.t 4,.t 5,.l 6 false,.l 7 false])]
def zSo:WE Tryz.prog UU:=wJ 22 h (.e) [.st 37,.int] [⟨0,8,.po 89,none,[]⟩,⟨0,4,.mr .str,some 9,[6]⟩] Tryz.func22 [(9,12,[.t 0,.t 1,.t 2,.t 3,.t 4,.t 5,.t 6,.t 7,.t 8,.t 9,.p 11,.pl 10,.r,.l 12 false]),(10,7,[.t 0,.t 1,.t 2,.t 3,.t 4,.t 5,.t 6,.l 7 false,.l 8 false,.l 9 false]),(14,17,[.t 0,.t 1,.t 2,.t 3,.t 4,.t 5,.t 6,.t 7,.t 8,.t 9,.t 10,.t 11,.t 12,.t 13,.t 14,.t 15,.l 16 true,.l 17 false,.l 18 false,.l 19 false]),(20,17,[.t 0,.t 1,.t 2,.t 3,.t 4,.t 5,.t 6,.t 7,.t 8,.t 9,.t 10,.t 11,.t 12,.l 13 true,.t 14,.t 15,.l 16 true,.l 17 false,.l 18 false,.l 19 false]),(21,8,[.t 0,.t 1,.t 2,.t 3,.t 4,.t 5,.t 7,.l 6 true,.l 8 false,.l 9 false])]
def zWt:WE Tryz.prog UU:=wJ 46 h (.n .e (.n .e (.n .e (.n .e (.n .e (.n .e (.n (.n .e (.j ⟨[⟨.cp 0 [6] 3,.int,none⟩,⟨.cp 0 [6] 4,.mr .str,some 9⟩,⟨.cp 0 [6,5] 0,.mp (.st 79),none⟩],none,[]⟩ false (.n (.n .e (.lp ⟨[iS 55 .int,⟨.cp 0 [6] 3,.int,none⟩,⟨.cp 0 [6] 4,.mr .str,some 9⟩,⟨.cp 0 [6,5] 0,.mp (.st 79),none⟩],none,[]⟩ (some ⟨[⟨.cp 0 [6] 3,.int,none⟩,⟨.cp 0 [6] 4,.mr .str,some 9⟩,⟨.cp 0 [6,5] 0,.mp (.st 79),none⟩],none,[]⟩) false .e)) .e))) .e))))))) [.st 37] [⟨0,3,.int,none,[6]⟩,⟨0,4,.mr .str,some 9,[6]⟩,⟨0,0,.mp (.st 79),none,[6,5]⟩] Tryz.func46 [(2,10,[.t 0,.t 1,.t 3,.t 4,.t 5,.t 6,.t 7,.t 8,.t 9,.l 2 true,.l 10 false,.l 11 false,.l 12 false]),(8,8,[.t 0,.t 1,.t 2,.t 3,.t 4,.t 7,.l 5 true,.t 6]),(14,19,[.t 0,.t 1,.t 2,.t 3,.t 4,.t 5,.t 6,.t 7,.t 8,.t 9,.t 10,.t 11,.t 12,.p 17,.pl 13,.pt 14,.pt 15,.pt 16,.r,.l 18 true,.l 19 false]),(16,10,[.t 0,.t 1,.t 2,.t 3,.t 4,.t 5,.t 6,.t 7,.t 8,.t 9,.l 10 false])]
def wFail:WE Tryz.prog UU:=wJ 24 h (.e) [.st 37,.int] [⟨0,8,.po 89,none,[]⟩] Tryz.func24
def wTick:WE Tryz.prog UU:=wJ 25 h (.e) [.int] [⟨0,7,.int,none,[]⟩] Tryz.func25 [(5,11,[.t 0,.t 1,.t 2,.t 3,.t 4,.t 5,.t 6,.t 7,.t 8,.t 9,.t 10,.l 11 false,.l 12 false,.l 13 false,.l 14 false])]
def zQW:WE Tryz.prog UU:=wJ 44 h (.n .e (.n .e (.n .e (.n .e (.n (.n .e (.n .e (.j ⟨[⟨.cp 0 [6] 3,.int,none⟩,⟨.cp 0 [6] 4,.mr .str,some 9⟩,⟨.cp 0 [6,5] 0,.mp (.st 79),none⟩],none,[]⟩ false .e))) .e))))) [.st 37] [⟨0,3,.int,none,[6]⟩,⟨0,4,.mr .str,some 9,[6]⟩,⟨0,0,.mp (.st 79),none,[6,5]⟩] Tryz.func44 [(3,15,[.t 0,.t 1,.t 2,.t 3,.t 4,.t 5,.t 6,.t 7,.t 8,.t 9,.t 10,.t 11,.t 12,.p 14,.pl 13,.r,.l 15 false]),(5,8,[.t 0,.t 1,.t 2,.t 3,.t 4,.t 5,.t 6,.t 7,.l 8 false]),(9,8,[.t 0,.t 1,.t 2,.t 3,.t 4,.t 5,.t 6,.t 7,.l 8 false]),(10,13,[.t 0,.t 1,.t 2,.t 3,.t 4,.t 5,.t 6,.t 7,.t 8,.t 9,.t 10,.t 11,.t 12,.l 13 false]),(11,15,[.t 0,.t 1,.t 2,.t 3,.t 4,.t 5,.t 6,.t 7,.t 8,.t 9,.t 10,.t 11,.t 12,.t 13,.l 14 true,.l 15 false,.l 16 false])]
def zSp:WE Tryz.prog UU:=wJ 23 h (.e) [.st 37,.int] [⟨0,8,.po 89,none,[]⟩,⟨0,3,.int,none,[6]⟩,⟨0,4,.mr .str,some 9,[6]⟩,⟨0,0,.mp (.st 79),none,[6,5]⟩] Tryz.func23
def wI12:WE Tryz.prog UU:=wI 12 h (.e) Tryz.func12
def wDo:WE Tryz.prog UU:=wJ 11 h (.e) [.st 37,.int] [⟨0,8,.po 89,none,[]⟩,⟨0,7,.int,none,[]⟩,⟨0,3,.int,none,[6]⟩,⟨0,4,.mr .str,some 9,[6]⟩,⟨0,0,.mp (.st 79),none,[6,5]⟩] Tryz.func11
end
end Go.Proofs
namespace Go.Eng.Pure
open Go Go.Eng Go.VI
abbrev Tabs:=List (Str×GTable)
abbrev zT:GTable:=⟨[],[]⟩
abbrev zE:GEntry:=⟨[],[],[],[],[],[],0,0⟩
noncomputable def zE4 (order:List Str) (key:Str):Option (List Str) :=
 (xapp (zDE order key) ([key]:List Str)).bind fun o=>some o
noncomputable def zJc (order:List Str) (m:Tabs) (key:Str):Option (Bool×List Str) :=
 (bif !(mget m key zT).2 then
  some (false,order)
 else
  (zE4 order key).bind fun o=>some (true,o))
noncomputable def zEV (used:Int) (order:List Str) (m:Tabs) (key:Str) (t:GTable):Option (Int×List Str×Tabs) :=
 (zHB t).bind fun a =>
 (zHB (mget m key zT).1).bind fun b =>
 (bif decide (0<(t.fEntries.length:Int)) then
  some (wr (used+wr (a - b)),order,mset m key t)
 else
  some (wr (used+wr (a - b)),zDE order key,mdel m key))
noncomputable def zEF (used:Int) (order:List Str) (m:Tabs) (key:Str):Option (Bool×Int×List Str×Tabs) :=
 (bif !(mget m key zT).2 then
  some (false,used,order,m)
 else
  (zEV used order m key zT).bind fun s=>some (true,s.1,s.2.1,s.2.2))
noncomputable def zIU (budget tables:Int) (key:Str):(Int×Int×List Str×Tabs)→Option ((Int×Int×List Str×Tabs) ⊕ (Int×List Str×Tabs))
 | (keep,used,order,m) =>
  (bif (decide (budget<used))||(decide (tables<(order.length:Int))) then
   (xnth order 0).bind fun _ =>
   (order[(0:Int).toNat]?).bind fun oldest =>
   (bif (oldest==key)&&(keep==0) then some (1:Int) else some 0).bind fun i =>
   (bif (oldest==key)&&(i==0) then some (wr (keep - 1)) else some keep).bind fun keep' =>
   (zDD (mget m oldest zT).1 i).bind fun t =>
   (zEV used order m oldest t).bind fun s =>
   some (.inl (keep',s.1,s.2.1,s.2.2))
  else
   some (.inr (used,order,m)))
noncomputable def zEG (budget tables:Int) (used:Int) (order:List Str) (m:Tabs) (key:Str) (keep:Int):Option (Int×List Str×Tabs) :=
 (zAB (zIU budget tables key) (keep,used,order,m)).bind fun r=>some (r.1,r.2.1,r.2.2)
noncomputable def zLw (budget variants tables:Int) (used:Int) (order:List Str) (m:Tabs) (key:Str) (e:GEntry) (axes:List GAxis):Option (Bool×Int×List Str×Tabs) :=
  ((zGC e).bind fun n =>
   (bif decide (budget<n)==false then
     (bif decide (0<(axes.length:Int))==true then
       (zBZ axes).bind fun v =>
       (bif !v then some (.inr (false,used,order,m)) else some (.inl ()))
     else
       some (.inl ()))
   else
     some (.inr (false,used,order,m)))).bind fun (j:Unit ⊕ (Bool×Int×List Str×Tabs))=>match j with
  | .inr e=>some e
  | .inl _ =>
    (zJt (mget m key zT).1 e axes variants).bind fun t =>
    (zEV used order m key t).bind fun s =>
    (zE4 s.2.1 key).bind fun o =>
    (zEG budget tables s.1 o s.2.2 key (wr ((t.fEntries.length:Int) - 1))).bind fun s =>
    some (true,s.1,s.2.1,s.2.2)
noncomputable def zHd (budget tables:Int) (used:Int) (order:List Str) (m:Tabs) (key:Str) (i:Int) (e:GEntry):Option (Bool×Int×List Str×Tabs) :=
 (bif ((!(mget m key zT).2)||(decide (i<0)))||(decide (((mget m key zT).1.fEntries.length:Int)≤i)) then
  some (false,used,order,m)
 else
  (xnth (mget m key zT).1.fEntries i).bind fun old =>
  (zGC (⟨old.fKeys,old.fVary,old.fSnapshot,e.fReason,e.fFields,e.fBody,e.fRequested,e.fReceived⟩:GEntry)).bind fun n =>
  (bif decide (budget<n) then
   (zDD (mget m key zT).1 i).bind fun t =>
   (zEV used order m key t).bind fun s=>some (false,s.1,s.2.1,s.2.2)
  else
   ((zBW (mget m key zT).1).map fun r=>(r.fAxes,r.fEntries)).bind fun c =>
   (zDC (⟨old.fKeys,old.fVary,old.fSnapshot,e.fReason,e.fFields,e.fBody,e.fRequested,e.fReceived⟩:GEntry)).bind fun ce =>
   (xnth c.2 i).bind fun _ =>
   (c.2[i.toNat]?).bind fun _ =>
   (zEV used order m key (⟨c.1,c.2.set i.toNat ce⟩:GTable)).bind fun s =>
   (zE4 s.2.1 key).bind fun o =>
   (zEG budget tables s.1 o s.2.2 key i).bind fun s =>
   some (true,s.1,s.2.1,s.2.2)))
noncomputable def zFI (name:Str) (q:GRequest) (u:GURI):Option Str :=
 (zEj q name).bind fun q1 =>
 (bif u.fHasQuery then
  (xcat [63] u.fQuery).bind fun a =>
  (xcat u.fPath a).bind fun b=>some b
 else
  some u.fPath).bind fun tg =>
 (bif u.fPort !=80 then
  (zBa u.fPort).bind fun d =>
  (xcat [58] d).bind fun a =>
  (xcat u.fHost a).bind fun b=>some b
 else
  some u.fHost).bind fun au =>
 (zAv q1.fFields [72,111,115,116]).bind fun h =>
 (bif h then
  (zFu q1.fFields [72,111,115,116] au).bind fun l=>some l
 else
  (xapp ([⟨[72,111,115,116],au⟩]:List GField) q1.fFields).bind fun l=>some l).bind fun l =>
 (zB8 (⟨q1.fMethod,tg,q1.fMinor,l,q1.fBody⟩:GRequest)).bind fun s=>some s
noncomputable def zEl (name:Str) (q:GRequest) (u:GURI) (w:Option Gproxy_exchange) (order:List Str) (x:Gproxy_exchange):Option (GOutput×Int×Option Gproxy_exchange×List Str) :=
 (zFI name q u).bind fun a =>
 (bif a==[] then
  (zBK q 400).bind fun o=>some (o,0,w,order)
 else
  some ((⟨[],a⟩:GOutput),0,some x,order))
noncomputable def zD9 (cf:GConfig) (now:Int) (w:Option Gproxy_exchange) (order:List Str) (m:Tabs) (s:Str):Option (GOutput×Int×Option Gproxy_exchange×List Str) :=
 (bif !w.isNone then
  some ((⟨[],[]⟩:GOutput),12,w,order)
 else
  (zCI s).bind fun r =>
  (bif (r.2.2 !=0)||(r.2.1 !=(s.length:Int)) then
   (zFe r.2.2).bind fun st =>
   (zBK (⟨[71,69,84],[],0,[],[]⟩:GRequest) st).bind fun o=>some (o,0,w,order)
  else
   (zAt r.1.fFields [72,111,115,116]).bind fun h =>
   (zFc r.1.fTarget h.1).bind fun u =>
   (bif (u.2 !=0)||(r.1.fMethod==[67,79,78,78,69,67,84]) then
    (zFe u.2).bind fun st =>
    (zBK (⟨[71,69,84],[],0,[],[]⟩:GRequest) st).bind fun o=>some (o,0,w,order)
   else
    (zGG u.1).bind fun key =>
    (zBW (mget m key zT).1).bind fun t =>
    (zFy t r.1 now cf).bind fun d =>
    (bif d.fKind==1 then
     (zJc order m key).bind fun o =>
     (xnth t.fEntries d.fIndex).bind fun e =>
     (zCt e now cf.fName).bind fun x =>
     (zHP r.1 x).bind fun out=>some (out,0,w,o.2)
    else bif d.fKind==4 then
     (zBK r.1 504).bind fun o=>some (o,0,w,order)
    else bif d.fKind==5 then
     (zBK r.1 406).bind fun o=>some (o,0,w,order)
    else bif d.fKind==2 then
     (xnth t.fEntries d.fIndex).bind fun e =>
     (zCO r.1 e).bind fun v =>
     (zFI cf.fName v u.1).bind fun a =>
     (bif a !=[] then
      some ((⟨[],a⟩:GOutput),0,some (⟨r.1,u.1,key,now,true,d.fIndex,e⟩:Gproxy_exchange),order)
     else
      zEl cf.fName r.1 u.1 w order (⟨r.1,u.1,key,now,false,d.fIndex,e⟩:Gproxy_exchange))
    else
     zEl cf.fName r.1 u.1 w order (⟨r.1,u.1,key,now,false,0,zE⟩:Gproxy_exchange)))))
noncomputable def zGD (w:Option Gproxy_exchange) (timeout:Bool):Option (GOutput×Int×Option Gproxy_exchange) :=
 (bif w.isNone then
  some ((⟨[],[]⟩:GOutput),12,w)
 else
  w.bind fun x =>
  (bif timeout then
   (zBK x.fq 504).bind fun o=>some (o,0,none)
  else
   (zBK x.fq 502).bind fun o=>some (o,0,none)))
noncomputable def zK7 (now n:Int):Option (Int×Int) :=
 (bif decide (n<0) then
  some (10,now)
 else
  some (0,wr (now+(if wr (1099511627776 - now)<n then wr (1099511627776 - now) else n))))
noncomputable def zHv (cf:GConfig) (now:Int) (w:Option Gproxy_exchange) (used:Int) (order:List Str) (m:Tabs) (r:GResponse):Option (GOutput×Int×List Str×Tabs) :=
 w.bind fun x =>
 (zE7 x.fentry r).bind fun b =>
 (bif !b then
  w.bind fun x =>
  (zBK x.fq 502).bind fun o=>some (o,used,order,m)
 else
  w.bind fun x =>
  w.bind fun x2 =>
  (zFH x.fentry r x2.fsent now).bind fun e =>
  (zDo e cf.fName).bind fun sb =>
  (bif !sb then
   w.bind fun x =>
   (zEF used order m x.fkey).bind fun s =>
   w.bind fun x =>
   (zBK x.fq 502).bind fun o=>some (o,s.2.1,s.2.2.1,s.2.2.2)
  else
   (zAc e.fFields).bind fun c =>
   (bif c.fNoStore||c.fPrivate then
    w.bind fun x =>
    (zEF used order m x.fkey).bind fun s=>some (s.2.1,s.2.2.1,s.2.2.2)
   else
    w.bind fun x =>
    w.bind fun x2 =>
    (zHd cf.fBytes cf.fTables used order m x.fkey x2.findex e).bind fun s=>some (s.2.1,s.2.2.1,s.2.2.2)).bind fun s =>
   w.bind fun x =>
   (zCt e now cf.fName).bind fun y =>
   (zHP x.fq y).bind fun o=>some (o,s.1,s.2.1,s.2.2)))
noncomputable def zG5 (l:List Str):(Int×Int×List Str×Tabs)→Option ((Int×Int×List Str×Tabs) ⊕ (Int×List Str×Tabs))
 | (i,used,order,m) =>
  (bif decide (i<(l.length:Int)) then
   (xnth l i).bind fun k =>
   (zEF used order m k).bind fun s =>
   some (.inl (wr (i+1),s.2.1,s.2.2.1,s.2.2.2))
  else
   some (.inr (used,order,m)))
noncomputable def zJo (cf:GConfig) (now:Int) (w:Option Gproxy_exchange) (used:Int) (order:List Str) (m:Tabs) (r:GResponse):Option (GOutput×Int×List Str×Tabs) :=
 (zFZ r.fFields).bind fun a =>
 (zKz a r.fMinor cf.fName).bind fun l =>
 w.bind fun x =>
 (zFU x.fq (⟨1,r.fStatus,r.fReason,l,r.fBody⟩:GResponse)).bind fun text =>
 (bif text==[] then
  w.bind fun x =>
  (zBK x.fq 502).bind fun o=>some (o,used,order,m)
 else
  w.bind fun x =>
  (zC2 x.fq.fMethod r.fStatus).bind fun iv =>
  (bif iv then
   w.bind fun x =>
   (zFD x.fu r).bind fun l =>
   (zAB (zG5 l) (0,used,order,m)).bind fun s=>some (s.1,s.2.1,s.2.2)
  else
   some (used,order,m)).bind fun s =>
  w.bind fun x =>
  (zDP x.fq r).bind fun st =>
  (bif st then
   w.bind fun x =>
   w.bind fun x2 =>
   (zIu x.fq r x2.fsent now).bind fun e =>
   (zDo e.1 cf.fName).bind fun sb =>
   (bif sb then
    w.bind fun x =>
    (zLw cf.fBytes cf.fVariants cf.fTables s.1 s.2.1 s.2.2 x.fkey e.1 e.2).bind fun z=>some ((⟨text,[]⟩:GOutput),z.2.1,z.2.2.1,z.2.2.2)
   else
    some ((⟨text,[]⟩:GOutput),s.1,s.2.1,s.2.2))
  else
   some ((⟨text,[]⟩:GOutput),s.1,s.2.1,s.2.2)))
noncomputable def zFT (cf:GConfig) (now:Int) (w:Option Gproxy_exchange) (used:Int) (order:List Str) (m:Tabs) (s:Str):Option (GOutput×Int×Option Gproxy_exchange×Int×List Str×Tabs) :=
 (bif w.isNone then
  some ((⟨[],[]⟩:GOutput),12,w,used,order,m)
 else
  w.bind fun x =>
  (zBz s x.fq.fMethod true).bind fun r =>
  (bif ((r.2.2 !=0)||(r.2.1 !=(s.length:Int)))||(decide (r.1.fStatus<200)) then
   w.bind fun x =>
   (zBK x.fq 502).bind fun o=>some (o,0,none,used,order,m)
  else
   (bif r.1.fStatus==304 then w.bind fun x=>some x.fvalidated else some false).bind fun b =>
   (bif b then
    (zHv cf now w used order m r.1).bind fun z=>some (z.1,0,none,z.2.1,z.2.2.1,z.2.2.2)
   else
    (bif r.1.fStatus==304 then
     w.bind fun x =>
     (zCG x.fq).bind fun c =>
     (bif !c then
      some true
     else
      w.bind fun x =>
      (bif x.fq.fMethod !=[71,69,84] then w.bind fun x=>some (x.fq.fMethod !=[72,69,65,68]) else some false).bind fun b97 =>
      some b97).bind fun b98 =>
     some b98
    else
     some false).bind fun b =>
    (bif b then
     w.bind fun x =>
     (zBK x.fq 502).bind fun o=>some (o,0,none,used,order,m)
    else
     (zJo cf now w used order m r.1).bind fun z=>some (z.1,0,none,z.2.1,z.2.2.1,z.2.2.2)))))
noncomputable def zNX (cf:GConfig) (now:Int) (w:Option Gproxy_exchange) (used:Int) (order:List Str) (m:Tabs) (st:Gvariantproxykeep_Step):Option (GOutput×Int×Option Gproxy_exchange×Int×Int×List Str×Tabs) :=
 (zBF st).bind fun k =>
 (bif k==0 then
  (zD9 cf now w order m st.fText).bind fun r=>some (r.1,r.2.1,r.2.2.1,now,used,r.2.2.2,m)
 else bif k==1 then
  (zFT cf now w used order m st.fText).bind fun r=>some (r.1,r.2.1,r.2.2.1,now,r.2.2.2.1,r.2.2.2.2.1,r.2.2.2.2.2)
 else bif k==2 then
  (zGD w false).bind fun r=>some (r.1,r.2.1,r.2.2,now,used,order,m)
 else bif k==3 then
  (zGD w true).bind fun r=>some (r.1,r.2.1,r.2.2,now,used,order,m)
 else
  (zK7 now st.fN).bind fun r=>some ((⟨[],[]⟩:GOutput),r.1,w,r.2,used,order,m))
noncomputable def zJC {ρ:Type} (cf:GConfig) (kE kO:Option ρ):Option ρ :=
 (bif (((((decide (cf.fBytes<1))||(decide (100000000<cf.fBytes)))||(decide (cf.fVariants<1)))||(decide (64<cf.fVariants)))||(decide (cf.fTables<1)))||(decide (1000<cf.fTables)) then
  kE
 else
  ((zAZ cf.fName).bind fun t=>some (!t)).bind fun b =>
  (bif (b||(decide (100<(cf.fName.length:Int))))||(cf.fRefuse&&(!cf.fStrict)) then
   kE
  else
   kO))
noncomputable def law32_awake32:Option Bool :=
  law32_config.bind fun cf =>
  zJC cf (some false)
    ((zD9 cf 0 none [] [] [71,69,84,32,47,97,32,72,84,84,80,47,49,46,49,13,10,72,111,115,116,58,32,104,13,10,13,10]).bind fun a =>
     (zFT cf 0 a.2.2.1 0 a.2.2.2 [] [72,84,84,80,47,49,46,49,32,50,48,48,32,79,75,13,10,67,97,99,104,101,45,67,111,110,116,114,111,108,58,32,109,97,120,45,97,103,101,61,54,48,13,10,67,111,110,116,101,110,116,45,76,101,110,103,116,104,58,32,49,13,10,13,10,120]).bind fun b =>
     (zK7 0 5).bind fun h =>
     (zD9 cf h.2 b.2.2.1 b.2.2.2.2.1 b.2.2.2.2.2 [71,69,84,32,47,97,32,72,84,84,80,47,49,46,49,13,10,72,111,115,116,58,32,104,13,10,13,10]).bind fun c =>
     some ((((((((a.2.1==0)&&(b.2.1==0))&&(h.1==0))&&(c.2.1==0))&&(a.1.fToOrigin !=[]))&&(b.1.fToClient !=[]))&&(c.1.fToOrigin==[]))&&(c.1.fToClient==[72,84,84,80,47,49,46,49,32,50,48,48,32,79,75,13,10,67,97,99,104,101,45,67,111,110,116,114,111,108,58,32,109,97,120,45,97,103,101,61,54,48,13,10,65,103,101,58,32,53,13,10,86,105,97,58,32,49,46,49,32,112,13,10,67,111,110,116,101,110,116,45,76,101,110,103,116,104,58,32,49,13,10,13,10,120])))
noncomputable def zDe (cf:GConfig) (l:List Gvariantproxykeep_Step):(Int×Option Gproxy_exchange×Int×Int×List Str×Tabs)→Option ((Int×Option Gproxy_exchange×Int×Int×List Str×Tabs) ⊕ (Unit ⊕ Bool))
  | (i,w,now,used,order,m) =>
    (bif decide (i<(l.length:Int)) then
      (xapp ([]:List Str) order).bind fun keys =>
      (xnth l i).bind fun st =>
      (zNX cf now w used order m st).bind fun r =>
      (xnth l i).bind fun st1 =>
      (zBF st1).bind fun k1 =>
      (bif (k1==0)&&(!w.isNone) then
        some true
      else
        (xnth l i).bind fun st2 =>
        (zBF st2).bind fun k2 =>
        (bif decide (0<k2) then
          (xnth l i).bind fun st3 =>
          (zBF st3).bind fun k3 =>
          some (decide (k3<4))
        else
          some false).bind fun b80 =>
        some (b80&&(!(!w.isNone)))).bind fun refused =>
      (xnth l i).bind fun st4 =>
      (zBF st4).bind fun k4 =>
      (bif (decide (k4<4))&&(refused !=(r.2.1==12)) then
        some true
      else
        (xnth l i).bind fun st5 =>
        (zBF st5).bind fun k5 =>
        some (((decide (k5<4))&&(!refused))&&(r.2.1 !=0))).bind fun b113 =>
      (bif b113 then
        some (.inr (.inr false))
      else
        (bif r.2.1 !=0 then
          (bif !((r.1.fToClient==[])&&((r.1.fToOrigin==[])&&true)) then
            some true
          else
            some ((!r.2.2.1.isNone) !=(!w.isNone))).bind fun b125 =>
          (bif b125 then some true else some (r.2.2.2.2.1 !=used)).bind fun b131 =>
          (bif b131 then
            some true
          else
            (xapp ([]:List Str) r.2.2.2.2.2.1).bind fun ks =>
            (zDu ks keys).bind fun s =>
            some (!s)).bind fun b138 =>
          (bif b138 then some true else some (r.2.2.2.1 !=now)).bind fun b144 =>
          some b144
        else
          some false).bind fun b145 =>
        (bif b145 then
          some (.inr (.inr false))
        else
          ((bif (r.2.1 == 0) == true then
             (xnth l i).bind fun st6 =>
             (zBF st6).bind fun k6 =>
             (bif (decide (k6<4))==true then
               (bif (((r.1.fToOrigin==[])==(r.1.fToClient==[]))==false) then
                 (bif (!r.2.2.1.isNone) !=(r.1.fToOrigin !=[]) then some (.inr (.inr (.inr false))) else some (.inl ()))
               else
                 some (.inr (.inr (.inr false))))
             else
               some (.inl ()))
           else
             some (.inl ())).bind fun (j:Unit ⊕ ((Int×Option Gproxy_exchange×Int×Int×List Str×Tabs) ⊕ (Unit ⊕ Bool)))=>match j with
          | .inr e=>some e
          | .inl _ =>
            some (.inl (wr (i+1),r.2.2.1,r.2.2.2.1,r.2.2.2.2.1,r.2.2.2.2.2.1,r.2.2.2.2.2.2)))))
    else
      some (.inr (.inl ())))
noncomputable def zCX (cf:GConfig) (l:List Gvariantproxykeep_Step):Option Bool :=
 (zHp l).bind fun a =>
 (bif !a then
  some true
 else
  (zET cf).bind fun b=>some (!b)).bind fun c =>
 (bif c then
  some true
 else
  zJC cf (some false)
   ((zAB (zDe cf l) (0,none,0,0,[],[])).bind fun r=>match r with
   | .inr e=>some e
   | .inl _=>law32_awake32.bind fun z=>some z))
end Go.Eng.Pure
namespace Go.Proofs
open Go Go.Eng Go.VI Go.Eng.Pure
theorem e14:FK ⟨14,[],[.boo],fun _=>law32_awake32⟩:=mk (wc wTick (wc zSp (wc zWt (wc wPut (wc zQW (replC (wc zTY (wc zUv (wc wSet (wc zSo (wc wOut (wc zWQ (wc zWa (wc wI36 (wc wI58 (wc wI30 (wc wI32 (wc wI19 (wc wI6 (wc wI17 (fcons c159 (fcons c158 (fcons c93 (fcons c92 (fcons e91 (fcons c90 (fcons c65 (fcons c88 (fcons c89 (fcons c45 (fcons c110 (fcons c147 (fcons c146 (fcons c86 (fcons c208 (fcons c84 (fcons c83 (fcons c82 (fcons e43 (fcons c72 (fcons c71 (fcons c70 (fcons c69 (fcons c68 (fcons e42 (fcons c39 (fcons c40 (dfC (fcons c37 (fcons c59 (fcons c35 (fcons c34 (asC (fcons e50 (fcons c49 (fcons c48 (fcons e47 (fcons c18 (fcons c27 anil))))))))))))))))))))))))))))))))))))))))))))))))))))))))))) (.e) Tryz.func14
theorem e3:FK ⟨3,[.st 23,.sl (.st 41)],[.boo],fun x=>zCX x.1 x.2⟩:=mk (wc wDo (wc wTick (wc wFail (wc zSp (wc zWt (wc wPut (wc zQW (replC (wc zTY (wc zUv (wc wSet (wc zSo (wc wOut (wc zWQ (wc zWa (wc wI36 (wc wI58 (wc wI32 (wc wI12 (wc wI10 (wc wI9 (wc wI21 (wc wI8 (wc wI20 (wc wI30 (wc wI7 (wc wI19 (wc wI6 (wc wI17 (fcons e14 (fcons c13 (fcons c159 (fcons c158 (fcons c93 (fcons c92 (fcons e91 (fcons c90 (fcons c65 (fcons c88 (fcons c89 (fcons c45 (fcons c110 (fcons c147 (fcons c146 (fcons c86 (fcons c208 (fcons c84 (fcons c83 (fcons c82 (fcons e43 (fcons c72 (fcons c71 (fcons c70 (fcons c69 (fcons c68 (fcons e42 (fcons c39 (fcons c40 (dfC (fcons c37 (fcons c59 (fcons c35 (fcons c34 (asC (fcons e50 (fcons c49 (fcons c48 (fcons e47 (clC (fcons c18 (fcons c5 (fcons c4 anil)))))))))))))))))))))))))))))))))))))))))))))))))))))))))))))))))))))))) (.n .e (.n .e (.n .e (.n .e (.n (.n .e (.lp ⟨[iS 7 .int,iC 5 8 (.po 89),iC 5 7 .int,⟨.cp 5 [6] 3,.int,none⟩,⟨.cp 5 [6] 4,.mr .str,some 9⟩,⟨.cp 5 [6,5] 0,.mp (.st 79),none⟩],none,[]⟩ (some ⟨[],some [],[.cs 5 0,.cp 5 [6] 0,.cp 5 [6,5] 0]⟩) true (.n .e (.n (.n (.n .e (.n .e (.n .e (.n .e (.n .e (.j ⟨[],none,[]⟩ true .e)))))) .e) .e)))) .e))))) Tryz.func3 [(16,24,[.t 0,.t 1,.t 2,.t 3,.t 4,.t 5,.t 6,.l 7 true,.t 8,.t 9,.t 10,.t 11,.t 12,.t 13,.t 14,.t 15,.t 16,.t 17,.t 18,.t 19,.t 21,.t 22,.t 23,.l 20 true,.l 24 false,.l 25 false,.l 26 false])]
end Go.Proofs
namespace Go.Eng.Pure
open Go Go.Eng
def smAx (l:List GAxis):Prop:=l.length≤1000000∧∀ a ∈ l,a.fName.length≤1000000
def smKy (k:List Str):Prop:=∀ v ∈ k,v.length≤1000000
def smKs (l:List (List Str)):Prop:=l.length≤1000000∧∀ k ∈ l,k.length≤1000000∧smKy k
def smTb (t:GTable):Prop:=smAx t.fAxes∧(∀ a ∈ t.fAxes,a.fValues.length≤1000000)∧t.fEntries.length≤1000000∧∀ e ∈ t.fEntries,smEn e∧smKs e.fKeys
theorem zL8 (l:List Str) (v:Str) (hl:l.length≤1073741824):zAr l v=some (l.contains v):=by
 have key:∀ (k n:Nat),n+k=l.length→∃ r,zAB (zAq l v) (n:Int)=some r∧(match r with | .inr i=>decide (0≤i) | .inl _=>false)=(l.drop n).contains v:=by
  intro k
  induction k with
  | zero =>
   simp_all [zAC,zAq]
  | succ k ih =>
   intro n hn;have hlt:n<l.length:=by omega
   have hb:zAq l v (n:Int)=some (if v==l[n] then .inr (.inr (n:Int)) else .inl ((n+1:Nat):Int)):=by
    grind [zAq,zAF,wrs]
   rw [lD hlt,List.contains_cons];cases hp:v==l[n] with
   | true =>
    simp_all [zAC]
   | false =>
    rw [hp,if_neg sI] at hb;obtain ⟨r,h1,h2⟩:=ih (n+1) om
    grind [zAH]
 obtain ⟨r,h1,h2⟩:=key l.length 0 om;unfold zAr zB3
 grind
def sizeT (t:GTable):Int:=t.fEntries.foldl (fun (st:Int) x=>wr (st+(sizeS x:Int))) 0
theorem zOv (t:GTable) (h3:t.fEntries.length≤1073741824) (h4:∀ e ∈ t.fEntries,smE e):zHB t=some (sizeT t):=by
 unfold zHB;have:=zHR (fun (st:Int) n=>(st,n)) t.fEntries (fun (st:Int) x=>wr (st+(sizeS x:Int))) id (zF1 t) (fun _ _=>True) 0 trivial ?_ ?_
 ·rw [this]; rfl
 ·intro n hn st _
  refine ⟨?_,trivial⟩;simp only [zF1];rw [zAV hn,zAG,zAF hn,zAA,zPr _ (h4 _ (lM hn)),zAA,wrs (show n≤4*1073741824 by omega)]
 grind [zF1]
theorem zUj (s:Str) (hs:s.length≤1073741824):zJd s=some (quote s):=zVM s hs
def parT (p:GParam):Str:=(([59]++p.fName)++[61])++(if tok p.fValue then p.fValue else quote p.fValue)
def wrtP (v:Str) (l:List GParam):Str:=v++l.flatMap parT
def smPs (l:List GParam):Prop:=l.length≤10001∧∀ p ∈ l,p.fName.length≤10000∧p.fValue.length≤10000
theorem zQM (v:Str):(if tok v then v else quote v).length≤2*v.length+2:=by
 grind [zOI]
theorem zVp {p:GParam} (h:p.fName.length≤10000∧p.fValue.length≤10000):(parT p).length≤40000:=by
 have:=zQM p.fValue;unfold parT
 grind
theorem zSW (v:Str) (l:List GParam) (hv:v.length≤1000000) (h:smPs l):zGe v l=some (wrtP v l):=by
 unfold zGe;rw [XA_eq v [] om sI,zAA];have:=zHR (fun (st:Str) i=>(i,st)) l (fun st p=>st++parT p) id (zEg l) (fun n st=>st.length≤1000000+40000*n) v om ?_ ?_
 ·grind [wrtP,zNr]
 ·intro n hn st hI
  have hp:=h.2 _ (lM hn);have hl:=h.1;have htl:=zVp hp;have hvl:=zQM l[n].fValue;have hql:=zOI l[n].fValue;refine ⟨?_,gR⟩;unfold zEg;simp only []
  rw [zAV hn,zAG,zAF hn,zAA,
   zCh sI om,zAA,zCh gR sI,zAA,
   XA_eq _ st gR om,zAA,zBf _ om,zAA,wrs om]
  grind [parT,XA_eq,zUj]
 grind [zEg]
def wrtT (t:GMediaType):Str:=wrtP ((t.fType++[47])++t.fSub) t.fParams
theorem zSc (t:GMediaType) (h1:t.fType.length≤10000) (h2:t.fSub.length≤10000) (h:smPs t.fParams):zCr t=some (wrtT t):=by
 grind [zCr,wrtT,zCh,zSW]
theorem zTD (s:Str) (hs:s.length≤1000000):zCL s=some ((s==[42])||langS s):=by
 unfold zCL;rw [zRR s hs]
 grind
def smPv (l:List GParam):Prop:=l.length≤1000001∧∀ p ∈ l,p.fValue.length≤1000000
theorem zRT (s:Str):∀ p ∈ (parS s).2.1,p.fName.length≤s.length∧p.fValue.length≤s.length:=by
 obtain ⟨c1,c2⟩:=zNm 59 s;have ho:∀ m:Str,m.length≤s.length→(oneS m).1.length≤s.length∧(oneS m).2.1.length≤s.length:=by
  grind [zN2,oneS,zBn]
 have hp:∀ (l:List Str) (acc ps:List GParam),(∀ x ∈ l,x.length≤s.length)→(∀ p ∈ acc,p.fName.length≤s.length∧p.fValue.length≤s.length)→parL l acc=some ps→∀ p ∈ ps,p.fName.length≤s.length∧p.fValue.length≤s.length:=by
  intro l
  induction l with
  | nil=>grind [parL]
  | cons m l ih =>
   intro acc ps hm ha h;have hl:∀ x ∈ l,x.length≤s.length:=fun x hx=>hm x (lN _ hx)
   unfold parL at h;split at h
   ·exact ih _ _ hl ha h
   ·split at h
    ·refine ih _ _ hl ?_ h
     intro p hp;rcases List.mem_append.1 hp with hp | hp
     all_goals grind [zI8]
    ·cases h
 unfold parS;cases hc:cutS 59 s with
 | nil=>simp
 | cons x l =>
  rw [hc] at c1 c2
  show ∀ p ∈ (parC x l).2.1,_
  unfold parC;split
  ·simp
  ·split
   ·rename_i ps h
    exact hp l [] ps (fun y hy=>c1 y (lN _ hy)) sI h
   ·simp
theorem zKF (s:Str):(zEO s).1.fType.length≤s.length∧(zEO s).1.fSub.length≤s.length∧(zEO s).1.fParams.length≤s.length+1∧∀ p ∈ (zEO s).1.fParams,p.fName.length≤s.length∧p.fValue.length≤s.length:=by
 obtain ⟨l1,l2⟩:=zKU s;have l3:=zRT s
 grind [zEO,zBn,noT]
theorem zV7 (s:Str):(typeS s).1.fType.length≤s.length∧(typeS s).1.fSub.length≤s.length∧(typeS s).1.fParams.length≤s.length+1∧∀ p ∈ (typeS s).1.fParams,p.fName.length≤s.length∧p.fValue.length≤s.length:=by
 grind [typeS,noT,zKF]
theorem zW4 {s:Str} (hs:s.length≤1000000):smPv (zEO s).1.fParams:=by
 obtain ⟨_,_,h3,h4⟩:=zKF s;exact ⟨om,fun p hp=>gR⟩
theorem zY5 {s:Str} (hs:s.length≤1000000):smPv (typeS s).1.fParams:=by
 obtain ⟨_,_,h3,h4⟩:=zV7 s;exact ⟨om,fun p hp=>gR⟩
end Go.Eng.Pure
