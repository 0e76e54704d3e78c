/- A part of the proof: the law's function returns true (lifted). -/
import Derived.Test.YtffangblkofjdaaGreatDoorCards
import Derived.Test.YtffangblkofjdaaGreatDoorTie
import Derived.Test.YtffangblkofjdaaGreatDoorGenM6
import Derived.Test.YtffangblkofjdaaGreatDoorTopC
import Derived.Test.YtffangblkofjdaaGreatDoorEng14
import Derived.ProofKit
import Derived.OpenShut
import Derived.Deep.DeepHandedRow
import Derived.Lib.LaidIn
import Derived.LaidHandle
namespace Go.Proofs.YtffangblkofjdaaGreatDoor
open Go.ChangeShapes Go.WideShapes Go.ChangeAt Go.RowKit Go.Eng Go.Eng.Pure
set_option linter.unusedSimpArgs false
theorem own:ownKnob Tryz.prog.godebug=none:=by kernel_rfl
theorem laidOut:laidOutB Tryz.prog=true:=by kernel_rfl
theorem len2 {l:List Value} (h:l.length=2):∃ u0 u1,l=[u0,u1] :=
  match l,h with
  | [u0,u1],_=>⟨u0,u1,rfl⟩
theorem len8 {l:List Value} (h:l.length=8):∃ u0 u1 u2 u3 u4 u5 u6 u7,l=[u0,u1,u2,u3,u4,u5,u6,u7] :=
  match l,h with
  | [u0,u1,u2,u3,u4,u5,u6,u7],_=>⟨u0,u1,u2,u3,u4,u5,u6,u7,rfl⟩
theorem rd9:Rd Tryz.prog 9 Str:=Rd.str Tryz.underlying9
theorem rd36:Rd Tryz.prog 36 (List Str):=fun X enc W fuel cs x h=>by
  obtain ⟨v,a,h1,h2⟩:=Rd.list (α:=Str) (by kernel_rfl) Tryz.underlying36 rd9 X enc W fuel cs x h
  exact ⟨a,v,h1,h2⟩
theorem rd62:Rd Tryz.prog 62 GAxis:=by
  intro X enc W fuel cs x h
  obtain ⟨hl,hf⟩:=Rd.field Tryz.underlying62 h
  obtain ⟨n0,y0,h0⟩:=hf 0 _ rfl
  obtain ⟨a0,h0⟩:=rd9 X enc W n0 _ y0 h0
  have c0:Tryz.prog.cellsOf 9=1:=by kernel_rfl
  obtain ⟨n1,y1,h1⟩:=hf 1 _ rfl
  obtain ⟨a1,w1,h1,R1⟩:=rd36 X enc W n1 _ y1 h1
  have c1:Tryz.prog.cellsOf 36=1:=by kernel_rfl
  have cc:Tryz.prog.cellsOf 62=2:=by kernel_rfl
  rw [cc] at hl
  clear h hf
  obtain ⟨u0,u1,rfl⟩:=len2 hl
  have e0:(([u0,u1]:List Value).drop 0).take (Tryz.prog.cellsOf 9)=[(str a0)]:=h0
  rw [c0] at e0
  have e1:(([u0,u1]:List Value).drop 1).take (Tryz.prog.cellsOf 36)=[w1]:=h1
  rw [c1] at e1
  simp only [List.drop_zero,List.drop_succ_cons,List.take_succ_cons,List.take_zero,List.cons.injEq,and_true] at e0
  subst e0
  simp only [List.drop_zero,List.drop_succ_cons,List.take_succ_cons,List.take_zero,List.cons.injEq,and_true] at e1
  subst e1
  exact ⟨⟨a0,a1⟩,_,rfl,R1⟩
theorem rd22:Rd Tryz.prog 22 (List GAxis):=fun X enc W fuel cs x h=>by
  obtain ⟨v,a,h1,h2⟩:=Rd.list (α:=GAxis) (by kernel_rfl) Tryz.underlying22 rd62 X enc W fuel cs x h
  exact ⟨a,v,h1,h2⟩
theorem rd35:Rd Tryz.prog 35 (List (List Str)):=fun X enc W fuel cs x h=>by
  obtain ⟨v,a,h1,h2⟩:=Rd.list (α:=(List Str)) (by kernel_rfl) Tryz.underlying35 rd36 X enc W fuel cs x h
  exact ⟨a,v,h1,h2⟩
theorem rd41:Rd Tryz.prog 41 GField:=by
  intro X enc W fuel cs x h
  obtain ⟨hl,hf⟩:=Rd.field Tryz.underlying41 h
  obtain ⟨n0,y0,h0⟩:=hf 0 _ rfl
  obtain ⟨a0,h0⟩:=rd9 X enc W n0 _ y0 h0
  have c0:Tryz.prog.cellsOf 9=1:=by kernel_rfl
  obtain ⟨n1,y1,h1⟩:=hf 1 _ rfl
  obtain ⟨a1,h1⟩:=rd9 X enc W n1 _ y1 h1
  have c1:Tryz.prog.cellsOf 9=1:=by kernel_rfl
  have cc:Tryz.prog.cellsOf 41=2:=by kernel_rfl
  rw [cc] at hl
  clear h hf
  obtain ⟨u0,u1,rfl⟩:=len2 hl
  have e0:(([u0,u1]:List Value).drop 0).take (Tryz.prog.cellsOf 9)=[(str a0)]:=h0
  rw [c0] at e0
  have e1:(([u0,u1]:List Value).drop 1).take (Tryz.prog.cellsOf 9)=[(str a1)]:=h1
  rw [c1] at e1
  simp only [List.drop_zero,List.drop_succ_cons,List.take_succ_cons,List.take_zero,List.cons.injEq,and_true] at e0
  subst e0
  simp only [List.drop_zero,List.drop_succ_cons,List.take_succ_cons,List.take_zero,List.cons.injEq,and_true] at e1
  subst e1
  exact ⟨⟨a0,a1⟩,rfl⟩
theorem rd26:Rd Tryz.prog 26 (List GField):=fun X enc W fuel cs x h=>by
  obtain ⟨v,a,h1,h2⟩:=Rd.list (α:=GField) (by kernel_rfl) Tryz.underlying26 rd41 X enc W fuel cs x h
  exact ⟨a,v,h1,h2⟩
theorem rd2:Rd Tryz.prog 2 Int:=Rd.int Tryz.underlying2
theorem rd38:Rd Tryz.prog 38 GEntry:=by
  intro X enc W fuel cs x h
  obtain ⟨hl,hf⟩:=Rd.field Tryz.underlying38 h
  obtain ⟨n0,y0,h0⟩:=hf 0 _ rfl
  obtain ⟨a0,w0,h0,R0⟩:=rd35 X enc W n0 _ y0 h0
  have c0:Tryz.prog.cellsOf 35=1:=by kernel_rfl
  obtain ⟨n1,y1,h1⟩:=hf 1 _ rfl
  obtain ⟨a1,w1,h1,R1⟩:=rd36 X enc W n1 _ y1 h1
  have c1:Tryz.prog.cellsOf 36=1:=by kernel_rfl
  obtain ⟨n2,y2,h2⟩:=hf 2 _ rfl
  obtain ⟨a2,w2,h2,R2⟩:=rd36 X enc W n2 _ y2 h2
  have c2:Tryz.prog.cellsOf 36=1:=by kernel_rfl
  obtain ⟨n3,y3,h3⟩:=hf 3 _ rfl
  obtain ⟨a3,h3⟩:=rd9 X enc W n3 _ y3 h3
  have c3:Tryz.prog.cellsOf 9=1:=by kernel_rfl
  obtain ⟨n4,y4,h4⟩:=hf 4 _ rfl
  obtain ⟨a4,w4,h4,R4⟩:=rd26 X enc W n4 _ y4 h4
  have c4:Tryz.prog.cellsOf 26=1:=by kernel_rfl
  obtain ⟨n5,y5,h5⟩:=hf 5 _ rfl
  obtain ⟨a5,h5⟩:=rd9 X enc W n5 _ y5 h5
  have c5:Tryz.prog.cellsOf 9=1:=by kernel_rfl
  obtain ⟨n6,y6,h6⟩:=hf 6 _ rfl
  obtain ⟨a6,h6⟩:=rd2 X enc W n6 _ y6 h6
  have c6:Tryz.prog.cellsOf 2=1:=by kernel_rfl
  obtain ⟨n7,y7,h7⟩:=hf 7 _ rfl
  obtain ⟨a7,h7⟩:=rd2 X enc W n7 _ y7 h7
  have c7:Tryz.prog.cellsOf 2=1:=by kernel_rfl
  have cc:Tryz.prog.cellsOf 38=8:=by kernel_rfl
  rw [cc] at hl
  clear h hf
  obtain ⟨u0,u1,u2,u3,u4,u5,u6,u7,rfl⟩:=len8 hl
  have e0:(([u0,u1,u2,u3,u4,u5,u6,u7]:List Value).drop 0).take (Tryz.prog.cellsOf 35)=[w0]:=h0
  rw [c0] at e0
  have e1:(([u0,u1,u2,u3,u4,u5,u6,u7]:List Value).drop 1).take (Tryz.prog.cellsOf 36)=[w1]:=h1
  rw [c1] at e1
  have e2:(([u0,u1,u2,u3,u4,u5,u6,u7]:List Value).drop 2).take (Tryz.prog.cellsOf 36)=[w2]:=h2
  rw [c2] at e2
  have e3:(([u0,u1,u2,u3,u4,u5,u6,u7]:List Value).drop 3).take (Tryz.prog.cellsOf 9)=[(str a3)]:=h3
  rw [c3] at e3
  have e4:(([u0,u1,u2,u3,u4,u5,u6,u7]:List Value).drop 4).take (Tryz.prog.cellsOf 26)=[w4]:=h4
  rw [c4] at e4
  have e5:(([u0,u1,u2,u3,u4,u5,u6,u7]:List Value).drop 5).take (Tryz.prog.cellsOf 9)=[(str a5)]:=h5
  rw [c5] at e5
  have e6:(([u0,u1,u2,u3,u4,u5,u6,u7]:List Value).drop 6).take (Tryz.prog.cellsOf 2)=[(int a6)]:=h6
  rw [c6] at e6
  have e7:(([u0,u1,u2,u3,u4,u5,u6,u7]:List Value).drop 7).take (Tryz.prog.cellsOf 2)=[(int a7)]:=h7
  rw [c7] at e7
  simp only [List.drop_zero,List.drop_succ_cons,List.take_succ_cons,List.take_zero,List.cons.injEq,and_true] at e0
  subst e0
  simp only [List.drop_zero,List.drop_succ_cons,List.take_succ_cons,List.take_zero,List.cons.injEq,and_true] at e1
  subst e1
  simp only [List.drop_zero,List.drop_succ_cons,List.take_succ_cons,List.take_zero,List.cons.injEq,and_true] at e2
  subst e2
  simp only [List.drop_zero,List.drop_succ_cons,List.take_succ_cons,List.take_zero,List.cons.injEq,and_true] at e3
  subst e3
  simp only [List.drop_zero,List.drop_succ_cons,List.take_succ_cons,List.take_zero,List.cons.injEq,and_true] at e4
  subst e4
  simp only [List.drop_zero,List.drop_succ_cons,List.take_succ_cons,List.take_zero,List.cons.injEq,and_true] at e5
  subst e5
  simp only [List.drop_zero,List.drop_succ_cons,List.take_succ_cons,List.take_zero,List.cons.injEq,and_true] at e6
  subst e6
  simp only [List.drop_zero,List.drop_succ_cons,List.take_succ_cons,List.take_zero,List.cons.injEq,and_true] at e7
  subst e7
  exact ⟨⟨a0,a1,a2,a3,a4,a5,a6,a7⟩,_,_,_,_,rfl,R0,R1,R2,R4⟩
theorem rd23:Rd Tryz.prog 23 (List GEntry):=fun X enc W fuel cs x h=>by
  obtain ⟨v,a,h1,h2⟩:=Rd.list (α:=GEntry) (by kernel_rfl) Tryz.underlying23 rd38 X enc W fuel cs x h
  exact ⟨a,v,h1,h2⟩
theorem rd25:Rd Tryz.prog 25 GTable:=by
  intro X enc W fuel cs x h
  obtain ⟨hl,hf⟩:=Rd.field Tryz.underlying25 h
  obtain ⟨n0,y0,h0⟩:=hf 0 _ rfl
  obtain ⟨a0,w0,h0,R0⟩:=rd22 X enc W n0 _ y0 h0
  have c0:Tryz.prog.cellsOf 22=1:=by kernel_rfl
  obtain ⟨n1,y1,h1⟩:=hf 1 _ rfl
  obtain ⟨a1,w1,h1,R1⟩:=rd23 X enc W n1 _ y1 h1
  have c1:Tryz.prog.cellsOf 23=1:=by kernel_rfl
  have cc:Tryz.prog.cellsOf 25=2:=by kernel_rfl
  rw [cc] at hl
  clear h hf
  obtain ⟨u0,u1,rfl⟩:=len2 hl
  have e0:(([u0,u1]:List Value).drop 0).take (Tryz.prog.cellsOf 22)=[w0]:=h0
  rw [c0] at e0
  have e1:(([u0,u1]:List Value).drop 1).take (Tryz.prog.cellsOf 23)=[w1]:=h1
  rw [c1] at e1
  simp only [List.drop_zero,List.drop_succ_cons,List.take_succ_cons,List.take_zero,List.cons.injEq,and_true] at e0
  subst e0
  simp only [List.drop_zero,List.drop_succ_cons,List.take_succ_cons,List.take_zero,List.cons.injEq,and_true] at e1
  subst e1
  exact ⟨⟨a0,a1⟩,_,_,rfl,R0,R1⟩
theorem rd4:Rd Tryz.prog 4 Bool:=Rd.bool Tryz.underlying4
noncomputable def low:Nat:=(World.holding Tryz.prog default ⟨#[],#[],[]⟩).heap.size
/-- A world for the witness: the settled one,the listed variables holding what their initialisers lay. -/
noncomputable def laidWorld (os:Os):World :=
  let w0:=World.holding Tryz.prog os ⟨#[.cells #[.string { data:=#[110,111,116,32,116,104,101,32,102,111,114,109,32,116,104,97,116,32,105,115,32,101,120,112,101,99,116,101,100] }] 449,.cells #[.string { data:=#[97,110,111,116,104,101,114,32,118,101,114,115,105,111,110] }] 449,.cells #[.string { data:=#[97,32,114,101,113,117,101,115,116,32,116,104,97,116,32,105,115,32,110,111,116,32,112,101,114,109,105,116,116,101,100] }] 449],#[],[]⟩
  let put (h:Array Obj) (g:Nat) (cs:Array Value):Array Obj:=h.modify g fun
    | .cells _ t frozen=>.cells cs t frozen
    | o=>o
  let h1:=put w0.heap 0 #[.iface 430 (.pointer (some ⟨low+2,0,none⟩))]
  let h2:=put h1 1 #[.iface 287 (.agg #[.pointer (some ⟨10,71,none⟩)])]
  let h3:=put h2 2 #[.iface 430 (.pointer (some ⟨low+0,0,none⟩))]
  let h4:=put h3 3 #[.iface 430 (.pointer (some ⟨low+1,0,none⟩))]
  let h5:=put h4 5 ((Pinned.utf8FirstZ.map fun (z:Nat)=>Value.int .u8 (z:Int)).toArray)
  let h6:=put h5 6 #[.int .u8 128,.int .u8 191,.int .u8 160,.int .u8 191,.int .u8 128,.int .u8 159,.int .u8 144,.int .u8 191,.int .u8 128,.int .u8 143,.int .u8 0,.int .u8 0,.int .u8 0,.int .u8 0,.int .u8 0,.int .u8 0,.int .u8 0,.int .u8 0,.int .u8 0,.int .u8 0,.int .u8 0,.int .u8 0,.int .u8 0,.int .u8 0,.int .u8 0,.int .u8 0,.int .u8 0,.int .u8 0,.int .u8 0,.int .u8 0,.int .u8 0,.int .u8 0]
  let h7:=put h6 7 #[.int .u64 1,.int .u64 10,.int .u64 100,.int .u64 1000,.int .u64 10000,.int .u64 100000,.int .u64 1000000,.int .u64 10000000,.int .u64 100000000,.int .u64 1000000000,.int .u64 10000000000,.int .u64 100000000000,.int .u64 1000000000000,.int .u64 10000000000000,.int .u64 100000000000000,.int .u64 1000000000000000,.int .u64 10000000000000000,.int .u64 100000000000000000,.int .u64 1000000000000000000,.int .u64 10000000000000000000]
  let h8:=put h7 8 #[.int .u8 0,.int .u8 1,.int .u8 28,.int .u8 2,.int .u8 29,.int .u8 14,.int .u8 24,.int .u8 3,.int .u8 30,.int .u8 22,.int .u8 20,.int .u8 15,.int .u8 25,.int .u8 17,.int .u8 4,.int .u8 8,.int .u8 31,.int .u8 27,.int .u8 13,.int .u8 23,.int .u8 21,.int .u8 19,.int .u8 16,.int .u8 7,.int .u8 26,.int .u8 12,.int .u8 18,.int .u8 6,.int .u8 11,.int .u8 5,.int .u8 10,.int .u8 9]
  let h9:=put h8 9 #[.int .u8 0,.int .u8 1,.int .u8 56,.int .u8 2,.int .u8 57,.int .u8 49,.int .u8 28,.int .u8 3,.int .u8 61,.int .u8 58,.int .u8 42,.int .u8 50,.int .u8 38,.int .u8 29,.int .u8 17,.int .u8 4,.int .u8 62,.int .u8 47,.int .u8 59,.int .u8 36,.int .u8 45,.int .u8 43,.int .u8 51,.int .u8 22,.int .u8 53,.int .u8 39,.int .u8 33,.int .u8 30,.int .u8 24,.int .u8 18,.int .u8 12,.int .u8 5,.int .u8 63,.int .u8 55,.int .u8 48,.int .u8 27,.int .u8 60,.int .u8 41,.int .u8 37,.int .u8 16,.int .u8 46,.int .u8 35,.int .u8 44,.int .u8 21,.int .u8 52,.int .u8 32,.int .u8 23,.int .u8 11,.int .u8 54,.int .u8 26,.int .u8 40,.int .u8 15,.int .u8 34,.int .u8 20,.int .u8 31,.int .u8 10,.int .u8 25,.int .u8 14,.int .u8 19,.int .u8 9,.int .u8 13,.int .u8 8,.int .u8 7,.int .u8 6]
  { w0 with heap:=h9 }
theorem laid_in (os:Os) (args:Array Value):LaidIn Tryz.prog ((laidWorld os).forCall (fun _ _=>0) ⟨#[],args,[]⟩).memory (Rows.topClassesRow.laid.filter fun x=>x.2.handleName?.isNone) [8,9,7,6,2,3,0,5,low+0,low+1,low+2] :=
  LaidIn.of_run [8,9,7,6,2,3,0,5,low+0,low+1,low+2] 8 (by kernel_rfl) (by kernel_rfl) (by kernel_rfl) (by kernel_rfl)
theorem laidMet_part {P:Program} {l:List (String×DataW Unit)} {w:World} (h:laidMetH P l w):laidMet P (l.filter fun x=>x.2.handleName?.isNone) w:=by
  unfold laidMetH at h
  split at h
  · rename_i hf
    have e:(l.filter fun x=>x.2.handleName?.isNone)=l:=by
      rw [List.filter_eq_self]
      intro x hx
      have:=(List.filter_eq_nil_iff.1 hf) x hx
      cases hn:x.2.handleName? with
      | none=>rfl
      | some s=>rw [hn] at this; exact absurd rfl this
    rw [e]; exact h
  · exact h.1
theorem gl_of {W:World} (hL:laidMetH Tryz.prog Rows.topClassesRow.laid W):Tryz.Gl W:=by
  have h:laidMet Tryz.prog (Rows.topClassesRow.laid.filter fun x=>x.2.handleName?.isNone) W:=laidMet_part hL
  exact ⟨zLy (g:=7) (t:=422) (e:=397) (n:=20) (List.mem_of_getElem? (i:=2) (by kernel_rfl:((Rows.topClassesRow.laid.filter fun x=>x.2.handleName?.isNone))[2]?=some ("internal/strconv.uint64pow10",Lib.tabData .u64 Lib.pow10Tab))) (by kernel_rfl) (by kernel_rfl) Tryz.underlying422 Tryz.underlying397 (by kernel_rfl) (by kernel_rfl) h⟩

set_option maxRecDepth 100000 in
theorem topClasses_calls (H : Type) (enc : TypeId × Value → H) (W : World) (base : Nat) (args : Array Value) (ds gs : List (DataW H)) (before : List MemPlace)
    (hval:∀ (j:Nat) t v,Tryz.f3.params[j]?=some t→args[j]?=some v→Value.okWide Tryz.prog W .any base t v)
    (hW:DataW.Whole enc Tryz.prog Tryz.f3.params.toList Rows.topClassesSpec.vars false W args.toList ds gs before) (hL:laidMetH Tryz.prog Rows.topClassesRow.laid W) :
    Calls Tryz.prog 3 args W fun e W'=>∃ v,e=.returned v∧Rows.topClassesSpec.post enc Tryz.prog Tryz.f3 false true false false W args v W':=by
  have hW':=hW
  obtain ⟨p,q,hA0,hV,rfl,hfz,hnd⟩:=hW
  have hA:DataW.TrodAll enc Tryz.prog W 0 (fun _=>true) true Tryz.f3.params.toList args.toList ds p:=hA0
  rw [Tryz.params3] at hA hval
  clear hA0
  obtain ⟨v0,vs0,d0,ds0,p0,q0,hargs0,rfl,rfl,h0,hA⟩:=trodAll_cons hA
  obtain ⟨v1,vs1,d1,ds1,p1,q1,hargs1,rfl,rfl,h1,hA⟩:=trodAll_cons hA
  obtain ⟨v2,vs2,d2,ds2,p2,q2,hargs2,rfl,rfl,h2,hA⟩:=trodAll_cons hA
  obtain ⟨v3,vs3,d3,ds3,p3,q3,hargs3,rfl,rfl,h3,hA⟩:=trodAll_cons hA
  obtain ⟨hargsN,rfl,rfl⟩:=trodAll_nil hA
  obtain rfl:args=#[v0,v1,v2,v3]:=by cases args; simp_all
  obtain ⟨rfl,rfl⟩:=trodVars_none hV
  obtain ⟨cs0,x0,rfl,e0⟩:=zN4 Tryz.underlying25 rd25 (hval 0 25 v0 rfl rfl) h0
  have e0:∃ u0_0 u0_1:Value,cs0=[u0_0,u0_1]∧Sl (α:=GAxis) (Hp.of W) u0_0 x0.fAxes∧Sl (α:=GEntry) (Hp.of W) u0_1 x0.fEntries:=e0
  obtain ⟨u0_0,u0_1,rfl,S0_0,S0_1⟩:=e0
  obtain ⟨x1,R1⟩:=zLa (α:=GField) Tryz.underlying26 (by kernel_rfl) rd41 (hval 1 26 v1 rfl rfl) h1
  obtain ⟨x2,R2⟩:=zLa (α:=GField) Tryz.underlying26 (by kernel_rfl) rd41 (hval 2 26 v2 rfl rfl) h2
  obtain ⟨x3,rfl⟩:=zQh Tryz.underlying4 (hval 3 4 v3 rfl rfl) h3
  exact zP6 rfl laidOut (by kernel_rfl) rfl hW' ⟨rfl,rfl,rfl⟩ (by kernel_rfl) Tryz.underlying4
    ((zIC (Holds.of W) (gl_of hL) x0 x1 x2 x3 S0_0 S0_1 R1 R2 (zJD x0 x1 x2 x3)).mono fun _ _ h=>h)
theorem topClasses_reads (os:Os) {H:Type} (enc:TypeId×Value→H):∃ ds places,DataW.whole enc Tryz.prog ((laidWorld os).forCall (fun _ _=>0) ⟨#[],#[.agg #[.slice none 0 0,.slice none 0 0],.slice none 0 0,.slice none 0 0,.bool false],[]⟩).memory Tryz.f3.params.toList Rows.topClassesSpec.vars false (#[.agg #[.slice none 0 0,.slice none 0 0],.slice none 0 0,.slice none 0 0,.bool false]:Array Value).toList 8=some (ds,[],places) :=
  zQr (by kernel_rfl)
set_option maxRecDepth 100000 in
theorem topClasses_lifted (os : Os) (started : os.Started) (H : Type) (enc : TypeId × Value → H) (F : Stop.Interp) :
    ReturnsInHanded {} Tryz.checked os 3 .any ((OpenSpec.ofChange Rows.topClassesSpec).preRow enc Tryz.prog Tryz.f3 Rows.topClassesRow.domain false Rows.topClassesRow.laid) (((OpenSpec.ofChange Rows.topClassesSpec).at F).post enc Tryz.prog Tryz.f3 false true false false):=by
  obtain ⟨ds,places,hx⟩:=topClasses_reads os enc
  refine returnsInHanded_of_row (C:=Tryz.checked) (s:=OpenSpec.ofChange Rows.topClassesSpec) own started (by kernel_rfl) Tryz.func3
    (witness_row_at (enc:=enc) (C:=Tryz.checked) false (laidWorld os) #[.agg #[.slice none 0 0,.slice none 0 0],.slice none 0 0,.slice none 0 0,.bool false] rfl (by kernel_rfl) (by kernel_rfl) (by kernel_rfl)
      (OpenSpec.preRow_of_cond 8 hx (by kernel_rfl) (fun k hk=>by cases hk) (by kernel_rfl) (laidMetH_of_parts (laid_in os _).met (by kernel_rfl)))) ?_
  intro W base args ds gs before hval hW _ _ _ hL _ _
  exact topClasses_calls H enc W base args ds gs before hval hW hL
end Go.Proofs.YtffangblkofjdaaGreatDoor
