/- The law TableParts returns true at every input and leaves each argument as it was; condition: the listed package-level variables start as the program's text lays them (tied). -/
import Derived.Test.YtipgfplekgdoiaaGreatDoorCards
import Derived.Test.YtipgfplekgdoiaaGreatDoorTie
import Derived.Test.YtipgfplekgdoiaaGreatDoorGenK19
import Derived.Test.YtipgfplekgdoiaaGreatDoorParts
import Derived.Test.YtipgfplekgdoiaaGreatDoorEng19
import Derived.ProofKit
import Derived.OpenShut
import Derived.Deep.DeepHandedRow
import Derived.Lib.LaidIn
import Derived.LaidHandle
namespace Go.Proofs.YtipgfplekgdoiaaGreatDoor
open Go.ChangeShapes Go.WideShapes Go.ChangeAt Go.RowKit Go.Eng Go.Eng.Pure
set_option linter.unusedSimpArgs false
theorem own:ownKnob Tryz.prog.godebug=none:=by kernel_rfl
theorem laidOut:laidOutB Tryz.prog=true:=by kernel_rfl
theorem len2 {l:List Value} (h:l.length=2):∃ u0 u1,l=[u0,u1] :=
  match l,h with
  | [u0,u1],_=>⟨u0,u1,rfl⟩
theorem len8 {l:List Value} (h:l.length=8):∃ u0 u1 u2 u3 u4 u5 u6 u7,l=[u0,u1,u2,u3,u4,u5,u6,u7] :=
  match l,h with
  | [u0,u1,u2,u3,u4,u5,u6,u7],_=>⟨u0,u1,u2,u3,u4,u5,u6,u7,rfl⟩
theorem rd9:Rd Tryz.prog 9 Str:=Rd.str Tryz.underlying9
theorem rd34:Rd Tryz.prog 34 (List Str):=fun X enc W fuel cs x h=>by
  obtain ⟨v,a,h1,h2⟩:=Rd.list (α:=Str) (by kernel_rfl) Tryz.underlying34 rd9 X enc W fuel cs x h
  exact ⟨a,v,h1,h2⟩
theorem rd68:Rd Tryz.prog 68 GAxis:=by
  intro X enc W fuel cs x h
  obtain ⟨hl,hf⟩:=Rd.field Tryz.underlying68 h
  obtain ⟨n0,y0,h0⟩:=hf 0 _ rfl
  obtain ⟨a0,h0⟩:=rd9 X enc W n0 _ y0 h0
  have c0:Tryz.prog.cellsOf 9=1:=by kernel_rfl
  obtain ⟨n1,y1,h1⟩:=hf 1 _ rfl
  obtain ⟨a1,w1,h1,R1⟩:=rd34 X enc W n1 _ y1 h1
  have c1:Tryz.prog.cellsOf 34=1:=by kernel_rfl
  have cc:Tryz.prog.cellsOf 68=2:=by kernel_rfl
  rw [cc] at hl
  clear h hf
  obtain ⟨u0,u1,rfl⟩:=len2 hl
  have e0:(([u0,u1]:List Value).drop 0).take (Tryz.prog.cellsOf 9)=[(str a0)]:=h0
  rw [c0] at e0
  have e1:(([u0,u1]:List Value).drop 1).take (Tryz.prog.cellsOf 34)=[w1]:=h1
  rw [c1] at e1
  simp only [List.drop_zero,List.drop_succ_cons,List.take_succ_cons,List.take_zero,List.cons.injEq,and_true] at e0
  subst e0
  simp only [List.drop_zero,List.drop_succ_cons,List.take_succ_cons,List.take_zero,List.cons.injEq,and_true] at e1
  subst e1
  exact ⟨⟨a0,a1⟩,_,rfl,R1⟩
theorem rd22:Rd Tryz.prog 22 (List GAxis):=fun X enc W fuel cs x h=>by
  obtain ⟨v,a,h1,h2⟩:=Rd.list (α:=GAxis) (by kernel_rfl) Tryz.underlying22 rd68 X enc W fuel cs x h
  exact ⟨a,v,h1,h2⟩
theorem rd33:Rd Tryz.prog 33 (List (List Str)):=fun X enc W fuel cs x h=>by
  obtain ⟨v,a,h1,h2⟩:=Rd.list (α:=(List Str)) (by kernel_rfl) Tryz.underlying33 rd34 X enc W fuel cs x h
  exact ⟨a,v,h1,h2⟩
theorem rd64:Rd Tryz.prog 64 GField:=by
  intro X enc W fuel cs x h
  obtain ⟨hl,hf⟩:=Rd.field Tryz.underlying64 h
  obtain ⟨n0,y0,h0⟩:=hf 0 _ rfl
  obtain ⟨a0,h0⟩:=rd9 X enc W n0 _ y0 h0
  have c0:Tryz.prog.cellsOf 9=1:=by kernel_rfl
  obtain ⟨n1,y1,h1⟩:=hf 1 _ rfl
  obtain ⟨a1,h1⟩:=rd9 X enc W n1 _ y1 h1
  have c1:Tryz.prog.cellsOf 9=1:=by kernel_rfl
  have cc:Tryz.prog.cellsOf 64=2:=by kernel_rfl
  rw [cc] at hl
  clear h hf
  obtain ⟨u0,u1,rfl⟩:=len2 hl
  have e0:(([u0,u1]:List Value).drop 0).take (Tryz.prog.cellsOf 9)=[(str a0)]:=h0
  rw [c0] at e0
  have e1:(([u0,u1]:List Value).drop 1).take (Tryz.prog.cellsOf 9)=[(str a1)]:=h1
  rw [c1] at e1
  simp only [List.drop_zero,List.drop_succ_cons,List.take_succ_cons,List.take_zero,List.cons.injEq,and_true] at e0
  subst e0
  simp only [List.drop_zero,List.drop_succ_cons,List.take_succ_cons,List.take_zero,List.cons.injEq,and_true] at e1
  subst e1
  exact ⟨⟨a0,a1⟩,rfl⟩
theorem rd26:Rd Tryz.prog 26 (List GField):=fun X enc W fuel cs x h=>by
  obtain ⟨v,a,h1,h2⟩:=Rd.list (α:=GField) (by kernel_rfl) Tryz.underlying26 rd64 X enc W fuel cs x h
  exact ⟨a,v,h1,h2⟩
theorem rd2:Rd Tryz.prog 2 Int:=Rd.int Tryz.underlying2
theorem rd36:Rd Tryz.prog 36 GEntry:=by
  intro X enc W fuel cs x h
  obtain ⟨hl,hf⟩:=Rd.field Tryz.underlying36 h
  obtain ⟨n0,y0,h0⟩:=hf 0 _ rfl
  obtain ⟨a0,w0,h0,R0⟩:=rd33 X enc W n0 _ y0 h0
  have c0:Tryz.prog.cellsOf 33=1:=by kernel_rfl
  obtain ⟨n1,y1,h1⟩:=hf 1 _ rfl
  obtain ⟨a1,w1,h1,R1⟩:=rd34 X enc W n1 _ y1 h1
  have c1:Tryz.prog.cellsOf 34=1:=by kernel_rfl
  obtain ⟨n2,y2,h2⟩:=hf 2 _ rfl
  obtain ⟨a2,w2,h2,R2⟩:=rd34 X enc W n2 _ y2 h2
  have c2:Tryz.prog.cellsOf 34=1:=by kernel_rfl
  obtain ⟨n3,y3,h3⟩:=hf 3 _ rfl
  obtain ⟨a3,h3⟩:=rd9 X enc W n3 _ y3 h3
  have c3:Tryz.prog.cellsOf 9=1:=by kernel_rfl
  obtain ⟨n4,y4,h4⟩:=hf 4 _ rfl
  obtain ⟨a4,w4,h4,R4⟩:=rd26 X enc W n4 _ y4 h4
  have c4:Tryz.prog.cellsOf 26=1:=by kernel_rfl
  obtain ⟨n5,y5,h5⟩:=hf 5 _ rfl
  obtain ⟨a5,h5⟩:=rd9 X enc W n5 _ y5 h5
  have c5:Tryz.prog.cellsOf 9=1:=by kernel_rfl
  obtain ⟨n6,y6,h6⟩:=hf 6 _ rfl
  obtain ⟨a6,h6⟩:=rd2 X enc W n6 _ y6 h6
  have c6:Tryz.prog.cellsOf 2=1:=by kernel_rfl
  obtain ⟨n7,y7,h7⟩:=hf 7 _ rfl
  obtain ⟨a7,h7⟩:=rd2 X enc W n7 _ y7 h7
  have c7:Tryz.prog.cellsOf 2=1:=by kernel_rfl
  have cc:Tryz.prog.cellsOf 36=8:=by kernel_rfl
  rw [cc] at hl
  clear h hf
  obtain ⟨u0,u1,u2,u3,u4,u5,u6,u7,rfl⟩:=len8 hl
  have e0:(([u0,u1,u2,u3,u4,u5,u6,u7]:List Value).drop 0).take (Tryz.prog.cellsOf 33)=[w0]:=h0
  rw [c0] at e0
  have e1:(([u0,u1,u2,u3,u4,u5,u6,u7]:List Value).drop 1).take (Tryz.prog.cellsOf 34)=[w1]:=h1
  rw [c1] at e1
  have e2:(([u0,u1,u2,u3,u4,u5,u6,u7]:List Value).drop 2).take (Tryz.prog.cellsOf 34)=[w2]:=h2
  rw [c2] at e2
  have e3:(([u0,u1,u2,u3,u4,u5,u6,u7]:List Value).drop 3).take (Tryz.prog.cellsOf 9)=[(str a3)]:=h3
  rw [c3] at e3
  have e4:(([u0,u1,u2,u3,u4,u5,u6,u7]:List Value).drop 4).take (Tryz.prog.cellsOf 26)=[w4]:=h4
  rw [c4] at e4
  have e5:(([u0,u1,u2,u3,u4,u5,u6,u7]:List Value).drop 5).take (Tryz.prog.cellsOf 9)=[(str a5)]:=h5
  rw [c5] at e5
  have e6:(([u0,u1,u2,u3,u4,u5,u6,u7]:List Value).drop 6).take (Tryz.prog.cellsOf 2)=[(int a6)]:=h6
  rw [c6] at e6
  have e7:(([u0,u1,u2,u3,u4,u5,u6,u7]:List Value).drop 7).take (Tryz.prog.cellsOf 2)=[(int a7)]:=h7
  rw [c7] at e7
  simp only [List.drop_zero,List.drop_succ_cons,List.take_succ_cons,List.take_zero,List.cons.injEq,and_true] at e0
  subst e0
  simp only [List.drop_zero,List.drop_succ_cons,List.take_succ_cons,List.take_zero,List.cons.injEq,and_true] at e1
  subst e1
  simp only [List.drop_zero,List.drop_succ_cons,List.take_succ_cons,List.take_zero,List.cons.injEq,and_true] at e2
  subst e2
  simp only [List.drop_zero,List.drop_succ_cons,List.take_succ_cons,List.take_zero,List.cons.injEq,and_true] at e3
  subst e3
  simp only [List.drop_zero,List.drop_succ_cons,List.take_succ_cons,List.take_zero,List.cons.injEq,and_true] at e4
  subst e4
  simp only [List.drop_zero,List.drop_succ_cons,List.take_succ_cons,List.take_zero,List.cons.injEq,and_true] at e5
  subst e5
  simp only [List.drop_zero,List.drop_succ_cons,List.take_succ_cons,List.take_zero,List.cons.injEq,and_true] at e6
  subst e6
  simp only [List.drop_zero,List.drop_succ_cons,List.take_succ_cons,List.take_zero,List.cons.injEq,and_true] at e7
  subst e7
  exact ⟨⟨a0,a1,a2,a3,a4,a5,a6,a7⟩,_,_,_,_,rfl,R0,R1,R2,R4⟩
theorem rd23:Rd Tryz.prog 23 (List GEntry):=fun X enc W fuel cs x h=>by
  obtain ⟨v,a,h1,h2⟩:=Rd.list (α:=GEntry) (by kernel_rfl) Tryz.underlying23 rd36 X enc W fuel cs x h
  exact ⟨a,v,h1,h2⟩
theorem rd25:Rd Tryz.prog 25 GTable:=by
  intro X enc W fuel cs x h
  obtain ⟨hl,hf⟩:=Rd.field Tryz.underlying25 h
  obtain ⟨n0,y0,h0⟩:=hf 0 _ rfl
  obtain ⟨a0,w0,h0,R0⟩:=rd22 X enc W n0 _ y0 h0
  have c0:Tryz.prog.cellsOf 22=1:=by kernel_rfl
  obtain ⟨n1,y1,h1⟩:=hf 1 _ rfl
  obtain ⟨a1,w1,h1,R1⟩:=rd23 X enc W n1 _ y1 h1
  have c1:Tryz.prog.cellsOf 23=1:=by kernel_rfl
  have cc:Tryz.prog.cellsOf 25=2:=by kernel_rfl
  rw [cc] at hl
  clear h hf
  obtain ⟨u0,u1,rfl⟩:=len2 hl
  have e0:(([u0,u1]:List Value).drop 0).take (Tryz.prog.cellsOf 22)=[w0]:=h0
  rw [c0] at e0
  have e1:(([u0,u1]:List Value).drop 1).take (Tryz.prog.cellsOf 23)=[w1]:=h1
  rw [c1] at e1
  simp only [List.drop_zero,List.drop_succ_cons,List.take_succ_cons,List.take_zero,List.cons.injEq,and_true] at e0
  subst e0
  simp only [List.drop_zero,List.drop_succ_cons,List.take_succ_cons,List.take_zero,List.cons.injEq,and_true] at e1
  subst e1
  exact ⟨⟨a0,a1⟩,_,_,rfl,R0,R1⟩
theorem rd3:Rd Tryz.prog 3 Int:=Rd.int Tryz.underlying3
/-- A world for the witness: the settled one,the listed variables holding what their initialisers lay. -/
noncomputable def laidWorld (os:Os):World :=
  let w0:=World.holding Tryz.prog os ⟨#[],#[],[]⟩
  let put (h:Array Obj) (g:Nat) (cs:Array Value):Array Obj:=h.modify g fun
    | .cells _ t frozen=>.cells cs t frozen
    | o=>o
  let h1:=put w0.heap 1 ((Pinned.utf8FirstZ.map fun (z:Nat)=>Value.int .u8 (z:Int)).toArray)
  let h2:=put h1 2 #[.int .u8 128,.int .u8 191,.int .u8 160,.int .u8 191,.int .u8 128,.int .u8 159,.int .u8 144,.int .u8 191,.int .u8 128,.int .u8 143,.int .u8 0,.int .u8 0,.int .u8 0,.int .u8 0,.int .u8 0,.int .u8 0,.int .u8 0,.int .u8 0,.int .u8 0,.int .u8 0,.int .u8 0,.int .u8 0,.int .u8 0,.int .u8 0,.int .u8 0,.int .u8 0,.int .u8 0,.int .u8 0,.int .u8 0,.int .u8 0,.int .u8 0,.int .u8 0]
  { w0 with heap:=h2 }
theorem laid_in (os:Os) (args:Array Value):LaidIn Tryz.prog ((laidWorld os).forCall (fun _ _=>0) ⟨#[],args,[]⟩).memory Rows.tablePartsRow.laid [2,1] :=
  LaidIn.of_run [2,1] 8 (by kernel_rfl) (by kernel_rfl) (by kernel_rfl) (by kernel_rfl)

set_option maxRecDepth 100000 in
theorem tableParts_calls (H : Type) (enc : TypeId × Value → H) (W : World) (base : Nat) (args : Array Value) (ds gs : List (DataW H)) (before : List MemPlace)
    (hval:∀ (j:Nat) t v,Tryz.f6.params[j]?=some t→args[j]?=some v→Value.okWide Tryz.prog W .any base t v)
    (hW:DataW.Whole enc Tryz.prog Tryz.f6.params.toList Rows.tablePartsSpec.vars false W args.toList ds gs before) :
    Calls Tryz.prog 6 args W fun e W'=>∃ v,e=.returned v∧Rows.tablePartsSpec.post enc Tryz.prog Tryz.f6 false true false false W args v W':=by
  have hW':=hW
  obtain ⟨p,q,hA0,hV,rfl,hfz,hnd⟩:=hW
  have hA:DataW.TrodAll enc Tryz.prog W 0 (fun _=>true) true Tryz.f6.params.toList args.toList ds p:=hA0
  rw [Tryz.params6] at hA hval
  clear hA0
  obtain ⟨v0,vs0,d0,ds0,p0,q0,hargs0,rfl,rfl,h0,hA⟩:=trodAll_cons hA
  obtain ⟨v1,vs1,d1,ds1,p1,q1,hargs1,rfl,rfl,h1,hA⟩:=trodAll_cons hA
  obtain ⟨v2,vs2,d2,ds2,p2,q2,hargs2,rfl,rfl,h2,hA⟩:=trodAll_cons hA
  obtain ⟨hargsN,rfl,rfl⟩:=trodAll_nil hA
  obtain rfl:args=#[v0,v1,v2]:=by cases args; simp_all
  obtain ⟨rfl,rfl⟩:=trodVars_none hV
  obtain ⟨cs0,x0,rfl,e0⟩:=zL4 Tryz.underlying25 rd25 (hval 0 25 v0 rfl rfl) h0
  have e0:∃ u0_0 u0_1:Value,cs0=[u0_0,u0_1]∧Sl (α:=GAxis) (Hp.of W) u0_0 x0.fAxes∧Sl (α:=GEntry) (Hp.of W) u0_1 x0.fEntries:=e0
  obtain ⟨u0_0,u0_1,rfl,S0_0,S0_1⟩:=e0
  obtain ⟨x1,rfl,hwf1⟩:=zNQ Tryz.underlying3 (hval 1 3 v1 rfl rfl) h1
  obtain ⟨x2,rfl,hwf2⟩:=zNQ Tryz.underlying3 (hval 2 3 v2 rfl rfl) h2
  exact zNG rfl laidOut (by kernel_rfl) rfl hW' ⟨rfl,rfl,rfl⟩ (by kernel_rfl) Tryz.underlying4
    ((zHM (Holds.of W) x0 x1 x2 S0_0 S0_1 (zI7 x0 x1 x2)).mono fun _ _ h=>h)
theorem tableParts_reads (os:Os) {H:Type} (enc:TypeId×Value→H):∃ ds places,DataW.whole enc Tryz.prog ((laidWorld os).forCall (fun _ _=>0) ⟨#[],#[.agg #[.slice none 0 0,.slice none 0 0],.int .i64 0,.int .i64 0],[]⟩).memory Tryz.f6.params.toList Rows.tablePartsSpec.vars false (#[.agg #[.slice none 0 0,.slice none 0 0],.int .i64 0,.int .i64 0]:Array Value).toList 8=some (ds,[],places) :=
  zNm (by kernel_rfl)
set_option maxRecDepth 100000 in
theorem tableParts_lifted (os : Os) (started : os.Started) (H : Type) (enc : TypeId × Value → H) (F : Stop.Interp) :
    ReturnsInHanded {} Tryz.checked os 6 .any ((OpenSpec.ofChange Rows.tablePartsSpec).preRow enc Tryz.prog Tryz.f6 Rows.tablePartsRow.domain false Rows.tablePartsRow.laid) (((OpenSpec.ofChange Rows.tablePartsSpec).at F).post enc Tryz.prog Tryz.f6 false true false false):=by
  obtain ⟨ds,places,hx⟩:=tableParts_reads os enc
  refine returnsInHanded_of_row (C:=Tryz.checked) (s:=OpenSpec.ofChange Rows.tablePartsSpec) own started (by kernel_rfl) Tryz.func6
    (witness_row_at (enc:=enc) (C:=Tryz.checked) false (laidWorld os) #[.agg #[.slice none 0 0,.slice none 0 0],.int .i64 0,.int .i64 0] rfl (by kernel_rfl) (by kernel_rfl) (by kernel_rfl)
      (OpenSpec.preRow_of_cond 8 hx (by kernel_rfl) (fun k hk=>by cases hk) (by kernel_rfl) (laid_in os _).met)) ?_
  intro W base args ds gs before hval hW _ _ _ hL _ _
  exact tableParts_calls H enc W base args ds gs before hval hW
theorem tableParts_said:Rows.TablePartsSaid :=
  OpenClaim.holds_of_cond 6 Tryz.f6 rfl rfl rfl rfl rfl rfl rfl ⟨rfl,rfl,rfl,rfl,rfl⟩ rfl rfl rfl rfl rfl (by kernel_rfl) Tryz.func6 (by kernel_rfl)
    (of_decide_eq_true (by kernel_rfl)) (by unfold Func.isWrapper; first | (rw [if_pos (by decide +kernel)]; kernel_rfl) | (rw [if_neg (by decide +kernel)]; exact ⟨rfl,rfl⟩))
    (fun os started H enc _ F=>by rw [OpenClaim.pre_eq_preRow]; exact tableParts_lifted os started H enc F)
theorem tableParts_plain (f : FuncId) (fn : Func) (hf : Tryz.pinned.checked.prog.funcNamed Rows.tablePartsRow.func = some f) (hfn : Tryz.pinned.checked.prog.funcs[f]? = some fn) :
    false=Tryz.pinned.checked.prog.looks []∧∀ (j:Nat) t,fn.params[j]?=some t→Tryz.pinned.checked.prog.wantsStandIn t=false:=by
  obtain rfl:f=6:=Option.some.inj ((show Tryz.prog.funcNamed Rows.tablePartsRow.func=some 6 by kernel_rfl).symm.trans hf) |>.symm
  obtain rfl:fn=Tryz.f6:=(Option.some.inj (Tryz.func6.symm.trans hfn)).symm
  refine ⟨by kernel_rfl,fun j t ht=>?_⟩
  rw [Tryz.params6] at ht
  have hm:=Array.mem_of_getElem? ht
  have hall:(#[25,3,3]:Array Nat).all (fun t=>!Tryz.prog.wantsStandIn t)=true:=by kernel_rfl
  have:=Array.all_eq_true_iff_forall_mem.1 hall t hm
  show Tryz.prog.wantsStandIn t=false
  simpa using this
theorem tableParts_card:Rows.TablePartsCardSaid :=
  Claim7.holds_tied_plain_at .later [] _ _ _ _ tableParts_said (fun _ h=>by cases h) (by kernel_rfl) (fun _ h=>by cases h) tableParts_row_tie rfl ⟨rfl,rfl⟩ (by kernel_rfl) rfl tableParts_plain (by kernel_rfl)
#print axioms tableParts_card
end Go.Proofs.YtipgfplekgdoiaaGreatDoor
