/- A part of the proof: the law's function returns true (lifted). -/
import Derived.Test.YtihjhdoinmfddaaGreatDoorCards
import Derived.Test.YtihjhdoinmfddaaGreatDoorTie
import Derived.Test.YtihjhdoinmfddaaGreatDoorGenN6
import Derived.Test.YtihjhdoinmfddaaGreatDoorStC
import Derived.Test.YtihjhdoinmfddaaGreatDoorEng13
import Derived.ProofKit
import Derived.OpenShut
import Derived.Deep.DeepHandedRow
import Derived.Lib.LaidIn
import Derived.LaidHandle
namespace Go.Proofs.YtihjhdoinmfddaaGreatDoor
open Go.ChangeShapes Go.WideShapes Go.ChangeAt Go.RowKit Go.Eng Go.Eng.Pure Go.VI
set_option linter.unusedSimpArgs false
theorem own:ownKnob Tryz.prog.godebug=none:=by kernel_rfl
theorem laidOut:laidOutB Tryz.prog=true:=by kernel_rfl
theorem len3 {l:List Value} (h:l.length=3):∃ u0 u1 u2,l=[u0,u1,u2] :=
  match l,h with
  | [u0,u1,u2],_=>⟨u0,u1,u2,rfl⟩
theorem len6 {l:List Value} (h:l.length=6):∃ u0 u1 u2 u3 u4 u5,l=[u0,u1,u2,u3,u4,u5] :=
  match l,h with
  | [u0,u1,u2,u3,u4,u5],_=>⟨u0,u1,u2,u3,u4,u5,rfl⟩
theorem rd9:Rd Tryz.prog 9 Str:=Rd.str Tryz.underlying9
theorem rd3:Rd Tryz.prog 3 Int:=Rd.int Tryz.underlying3
theorem rd4:Rd Tryz.prog 4 Bool:=Rd.bool Tryz.underlying4
theorem rd23:Rd Tryz.prog 23 GConfig:=by
  intro X enc W fuel cs x h
  obtain ⟨hl,hf⟩:=Rd.field Tryz.underlying23 h
  obtain ⟨n0,y0,h0⟩:=hf 0 _ rfl
  obtain ⟨a0,h0⟩:=rd9 X enc W n0 _ y0 h0
  have c0:Tryz.prog.cellsOf 9=1:=by kernel_rfl
  obtain ⟨n1,y1,h1⟩:=hf 1 _ rfl
  obtain ⟨a1,h1⟩:=rd3 X enc W n1 _ y1 h1
  have c1:Tryz.prog.cellsOf 3=1:=by kernel_rfl
  obtain ⟨n2,y2,h2⟩:=hf 2 _ rfl
  obtain ⟨a2,h2⟩:=rd3 X enc W n2 _ y2 h2
  have c2:Tryz.prog.cellsOf 3=1:=by kernel_rfl
  obtain ⟨n3,y3,h3⟩:=hf 3 _ rfl
  obtain ⟨a3,h3⟩:=rd3 X enc W n3 _ y3 h3
  have c3:Tryz.prog.cellsOf 3=1:=by kernel_rfl
  obtain ⟨n4,y4,h4⟩:=hf 4 _ rfl
  obtain ⟨a4,h4⟩:=rd4 X enc W n4 _ y4 h4
  have c4:Tryz.prog.cellsOf 4=1:=by kernel_rfl
  obtain ⟨n5,y5,h5⟩:=hf 5 _ rfl
  obtain ⟨a5,h5⟩:=rd4 X enc W n5 _ y5 h5
  have c5:Tryz.prog.cellsOf 4=1:=by kernel_rfl
  have cc:Tryz.prog.cellsOf 23=6:=by kernel_rfl
  rw [cc] at hl
  clear h hf
  obtain ⟨u0,u1,u2,u3,u4,u5,rfl⟩:=len6 hl
  have e0:(([u0,u1,u2,u3,u4,u5]:List Value).drop 0).take (Tryz.prog.cellsOf 9)=[(str a0)]:=h0
  rw [c0] at e0
  have e1:(([u0,u1,u2,u3,u4,u5]:List Value).drop 1).take (Tryz.prog.cellsOf 3)=[(int a1)]:=h1
  rw [c1] at e1
  have e2:(([u0,u1,u2,u3,u4,u5]:List Value).drop 2).take (Tryz.prog.cellsOf 3)=[(int a2)]:=h2
  rw [c2] at e2
  have e3:(([u0,u1,u2,u3,u4,u5]:List Value).drop 3).take (Tryz.prog.cellsOf 3)=[(int a3)]:=h3
  rw [c3] at e3
  have e4:(([u0,u1,u2,u3,u4,u5]:List Value).drop 4).take (Tryz.prog.cellsOf 4)=[(boo a4)]:=h4
  rw [c4] at e4
  have e5:(([u0,u1,u2,u3,u4,u5]:List Value).drop 5).take (Tryz.prog.cellsOf 4)=[(boo a5)]:=h5
  rw [c5] at e5
  simp only [List.drop_zero,List.drop_succ_cons,List.take_succ_cons,List.take_zero,List.cons.injEq,and_true] at e0
  subst e0
  simp only [List.drop_zero,List.drop_succ_cons,List.take_succ_cons,List.take_zero,List.cons.injEq,and_true] at e1
  subst e1
  simp only [List.drop_zero,List.drop_succ_cons,List.take_succ_cons,List.take_zero,List.cons.injEq,and_true] at e2
  subst e2
  simp only [List.drop_zero,List.drop_succ_cons,List.take_succ_cons,List.take_zero,List.cons.injEq,and_true] at e3
  subst e3
  simp only [List.drop_zero,List.drop_succ_cons,List.take_succ_cons,List.take_zero,List.cons.injEq,and_true] at e4
  subst e4
  simp only [List.drop_zero,List.drop_succ_cons,List.take_succ_cons,List.take_zero,List.cons.injEq,and_true] at e5
  subst e5
  exact ⟨⟨a0,a1,a2,a3,a4,a5⟩,rfl⟩
theorem rd41:Rd Tryz.prog 41 Gvariantproxykeep_Step:=by
  intro X enc W fuel cs x h
  obtain ⟨hl,hf⟩:=Rd.field Tryz.underlying41 h
  obtain ⟨n0,y0,h0⟩:=hf 0 _ rfl
  obtain ⟨a0,h0⟩:=rd3 X enc W n0 _ y0 h0
  have c0:Tryz.prog.cellsOf 3=1:=by kernel_rfl
  obtain ⟨n1,y1,h1⟩:=hf 1 _ rfl
  obtain ⟨a1,h1⟩:=rd3 X enc W n1 _ y1 h1
  have c1:Tryz.prog.cellsOf 3=1:=by kernel_rfl
  obtain ⟨n2,y2,h2⟩:=hf 2 _ rfl
  obtain ⟨a2,h2⟩:=rd9 X enc W n2 _ y2 h2
  have c2:Tryz.prog.cellsOf 9=1:=by kernel_rfl
  have cc:Tryz.prog.cellsOf 41=3:=by kernel_rfl
  rw [cc] at hl
  clear h hf
  obtain ⟨u0,u1,u2,rfl⟩:=len3 hl
  have e0:(([u0,u1,u2]:List Value).drop 0).take (Tryz.prog.cellsOf 3)=[(int a0)]:=h0
  rw [c0] at e0
  have e1:(([u0,u1,u2]:List Value).drop 1).take (Tryz.prog.cellsOf 3)=[(int a1)]:=h1
  rw [c1] at e1
  have e2:(([u0,u1,u2]:List Value).drop 2).take (Tryz.prog.cellsOf 9)=[(str a2)]:=h2
  rw [c2] at e2
  simp only [List.drop_zero,List.drop_succ_cons,List.take_succ_cons,List.take_zero,List.cons.injEq,and_true] at e0
  subst e0
  simp only [List.drop_zero,List.drop_succ_cons,List.take_succ_cons,List.take_zero,List.cons.injEq,and_true] at e1
  subst e1
  simp only [List.drop_zero,List.drop_succ_cons,List.take_succ_cons,List.take_zero,List.cons.injEq,and_true] at e2
  subst e2
  exact ⟨⟨a0,a1,a2⟩,rfl⟩
theorem rd24:Rd Tryz.prog 24 (List Gvariantproxykeep_Step):=fun X enc W fuel cs x h=>by
  obtain ⟨v,a,h1,h2⟩:=Rd.list (α:=Gvariantproxykeep_Step) (by kernel_rfl) Tryz.underlying24 rd41 X enc W fuel cs x h
  exact ⟨a,v,h1,h2⟩
theorem rd23q:RdQ Tryz.prog 23 GConfig (fun a=>a.fName.length≤9223372036854775807):=by
  intro X enc W fuel cs x h
  obtain ⟨a,ha⟩:=rd23 X enc W fuel cs x h
  refine ⟨a,ha,?_⟩
  have ha:cs=[(str a.fName),(int a.fBytes),(int a.fVariants),(int a.fTables),(boo a.fStrict),(boo a.fRefuse)]:=ha
  subst ha
  obtain ⟨hl,hf⟩:=Rd.field Tryz.underlying23 h
  obtain ⟨n0,y0,h0⟩:=hf 0 _ rfl
  have h0:DataW.trod enc Tryz.prog W 0 (fun _=>true) true n0 9 (([(str a.fName),(int a.fBytes),(int a.fVariants),(int a.fTables),(boo a.fStrict),(boo a.fRefuse)]:List Value).drop 0|>.take (Tryz.prog.cellsOf 9))=some y0:=h0
  rw [show Tryz.prog.cellsOf 9=1 by kernel_rfl] at h0
  exact zXB Tryz.underlying9 h0
noncomputable def low:Nat:=(World.holding Tryz.prog default ⟨#[],#[],[]⟩).heap.size
/-- A world for the witness: the settled one,the listed variables holding what their initialisers lay. -/
noncomputable def laidWorld (os:Os):World :=
  let w0:=World.holding Tryz.prog os ⟨#[.cells #[.string { data:=#[110,111,116,32,116,104,101,32,102,111,114,109,32,116,104,97,116,32,105,115,32,101,120,112,101,99,116,101,100] }] 456,.cells #[.string { data:=#[97,110,111,116,104,101,114,32,118,101,114,115,105,111,110] }] 456,.cells #[.string { data:=#[97,32,114,101,113,117,101,115,116,32,116,104,97,116,32,105,115,32,110,111,116,32,112,101,114,109,105,116,116,101,100] }] 456],#[],[]⟩
  let put (h:Array Obj) (g:Nat) (cs:Array Value):Array Obj:=h.modify g fun
    | .cells _ t frozen=>.cells cs t frozen
    | o=>o
  let h1:=put w0.heap 0 #[.iface 437 (.pointer (some ⟨low+2,0,none⟩))]
  let h2:=put h1 1 #[.iface 184 (.agg #[.pointer (some ⟨10,67,none⟩)])]
  let h3:=put h2 2 #[.iface 437 (.pointer (some ⟨low+0,0,none⟩))]
  let h4:=put h3 3 #[.iface 437 (.pointer (some ⟨low+1,0,none⟩))]
  let h5:=put h4 5 #[.int .u64 1,.int .u64 10,.int .u64 100,.int .u64 1000,.int .u64 10000,.int .u64 100000,.int .u64 1000000,.int .u64 10000000,.int .u64 100000000,.int .u64 1000000000,.int .u64 10000000000,.int .u64 100000000000,.int .u64 1000000000000,.int .u64 10000000000000,.int .u64 100000000000000,.int .u64 1000000000000000,.int .u64 10000000000000000,.int .u64 100000000000000000,.int .u64 1000000000000000000,.int .u64 10000000000000000000]
  let h6:=put h5 6 ((Pinned.utf8FirstZ.map fun (z:Nat)=>Value.int .u8 (z:Int)).toArray)
  let h7:=put h6 7 #[.int .u8 128,.int .u8 191,.int .u8 160,.int .u8 191,.int .u8 128,.int .u8 159,.int .u8 144,.int .u8 191,.int .u8 128,.int .u8 143,.int .u8 0,.int .u8 0,.int .u8 0,.int .u8 0,.int .u8 0,.int .u8 0,.int .u8 0,.int .u8 0,.int .u8 0,.int .u8 0,.int .u8 0,.int .u8 0,.int .u8 0,.int .u8 0,.int .u8 0,.int .u8 0,.int .u8 0,.int .u8 0,.int .u8 0,.int .u8 0,.int .u8 0,.int .u8 0]
  let h8:=put h7 8 #[.int .u8 0,.int .u8 1,.int .u8 28,.int .u8 2,.int .u8 29,.int .u8 14,.int .u8 24,.int .u8 3,.int .u8 30,.int .u8 22,.int .u8 20,.int .u8 15,.int .u8 25,.int .u8 17,.int .u8 4,.int .u8 8,.int .u8 31,.int .u8 27,.int .u8 13,.int .u8 23,.int .u8 21,.int .u8 19,.int .u8 16,.int .u8 7,.int .u8 26,.int .u8 12,.int .u8 18,.int .u8 6,.int .u8 11,.int .u8 5,.int .u8 10,.int .u8 9]
  let h9:=put h8 9 #[.int .u8 0,.int .u8 1,.int .u8 56,.int .u8 2,.int .u8 57,.int .u8 49,.int .u8 28,.int .u8 3,.int .u8 61,.int .u8 58,.int .u8 42,.int .u8 50,.int .u8 38,.int .u8 29,.int .u8 17,.int .u8 4,.int .u8 62,.int .u8 47,.int .u8 59,.int .u8 36,.int .u8 45,.int .u8 43,.int .u8 51,.int .u8 22,.int .u8 53,.int .u8 39,.int .u8 33,.int .u8 30,.int .u8 24,.int .u8 18,.int .u8 12,.int .u8 5,.int .u8 63,.int .u8 55,.int .u8 48,.int .u8 27,.int .u8 60,.int .u8 41,.int .u8 37,.int .u8 16,.int .u8 46,.int .u8 35,.int .u8 44,.int .u8 21,.int .u8 52,.int .u8 32,.int .u8 23,.int .u8 11,.int .u8 54,.int .u8 26,.int .u8 40,.int .u8 15,.int .u8 34,.int .u8 20,.int .u8 31,.int .u8 10,.int .u8 25,.int .u8 14,.int .u8 19,.int .u8 9,.int .u8 13,.int .u8 8,.int .u8 7,.int .u8 6]
  { w0 with heap:=h9 }
theorem laid_in (os:Os) (args:Array Value):LaidIn Tryz.prog ((laidWorld os).forCall (fun _ _=>0) ⟨#[],args,[]⟩).memory (Rows.proxyStatesRow.laid.filter fun x=>x.2.handleName?.isNone) [8,9,5,7,2,3,0,6,low+0,low+1,low+2] :=
  LaidIn.of_run [8,9,5,7,2,3,0,6,low+0,low+1,low+2] 8 (by kernel_rfl) (by kernel_rfl) (by kernel_rfl) (by kernel_rfl)
theorem laidMet_part {P:Program} {l:List (String×DataW Unit)} {w:World} (h:laidMetH P l w):laidMet P (l.filter fun x=>x.2.handleName?.isNone) w:=by
  unfold laidMetH at h
  split at h
  · rename_i hf
    have e:(l.filter fun x=>x.2.handleName?.isNone)=l:=by
      rw [List.filter_eq_self]
      intro x hx
      have:=(List.filter_eq_nil_iff.1 hf) x hx
      cases hn:x.2.handleName? with
      | none=>rfl
      | some s=>rw [hn] at this; exact absurd rfl this
    rw [e]; exact h
  · exact h.1
theorem gl_of {W:World} (hL:laidMetH Tryz.prog Rows.proxyStatesRow.laid W):Tryz.Gl W:=by
  have h:laidMet Tryz.prog (Rows.proxyStatesRow.laid.filter fun x=>x.2.handleName?.isNone) W:=laidMet_part hL
  exact ⟨zOP (g:=5) (t:=388) (e:=355) (n:=20) (List.mem_of_getElem? (i:=2) (by kernel_rfl:((Rows.proxyStatesRow.laid.filter fun x=>x.2.handleName?.isNone))[2]?=some ("internal/strconv.uint64pow10",Lib.tabData .u64 Lib.pow10Tab))) (by kernel_rfl) (by kernel_rfl) Tryz.underlying388 Tryz.underlying355 (by kernel_rfl) (by kernel_rfl) h⟩
theorem rowErr (u:TypeId) (h:Tryz.prog.typeName? 3 u=some "*errors.errorString"):u=437 :=
  typeName_ptr_named (nm:= "errors.errorString") (by kernel_rfl) (by kernel_rfl) (by decide) u h
theorem gla_of {W:World} (hL:laidMetH Tryz.prog Rows.proxyStatesRow.laid W):GlA W:=by
  have h:laidMet Tryz.prog (Rows.proxyStatesRow.laid.filter fun x=>x.2.handleName?.isNone) W:=laidMet_part hL
  have s0:Sent W 0 437 [97,32,114,101,113,117,101,115,116,32,116,104,97,116,32,105,115,32,110,111,116,32,112,101,114,109,105,116,116,101,100]:=(zIM (n:= "variantproxy/proxy.errRequest") (List.mem_of_getElem? (i:=6) (by kernel_rfl:((Rows.proxyStatesRow.laid.filter fun x=>x.2.handleName?.isNone))[6]?=some ("variantproxy/proxy.errRequest",.iface "*errors.errorString" (.ptr (.agg [.lit (.string [97,32,114,101,113,117,101,115,116,32,116,104,97,116,32,105,115,32,110,111,116,32,112,101,114,109,105,116,116,101,100])]))))) h (by kernel_rfl) (by kernel_rfl) Tryz.underlying67 rowErr Tryz.underlying437 Tryz.underlying456 rfl rfl Tryz.underlying9 (by kernel_rfl) (by kernel_rfl)).1
  have s2:Sent W 2 437 [110,111,116,32,116,104,101,32,102,111,114,109,32,116,104,97,116,32,105,115,32,101,120,112,101,99,116,101,100]:=(zIM (n:= "variantproxy/startline.errSyntax") (List.mem_of_getElem? (i:=4) (by kernel_rfl:((Rows.proxyStatesRow.laid.filter fun x=>x.2.handleName?.isNone))[4]?=some ("variantproxy/startline.errSyntax",.iface "*errors.errorString" (.ptr (.agg [.lit (.string [110,111,116,32,116,104,101,32,102,111,114,109,32,116,104,97,116,32,105,115,32,101,120,112,101,99,116,101,100])]))))) h (by kernel_rfl) (by kernel_rfl) Tryz.underlying67 rowErr Tryz.underlying437 Tryz.underlying456 rfl rfl Tryz.underlying9 (by kernel_rfl) (by kernel_rfl)).1
  have s3:Sent W 3 437 [97,110,111,116,104,101,114,32,118,101,114,115,105,111,110]:=(zIM (n:= "variantproxy/startline.errVersion") (List.mem_of_getElem? (i:=5) (by kernel_rfl:((Rows.proxyStatesRow.laid.filter fun x=>x.2.handleName?.isNone))[5]?=some ("variantproxy/startline.errVersion",.iface "*errors.errorString" (.ptr (.agg [.lit (.string [97,110,111,116,104,101,114,32,118,101,114,115,105,111,110])]))))) h (by kernel_rfl) (by kernel_rfl) Tryz.underlying67 rowErr Tryz.underlying437 Tryz.underlying456 rfl rfl Tryz.underlying9 (by kernel_rfl) (by kernel_rfl)).1
  have hh:=zMr (n:= "errors.errorType") (s:=[101,114,114,111,114]) (u:=184) (ty:=67) (List.mem_of_getElem? (i:=4) (by kernel_rfl:Rows.proxyStatesRow.laid[4]?=some ("errors.errorType",.iface "internal/reflectlite.rtype" (.agg [.ptr (.lit (.string [101,114,114,111,114]))])))) hL (by kernel_rfl) (by kernel_rfl)
  rw [show typeHandle Tryz.prog 67=.pointer (some ⟨10,67,none⟩) by kernel_rfl] at hh
  have a1:At (Hp.of W) ⟨1,0,none⟩ [.iface 184 (.agg #[.pointer (some ⟨10,67,none⟩)])]:=zTu (by kernel_rfl) hh
  exact GlA.mk' (gl_of hL) s0 s2 s3 a1

set_option maxRecDepth 100000 in
theorem proxyStates_calls (H : Type) (enc : TypeId × Value → H) (W : World) (base : Nat) (args : Array Value) (ds gs : List (DataW H)) (before : List MemPlace)
    (hval:∀ (j:Nat) t v,Tryz.f3.params[j]?=some t→args[j]?=some v→Value.okWide Tryz.prog W .any base t v)
    (hW:DataW.Whole enc Tryz.prog Tryz.f3.params.toList Rows.proxyStatesSpec.vars false W args.toList ds gs before) (hL:laidMetH Tryz.prog Rows.proxyStatesRow.laid W) :
    Calls Tryz.prog 3 args W fun e W'=>∃ v,e=.returned v∧Rows.proxyStatesSpec.post enc Tryz.prog Tryz.f3 false true false false W args v W':=by
  have hW':=hW
  obtain ⟨p,q,hA0,hV,rfl,hfz,hnd⟩:=hW
  have hA:DataW.TrodAll enc Tryz.prog W 0 (fun _=>true) true Tryz.f3.params.toList args.toList ds p:=hA0
  rw [Tryz.params3] at hA hval
  clear hA0
  obtain ⟨v0,vs0,d0,ds0,p0,q0,hargs0,rfl,rfl,h0,hA⟩:=trodAll_cons hA
  obtain ⟨v1,vs1,d1,ds1,p1,q1,hargs1,rfl,rfl,h1,hA⟩:=trodAll_cons hA
  obtain ⟨hargsN,rfl,rfl⟩:=trodAll_nil hA
  obtain rfl:args=#[v0,v1]:=by cases args; simp_all
  obtain ⟨rfl,rfl⟩:=trodVars_none hV
  obtain ⟨cs0,x0,rfl,e0,hn0⟩:=zPd Tryz.underlying23 rd23q (hval 0 23 v0 rfl rfl) h0
  have e0:cs0=[(str x0.fName),(int x0.fBytes),(int x0.fVariants),(int x0.fTables),(boo x0.fStrict),(boo x0.fRefuse)]:=e0
  subst e0
  obtain ⟨x1,R1⟩:=zUS (α:=Gvariantproxykeep_Step) Tryz.underlying24 (by kernel_rfl) rd41 (hval 1 24 v1 rfl rfl) h1
  exact zUb rfl laidOut (by kernel_rfl) rfl hW' ⟨rfl,rfl,rfl⟩ (by kernel_rfl) Tryz.underlying4
    ((zJE (Holds.of W) (gla_of hL) x0 x1 R1 (zLX x0 x1 hn0)).mono fun _ _ h=>h)
theorem proxyStates_reads (os:Os) {H:Type} (enc:TypeId×Value→H):∃ ds places,DataW.whole enc Tryz.prog ((laidWorld os).forCall (fun _ _=>0) ⟨#[],#[.agg #[.string "".toUTF8,.int .i64 0,.int .i64 0,.int .i64 0,.bool false,.bool false],.slice none 0 0],[]⟩).memory Tryz.f3.params.toList Rows.proxyStatesSpec.vars false (#[.agg #[.string "".toUTF8,.int .i64 0,.int .i64 0,.int .i64 0,.bool false,.bool false],.slice none 0 0]:Array Value).toList 8=some (ds,[],places) :=
  zVx (by kernel_rfl)
set_option maxRecDepth 100000 in
theorem proxyStates_lifted (os : Os) (started : os.Started) (H : Type) (enc : TypeId × Value → H) (F : Stop.Interp) :
    ReturnsInHanded {} Tryz.checked os 3 .any ((OpenSpec.ofChange Rows.proxyStatesSpec).preRow enc Tryz.prog Tryz.f3 Rows.proxyStatesRow.domain false Rows.proxyStatesRow.laid) (((OpenSpec.ofChange Rows.proxyStatesSpec).at F).post enc Tryz.prog Tryz.f3 false true false false):=by
  obtain ⟨ds,places,hx⟩:=proxyStates_reads os enc
  refine returnsInHanded_of_row (C:=Tryz.checked) (s:=OpenSpec.ofChange Rows.proxyStatesSpec) own started (by kernel_rfl) Tryz.func3
    (witness_row_at (enc:=enc) (C:=Tryz.checked) false (laidWorld os) #[.agg #[.string "".toUTF8,.int .i64 0,.int .i64 0,.int .i64 0,.bool false,.bool false],.slice none 0 0] rfl (by kernel_rfl) (by kernel_rfl) (by kernel_rfl)
      (OpenSpec.preRow_of_cond 8 hx (by kernel_rfl) (fun k hk=>by cases hk) (by kernel_rfl) (laidMetH_of_parts (laid_in os _).met (by kernel_rfl)))) ?_
  intro W base args ds gs before hval hW _ _ _ hL _ _
  exact proxyStates_calls H enc W base args ds gs before hval hW hL
end Go.Proofs.YtihjhdoinmfddaaGreatDoor
