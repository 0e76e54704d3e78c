/- A part of the proof: the law's function returns true (lifted). -/
import Derived.Test.YtljjaiijlaeoeaaGreatDoorCards
import Derived.Test.YtljjaiijlaeoeaaGreatDoorTie
import Derived.Test.YtljjaiijlaeoeaaGreatDoorGenP27
import Derived.Test.YtljjaiijlaeoeaaGreatDoorProxA
import Derived.Test.YtljjaiijlaeoeaaGreatDoorEng13
import Derived.ProofKit
import Derived.OpenShut
import Derived.Deep.DeepHandedRow
import Derived.Lib.LaidIn
import Derived.LaidHandle
namespace Go.Proofs.YtljjaiijlaeoeaaGreatDoor
open Go.ChangeShapes Go.WideShapes Go.ChangeAt Go.RowKit Go.Eng Go.Eng.Pure
set_option linter.unusedSimpArgs false
theorem own:ownKnob Tryz.prog.godebug=none:=by kernel_rfl
theorem laidOut:laidOutB Tryz.prog=true:=by kernel_rfl
theorem rd3:Rd Tryz.prog 3 Int:=Rd.int Tryz.underlying3
noncomputable def low:Nat:=(World.holding Tryz.prog default ⟨#[],#[],[]⟩).heap.size
/-- A world for the witness: the settled one,the listed variables holding what their initialisers lay. -/
noncomputable def laidWorld (os:Os):World :=
  let w0:=World.holding Tryz.prog os ⟨#[.cells #[.string { data:=#[110,111,116,32,116,104,101,32,102,111,114,109,32,116,104,97,116,32,105,115,32,101,120,112,101,99,116,101,100] }] 471,.cells #[.string { data:=#[97,110,111,116,104,101,114,32,118,101,114,115,105,111,110] }] 471,.cells #[.string { data:=#[97,32,114,101,113,117,101,115,116,32,116,104,97,116,32,105,115,32,110,111,116,32,112,101,114,109,105,116,116,101,100] }] 471],#[],[]⟩
  let put (h:Array Obj) (g:Nat) (cs:Array Value):Array Obj:=h.modify g fun
    | .cells _ t frozen=>.cells cs t frozen
    | o=>o
  let h1:=put w0.heap 0 #[.iface 452 (.pointer (some ⟨low+2,0,none⟩))]
  let h2:=put h1 1 #[.iface 220 (.agg #[.pointer (some ⟨10,98,none⟩)])]
  let h3:=put h2 2 #[.iface 452 (.pointer (some ⟨low+0,0,none⟩))]
  let h4:=put h3 3 #[.iface 452 (.pointer (some ⟨low+1,0,none⟩))]
  let h5:=put h4 5 #[.int .u64 1,.int .u64 10,.int .u64 100,.int .u64 1000,.int .u64 10000,.int .u64 100000,.int .u64 1000000,.int .u64 10000000,.int .u64 100000000,.int .u64 1000000000,.int .u64 10000000000,.int .u64 100000000000,.int .u64 1000000000000,.int .u64 10000000000000,.int .u64 100000000000000,.int .u64 1000000000000000,.int .u64 10000000000000000,.int .u64 100000000000000000,.int .u64 1000000000000000000,.int .u64 10000000000000000000]
  let h6:=put h5 6 ((Pinned.utf8FirstZ.map fun (z:Nat)=>Value.int .u8 (z:Int)).toArray)
  let h7:=put h6 7 #[.int .u8 128,.int .u8 191,.int .u8 160,.int .u8 191,.int .u8 128,.int .u8 159,.int .u8 144,.int .u8 191,.int .u8 128,.int .u8 143,.int .u8 0,.int .u8 0,.int .u8 0,.int .u8 0,.int .u8 0,.int .u8 0,.int .u8 0,.int .u8 0,.int .u8 0,.int .u8 0,.int .u8 0,.int .u8 0,.int .u8 0,.int .u8 0,.int .u8 0,.int .u8 0,.int .u8 0,.int .u8 0,.int .u8 0,.int .u8 0,.int .u8 0,.int .u8 0]
  let h8:=put h7 8 #[.int .u8 0,.int .u8 1,.int .u8 28,.int .u8 2,.int .u8 29,.int .u8 14,.int .u8 24,.int .u8 3,.int .u8 30,.int .u8 22,.int .u8 20,.int .u8 15,.int .u8 25,.int .u8 17,.int .u8 4,.int .u8 8,.int .u8 31,.int .u8 27,.int .u8 13,.int .u8 23,.int .u8 21,.int .u8 19,.int .u8 16,.int .u8 7,.int .u8 26,.int .u8 12,.int .u8 18,.int .u8 6,.int .u8 11,.int .u8 5,.int .u8 10,.int .u8 9]
  let h9:=put h8 9 #[.int .u8 0,.int .u8 1,.int .u8 56,.int .u8 2,.int .u8 57,.int .u8 49,.int .u8 28,.int .u8 3,.int .u8 61,.int .u8 58,.int .u8 42,.int .u8 50,.int .u8 38,.int .u8 29,.int .u8 17,.int .u8 4,.int .u8 62,.int .u8 47,.int .u8 59,.int .u8 36,.int .u8 45,.int .u8 43,.int .u8 51,.int .u8 22,.int .u8 53,.int .u8 39,.int .u8 33,.int .u8 30,.int .u8 24,.int .u8 18,.int .u8 12,.int .u8 5,.int .u8 63,.int .u8 55,.int .u8 48,.int .u8 27,.int .u8 60,.int .u8 41,.int .u8 37,.int .u8 16,.int .u8 46,.int .u8 35,.int .u8 44,.int .u8 21,.int .u8 52,.int .u8 32,.int .u8 23,.int .u8 11,.int .u8 54,.int .u8 26,.int .u8 40,.int .u8 15,.int .u8 34,.int .u8 20,.int .u8 31,.int .u8 10,.int .u8 25,.int .u8 14,.int .u8 19,.int .u8 9,.int .u8 13,.int .u8 8,.int .u8 7,.int .u8 6]
  { w0 with heap:=h9 }
theorem laid_in (os:Os) (args:Array Value):LaidIn Tryz.prog ((laidWorld os).forCall (fun _ _=>0) ⟨#[],args,[]⟩).memory (Rows.proxyOwnRow.laid.filter fun x=>x.2.handleName?.isNone) [8,9,5,7,2,3,0,6,low+0,low+1,low+2] :=
  LaidIn.of_run [8,9,5,7,2,3,0,6,low+0,low+1,low+2] 8 (by kernel_rfl) (by kernel_rfl) (by kernel_rfl) (by kernel_rfl)
theorem laidMet_part {P:Program} {l:List (String×DataW Unit)} {w:World} (h:laidMetH P l w):laidMet P (l.filter fun x=>x.2.handleName?.isNone) w:=by
  unfold laidMetH at h
  split at h
  · rename_i hf
    have e:(l.filter fun x=>x.2.handleName?.isNone)=l:=by
      rw [List.filter_eq_self]
      intro x hx
      have:=(List.filter_eq_nil_iff.1 hf) x hx
      cases hn:x.2.handleName? with
      | none=>rfl
      | some s=>rw [hn] at this; exact absurd rfl this
    rw [e]; exact h
  · exact h.1
theorem gl_of {W:World} (hL:laidMetH Tryz.prog Rows.proxyOwnRow.laid W):Tryz.Gl W:=by
  have h:laidMet Tryz.prog (Rows.proxyOwnRow.laid.filter fun x=>x.2.handleName?.isNone) W:=laidMet_part hL
  exact ⟨zHa (g:=5) (t:=403) (e:=370) (n:=20) (List.mem_of_getElem? (i:=2) (by kernel_rfl:((Rows.proxyOwnRow.laid.filter fun x=>x.2.handleName?.isNone))[2]?=some ("internal/strconv.uint64pow10",Lib.tabData .u64 Lib.pow10Tab))) (by kernel_rfl) (by kernel_rfl) Tryz.underlying403 Tryz.underlying370 (by kernel_rfl) (by kernel_rfl) h⟩

set_option maxRecDepth 100000 in
theorem proxyOwn_calls (H : Type) (enc : TypeId × Value → H) (W : World) (base : Nat) (args : Array Value) (ds gs : List (DataW H)) (before : List MemPlace)
    (hval:∀ (j:Nat) t v,Tryz.f3.params[j]?=some t→args[j]?=some v→Value.okWide Tryz.prog W .any base t v)
    (hW:DataW.Whole enc Tryz.prog Tryz.f3.params.toList Rows.proxyOwnSpec.vars false W args.toList ds gs before) (hL:laidMetH Tryz.prog Rows.proxyOwnRow.laid W) :
    Calls Tryz.prog 3 args W fun e W'=>∃ v,e=.returned v∧Rows.proxyOwnSpec.post enc Tryz.prog Tryz.f3 false true false false W args v W':=by
  have hW':=hW
  obtain ⟨p,q,hA0,hV,rfl,hfz,hnd⟩:=hW
  have hA:DataW.TrodAll enc Tryz.prog W 0 (fun _=>true) true Tryz.f3.params.toList args.toList ds p:=hA0
  rw [Tryz.params3] at hA hval
  clear hA0
  obtain ⟨v0,vs0,d0,ds0,p0,q0,hargs0,rfl,rfl,h0,hA⟩:=trodAll_cons hA
  obtain ⟨hargsN,rfl,rfl⟩:=trodAll_nil hA
  obtain rfl:args=#[v0]:=by cases args; simp_all
  obtain ⟨rfl,rfl⟩:=trodVars_none hV
  obtain ⟨x0,rfl,hwf0⟩:=zLr Tryz.underlying3 (hval 0 3 v0 rfl rfl) h0
  exact zIL rfl laidOut (by kernel_rfl) rfl hW' ⟨rfl,rfl,rfl⟩ (by kernel_rfl) Tryz.underlying4
    ((zLf (Holds.of W) (gl_of hL) x0  (zLp x0)).mono fun _ _ h=>h)
theorem proxyOwn_reads (os:Os) {H:Type} (enc:TypeId×Value→H):∃ ds places,DataW.whole enc Tryz.prog ((laidWorld os).forCall (fun _ _=>0) ⟨#[],#[.int .i64 0],[]⟩).memory Tryz.f3.params.toList Rows.proxyOwnSpec.vars false (#[.int .i64 0]:Array Value).toList 8=some (ds,[],places) :=
  zIb (by kernel_rfl)
set_option maxRecDepth 100000 in
theorem proxyOwn_lifted (os : Os) (started : os.Started) (H : Type) (enc : TypeId × Value → H) (F : Stop.Interp) :
    ReturnsInHanded {} Tryz.checked os 3 .any ((OpenSpec.ofChange Rows.proxyOwnSpec).preRow enc Tryz.prog Tryz.f3 Rows.proxyOwnRow.domain false Rows.proxyOwnRow.laid) (((OpenSpec.ofChange Rows.proxyOwnSpec).at F).post enc Tryz.prog Tryz.f3 false true false false):=by
  obtain ⟨ds,places,hx⟩:=proxyOwn_reads os enc
  refine returnsInHanded_of_row (C:=Tryz.checked) (s:=OpenSpec.ofChange Rows.proxyOwnSpec) own started (by kernel_rfl) Tryz.func3
    (witness_row_at (enc:=enc) (C:=Tryz.checked) false (laidWorld os) #[.int .i64 0] rfl (by kernel_rfl) (by kernel_rfl) (by kernel_rfl)
      (OpenSpec.preRow_of_cond 8 hx (by kernel_rfl) (fun k hk=>by cases hk) (by kernel_rfl) (laidMetH_of_parts (laid_in os _).met (by kernel_rfl)))) ?_
  intro W base args ds gs before hval hW _ _ _ hL _ _
  exact proxyOwn_calls H enc W base args ds gs before hval hW hL
end Go.Proofs.YtljjaiijlaeoeaaGreatDoor
