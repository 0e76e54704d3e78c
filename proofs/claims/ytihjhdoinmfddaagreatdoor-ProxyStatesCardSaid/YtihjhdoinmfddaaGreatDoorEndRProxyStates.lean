/- A part of the proof: what the program looks at. -/
import Derived.Test.YtihjhdoinmfddaaGreatDoorCards
import Derived.Test.YtihjhdoinmfddaaGreatDoorTie
import Derived.KernelRfl
namespace Go.Proofs.YtihjhdoinmfddaaGreatDoor
open Go
theorem proxyStates_plain (f : FuncId) (fn : Func) (hf : Tryz.pinned.checked.prog.funcNamed Rows.proxyStatesRow.func = some f) (hfn : Tryz.pinned.checked.prog.funcs[f]? = some fn) :
    true=Tryz.pinned.checked.prog.looks []∧∀ (j:Nat) t,fn.params[j]?=some t→Tryz.pinned.checked.prog.wantsStandIn t=false:=by
  obtain rfl:f=3:=Option.some.inj ((show Tryz.prog.funcNamed Rows.proxyStatesRow.func=some 3 by kernel_rfl).symm.trans hf) |>.symm
  obtain rfl:fn=Tryz.f3:=(Option.some.inj (Tryz.func3.symm.trans hfn)).symm
  refine ⟨by kernel_rfl,fun j t ht=>?_⟩
  rw [Tryz.params3] at ht
  have hm:=Array.mem_of_getElem? ht
  have hall:(#[23,24]:Array Nat).all (fun t=>!Tryz.prog.wantsStandIn t)=true:=by kernel_rfl
  have:=Array.all_eq_true_iff_forall_mem.1 hall t hm
  show Tryz.prog.wantsStandIn t=false
  simpa using this
end Go.Proofs.YtihjhdoinmfddaaGreatDoor
