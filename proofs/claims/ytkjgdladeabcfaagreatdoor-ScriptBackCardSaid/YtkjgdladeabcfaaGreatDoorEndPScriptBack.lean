/- A part of the proof: the function is no instance. -/
import Derived.Test.YtkjgdladeabcfaaGreatDoorCards
import Derived.Test.YtkjgdladeabcfaaGreatDoorTie
import Derived.KernelRfl
import Derived.JoinedCond
import Derived.Test.YtkjgdladeabcfaaGreatDoorEndKScriptBack
import Derived.Test.YtkjgdladeabcfaaGreatDoorEndLScriptBack
import Derived.Test.YtkjgdladeabcfaaGreatDoorEndMScriptBack
import Derived.Test.YtkjgdladeabcfaaGreatDoorEndNScriptBack
namespace Go.Proofs.YtkjgdladeabcfaaGreatDoor
open Go
theorem scriptBack_inst : Tryz.f4.isInstance Tryz.pinned.checked.prog Rows.scriptBackRow.origin Rows.scriptBackRow.targs := of_decide_eq_true (by kernel_rfl)
theorem scriptBack_fn : Tryz.pinned.checked.prog.funcNamed Rows.scriptBackRow.func = some 4 := by kernel_rfl
theorem scriptBack_wrap : Tryz.f4.isWrapper Tryz.pinned.checked.prog Rows.scriptBackRow.wrapper Rows.scriptBackRow.mainSum := by unfold Func.isWrapper; first | (rw [if_pos (by decide +kernel)]; kernel_rfl) | (rw [if_neg (by decide +kernel)]; exact ⟨rfl, rfl⟩)
end Go.Proofs.YtkjgdladeabcfaaGreatDoor
