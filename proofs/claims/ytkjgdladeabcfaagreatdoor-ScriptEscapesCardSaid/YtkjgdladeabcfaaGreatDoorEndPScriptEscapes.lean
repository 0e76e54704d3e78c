/- A part of the proof: the function is no instance. -/
import Derived.Test.YtkjgdladeabcfaaGreatDoorCards
import Derived.Test.YtkjgdladeabcfaaGreatDoorTie
import Derived.KernelRfl
import Derived.JoinedCond
import Derived.Test.YtkjgdladeabcfaaGreatDoorEndKScriptEscapes
import Derived.Test.YtkjgdladeabcfaaGreatDoorEndLScriptEscapes
import Derived.Test.YtkjgdladeabcfaaGreatDoorEndMScriptEscapes
import Derived.Test.YtkjgdladeabcfaaGreatDoorEndNScriptEscapes
namespace Go.Proofs.YtkjgdladeabcfaaGreatDoor
open Go
theorem scriptEscapes_inst : Tryz.f3.isInstance Tryz.pinned.checked.prog Rows.scriptEscapesRow.origin Rows.scriptEscapesRow.targs := of_decide_eq_true (by kernel_rfl)
theorem scriptEscapes_fn : Tryz.pinned.checked.prog.funcNamed Rows.scriptEscapesRow.func = some 3 := by kernel_rfl
theorem scriptEscapes_wrap : Tryz.f3.isWrapper Tryz.pinned.checked.prog Rows.scriptEscapesRow.wrapper Rows.scriptEscapesRow.mainSum := by unfold Func.isWrapper; first | (rw [if_pos (by decide +kernel)]; kernel_rfl) | (rw [if_neg (by decide +kernel)]; exact ⟨rfl, rfl⟩)
end Go.Proofs.YtkjgdladeabcfaaGreatDoor
