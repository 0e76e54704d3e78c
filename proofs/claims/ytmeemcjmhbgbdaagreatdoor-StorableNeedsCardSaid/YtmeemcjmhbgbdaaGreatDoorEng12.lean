/- The engine, part 12: what the End texts use. -/
import Derived.Test.YtmeemcjmhbgbdaaGreatDoorEng10
namespace Go.Eng
open Go
theorem reads_of {α β γ : Type} {o : Option (α × List β × γ)} (h : o.map (fun x => x.2.1.isEmpty) = some true) : ∃ ds places, o = some (ds, [], places) := by
  cases o with
  | none => cases h
  | some x =>
    obtain ⟨ds, gs, ps⟩ := x
    simp at h
    subst h
    exact ⟨ds, ps, rfl⟩
end Go.Eng
