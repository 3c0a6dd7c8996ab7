/- The plain law of GccAll: what the walk computes answers true, for every input. -/
import Derived.Test.YtijjhobjmehhoaaGreatDoorKM
namespace Go.Proofs.YtijjhobjmehhoaaGreatDoor.Pure
open Go.RowKit Go.Proofs.YtijjhobjmehhoaaGreatDoor.XGccAll Go.Proofs.YtijjhobjmehhoaaGreatDoorW.PrintWords Go.Proofs.YtijjhobjmehhoaaGreatDoorW.PrintLast Go.Proofs.YtijjhobjmehhoaaGreatDoorW.PrintMore
set_option linter.unusedVariables false
theorem made_all : ∀ m : Fin 2048, m.val ≠ 0 → dom_made.f 10 (D m).f0 (D m).f1 = some ((D m).f0, (D m).f1, (D m).f2, (D m).f3, (D m).f4) := by decide +kernel
end Go.Proofs.YtijjhobjmehhoaaGreatDoor.Pure
