/- The plain law of GccAll: what the walk computes answers true, for every input. -/
import Derived.Test.YtijjhobjmehhoaaGreatDoorKM
namespace Go.Proofs.YtijjhobjmehhoaaGreatDoor.Pure
open Go.RowKit Go.Proofs.YtijjhobjmehhoaaGreatDoor.XGccAll Go.Proofs.YtijjhobjmehhoaaGreatDoorW.PrintWords Go.Proofs.YtijjhobjmehhoaaGreatDoorW.PrintLast Go.Proofs.YtijjhobjmehhoaaGreatDoorW.PrintMore
set_option linter.unusedVariables false
theorem rmade2_all : ∀ m : Fin 2048, m.val ≠ 0 → dom_made.f 10 (-64) [lo m, hi m] = some (-64, [lo m, hi m], (LL m).headD 0, (LL m).getLastD 0, ((LL m).length : Int)) := by decide +kernel
theorem rlist2_all : ∀ m : Fin 2048, dom_Dom_List.f 40 (DR 2 m).f0 (DR 2 m).f1 (DR 2 m).f2 (DR 2 m).f3 (DR 2 m).f4 = some (LL m) := by decide +kernel
end Go.Proofs.YtijjhobjmehhoaaGreatDoor.Pure
