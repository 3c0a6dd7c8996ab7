/- The plain law of AllDiffFilters: what the walk computes answers true, for every input. -/
import Derived.Test.YtckfbfdnlpnllaaGreatDoorKM
namespace Go.Proofs.YtckfbfdnlpnllaaGreatDoor.Pure
open Go.RowKit Go.Proofs.YtckfbfdnlpnllaaGreatDoor.XAllDiffFilters Go.Proofs.YtckfbfdnlpnllaaGreatDoorW.PrintWords Go.Proofs.YtckfbfdnlpnllaaGreatDoorW.PrintLast Go.Proofs.YtckfbfdnlpnllaaGreatDoorW.PrintMore Go.Proofs.YtckfbfdnlpnllaaGreatDoor.Ad
set_option linter.unusedVariables false
theorem made_all : ∀ m : Fin 2048, m.val ≠ 0 → dom_made.f 10 (D m).f0 (D m).f1 = some ((D m).f0, (D m).f1, (D m).f2, (D m).f3, (D m).f4) := by decide +kernel
theorem has_all : ∀ m : Fin 2048, ∀ j : Fin 11, dom_Dom_Has.f (D m).f0 (D m).f1 (D m).f2 (D m).f3 (D m).f4 ((j.val : Int) - 5) = some (decide ((j.val : Int) - 5 ∈ LL m)) := by decide +kernel
end Go.Proofs.YtckfbfdnlpnllaaGreatDoor.Pure
