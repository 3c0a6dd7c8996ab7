/- The plain law of ClauseFilters: what the walk computes answers true, for every input. -/
import Derived.Test.YtmhchlbbfpmdgaaGreatDoorKM
namespace Go.Proofs.YtmhchlbbfpmdgaaGreatDoor.Pure
open Go.RowKit Go.Proofs.YtmhchlbbfpmdgaaGreatDoor.XClauseFilters Go.Proofs.YtmhchlbbfpmdgaaGreatDoorW.PrintWords Go.Proofs.YtmhchlbbfpmdgaaGreatDoorW.PrintLast Go.Proofs.YtmhchlbbfpmdgaaGreatDoorW.PrintMore
set_option linter.unusedVariables false
theorem list_all : ∀ m : Fin 2048, dom_Dom_List.f 40 (D m).f0 (D m).f1 (D m).f2 (D m).f3 (D m).f4 = some (LL m) := by decide +kernel
theorem has_all : ∀ m : Fin 2048, ∀ j : Fin 11, dom_Dom_Has.f (D m).f0 (D m).f1 (D m).f2 (D m).f3 (D m).f4 ((j.val : Int) - 5) = some (decide ((j.val : Int) - 5 ∈ LL m)) := by decide +kernel
theorem size_all : ∀ m : Fin 2048, m.val ≠ 0 → (D m).f4 ≠ 0 := by decide +kernel
theorem len_all : ∀ m : Fin 2048, (LL m).length ≤ 11 ∧ ∀ v ∈ LL m, -5 ≤ v ∧ v ≤ 5 := by decide +kernel
theorem ne_all : ∀ m : Fin 2048, m.val ≠ 0 → (LL m).length ≠ 0 := by decide +kernel
end Go.Proofs.YtmhchlbbfpmdgaaGreatDoor.Pure
