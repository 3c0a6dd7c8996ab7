/- The plain law of GccAll: what the walk computes answers true, for every input. -/
import Derived.Test.YtijjhobjmehhoaaGreatDoorKM
namespace Go.Proofs.YtijjhobjmehhoaaGreatDoor.Pure
open Go.RowKit Go.Proofs.YtijjhobjmehhoaaGreatDoor.XGccAll Go.Proofs.YtijjhobjmehhoaaGreatDoorW.PrintWords Go.Proofs.YtijjhobjmehhoaaGreatDoorW.PrintLast Go.Proofs.YtijjhobjmehhoaaGreatDoorW.PrintMore
set_option linter.unusedVariables false
theorem ins_all : ∀ m : Fin 2048, ∀ j : Fin 11, ¬ ((j.val : Int) - 5 ∈ LL m) → ins ((j.val : Int) - 5) (LL m) = LL ⟨(m.val ||| (1 <<< j.val)) % 2048, Nat.mod_lt _ (by decide)⟩ ∧ (m.val ||| (1 <<< j.val)) % 2048 ≠ 0 := by decide +kernel
end Go.Proofs.YtijjhobjmehhoaaGreatDoor.Pure
