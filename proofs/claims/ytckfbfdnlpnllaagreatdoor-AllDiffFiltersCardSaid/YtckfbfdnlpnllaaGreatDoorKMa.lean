/- The plain law of AllDiffFilters: what the walk computes answers true, for every input. -/
import Derived.Test.YtckfbfdnlpnllaaGreatDoorKM
namespace Go.Proofs.YtckfbfdnlpnllaaGreatDoor.Pure
open Go.RowKit Go.Proofs.YtckfbfdnlpnllaaGreatDoor.XAllDiffFilters Go.Proofs.YtckfbfdnlpnllaaGreatDoorW.PrintWords Go.Proofs.YtckfbfdnlpnllaaGreatDoorW.PrintLast Go.Proofs.YtckfbfdnlpnllaaGreatDoorW.PrintMore Go.Proofs.YtckfbfdnlpnllaaGreatDoor.Ad
set_option linter.unusedVariables false
theorem ins_all : ∀ m : Fin 2048, ∀ j : Fin 11, ¬ ((j.val : Int) - 5 ∈ LL m) → ins ((j.val : Int) - 5) (LL m) = LL ⟨(m.val ||| (1 <<< j.val)) % 2048, Nat.mod_lt _ (by decide)⟩ ∧ (m.val ||| (1 <<< j.val)) % 2048 ≠ 0 := by decide +kernel
end Go.Proofs.YtckfbfdnlpnllaaGreatDoor.Pure
