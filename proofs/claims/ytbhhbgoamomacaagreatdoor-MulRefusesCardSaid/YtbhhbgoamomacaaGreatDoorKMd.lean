/- The plain law of MulRefuses: what the walk computes answers true, for every input. -/
import Derived.Test.YtbhhbgoamomacaaGreatDoorKM
namespace Go.Proofs.YtbhhbgoamomacaaGreatDoor.Pure
open Go.RowKit Go.Proofs.YtbhhbgoamomacaaGreatDoor.XMulRefuses Go.Proofs.YtbhhbgoamomacaaGreatDoorW.PrintWords Go.Proofs.YtbhhbgoamomacaaGreatDoorW.PrintLast Go.Proofs.YtbhhbgoamomacaaGreatDoorW.PrintMore
set_option linter.unusedVariables false
theorem word_hi : ∀ m : Fin 2048, dom_Dom_word.f (D m).f0 (D m).f1 (D m).f2 (D m).f3 (D m).f4 0 = some ((m.val / 32 : Nat) : Int) := by decide +kernel
theorem word_lo : ∀ m : Fin 2048, dom_Dom_word.f (D m).f0 (D m).f1 (D m).f2 (D m).f3 (D m).f4 (-64) = some ((m.val % 32 * 576460752303423488 : Nat) : Int) := by decide +kernel
theorem far_hi : ∀ a : Fin 64, ∀ j : Fin 25, (Go.bits .and .u64 (shr .u64 ((a.val : Nat) : Int) ((j.val : Int) + 6)) 1 == 1) = false := by decide +kernel
theorem far_lo : ∀ a : Fin 32, ∀ j : Fin 25, (Go.bits .and .u64 (shr .u64 ((a.val * 576460752303423488 : Nat) : Int) ((j.val : Int) + 34)) 1 == 1) = false := by decide +kernel
theorem place_far : ∀ j : Fin 61, dom_place.f ((j.val : Int) - 30) = some (if (j.val : Int) - 30 < 0 then -64 else 0) := by decide +kernel
end Go.Proofs.YtbhhbgoamomacaaGreatDoor.Pure
