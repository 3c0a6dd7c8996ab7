/- The plain law of GccAll: what the walk computes answers true, for every input. -/
import Derived.Test.YtijjhobjmehhoaaGreatDoorKM
namespace Go.Proofs.YtijjhobjmehhoaaGreatDoor.Pure
open Go.RowKit Go.Proofs.YtijjhobjmehhoaaGreatDoor.XGccAll Go.Proofs.YtijjhobjmehhoaaGreatDoorW.PrintWords Go.Proofs.YtijjhobjmehhoaaGreatDoorW.PrintLast Go.Proofs.YtijjhobjmehhoaaGreatDoorW.PrintMore
set_option linter.unusedVariables false
theorem list_all : ∀ m : Fin 2048, dom_Dom_List.f 40 (D m).f0 (D m).f1 (D m).f2 (D m).f3 (D m).f4 = some (LL m) := by decide +kernel
theorem size_all : ∀ m : Fin 2048, m.val ≠ 0 → (D m).f4 ≠ 0 := by decide +kernel
theorem len_all : ∀ m : Fin 2048, (LL m).length ≤ 11 ∧ ∀ v ∈ LL m, -5 ≤ v ∧ v ≤ 5 := by decide +kernel
theorem ne_all : ∀ m : Fin 2048, m.val ≠ 0 → (LL m).length ≠ 0 := by decide +kernel
theorem split_all : ∀ m : Fin 2048, ∀ j : Fin 11, (m.val ||| 1 <<< j.val) % 32 = (m.val % 32 ||| (if j.val < 5 then 1 <<< j.val else 0)) ∧ (m.val ||| 1 <<< j.val) / 32 = (m.val / 32 ||| (if j.val < 5 then 0 else 1 <<< (j.val - 5))) := by decide +kernel
theorem low_all : ∀ m : Fin 2048, (m.val % 32 = 0 ↔ ∀ v ∈ LL m, 0 ≤ v) ∧ (m.val / 32 = 0 ↔ ∀ v ∈ LL m, v < 0) := by decide +kernel
theorem put_lo : ∀ a : Fin 32, ∀ j : Fin 5, Go.bits .or .u64 ((a.val * 576460752303423488 : Nat) : Int) (shl .u64 1 (Int.tmod (wrap64 ((j.val : Int) - 5 - (-64))) 64)) = (((a.val ||| 1 <<< j.val) * 576460752303423488 : Nat) : Int) := by decide +kernel
theorem put_hi : ∀ a : Fin 64, ∀ j : Fin 6, Go.bits .or .u64 ((a.val : Nat) : Int) (shl .u64 1 (Int.tmod (wrap64 ((j.val : Int) - 0)) 64)) = ((a.val ||| 1 <<< j.val : Nat) : Int) ∧ Go.bits .or .u64 ((a.val : Nat) : Int) (shl .u64 1 (Int.tmod (wrap64 ((j.val : Int) - (-64))) 64)) = ((a.val ||| 1 <<< j.val : Nat) : Int) := by decide +kernel
theorem place_all : ∀ j : Fin 11, dom_place.f ((j.val : Int) - 5) = some (if (j.val : Int) - 5 < 0 then -64 else 0) := by decide +kernel
theorem rmade0_all : ∀ a : Fin 64, a.val ≠ 0 → dom_made.f 10 0 [((a.val : Nat) : Int)] = some (0, [((a.val : Nat) : Int)], (L (a.val * 32)).headD 0, (L (a.val * 32)).getLastD 0, ((L (a.val * 32)).length : Int)) := by decide +kernel
theorem rmade1_all : ∀ a : Fin 32, a.val ≠ 0 → dom_made.f 10 (-64) [((a.val * 576460752303423488 : Nat) : Int)] = some (-64, [((a.val * 576460752303423488 : Nat) : Int)], (L a.val).headD 0, (L a.val).getLastD 0, ((L a.val).length : Int)) := by decide +kernel
theorem bit_hi_all : ∀ a : Fin 64, ∀ j : Fin 6, (Go.bits .and .u64 (shr .u64 ((a.val : Nat) : Int) (j.val : Int)) 1 == 1) = a.val.testBit j.val := by decide +kernel
theorem bit_lo_all : ∀ a : Fin 32, ∀ j : Fin 5, (Go.bits .and .u64 (shr .u64 ((a.val * 576460752303423488 : Nat) : Int) ((j.val : Int) + 59)) 1 == 1) = a.val.testBit j.val := by decide +kernel
theorem wo_hi_all : ∀ a : Fin 64, ∀ j : Fin 6, Go.bits .and .u64 ((a.val : Nat) : Int) (Go.bits .xor .u64 18446744073709551615 (shl .u64 1 (j.val : Int))) = ((a.val &&& (63 ^^^ 1 <<< j.val) : Nat) : Int) := by decide +kernel
theorem wo_lo_all : ∀ a : Fin 32, ∀ j : Fin 5, Go.bits .and .u64 ((a.val * 576460752303423488 : Nat) : Int) (Go.bits .xor .u64 18446744073709551615 (shl .u64 1 ((j.val : Int) + 59))) = (((a.val &&& (31 ^^^ 1 <<< j.val)) * 576460752303423488 : Nat) : Int) := by decide +kernel
theorem on_hi_all : ∀ a : Fin 64, ∀ j : Fin 6, Go.bits .and .u64 ((a.val : Nat) : Int) (shl .u64 1 (j.val : Int)) = ((a.val &&& 1 <<< j.val : Nat) : Int) := by decide +kernel
theorem on_lo_all : ∀ a : Fin 32, ∀ j : Fin 5, Go.bits .and .u64 ((a.val * 576460752303423488 : Nat) : Int) (shl .u64 1 ((j.val : Int) + 59)) = (((a.val &&& 1 <<< j.val) * 576460752303423488 : Nat) : Int) := by decide +kernel
theorem and_hi_all : ∀ a : Fin 64, Go.bits .and .u64 ((a.val : Nat) : Int) 18446744073709551615 = ((a.val : Nat) : Int) ∧ Go.bits .and .u64 ((a.val : Nat) : Int) 0 = 0 := by decide +kernel
theorem and_lo_all : ∀ a : Fin 32, Go.bits .and .u64 ((a.val * 576460752303423488 : Nat) : Int) 18446744073709551615 = ((a.val * 576460752303423488 : Nat) : Int) ∧ Go.bits .and .u64 ((a.val * 576460752303423488 : Nat) : Int) 0 = 0 := by decide +kernel
theorem wsplit_all : ∀ m : Fin 2048, ∀ j : Fin 11, (m.val &&& (2047 ^^^ 1 <<< j.val)) % 32 = (m.val % 32 &&& (if j.val < 5 then 31 ^^^ 1 <<< j.val else 31)) ∧ (m.val &&& (2047 ^^^ 1 <<< j.val)) / 32 = (m.val / 32 &&& (if j.val < 5 then 63 else 63 ^^^ 1 <<< (j.val - 5))) := by decide +kernel
theorem osplit_all : ∀ m : Fin 2048, ∀ j : Fin 11, (m.val &&& 1 <<< j.val) % 32 = (m.val % 32 &&& (if j.val < 5 then 1 <<< j.val else 0)) ∧ (m.val &&& 1 <<< j.val) / 32 = (m.val / 32 &&& (if j.val < 5 then 0 else 1 <<< (j.val - 5))) := by decide +kernel
end Go.Proofs.YtijjhobjmehhoaaGreatDoor.Pure
