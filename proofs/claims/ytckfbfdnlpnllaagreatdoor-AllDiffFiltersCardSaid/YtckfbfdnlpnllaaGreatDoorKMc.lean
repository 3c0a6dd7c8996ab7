/- The plain law of AllDiffFilters: what the walk computes answers true, for every input. -/
import Derived.Test.YtckfbfdnlpnllaaGreatDoorKM
namespace Go.Proofs.YtckfbfdnlpnllaaGreatDoor.Pure
open Go.RowKit Go.Proofs.YtckfbfdnlpnllaaGreatDoor.XAllDiffFilters Go.Proofs.YtckfbfdnlpnllaaGreatDoorW.PrintWords Go.Proofs.YtckfbfdnlpnllaaGreatDoorW.PrintLast Go.Proofs.YtckfbfdnlpnllaaGreatDoorW.PrintMore Go.Proofs.YtckfbfdnlpnllaaGreatDoor.Ad
set_option linter.unusedVariables false
theorem list_all : ∀ m : Fin 2048, dom_Dom_List.f 40 (D m).f0 (D m).f1 (D m).f2 (D m).f3 (D m).f4 = some (LL m) := by decide +kernel
theorem size_all : ∀ m : Fin 2048, m.val ≠ 0 → (D m).f4 ≠ 0 := by decide +kernel
theorem len_all : ∀ m : Fin 2048, (LL m).length ≤ 11 ∧ ∀ v ∈ LL m, -5 ≤ v ∧ v ≤ 5 := by decide +kernel
theorem ne_all : ∀ m : Fin 2048, m.val ≠ 0 → (LL m).length ≠ 0 := by decide +kernel
theorem split_all : ∀ m : Fin 2048, ∀ j : Fin 11, (m.val ||| 1 <<< j.val) % 32 = (m.val % 32 ||| (if j.val < 5 then 1 <<< j.val else 0)) ∧ (m.val ||| 1 <<< j.val) / 32 = (m.val / 32 ||| (if j.val < 5 then 0 else 1 <<< (j.val - 5))) := by decide +kernel
theorem low_all : ∀ m : Fin 2048, (m.val % 32 = 0 ↔ ∀ v ∈ LL m, 0 ≤ v) ∧ (m.val / 32 = 0 ↔ ∀ v ∈ LL m, v < 0) := by decide +kernel
theorem put_lo : ∀ a : Fin 32, ∀ j : Fin 5, Go.bits .or .u64 ((a.val * 576460752303423488 : Nat) : Int) (shl .u64 1 (Int.tmod (wrap64 ((j.val : Int) - 5 - (-64))) 64)) = (((a.val ||| 1 <<< j.val) * 576460752303423488 : Nat) : Int) := by decide +kernel
theorem put_hi : ∀ a : Fin 64, ∀ j : Fin 6, Go.bits .or .u64 ((a.val : Nat) : Int) (shl .u64 1 (Int.tmod (wrap64 ((j.val : Int) - 0)) 64)) = ((a.val ||| 1 <<< j.val : Nat) : Int) ∧ Go.bits .or .u64 ((a.val : Nat) : Int) (shl .u64 1 (Int.tmod (wrap64 ((j.val : Int) - (-64))) 64)) = ((a.val ||| 1 <<< j.val : Nat) : Int) := by decide +kernel
theorem place_all : ∀ j : Fin 11, dom_place.f ((j.val : Int) - 5) = some (if (j.val : Int) - 5 < 0 then -64 else 0) := by decide +kernel
theorem each_all : ∀ m : Fin 2048, m.val ≠ 0 → eachF 40 (D m) 40 (D m).f2 = some (LL m) := by decide +kernel
end Go.Proofs.YtckfbfdnlpnllaaGreatDoor.Pure
