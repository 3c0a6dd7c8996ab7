/- The plain law of AllDiffFilters: what the walk computes answers true, for every input. -/
import Derived.Test.YtckfbfdnlpnllaaGreatDoorXAFix16
namespace Go.Proofs.YtckfbfdnlpnllaaGreatDoor.Pure
open Go.RowKit Go.Proofs.YtckfbfdnlpnllaaGreatDoor.XAllDiffFilters Go.Proofs.YtckfbfdnlpnllaaGreatDoorW.PrintWords Go.Proofs.YtckfbfdnlpnllaaGreatDoorW.PrintLast Go.Proofs.YtckfbfdnlpnllaaGreatDoorW.PrintMore Go.Proofs.YtckfbfdnlpnllaaGreatDoor.Ad
set_option linter.unusedVariables false
theorem wrap_id {n : Int} (h : -9223372036854775808 ≤ n) (h2 : n ≤ 9223372036854775807) : wrap64 n = n := by unfold wrap64; omega
theorem wrap_succ {j : Nat} (h : j ≤ 100000) : wrap64 ((j : Int) + 1) = ((j + 1 : Nat) : Int) := by rw [wrap_id (by omega) (by omega)]; omega
theorem up {α : Type} {f : Nat → Option α} (hm : ∀ k, LeO (f k) (f (k + 1))) {k : Nat} {r : α} (h : f k = some r) : ∀ {k'}, k ≤ k' → f k' = some r := by
  intro k' hk
  induction hk with
  | refl => exact h
  | step _ ih => exact hm _ _ ih
instance dq3 : DecidableEq (Int × Int × Int) := inferInstance
instance dq4 : DecidableEq (Int × Int × Int × Int) := fun a b => instDecidableEqProd a b
instance dq5 : DecidableEq (List Int × Int × Int × Int × Int) := fun a b => instDecidableEqProd a b
instance dq5' : DecidableEq (Int × List Int × Int × Int × Int) := fun a b => instDecidableEqProd a b
instance dq6 : DecidableEq (Int × List Int × Int × Int × Int × Int) := fun a b => instDecidableEqProd a b
/-- The numbers that are near, and those of a mask: bit i is the number i - 5. -/
def vals : List Int := [-5, -4, -3, -2, -1, 0, 1, 2, 3, 4, 5]
def L (m : Nat) : List Int := vals.filter fun v => m.testBit (v + 5).toNat
def DM (m : Nat) : S57 :=
  if m % 32 = 0 then ⟨0, [((m / 32 : Nat) : Int)], (L m).headD 0, (L m).getLastD 0, ((L m).length : Int)⟩
  else if m / 32 = 0 then ⟨-64, [((m % 32 * 576460752303423488 : Nat) : Int)], (L m).headD 0, (L m).getLastD 0, ((L m).length : Int)⟩
  else ⟨-64, [((m % 32 * 576460752303423488 : Nat) : Int), ((m / 32 : Nat) : Int)], (L m).headD 0, (L m).getLastD 0, ((L m).length : Int)⟩
def LL (m : Fin 2048) : List Int := L m.val
def D (m : Fin 2048) : S57 := DM m.val
/-- A number put into a rising list. -/
def ins (v : Int) : List Int → List Int
  | [] => [v]
  | a :: r => if a > v then v :: a :: r else a :: ins v r
end Go.Proofs.YtckfbfdnlpnllaaGreatDoor.Pure
