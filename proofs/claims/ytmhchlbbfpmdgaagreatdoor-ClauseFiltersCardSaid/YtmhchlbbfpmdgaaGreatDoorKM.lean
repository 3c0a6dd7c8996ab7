/- The plain law of ClauseFilters: what the walk computes answers true, for every input. -/
import Derived.Test.YtmhchlbbfpmdgaaGreatDoorXCFmx3
namespace Go.Proofs.YtmhchlbbfpmdgaaGreatDoor.Pure
open Go.RowKit Go.Proofs.YtmhchlbbfpmdgaaGreatDoor.XClauseFilters Go.Proofs.YtmhchlbbfpmdgaaGreatDoorW.PrintWords Go.Proofs.YtmhchlbbfpmdgaaGreatDoorW.PrintLast Go.Proofs.YtmhchlbbfpmdgaaGreatDoorW.PrintMore
set_option linter.unusedVariables false
instance dq3 : DecidableEq (Int × Int × Int) := inferInstance
instance dq4 : DecidableEq (Int × Int × Int × Int) := fun a b => instDecidableEqProd a b
instance dq5 : DecidableEq (List Int × Int × Int × Int × Int) := fun a b => instDecidableEqProd a b
instance dq6 : DecidableEq (Int × List Int × Int × Int × Int × Int) := fun a b => instDecidableEqProd a b
/-- The numbers of a mask: bit i is the number i - 5. -/
def L (m : Nat) : List Int := (List.range 11).filterMap fun i => if m.testBit i then some ((i : Int) - 5) else none
def DM (m : Nat) : S58 :=
  if m % 32 = 0 then ⟨0, [((m / 32 : Nat) : Int)], (L m).headD 0, (L m).getLastD 0, ((L m).length : Int)⟩
  else if m / 32 = 0 then ⟨-64, [((m % 32 * 576460752303423488 : Nat) : Int)], (L m).headD 0, (L m).getLastD 0, ((L m).length : Int)⟩
  else ⟨-64, [((m % 32 * 576460752303423488 : Nat) : Int), ((m / 32 : Nat) : Int)], (L m).headD 0, (L m).getLastD 0, ((L m).length : Int)⟩
def LL (m : Fin 2048) : List Int := L m.val
def D (m : Fin 2048) : S58 := DM m.val
def bi (b : Bool) : Int := if b then 1 else 0
def only (d : S58) (b : Int) : Option (Int × List Int × Int × Int × Int × Int) := dom_Dom_Only.f 40 d.f0 d.f1 d.f2 d.f3 d.f4 b
def XM (m : Fin 2048) (b : Bool) : S58 := match only (D m) (bi b) with
  | some (x0, x1, x2, x3, x4, _) => ⟨x0, x1, x2, x3, x4⟩
  | none => ⟨0, [], 0, 0, 0⟩
/-- A number put into a rising list. -/
def ins (v : Int) : List Int → List Int
  | [] => [v]
  | a :: r => if a > v then v :: a :: r else a :: ins v r
end Go.Proofs.YtmhchlbbfpmdgaaGreatDoor.Pure
