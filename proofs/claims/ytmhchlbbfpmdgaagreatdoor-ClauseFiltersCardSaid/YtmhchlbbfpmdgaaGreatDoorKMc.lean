/- The plain law of ClauseFilters: what the walk computes answers true, for every input. -/
import Derived.Test.YtmhchlbbfpmdgaaGreatDoorKM
namespace Go.Proofs.YtmhchlbbfpmdgaaGreatDoor.Pure
open Go.RowKit Go.Proofs.YtmhchlbbfpmdgaaGreatDoor.XClauseFilters Go.Proofs.YtmhchlbbfpmdgaaGreatDoorW.PrintWords Go.Proofs.YtmhchlbbfpmdgaaGreatDoorW.PrintLast Go.Proofs.YtmhchlbbfpmdgaaGreatDoorW.PrintMore
set_option linter.unusedVariables false
theorem only_all : ∀ m : Fin 2048, ∀ b : Bool, bi b ∈ LL m → (only (D m) (bi b)).isSome = true := by decide +kernel
theorem xlist_all : ∀ m : Fin 2048, ∀ b : Bool, bi b ∈ LL m → dom_Dom_List.f 40 (XM m b).f0 (XM m b).f1 (XM m b).f2 (XM m b).f3 (XM m b).f4 = some [bi b] := by decide +kernel
theorem one_all : ∀ m : Fin 2048, ∀ b : Bool, bi b ∈ LL m → (LL m).filter (· == bi b) = [bi b] := by decide +kernel
end Go.Proofs.YtmhchlbbfpmdgaaGreatDoor.Pure
