/- The plain law of ClauseKeeps: what the walk computes answers true, for every input. -/
import Derived.Test.YtmhchlbbfpmdgaaGreatDoorKM
namespace Go.Proofs.YtmhchlbbfpmdgaaGreatDoor.Pure
open Go.RowKit Go.Proofs.YtmhchlbbfpmdgaaGreatDoor.XClauseKeeps Go.Proofs.YtmhchlbbfpmdgaaGreatDoorW.PrintWords Go.Proofs.YtmhchlbbfpmdgaaGreatDoorW.PrintLast Go.Proofs.YtmhchlbbfpmdgaaGreatDoorW.PrintMore
set_option linter.unusedVariables false
theorem only_all : ∀ m : Fin 2048, ∀ b : Bool, bi b ∈ LL m → (only (D m) (bi b)).isSome = true := by decide +kernel
theorem xlist_all : ∀ m : Fin 2048, ∀ b : Bool, bi b ∈ LL m → dom_Dom_List.f 40 (XM m b).f0 (XM m b).f1 (XM m b).f2 (XM m b).f3 (XM m b).f4 = some [bi b] := by decide +kernel
theorem xhas_all : ∀ m : Fin 2048, ∀ b : Bool, bi b ∈ LL m → dom_Dom_Has.f (XM m b).f0 (XM m b).f1 (XM m b).f2 (XM m b).f3 (XM m b).f4 (bi b) = some true := by decide +kernel
theorem xonly_all : ∀ m : Fin 2048, ∀ b : Bool, bi b ∈ LL m → only (XM m b) (bi b) = some ((XM m b).f0, (XM m b).f1, (XM m b).f2, (XM m b).f3, (XM m b).f4, 0) := by decide +kernel
theorem xsize_all : ∀ m : Fin 2048, ∀ b : Bool, bi b ∈ LL m → (XM m b).f4 = 1 := by decide +kernel
end Go.Proofs.YtmhchlbbfpmdgaaGreatDoor.Pure
