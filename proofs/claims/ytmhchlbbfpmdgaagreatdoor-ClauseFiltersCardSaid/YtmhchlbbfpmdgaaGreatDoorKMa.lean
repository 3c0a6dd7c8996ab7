/- The plain law of ClauseFilters: what the walk computes answers true, for every input. -/
import Derived.Test.YtmhchlbbfpmdgaaGreatDoorKM
namespace Go.Proofs.YtmhchlbbfpmdgaaGreatDoor.Pure
open Go.RowKit Go.Proofs.YtmhchlbbfpmdgaaGreatDoor.XClauseFilters Go.Proofs.YtmhchlbbfpmdgaaGreatDoorW.PrintWords Go.Proofs.YtmhchlbbfpmdgaaGreatDoorW.PrintLast Go.Proofs.YtmhchlbbfpmdgaaGreatDoorW.PrintMore
set_option linter.unusedVariables false
theorem of_all0 : ∀ m : Fin 256, m.val + 0 ≠ 0 → dom_Of.f 40 (LL ⟨m.val + 0, by omega⟩) = some ((D ⟨m.val + 0, by omega⟩).f0, (D ⟨m.val + 0, by omega⟩).f1, (D ⟨m.val + 0, by omega⟩).f2, (D ⟨m.val + 0, by omega⟩).f3, (D ⟨m.val + 0, by omega⟩).f4, 0) := by decide +kernel
theorem of_all1 : ∀ m : Fin 256, m.val + 256 ≠ 0 → dom_Of.f 40 (LL ⟨m.val + 256, by omega⟩) = some ((D ⟨m.val + 256, by omega⟩).f0, (D ⟨m.val + 256, by omega⟩).f1, (D ⟨m.val + 256, by omega⟩).f2, (D ⟨m.val + 256, by omega⟩).f3, (D ⟨m.val + 256, by omega⟩).f4, 0) := by decide +kernel
theorem of_all2 : ∀ m : Fin 256, m.val + 512 ≠ 0 → dom_Of.f 40 (LL ⟨m.val + 512, by omega⟩) = some ((D ⟨m.val + 512, by omega⟩).f0, (D ⟨m.val + 512, by omega⟩).f1, (D ⟨m.val + 512, by omega⟩).f2, (D ⟨m.val + 512, by omega⟩).f3, (D ⟨m.val + 512, by omega⟩).f4, 0) := by decide +kernel
theorem of_all3 : ∀ m : Fin 256, m.val + 768 ≠ 0 → dom_Of.f 40 (LL ⟨m.val + 768, by omega⟩) = some ((D ⟨m.val + 768, by omega⟩).f0, (D ⟨m.val + 768, by omega⟩).f1, (D ⟨m.val + 768, by omega⟩).f2, (D ⟨m.val + 768, by omega⟩).f3, (D ⟨m.val + 768, by omega⟩).f4, 0) := by decide +kernel
theorem of_all4 : ∀ m : Fin 256, m.val + 1024 ≠ 0 → dom_Of.f 40 (LL ⟨m.val + 1024, by omega⟩) = some ((D ⟨m.val + 1024, by omega⟩).f0, (D ⟨m.val + 1024, by omega⟩).f1, (D ⟨m.val + 1024, by omega⟩).f2, (D ⟨m.val + 1024, by omega⟩).f3, (D ⟨m.val + 1024, by omega⟩).f4, 0) := by decide +kernel
theorem of_all5 : ∀ m : Fin 256, m.val + 1280 ≠ 0 → dom_Of.f 40 (LL ⟨m.val + 1280, by omega⟩) = some ((D ⟨m.val + 1280, by omega⟩).f0, (D ⟨m.val + 1280, by omega⟩).f1, (D ⟨m.val + 1280, by omega⟩).f2, (D ⟨m.val + 1280, by omega⟩).f3, (D ⟨m.val + 1280, by omega⟩).f4, 0) := by decide +kernel
theorem of_all6 : ∀ m : Fin 256, m.val + 1536 ≠ 0 → dom_Of.f 40 (LL ⟨m.val + 1536, by omega⟩) = some ((D ⟨m.val + 1536, by omega⟩).f0, (D ⟨m.val + 1536, by omega⟩).f1, (D ⟨m.val + 1536, by omega⟩).f2, (D ⟨m.val + 1536, by omega⟩).f3, (D ⟨m.val + 1536, by omega⟩).f4, 0) := by decide +kernel
theorem of_all7 : ∀ m : Fin 256, m.val + 1792 ≠ 0 → dom_Of.f 40 (LL ⟨m.val + 1792, by omega⟩) = some ((D ⟨m.val + 1792, by omega⟩).f0, (D ⟨m.val + 1792, by omega⟩).f1, (D ⟨m.val + 1792, by omega⟩).f2, (D ⟨m.val + 1792, by omega⟩).f3, (D ⟨m.val + 1792, by omega⟩).f4, 0) := by decide +kernel
theorem of_all (m : Fin 2048) (h : m.val ≠ 0) : dom_Of.f 40 (LL m) = some ((D m).f0, (D m).f1, (D m).f2, (D m).f3, (D m).f4, 0) := by
  have hm := m.isLt
  by_cases h0 : 0 ≤ m.val ∧ m.val < 256
  · have e : (⟨(m.val - 0) + 0, by omega⟩ : Fin 2048) = m := Fin.ext (by show m.val - 0 + 0 = m.val; omega)
    have t := of_all0 ⟨m.val - 0, by omega⟩ (by show m.val - 0 + 0 ≠ 0; omega)
    rwa [e] at t
  by_cases h1 : 256 ≤ m.val ∧ m.val < 512
  · have e : (⟨(m.val - 256) + 256, by omega⟩ : Fin 2048) = m := Fin.ext (by show m.val - 256 + 256 = m.val; omega)
    have t := of_all1 ⟨m.val - 256, by omega⟩ (by show m.val - 256 + 256 ≠ 0; omega)
    rwa [e] at t
  by_cases h2 : 512 ≤ m.val ∧ m.val < 768
  · have e : (⟨(m.val - 512) + 512, by omega⟩ : Fin 2048) = m := Fin.ext (by show m.val - 512 + 512 = m.val; omega)
    have t := of_all2 ⟨m.val - 512, by omega⟩ (by show m.val - 512 + 512 ≠ 0; omega)
    rwa [e] at t
  by_cases h3 : 768 ≤ m.val ∧ m.val < 1024
  · have e : (⟨(m.val - 768) + 768, by omega⟩ : Fin 2048) = m := Fin.ext (by show m.val - 768 + 768 = m.val; omega)
    have t := of_all3 ⟨m.val - 768, by omega⟩ (by show m.val - 768 + 768 ≠ 0; omega)
    rwa [e] at t
  by_cases h4 : 1024 ≤ m.val ∧ m.val < 1280
  · have e : (⟨(m.val - 1024) + 1024, by omega⟩ : Fin 2048) = m := Fin.ext (by show m.val - 1024 + 1024 = m.val; omega)
    have t := of_all4 ⟨m.val - 1024, by omega⟩ (by show m.val - 1024 + 1024 ≠ 0; omega)
    rwa [e] at t
  by_cases h5 : 1280 ≤ m.val ∧ m.val < 1536
  · have e : (⟨(m.val - 1280) + 1280, by omega⟩ : Fin 2048) = m := Fin.ext (by show m.val - 1280 + 1280 = m.val; omega)
    have t := of_all5 ⟨m.val - 1280, by omega⟩ (by show m.val - 1280 + 1280 ≠ 0; omega)
    rwa [e] at t
  by_cases h6 : 1536 ≤ m.val ∧ m.val < 1792
  · have e : (⟨(m.val - 1536) + 1536, by omega⟩ : Fin 2048) = m := Fin.ext (by show m.val - 1536 + 1536 = m.val; omega)
    have t := of_all6 ⟨m.val - 1536, by omega⟩ (by show m.val - 1536 + 1536 ≠ 0; omega)
    rwa [e] at t
  by_cases h7 : 1792 ≤ m.val ∧ m.val < 2048
  · have e : (⟨(m.val - 1792) + 1792, by omega⟩ : Fin 2048) = m := Fin.ext (by show m.val - 1792 + 1792 = m.val; omega)
    have t := of_all7 ⟨m.val - 1792, by omega⟩ (by show m.val - 1792 + 1792 ≠ 0; omega)
    rwa [e] at t
  omega
theorem ins_all : ∀ m : Fin 2048, ∀ j : Fin 11, ¬ ((j.val : Int) - 5 ∈ LL m) → ins ((j.val : Int) - 5) (LL m) = LL ⟨(m.val ||| (1 <<< j.val)) % 2048, Nat.mod_lt _ (by decide)⟩ ∧ (m.val ||| (1 <<< j.val)) % 2048 ≠ 0 := by decide +kernel
end Go.Proofs.YtmhchlbbfpmdgaaGreatDoor.Pure
