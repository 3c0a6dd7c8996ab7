/-
  What the row's premises give a walk: the table of math/bits as a row that is read; a slice of whole numbers that came in, as a row that is read; the parts of a struct that came in.
-/
import Derived.Test.YtckfbfdnlpnllaaGreatDoorRows
import Derived.Test.YtckfbfdnlpnllaaGreatDoorV
import Derived.ProofKit
import Derived.LaidMore
import Derived.OpenShut
import Derived.ChangeOld
import Derived.Below
import Derived.SizedLaws
import Derived.Carry
import Derived.Stop.Joined
namespace Go.Proofs.YtckfbfdnlpnllaaGreatDoor.Open
open Go.ChangeShapes Go.WideShapes Go.ChangeAt Go.RowKit Go.Proofs.YtckfbfdnlpnllaaGreatDoorW.PrintWords
set_option linter.unusedVariables false
def tab : List Int := [0, 1, 56, 2, 57, 49, 28, 3, 61, 58, 42, 50, 38, 29, 17, 4, 62, 47, 59, 36, 45, 43, 51, 22, 53, 39, 33, 30, 24, 18, 12, 5, 63, 55, 48, 27, 60, 41, 37, 16, 46, 35, 44, 21, 52, 32, 23, 11, 54, 26, 40, 15, 34, 20, 31, 10, 25, 14, 19, 9, 13, 8, 7, 6]
theorem own : ownKnob Tryz.prog.godebug = none := by kernel_rfl
theorem laidOut : laidOutB Tryz.prog = true := by kernel_rfl
def laid : List (String × DataW Unit) := [("math/bits.deBruijn64tab", Rows.laid_math_bits_deBruijn64tab)]
theorem gTab : Tryz.prog.globalNamed "math/bits.deBruijn64tab" = some 0 := by kernel_rfl
theorem tTab : (Tryz.prog.globals[0]?).map (·.type) = some 107 := by kernel_rfl
theorem laid_eq : (Rows.laid_math_bits_deBruijn64tab : DataW Unit) = .agg (tab.map fun n => .lit (.int .u8 n)) := rfl
theorem arr_in {H : Type} {enc : TypeId × Value → H} {P : Program} {W : World} {t e : TypeId} {k : IntKind} {n fuel : Nat} {held : Bool} {sp : Nat → Bool} {cs : Array Value} {p : List MemPlace} {l : List Int} (ht : P.underlying t = some (.array n e)) (he : P.underlying e = some (.int k)) (hc : P.cellsOf e = 1) (hn : l.length = n)
    (h : DataW.trod enc P W 0 sp held fuel t cs.toList = some (.agg (l.map fun n => .lit (.int k n)), p)) (j : Nat) (hj : j < l.length) : cs[j]? = some (.int k (l.getD j 0)) := by
  obtain ⟨xs, m1, rfl, hx1, hlen, hn3, hel⟩ := DataW.trod_array ht h
  simp only [Prod.mk.injEq, DataW.agg.injEq] at hx1
  have hjx : j < xs.length := by omega
  have h0 := hel j (by omega)
  rw [List.getElem?_eq_getElem hjx] at h0
  obtain ⟨n, e1, e2, _⟩ := DataW.trod_int he h0
  have e3 : (l.map fun n => (DataW.lit (.int k n) : DataW H))[j]? = (xs.map (·.1))[j]? := by rw [hx1.1]
  have hq : l[j]? = some (l.getD j 0) := by rw [List.getD_eq_getElem?_getD, List.getElem?_eq_getElem hj]; rfl
  rw [List.getElem?_map, List.getElem?_map, List.getElem?_eq_getElem hjx, hq, Option.map_some, Option.map_some, e2] at e3
  have e4 : l.getD j 0 = n := by injection e3 with e3; injection e3 with e3; injection e3
  rw [hc, Nat.mul_one] at e1
  have : (cs.toList.drop j)[0]? = some (.int k n) := by
    have h9 : ((cs.toList.drop j).take 1)[0]? = some (.int k n) := by rw [e1]; rfl
    rwa [List.getElem?_take_of_lt (by omega)] at h9
  rw [List.getElem?_drop] at this
  rw [e4]
  simpa using this
/-- The table is a row that is read. -/
theorem of_laid {W : World} (h : laidMetH Tryz.prog laid W) : Kd.C (Kd.int .u8) W (some ⟨0, 0, none⟩) tab.length tab := by
  rw [MakeChecks.laidMetH_plain _ _ _ (by kernel_rfl)] at h
  obtain ⟨ps, ⟨g0, t0, cs0, f0, p0, q0, hg0, ht0, hv0, hd0, _, _⟩, _, _⟩ := h
  obtain rfl := Option.some.inj (gTab.symm.trans hg0)
  obtain rfl := Option.some.inj (tTab.symm.trans ht0)
  rw [laid_eq] at hd0
  refine Kd.C_of_reads (enc := Value.int .u8) (d := (0 : Int)) (h1 := fun _ => rfl) ⟨rfl, by decide, fun _ => ⟨_, rfl, fun j hj => ?_⟩⟩
  have e5 := arr_in Tryz.underlying107 Tryz.underlying5 (by kernel_rfl) rfl hd0 j hj
  have hc := World.var?_cell hg0 hv0 j
  have ea : (⟨0, 0, none⟩ : Addr).add j = ⟨0, j, none⟩ := by unfold Addr.add; simp only [Nat.zero_add]; split <;> first | rfl | (rename_i h_; rw [h_])
  rw [ea, hc, e5]
theorem door_met (os : Os) (args : Array Value) : laidMetH Tryz.prog laid ((World.doorLaid Tryz.prog 400 os).forCall (fun _ _ => 0) ⟨#[], args, []⟩).memory :=
  laidMetH_of_parts3 (fuel := 8) (laidMet_of_run' 8 (by kernel_rfl) (by kernel_rfl)) (by kernel_rfl) (by kernel_rfl)
section
variable {H : Type} {enc : TypeId × Value → H} {P : Program} {W : World}
/-- A slice of whole numbers that is read: as a row. -/
theorem ints_in {t e : TypeId} {k : IntKind} {fuel : Nat} {cs : List Value} {x : DataW H × List MemPlace} (ht : P.underlying t = some (.slice e)) (he : P.underlying e = some (.int k)) (hc : P.cellsOf e = 1)
    (h : DataW.trod enc P W 0 (fun _ => true) true fuel t cs = some x) :
    ∃ (A : Option Addr) (c : Nat) (l : List Int), cs = [.slice A l.length c] ∧ Kd.C (Kd.int k) W A l.length l ∧ l.length ≤ c ∧ (∀ n ∈ l, (Lit.int k n).wf = true) := by
  rcases open_ints ht he hc h with ⟨rfl, _⟩ | ⟨a, len, cap, zs, rfl, _, hl, hm, hz, _, hcell, hw⟩
  · exact ⟨none, 0, [], rfl, Kd.C_of_reads (enc := Value.int k) (d := (0 : Int)) (h1 := fun _ => rfl) ⟨rfl, by decide, fun h => absurd h (by simp)⟩, Nat.le_refl _, fun n hn => by simp at hn⟩
  · simp only [if_true] at hz
    obtain ⟨l, e, h1, h2, h3, h4⟩ := ReadsInt.ofRowC (w := W) (k := k) (a := some a) (len := len) (cap := cap) (zs := zs) (.inr ⟨a, rfl, hl, hm, hz, hcell, hw⟩)
    exact ⟨some a, cap, l, by rw [e], Kd.C_of_reads (enc := Value.int k) (d := (0 : Int)) (h1 := fun _ => rfl) h1, h4, h3⟩
theorem six {α : Type} {l : Array α} (h : l.size = 6) : ∃ a b c d e f, l = #[a, b, c, d, e, f] := by
  obtain ⟨l⟩ := l
  match l, h with
  | [a, b, c, d, e, f], _ => exact ⟨a, b, c, d, e, f, rfl⟩
theorem trod_lt_of {t : TypeId} {v : Value} {d : DataW H} {p : List MemPlace} (h : DataW.Trod enc P W 0 (fun _ => true) true t v d p) : ∀ x ∈ p, x.block < W.heap.size := by
  obtain ⟨m, hm⟩ := h
  exact DataW.trod_lt m _ _ _ hm
end
end Go.Proofs.YtckfbfdnlpnllaaGreatDoor.Open
