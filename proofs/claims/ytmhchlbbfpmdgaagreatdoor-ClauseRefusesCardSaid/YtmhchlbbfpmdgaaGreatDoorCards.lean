/-
  DERIVED. GIVEN WITH THE SEED: THE CARDS: each row of YtmhchlbbfpmdgaaGreatDoorRows.lean that lists a variable, with what it lists TIED to the program's text (the seventh form; the later family's looks); each row that meets fmt, with fmt's text TOLD by the authors' own Lean function (tested against real Go, not proved from fmt's source: count such statements apart). THE CARD IS WHAT COUNTS. Prove the row's statement (the work); the ties are given (YtmhchlbbfpmdgaaGreatDoorTie.lean); close each card by the builder's one call (the guide's Derived/Test/ToyasCard.lean, 'card_holds'). Laid BY PROGRAM, IN A SANDBOX (cutbox-door.mjs). By AI agents, Wed Nov 11 2026. No macro, syntax, notation, axiom, sorry.
-/
import Derived.Test.YtmhchlbbfpmdgaaGreatDoorRows
import GoSem.ClaimSeven
namespace Go.Proofs.YtmhchlbbfpmdgaaGreatDoor
namespace Rows

/-- THE TIED CARD OF 'jigsawlaw14.ClauseFilters'. -/
def clauseFiltersCard : Claim7 := { stood := { row := clauseFiltersRow, standIns := [], harness := (true, "7e662d253fdad979a7edb2d523df40cdcef7a4384f838e31aac7d9aaa2a0088c"), looks := false }, kinds := [], alts := [], laidByText := true, laidKinds := [.data], laidTests := true, laidLooks := .later }
def ClauseFiltersCardSaid : Prop := Claim7.holds Tryz.pinned (.plain (OpenSpec.ofChange clauseFiltersSpec)) clauseFiltersCard

/-- THE TIED CARD OF 'jigsawlaw14.ClauseRefuses'. -/
def clauseRefusesCard : Claim7 := { stood := { row := clauseRefusesRow, standIns := [], harness := (true, "7e662d253fdad979a7edb2d523df40cdcef7a4384f838e31aac7d9aaa2a0088c"), looks := false }, kinds := [], alts := [], laidByText := true, laidKinds := [.data], laidTests := true, laidLooks := .later }
def ClauseRefusesCardSaid : Prop := Claim7.holds Tryz.pinned (.plain (OpenSpec.ofChange clauseRefusesSpec)) clauseRefusesCard

/-- THE TIED CARD OF 'jigsawlaw14.ClauseFixed'. -/
def clauseFixedCard : Claim7 := { stood := { row := clauseFixedRow, standIns := [], harness := (true, "7e662d253fdad979a7edb2d523df40cdcef7a4384f838e31aac7d9aaa2a0088c"), looks := false }, kinds := [], alts := [], laidByText := true, laidKinds := [.data], laidTests := true, laidLooks := .later }
def ClauseFixedCardSaid : Prop := Claim7.holds Tryz.pinned (.plain (OpenSpec.ofChange clauseFixedSpec)) clauseFixedCard

/-- THE TIED CARD OF 'jigsawlaw14.ClauseKeeps'. -/
def clauseKeepsCard : Claim7 := { stood := { row := clauseKeepsRow, standIns := [], harness := (true, "7e662d253fdad979a7edb2d523df40cdcef7a4384f838e31aac7d9aaa2a0088c"), looks := false }, kinds := [], alts := [], laidByText := true, laidKinds := [.data], laidTests := true, laidLooks := .later }
def ClauseKeepsCardSaid : Prop := Claim7.holds Tryz.pinned (.plain (OpenSpec.ofChange clauseKeepsSpec)) clauseKeepsCard

/-- THE SECOND FORM's CARD OF 'jigsawlaw14.ClauseFilters'. -/
def clauseFiltersUptoCard : Claim7 := { stood := { row := clauseFiltersUptoRow, standIns := [], harness := (true, "7e662d253fdad979a7edb2d523df40cdcef7a4384f838e31aac7d9aaa2a0088c"), looks := false }, kinds := [], alts := [], laidByText := true, laidKinds := [.data], laidTests := true, laidLooks := .later }
def ClauseFiltersUptoCardSaid : Prop := Claim7.holds Tryz.pinned (.plain (OpenSpec.upto clauseFiltersSpec)) clauseFiltersUptoCard

/-- THE SECOND FORM's CARD OF 'jigsawlaw14.ClauseRefuses'. -/
def clauseRefusesUptoCard : Claim7 := { stood := { row := clauseRefusesUptoRow, standIns := [], harness := (true, "7e662d253fdad979a7edb2d523df40cdcef7a4384f838e31aac7d9aaa2a0088c"), looks := false }, kinds := [], alts := [], laidByText := true, laidKinds := [.data], laidTests := true, laidLooks := .later }
def ClauseRefusesUptoCardSaid : Prop := Claim7.holds Tryz.pinned (.plain (OpenSpec.upto clauseRefusesSpec)) clauseRefusesUptoCard

/-- THE SECOND FORM's CARD OF 'jigsawlaw14.ClauseFixed'. -/
def clauseFixedUptoCard : Claim7 := { stood := { row := clauseFixedUptoRow, standIns := [], harness := (true, "7e662d253fdad979a7edb2d523df40cdcef7a4384f838e31aac7d9aaa2a0088c"), looks := false }, kinds := [], alts := [], laidByText := true, laidKinds := [.data], laidTests := true, laidLooks := .later }
def ClauseFixedUptoCardSaid : Prop := Claim7.holds Tryz.pinned (.plain (OpenSpec.upto clauseFixedSpec)) clauseFixedUptoCard

/-- THE SECOND FORM's CARD OF 'jigsawlaw14.ClauseKeeps'. -/
def clauseKeepsUptoCard : Claim7 := { stood := { row := clauseKeepsUptoRow, standIns := [], harness := (true, "7e662d253fdad979a7edb2d523df40cdcef7a4384f838e31aac7d9aaa2a0088c"), looks := false }, kinds := [], alts := [], laidByText := true, laidKinds := [.data], laidTests := true, laidLooks := .later }
def ClauseKeepsUptoCardSaid : Prop := Claim7.holds Tryz.pinned (.plain (OpenSpec.upto clauseKeepsSpec)) clauseKeepsUptoCard
end Rows
end Go.Proofs.YtmhchlbbfpmdgaaGreatDoor
