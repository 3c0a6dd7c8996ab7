/-
  DERIVED. GIVEN WITH THE SEED: THE CARDS: each row of YtckfbfdnlpnllaaGreatDoorRows.lean that lists a variable, with what it lists TIED to the program's text (the seventh form; the later family's looks); each row that meets fmt, with fmt's text TOLD by the authors' own Lean function (tested against real Go, not proved from fmt's source: count such statements apart). THE CARD IS WHAT COUNTS. Prove the row's statement (the work); the ties are given (YtckfbfdnlpnllaaGreatDoorTie.lean); close each card by the builder's one call (the guide's Derived/Test/ToyasCard.lean, 'card_holds'). Laid BY PROGRAM, IN A SANDBOX (cutbox-door.mjs). By AI agents, Wed Nov 11 2026. No macro, syntax, notation, axiom, sorry.
-/
import Derived.Test.YtckfbfdnlpnllaaGreatDoorRows
import GoSem.ClaimSeven
namespace Go.Proofs.YtckfbfdnlpnllaaGreatDoor
namespace Rows

/-- THE TIED CARD OF 'jigsawlaw16.AllDiffFilters'. -/
def allDiffFiltersCard : Claim7 := { stood := { row := allDiffFiltersRow, standIns := [], harness := (true, "a5cfa4d15fb785640f7dddd9d6da92cec11e643ea7ef86a2babc6604f94ceffa"), looks := false }, kinds := [], alts := [], laidByText := true, laidKinds := [.data], laidTests := true, laidLooks := .later }
def AllDiffFiltersCardSaid : Prop := Claim7.holds Tryz.pinned (.plain (OpenSpec.ofChange allDiffFiltersSpec)) allDiffFiltersCard

/-- THE TIED CARD OF 'jigsawlaw16.AllDiffRefuses'. -/
def allDiffRefusesCard : Claim7 := { stood := { row := allDiffRefusesRow, standIns := [], harness := (true, "a5cfa4d15fb785640f7dddd9d6da92cec11e643ea7ef86a2babc6604f94ceffa"), looks := false }, kinds := [], alts := [], laidByText := true, laidKinds := [.data], laidTests := true, laidLooks := .later }
def AllDiffRefusesCardSaid : Prop := Claim7.holds Tryz.pinned (.plain (OpenSpec.ofChange allDiffRefusesSpec)) allDiffRefusesCard

/-- THE TIED CARD OF 'jigsawlaw16.AllDiffFixed'. -/
def allDiffFixedCard : Claim7 := { stood := { row := allDiffFixedRow, standIns := [], harness := (true, "a5cfa4d15fb785640f7dddd9d6da92cec11e643ea7ef86a2babc6604f94ceffa"), looks := false }, kinds := [], alts := [], laidByText := true, laidKinds := [.data], laidTests := true, laidLooks := .later }
def AllDiffFixedCardSaid : Prop := Claim7.holds Tryz.pinned (.plain (OpenSpec.ofChange allDiffFixedSpec)) allDiffFixedCard

/-- THE TIED CARD OF 'jigsawlaw16.AllDiffKeeps'. -/
def allDiffKeepsCard : Claim7 := { stood := { row := allDiffKeepsRow, standIns := [], harness := (true, "a5cfa4d15fb785640f7dddd9d6da92cec11e643ea7ef86a2babc6604f94ceffa"), looks := false }, kinds := [], alts := [], laidByText := true, laidKinds := [.data], laidTests := true, laidLooks := .later }
def AllDiffKeepsCardSaid : Prop := Claim7.holds Tryz.pinned (.plain (OpenSpec.ofChange allDiffKeepsSpec)) allDiffKeepsCard

/-- THE SECOND FORM's CARD OF 'jigsawlaw16.AllDiffFilters'. -/
def allDiffFiltersUptoCard : Claim7 := { stood := { row := allDiffFiltersUptoRow, standIns := [], harness := (true, "a5cfa4d15fb785640f7dddd9d6da92cec11e643ea7ef86a2babc6604f94ceffa"), looks := false }, kinds := [], alts := [], laidByText := true, laidKinds := [.data], laidTests := true, laidLooks := .later }
def AllDiffFiltersUptoCardSaid : Prop := Claim7.holds Tryz.pinned (.plain (OpenSpec.upto allDiffFiltersSpec)) allDiffFiltersUptoCard

/-- THE SECOND FORM's CARD OF 'jigsawlaw16.AllDiffRefuses'. -/
def allDiffRefusesUptoCard : Claim7 := { stood := { row := allDiffRefusesUptoRow, standIns := [], harness := (true, "a5cfa4d15fb785640f7dddd9d6da92cec11e643ea7ef86a2babc6604f94ceffa"), looks := false }, kinds := [], alts := [], laidByText := true, laidKinds := [.data], laidTests := true, laidLooks := .later }
def AllDiffRefusesUptoCardSaid : Prop := Claim7.holds Tryz.pinned (.plain (OpenSpec.upto allDiffRefusesSpec)) allDiffRefusesUptoCard

/-- THE SECOND FORM's CARD OF 'jigsawlaw16.AllDiffFixed'. -/
def allDiffFixedUptoCard : Claim7 := { stood := { row := allDiffFixedUptoRow, standIns := [], harness := (true, "a5cfa4d15fb785640f7dddd9d6da92cec11e643ea7ef86a2babc6604f94ceffa"), looks := false }, kinds := [], alts := [], laidByText := true, laidKinds := [.data], laidTests := true, laidLooks := .later }
def AllDiffFixedUptoCardSaid : Prop := Claim7.holds Tryz.pinned (.plain (OpenSpec.upto allDiffFixedSpec)) allDiffFixedUptoCard

/-- THE SECOND FORM's CARD OF 'jigsawlaw16.AllDiffKeeps'. -/
def allDiffKeepsUptoCard : Claim7 := { stood := { row := allDiffKeepsUptoRow, standIns := [], harness := (true, "a5cfa4d15fb785640f7dddd9d6da92cec11e643ea7ef86a2babc6604f94ceffa"), looks := false }, kinds := [], alts := [], laidByText := true, laidKinds := [.data], laidTests := true, laidLooks := .later }
def AllDiffKeepsUptoCardSaid : Prop := Claim7.holds Tryz.pinned (.plain (OpenSpec.upto allDiffKeepsSpec)) allDiffKeepsUptoCard
end Rows
end Go.Proofs.YtckfbfdnlpnllaaGreatDoor
