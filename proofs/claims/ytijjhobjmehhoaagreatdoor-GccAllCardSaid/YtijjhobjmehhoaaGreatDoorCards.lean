/-
  DERIVED. GIVEN WITH THE SEED: THE CARDS: each row of YtijjhobjmehhoaaGreatDoorRows.lean that lists a variable, with what it lists TIED to the program's text (the seventh form; the later family's looks); each row that meets fmt, with fmt's text TOLD by the authors' own Lean function (tested against real Go, not proved from fmt's source: count such statements apart). THE CARD IS WHAT COUNTS. Prove the row's statement (the work); the ties are given (YtijjhobjmehhoaaGreatDoorTie.lean); close each card by the builder's one call (the guide's Derived/Test/ToyasCard.lean, 'card_holds'). Laid BY PROGRAM, IN A SANDBOX (cutbox-door.mjs). By AI agents, Wed Nov 11 2026. No macro, syntax, notation, axiom, sorry.
-/
import Derived.Test.YtijjhobjmehhoaaGreatDoorRows
import GoSem.ClaimSeven
namespace Go.Proofs.YtijjhobjmehhoaaGreatDoor
namespace Rows

/-- THE TIED CARD OF 'jigsawlaw20.GccFilters'. -/
def gccFiltersCard : Claim7 := { stood := { row := gccFiltersRow, standIns := [], harness := (true, "b6f614e19783ed1af4da5b9c222296e3c82e2cff675932147fb79818aaa9ceeb"), looks := false }, kinds := [], alts := [], laidByText := true, laidKinds := [.data], laidTests := true, laidLooks := .later }
def GccFiltersCardSaid : Prop := Claim7.holds Tryz.pinned (.plain (OpenSpec.ofChange gccFiltersSpec)) gccFiltersCard

/-- THE TIED CARD OF 'jigsawlaw20.GccRefuses'. -/
def gccRefusesCard : Claim7 := { stood := { row := gccRefusesRow, standIns := [], harness := (true, "b6f614e19783ed1af4da5b9c222296e3c82e2cff675932147fb79818aaa9ceeb"), looks := false }, kinds := [], alts := [], laidByText := true, laidKinds := [.data], laidTests := true, laidLooks := .later }
def GccRefusesCardSaid : Prop := Claim7.holds Tryz.pinned (.plain (OpenSpec.ofChange gccRefusesSpec)) gccRefusesCard

/-- THE TIED CARD OF 'jigsawlaw20.GccFixed'. -/
def gccFixedCard : Claim7 := { stood := { row := gccFixedRow, standIns := [], harness := (true, "b6f614e19783ed1af4da5b9c222296e3c82e2cff675932147fb79818aaa9ceeb"), looks := false }, kinds := [], alts := [], laidByText := true, laidKinds := [.data], laidTests := true, laidLooks := .later }
def GccFixedCardSaid : Prop := Claim7.holds Tryz.pinned (.plain (OpenSpec.ofChange gccFixedSpec)) gccFixedCard

/-- THE TIED CARD OF 'jigsawlaw20.GccAll'. -/
def gccAllCard : Claim7 := { stood := { row := gccAllRow, standIns := [], harness := (true, "b6f614e19783ed1af4da5b9c222296e3c82e2cff675932147fb79818aaa9ceeb"), looks := false }, kinds := [], alts := [], laidByText := true, laidKinds := [.data], laidTests := true, laidLooks := .later }
def GccAllCardSaid : Prop := Claim7.holds Tryz.pinned (.plain (OpenSpec.ofChange gccAllSpec)) gccAllCard

/-- THE TIED CARD OF 'jigsawlaw20.GccKeeps'. -/
def gccKeepsCard : Claim7 := { stood := { row := gccKeepsRow, standIns := [], harness := (true, "b6f614e19783ed1af4da5b9c222296e3c82e2cff675932147fb79818aaa9ceeb"), looks := false }, kinds := [], alts := [], laidByText := true, laidKinds := [.data], laidTests := true, laidLooks := .later }
def GccKeepsCardSaid : Prop := Claim7.holds Tryz.pinned (.plain (OpenSpec.ofChange gccKeepsSpec)) gccKeepsCard

/-- THE SECOND FORM's CARD OF 'jigsawlaw20.GccFilters'. -/
def gccFiltersUptoCard : Claim7 := { stood := { row := gccFiltersUptoRow, standIns := [], harness := (true, "b6f614e19783ed1af4da5b9c222296e3c82e2cff675932147fb79818aaa9ceeb"), looks := false }, kinds := [], alts := [], laidByText := true, laidKinds := [.data], laidTests := true, laidLooks := .later }
def GccFiltersUptoCardSaid : Prop := Claim7.holds Tryz.pinned (.plain (OpenSpec.upto gccFiltersSpec)) gccFiltersUptoCard

/-- THE SECOND FORM's CARD OF 'jigsawlaw20.GccRefuses'. -/
def gccRefusesUptoCard : Claim7 := { stood := { row := gccRefusesUptoRow, standIns := [], harness := (true, "b6f614e19783ed1af4da5b9c222296e3c82e2cff675932147fb79818aaa9ceeb"), looks := false }, kinds := [], alts := [], laidByText := true, laidKinds := [.data], laidTests := true, laidLooks := .later }
def GccRefusesUptoCardSaid : Prop := Claim7.holds Tryz.pinned (.plain (OpenSpec.upto gccRefusesSpec)) gccRefusesUptoCard

/-- THE SECOND FORM's CARD OF 'jigsawlaw20.GccFixed'. -/
def gccFixedUptoCard : Claim7 := { stood := { row := gccFixedUptoRow, standIns := [], harness := (true, "b6f614e19783ed1af4da5b9c222296e3c82e2cff675932147fb79818aaa9ceeb"), looks := false }, kinds := [], alts := [], laidByText := true, laidKinds := [.data], laidTests := true, laidLooks := .later }
def GccFixedUptoCardSaid : Prop := Claim7.holds Tryz.pinned (.plain (OpenSpec.upto gccFixedSpec)) gccFixedUptoCard

/-- THE SECOND FORM's CARD OF 'jigsawlaw20.GccAll'. -/
def gccAllUptoCard : Claim7 := { stood := { row := gccAllUptoRow, standIns := [], harness := (true, "b6f614e19783ed1af4da5b9c222296e3c82e2cff675932147fb79818aaa9ceeb"), looks := false }, kinds := [], alts := [], laidByText := true, laidKinds := [.data], laidTests := true, laidLooks := .later }
def GccAllUptoCardSaid : Prop := Claim7.holds Tryz.pinned (.plain (OpenSpec.upto gccAllSpec)) gccAllUptoCard

/-- THE SECOND FORM's CARD OF 'jigsawlaw20.GccKeeps'. -/
def gccKeepsUptoCard : Claim7 := { stood := { row := gccKeepsUptoRow, standIns := [], harness := (true, "b6f614e19783ed1af4da5b9c222296e3c82e2cff675932147fb79818aaa9ceeb"), looks := false }, kinds := [], alts := [], laidByText := true, laidKinds := [.data], laidTests := true, laidLooks := .later }
def GccKeepsUptoCardSaid : Prop := Claim7.holds Tryz.pinned (.plain (OpenSpec.upto gccKeepsSpec)) gccKeepsUptoCard
end Rows
end Go.Proofs.YtijjhobjmehhoaaGreatDoor
