/-
  DERIVED. GIVEN WITH THE SEED: THE CARDS: each row of YtiofjnhmogeenaaGreatDoorRows.lean that lists a variable, with what it lists TIED to the program's text (the seventh form; the later family's looks); each row that meets fmt, with fmt's text TOLD by the authors' own Lean function (tested against real Go, not proved from fmt's source: count such statements apart). THE CARD IS WHAT COUNTS. Prove the row's statement (the work); the ties are given (YtiofjnhmogeenaaGreatDoorTie.lean); close each card by the builder's one call (the guide's Derived/Test/ToyasCard.lean, 'card_holds'). Laid BY PROGRAM, IN A SANDBOX (cutbox-door.mjs). By AI agents, Wed Nov 11 2026. No macro, syntax, notation, axiom, sorry.
-/
import Derived.Test.YtiofjnhmogeenaaGreatDoorRows
import GoSem.ClaimSeven
namespace Go.Proofs.YtiofjnhmogeenaaGreatDoor
namespace Rows

/-- THE TIED CARD OF 'jigsawlaw12.ExtFilters'. -/
def extFiltersCard : Claim7 := { stood := { row := extFiltersRow, standIns := [], harness := (true, "1c74073758324ec663253031303cfa7bde9808ebbebcee0a2c0cf8786b1fcd35"), looks := false }, kinds := [], alts := [], laidByText := true, laidKinds := [.data], laidTests := true, laidLooks := .later }
def ExtFiltersCardSaid : Prop := Claim7.holds Tryz.pinned (.plain (OpenSpec.ofChange extFiltersSpec)) extFiltersCard

/-- THE TIED CARD OF 'jigsawlaw12.ExtRefuses'. -/
def extRefusesCard : Claim7 := { stood := { row := extRefusesRow, standIns := [], harness := (true, "1c74073758324ec663253031303cfa7bde9808ebbebcee0a2c0cf8786b1fcd35"), looks := false }, kinds := [], alts := [], laidByText := true, laidKinds := [.data], laidTests := true, laidLooks := .later }
def ExtRefusesCardSaid : Prop := Claim7.holds Tryz.pinned (.plain (OpenSpec.ofChange extRefusesSpec)) extRefusesCard

/-- THE TIED CARD OF 'jigsawlaw12.ExtFixed'. -/
def extFixedCard : Claim7 := { stood := { row := extFixedRow, standIns := [], harness := (true, "1c74073758324ec663253031303cfa7bde9808ebbebcee0a2c0cf8786b1fcd35"), looks := false }, kinds := [], alts := [], laidByText := true, laidKinds := [.data], laidTests := true, laidLooks := .later }
def ExtFixedCardSaid : Prop := Claim7.holds Tryz.pinned (.plain (OpenSpec.ofChange extFixedSpec)) extFixedCard

/-- THE TIED CARD OF 'jigsawlaw12.ExtWide'. -/
def extWideCard : Claim7 := { stood := { row := extWideRow, standIns := [], harness := (true, "1c74073758324ec663253031303cfa7bde9808ebbebcee0a2c0cf8786b1fcd35"), looks := false }, kinds := [], alts := [], laidByText := true, laidKinds := [.data], laidTests := true, laidLooks := .later }
def ExtWideCardSaid : Prop := Claim7.holds Tryz.pinned (.plain (OpenSpec.ofChange extWideSpec)) extWideCard

/-- THE TIED CARD OF 'jigsawlaw12.ExtKeeps'. -/
def extKeepsCard : Claim7 := { stood := { row := extKeepsRow, standIns := [], harness := (true, "1c74073758324ec663253031303cfa7bde9808ebbebcee0a2c0cf8786b1fcd35"), looks := false }, kinds := [], alts := [], laidByText := true, laidKinds := [.data], laidTests := true, laidLooks := .later }
def ExtKeepsCardSaid : Prop := Claim7.holds Tryz.pinned (.plain (OpenSpec.ofChange extKeepsSpec)) extKeepsCard

/-- THE SECOND FORM's CARD OF 'jigsawlaw12.ExtFilters'. -/
def extFiltersUptoCard : Claim7 := { stood := { row := extFiltersUptoRow, standIns := [], harness := (true, "1c74073758324ec663253031303cfa7bde9808ebbebcee0a2c0cf8786b1fcd35"), looks := false }, kinds := [], alts := [], laidByText := true, laidKinds := [.data], laidTests := true, laidLooks := .later }
def ExtFiltersUptoCardSaid : Prop := Claim7.holds Tryz.pinned (.plain (OpenSpec.upto extFiltersSpec)) extFiltersUptoCard

/-- THE SECOND FORM's CARD OF 'jigsawlaw12.ExtRefuses'. -/
def extRefusesUptoCard : Claim7 := { stood := { row := extRefusesUptoRow, standIns := [], harness := (true, "1c74073758324ec663253031303cfa7bde9808ebbebcee0a2c0cf8786b1fcd35"), looks := false }, kinds := [], alts := [], laidByText := true, laidKinds := [.data], laidTests := true, laidLooks := .later }
def ExtRefusesUptoCardSaid : Prop := Claim7.holds Tryz.pinned (.plain (OpenSpec.upto extRefusesSpec)) extRefusesUptoCard

/-- THE SECOND FORM's CARD OF 'jigsawlaw12.ExtFixed'. -/
def extFixedUptoCard : Claim7 := { stood := { row := extFixedUptoRow, standIns := [], harness := (true, "1c74073758324ec663253031303cfa7bde9808ebbebcee0a2c0cf8786b1fcd35"), looks := false }, kinds := [], alts := [], laidByText := true, laidKinds := [.data], laidTests := true, laidLooks := .later }
def ExtFixedUptoCardSaid : Prop := Claim7.holds Tryz.pinned (.plain (OpenSpec.upto extFixedSpec)) extFixedUptoCard

/-- THE SECOND FORM's CARD OF 'jigsawlaw12.ExtWide'. -/
def extWideUptoCard : Claim7 := { stood := { row := extWideUptoRow, standIns := [], harness := (true, "1c74073758324ec663253031303cfa7bde9808ebbebcee0a2c0cf8786b1fcd35"), looks := false }, kinds := [], alts := [], laidByText := true, laidKinds := [.data], laidTests := true, laidLooks := .later }
def ExtWideUptoCardSaid : Prop := Claim7.holds Tryz.pinned (.plain (OpenSpec.upto extWideSpec)) extWideUptoCard

/-- THE SECOND FORM's CARD OF 'jigsawlaw12.ExtKeeps'. -/
def extKeepsUptoCard : Claim7 := { stood := { row := extKeepsUptoRow, standIns := [], harness := (true, "1c74073758324ec663253031303cfa7bde9808ebbebcee0a2c0cf8786b1fcd35"), looks := false }, kinds := [], alts := [], laidByText := true, laidKinds := [.data], laidTests := true, laidLooks := .later }
def ExtKeepsUptoCardSaid : Prop := Claim7.holds Tryz.pinned (.plain (OpenSpec.upto extKeepsSpec)) extKeepsUptoCard
end Rows
end Go.Proofs.YtiofjnhmogeenaaGreatDoor
