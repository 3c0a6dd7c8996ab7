/-
  DERIVED. GIVEN WITH THE SEED: THE CARDS: each row of YtbhhbgoamomacaaGreatDoorRows.lean that lists a variable, with what it lists TIED to the program's text (the seventh form; the later family's looks); each row that meets fmt, with fmt's text TOLD by the authors' own Lean function (tested against real Go, not proved from fmt's source: count such statements apart). THE CARD IS WHAT COUNTS. Prove the row's statement (the work); the ties are given (YtbhhbgoamomacaaGreatDoorTie.lean); close each card by the builder's one call (the guide's Derived/Test/ToyasCard.lean, 'card_holds'). Laid BY PROGRAM, IN A SANDBOX (cutbox-door.mjs). By AI agents, Wed Nov 11 2026. No macro, syntax, notation, axiom, sorry.
-/
import Derived.Test.YtbhhbgoamomacaaGreatDoorRows
import GoSem.ClaimSeven
namespace Go.Proofs.YtbhhbgoamomacaaGreatDoor
namespace Rows

/-- THE TIED CARD OF 'jigsawlaw11.MulFilters'. -/
def mulFiltersCard : Claim7 := { stood := { row := mulFiltersRow, standIns := [], harness := (true, "01619a3963ba70f782955b9c4cb93b065a45ae1b831782c77c037b251e093831"), looks := false }, kinds := [], alts := [], laidByText := true, laidKinds := [.data], laidTests := true, laidLooks := .later }
def MulFiltersCardSaid : Prop := Claim7.holds Tryz.pinned (.plain (OpenSpec.ofChange mulFiltersSpec)) mulFiltersCard

/-- THE TIED CARD OF 'jigsawlaw11.MulRefuses'. -/
def mulRefusesCard : Claim7 := { stood := { row := mulRefusesRow, standIns := [], harness := (true, "01619a3963ba70f782955b9c4cb93b065a45ae1b831782c77c037b251e093831"), looks := false }, kinds := [], alts := [], laidByText := true, laidKinds := [.data], laidTests := true, laidLooks := .later }
def MulRefusesCardSaid : Prop := Claim7.holds Tryz.pinned (.plain (OpenSpec.ofChange mulRefusesSpec)) mulRefusesCard

/-- THE TIED CARD OF 'jigsawlaw11.MulFixed'. -/
def mulFixedCard : Claim7 := { stood := { row := mulFixedRow, standIns := [], harness := (true, "01619a3963ba70f782955b9c4cb93b065a45ae1b831782c77c037b251e093831"), looks := false }, kinds := [], alts := [], laidByText := true, laidKinds := [.data], laidTests := true, laidLooks := .later }
def MulFixedCardSaid : Prop := Claim7.holds Tryz.pinned (.plain (OpenSpec.ofChange mulFixedSpec)) mulFixedCard

/-- THE TIED CARD OF 'jigsawlaw11.MulWide'. -/
def mulWideCard : Claim7 := { stood := { row := mulWideRow, standIns := [], harness := (true, "01619a3963ba70f782955b9c4cb93b065a45ae1b831782c77c037b251e093831"), looks := false }, kinds := [], alts := [], laidByText := true, laidKinds := [.data], laidTests := true, laidLooks := .later }
def MulWideCardSaid : Prop := Claim7.holds Tryz.pinned (.plain (OpenSpec.ofChange mulWideSpec)) mulWideCard

/-- THE TIED CARD OF 'jigsawlaw11.MulKeeps'. -/
def mulKeepsCard : Claim7 := { stood := { row := mulKeepsRow, standIns := [], harness := (true, "01619a3963ba70f782955b9c4cb93b065a45ae1b831782c77c037b251e093831"), looks := false }, kinds := [], alts := [], laidByText := true, laidKinds := [.data], laidTests := true, laidLooks := .later }
def MulKeepsCardSaid : Prop := Claim7.holds Tryz.pinned (.plain (OpenSpec.ofChange mulKeepsSpec)) mulKeepsCard

/-- THE SECOND FORM's CARD OF 'jigsawlaw11.MulFilters'. -/
def mulFiltersUptoCard : Claim7 := { stood := { row := mulFiltersUptoRow, standIns := [], harness := (true, "01619a3963ba70f782955b9c4cb93b065a45ae1b831782c77c037b251e093831"), looks := false }, kinds := [], alts := [], laidByText := true, laidKinds := [.data], laidTests := true, laidLooks := .later }
def MulFiltersUptoCardSaid : Prop := Claim7.holds Tryz.pinned (.plain (OpenSpec.upto mulFiltersSpec)) mulFiltersUptoCard

/-- THE SECOND FORM's CARD OF 'jigsawlaw11.MulRefuses'. -/
def mulRefusesUptoCard : Claim7 := { stood := { row := mulRefusesUptoRow, standIns := [], harness := (true, "01619a3963ba70f782955b9c4cb93b065a45ae1b831782c77c037b251e093831"), looks := false }, kinds := [], alts := [], laidByText := true, laidKinds := [.data], laidTests := true, laidLooks := .later }
def MulRefusesUptoCardSaid : Prop := Claim7.holds Tryz.pinned (.plain (OpenSpec.upto mulRefusesSpec)) mulRefusesUptoCard

/-- THE SECOND FORM's CARD OF 'jigsawlaw11.MulFixed'. -/
def mulFixedUptoCard : Claim7 := { stood := { row := mulFixedUptoRow, standIns := [], harness := (true, "01619a3963ba70f782955b9c4cb93b065a45ae1b831782c77c037b251e093831"), looks := false }, kinds := [], alts := [], laidByText := true, laidKinds := [.data], laidTests := true, laidLooks := .later }
def MulFixedUptoCardSaid : Prop := Claim7.holds Tryz.pinned (.plain (OpenSpec.upto mulFixedSpec)) mulFixedUptoCard

/-- THE SECOND FORM's CARD OF 'jigsawlaw11.MulWide'. -/
def mulWideUptoCard : Claim7 := { stood := { row := mulWideUptoRow, standIns := [], harness := (true, "01619a3963ba70f782955b9c4cb93b065a45ae1b831782c77c037b251e093831"), looks := false }, kinds := [], alts := [], laidByText := true, laidKinds := [.data], laidTests := true, laidLooks := .later }
def MulWideUptoCardSaid : Prop := Claim7.holds Tryz.pinned (.plain (OpenSpec.upto mulWideSpec)) mulWideUptoCard

/-- THE SECOND FORM's CARD OF 'jigsawlaw11.MulKeeps'. -/
def mulKeepsUptoCard : Claim7 := { stood := { row := mulKeepsUptoRow, standIns := [], harness := (true, "01619a3963ba70f782955b9c4cb93b065a45ae1b831782c77c037b251e093831"), looks := false }, kinds := [], alts := [], laidByText := true, laidKinds := [.data], laidTests := true, laidLooks := .later }
def MulKeepsUptoCardSaid : Prop := Claim7.holds Tryz.pinned (.plain (OpenSpec.upto mulKeepsSpec)) mulKeepsUptoCard
end Rows
end Go.Proofs.YtbhhbgoamomacaaGreatDoor
