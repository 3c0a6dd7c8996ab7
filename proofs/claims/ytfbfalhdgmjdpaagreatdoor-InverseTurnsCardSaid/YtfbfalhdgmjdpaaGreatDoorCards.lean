/-
  DERIVED. GIVEN WITH THE SEED: THE CARDS: each row of YtfbfalhdgmjdpaaGreatDoorRows.lean that lists a variable, with what it lists TIED to the program's text (the seventh form; the later family's looks); each row that meets fmt, with fmt's text TOLD by the authors' own Lean function (tested against real Go, not proved from fmt's source: count such statements apart). THE CARD IS WHAT COUNTS. Prove the row's statement (the work); the ties are given (YtfbfalhdgmjdpaaGreatDoorTie.lean); close each card by the builder's one call (the guide's Derived/Test/ToyasCard.lean, 'card_holds'). Laid BY PROGRAM, IN A SANDBOX (cutbox-door.mjs). By AI agents, Wed Nov 11 2026. No macro, syntax, notation, axiom, sorry.
-/
import Derived.Test.YtfbfalhdgmjdpaaGreatDoorRows
import GoSem.ClaimSeven
namespace Go.Proofs.YtfbfalhdgmjdpaaGreatDoor
namespace Rows

/-- THE TIED CARD OF 'jigsawlaw22.InverseFilters'. -/
def inverseFiltersCard : Claim7 := { stood := { row := inverseFiltersRow, standIns := [], harness := (true, "bbb09265ecb566b1c0c4af4066d3dc1de2fad2171dc9f4b07664830467760f2e"), looks := false }, kinds := [], alts := [], laidByText := true, laidKinds := [.data], laidTests := true, laidLooks := .later }
def InverseFiltersCardSaid : Prop := Claim7.holds Tryz.pinned (.plain (OpenSpec.ofChange inverseFiltersSpec)) inverseFiltersCard

/-- THE TIED CARD OF 'jigsawlaw22.InverseRefuses'. -/
def inverseRefusesCard : Claim7 := { stood := { row := inverseRefusesRow, standIns := [], harness := (true, "bbb09265ecb566b1c0c4af4066d3dc1de2fad2171dc9f4b07664830467760f2e"), looks := false }, kinds := [], alts := [], laidByText := true, laidKinds := [.data], laidTests := true, laidLooks := .later }
def InverseRefusesCardSaid : Prop := Claim7.holds Tryz.pinned (.plain (OpenSpec.ofChange inverseRefusesSpec)) inverseRefusesCard

/-- THE TIED CARD OF 'jigsawlaw22.InverseFixed'. -/
def inverseFixedCard : Claim7 := { stood := { row := inverseFixedRow, standIns := [], harness := (true, "bbb09265ecb566b1c0c4af4066d3dc1de2fad2171dc9f4b07664830467760f2e"), looks := false }, kinds := [], alts := [], laidByText := true, laidKinds := [.data], laidTests := true, laidLooks := .later }
def InverseFixedCardSaid : Prop := Claim7.holds Tryz.pinned (.plain (OpenSpec.ofChange inverseFixedSpec)) inverseFixedCard

/-- THE TIED CARD OF 'jigsawlaw22.InverseKeeps'. -/
def inverseKeepsCard : Claim7 := { stood := { row := inverseKeepsRow, standIns := [], harness := (true, "bbb09265ecb566b1c0c4af4066d3dc1de2fad2171dc9f4b07664830467760f2e"), looks := false }, kinds := [], alts := [], laidByText := true, laidKinds := [.data], laidTests := true, laidLooks := .later }
def InverseKeepsCardSaid : Prop := Claim7.holds Tryz.pinned (.plain (OpenSpec.ofChange inverseKeepsSpec)) inverseKeepsCard

/-- THE TIED CARD OF 'jigsawlaw22.InverseTurns'. -/
def inverseTurnsCard : Claim7 := { stood := { row := inverseTurnsRow, standIns := [], harness := (true, "bbb09265ecb566b1c0c4af4066d3dc1de2fad2171dc9f4b07664830467760f2e"), looks := false }, kinds := [], alts := [], laidByText := true, laidKinds := [.data], laidTests := true, laidLooks := .later }
def InverseTurnsCardSaid : Prop := Claim7.holds Tryz.pinned (.plain (OpenSpec.ofChange inverseTurnsSpec)) inverseTurnsCard

/-- THE SECOND FORM's CARD OF 'jigsawlaw22.InverseFilters'. -/
def inverseFiltersUptoCard : Claim7 := { stood := { row := inverseFiltersUptoRow, standIns := [], harness := (true, "bbb09265ecb566b1c0c4af4066d3dc1de2fad2171dc9f4b07664830467760f2e"), looks := false }, kinds := [], alts := [], laidByText := true, laidKinds := [.data], laidTests := true, laidLooks := .later }
def InverseFiltersUptoCardSaid : Prop := Claim7.holds Tryz.pinned (.plain (OpenSpec.upto inverseFiltersSpec)) inverseFiltersUptoCard

/-- THE SECOND FORM's CARD OF 'jigsawlaw22.InverseRefuses'. -/
def inverseRefusesUptoCard : Claim7 := { stood := { row := inverseRefusesUptoRow, standIns := [], harness := (true, "bbb09265ecb566b1c0c4af4066d3dc1de2fad2171dc9f4b07664830467760f2e"), looks := false }, kinds := [], alts := [], laidByText := true, laidKinds := [.data], laidTests := true, laidLooks := .later }
def InverseRefusesUptoCardSaid : Prop := Claim7.holds Tryz.pinned (.plain (OpenSpec.upto inverseRefusesSpec)) inverseRefusesUptoCard

/-- THE SECOND FORM's CARD OF 'jigsawlaw22.InverseFixed'. -/
def inverseFixedUptoCard : Claim7 := { stood := { row := inverseFixedUptoRow, standIns := [], harness := (true, "bbb09265ecb566b1c0c4af4066d3dc1de2fad2171dc9f4b07664830467760f2e"), looks := false }, kinds := [], alts := [], laidByText := true, laidKinds := [.data], laidTests := true, laidLooks := .later }
def InverseFixedUptoCardSaid : Prop := Claim7.holds Tryz.pinned (.plain (OpenSpec.upto inverseFixedSpec)) inverseFixedUptoCard

/-- THE SECOND FORM's CARD OF 'jigsawlaw22.InverseKeeps'. -/
def inverseKeepsUptoCard : Claim7 := { stood := { row := inverseKeepsUptoRow, standIns := [], harness := (true, "bbb09265ecb566b1c0c4af4066d3dc1de2fad2171dc9f4b07664830467760f2e"), looks := false }, kinds := [], alts := [], laidByText := true, laidKinds := [.data], laidTests := true, laidLooks := .later }
def InverseKeepsUptoCardSaid : Prop := Claim7.holds Tryz.pinned (.plain (OpenSpec.upto inverseKeepsSpec)) inverseKeepsUptoCard

/-- THE SECOND FORM's CARD OF 'jigsawlaw22.InverseTurns'. -/
def inverseTurnsUptoCard : Claim7 := { stood := { row := inverseTurnsUptoRow, standIns := [], harness := (true, "bbb09265ecb566b1c0c4af4066d3dc1de2fad2171dc9f4b07664830467760f2e"), looks := false }, kinds := [], alts := [], laidByText := true, laidKinds := [.data], laidTests := true, laidLooks := .later }
def InverseTurnsUptoCardSaid : Prop := Claim7.holds Tryz.pinned (.plain (OpenSpec.upto inverseTurnsSpec)) inverseTurnsUptoCard
end Rows
end Go.Proofs.YtfbfalhdgmjdpaaGreatDoor
