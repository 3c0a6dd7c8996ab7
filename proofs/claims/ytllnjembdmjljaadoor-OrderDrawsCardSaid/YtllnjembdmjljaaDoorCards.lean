/-
  DERIVED. GIVEN WITH THE SEED: THE CARDS: each row of YtllnjembdmjljaaDoorRows.lean that lists a variable, with what it lists TIED to the program's text (the seventh form; the later family's looks); each row that meets fmt, with fmt's text TOLD by the authors' own Lean function (tested against real Go, not proved from fmt's source: count such statements apart). THE CARD IS WHAT COUNTS. Prove the row's statement (the work); the ties are given (YtllnjembdmjljaaDoorTie.lean); close each card by the builder's one call (the guide's Derived/Test/ToyasCard.lean, 'card_holds'). Laid BY PROGRAM, IN A SANDBOX (cutbox-door.mjs). By AI agents, Wed Nov 11 2026. No macro, syntax, notation, axiom, sorry.
-/
import Derived.Test.YtllnjembdmjljaaDoorRows
import GoSem.ClaimSeven
namespace Go.Proofs.YtllnjembdmjljaaDoor
namespace Rows

/-- THE TIED CARD OF 'jigsawlaw25.OrderDraws'. -/
def orderDrawsCard : Claim7 := { stood := { row := orderDrawsRow, standIns := [], harness := (true, "9b94996ffb5a1172f5e55989d29f25b368d2198d221b0074d2e8f9a05a10cef8"), looks := false }, kinds := [], alts := [], laidByText := true, laidKinds := [.data], laidTests := true, laidLooks := .later }
def OrderDrawsCardSaid : Prop := Claim7.holds Tryd.pinned (.plain (OpenSpec.ofChange orderDrawsSpec)) orderDrawsCard

/-- THE TIED CARD OF 'jigsawlaw25.OrderPlays'. -/
def orderPlaysCard : Claim7 := { stood := { row := orderPlaysRow, standIns := [], harness := (true, "9b94996ffb5a1172f5e55989d29f25b368d2198d221b0074d2e8f9a05a10cef8"), looks := false }, kinds := [], alts := [], laidByText := true, laidKinds := [.data], laidTests := true, laidLooks := .later }
def OrderPlaysCardSaid : Prop := Claim7.holds Tryd.pinned (.plain (OpenSpec.ofChange orderPlaysSpec)) orderPlaysCard

/-- THE TIED CARD OF 'jigsawlaw25.OrderOpen'. -/
def orderOpenCard : Claim7 := { stood := { row := orderOpenRow, standIns := [], harness := (true, "9b94996ffb5a1172f5e55989d29f25b368d2198d221b0074d2e8f9a05a10cef8"), looks := false }, kinds := [], alts := [], laidByText := true, laidKinds := [.data], laidTests := true, laidLooks := .later }
def OrderOpenCardSaid : Prop := Claim7.holds Tryd.pinned (.plain (OpenSpec.ofChange orderOpenSpec)) orderOpenCard

/-- THE TIED CARD OF 'jigsawlaw25.OrderRefuses'. -/
def orderRefusesCard : Claim7 := { stood := { row := orderRefusesRow, standIns := [], harness := (true, "9b94996ffb5a1172f5e55989d29f25b368d2198d221b0074d2e8f9a05a10cef8"), looks := false }, kinds := [], alts := [], laidByText := true, laidKinds := [.data], laidTests := true, laidLooks := .later }
def OrderRefusesCardSaid : Prop := Claim7.holds Tryd.pinned (.plain (OpenSpec.ofChange orderRefusesSpec)) orderRefusesCard

/-- THE SECOND FORM's CARD OF 'jigsawlaw25.OrderDraws'. -/
def orderDrawsUptoCard : Claim7 := { stood := { row := orderDrawsUptoRow, standIns := [], harness := (true, "9b94996ffb5a1172f5e55989d29f25b368d2198d221b0074d2e8f9a05a10cef8"), looks := false }, kinds := [], alts := [], laidByText := true, laidKinds := [.data], laidTests := true, laidLooks := .later }
def OrderDrawsUptoCardSaid : Prop := Claim7.holds Tryd.pinned (.plain (OpenSpec.upto orderDrawsSpec)) orderDrawsUptoCard

/-- THE SECOND FORM's CARD OF 'jigsawlaw25.OrderPlays'. -/
def orderPlaysUptoCard : Claim7 := { stood := { row := orderPlaysUptoRow, standIns := [], harness := (true, "9b94996ffb5a1172f5e55989d29f25b368d2198d221b0074d2e8f9a05a10cef8"), looks := false }, kinds := [], alts := [], laidByText := true, laidKinds := [.data], laidTests := true, laidLooks := .later }
def OrderPlaysUptoCardSaid : Prop := Claim7.holds Tryd.pinned (.plain (OpenSpec.upto orderPlaysSpec)) orderPlaysUptoCard

/-- THE SECOND FORM's CARD OF 'jigsawlaw25.OrderOpen'. -/
def orderOpenUptoCard : Claim7 := { stood := { row := orderOpenUptoRow, standIns := [], harness := (true, "9b94996ffb5a1172f5e55989d29f25b368d2198d221b0074d2e8f9a05a10cef8"), looks := false }, kinds := [], alts := [], laidByText := true, laidKinds := [.data], laidTests := true, laidLooks := .later }
def OrderOpenUptoCardSaid : Prop := Claim7.holds Tryd.pinned (.plain (OpenSpec.upto orderOpenSpec)) orderOpenUptoCard

/-- THE SECOND FORM's CARD OF 'jigsawlaw25.OrderRefuses'. -/
def orderRefusesUptoCard : Claim7 := { stood := { row := orderRefusesUptoRow, standIns := [], harness := (true, "9b94996ffb5a1172f5e55989d29f25b368d2198d221b0074d2e8f9a05a10cef8"), looks := false }, kinds := [], alts := [], laidByText := true, laidKinds := [.data], laidTests := true, laidLooks := .later }
def OrderRefusesUptoCardSaid : Prop := Claim7.holds Tryd.pinned (.plain (OpenSpec.upto orderRefusesSpec)) orderRefusesUptoCard
end Rows
end Go.Proofs.YtllnjembdmjljaaDoor
