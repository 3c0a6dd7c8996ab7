/-
  NARROWER THAN 'FOR EVERY INPUT', by the rows' own cells (each row's printed sentence says how): ExtFilters: laid · ExtRefuses: laid · ExtFixed: laid · ExtWide: laid · ExtKeeps: laid.
  DERIVED. THE GIVEN ROWS OF THIS SEAT. 5 by the template 'for every input the law returns true; each argument reads behind the call as it read before'; 0 by the template 'total and deterministic' (their statements: YtiofjnhmogeenaaGreatDoorTotals.lean).
  GIVEN WITH THE SEED: the statements are not yours to turn. If you find one false, say at which input.
  Laid BY PROGRAM, IN A SANDBOX (cutbox-rows.mjs): the forced cells as the released guide's own fill.sh prints them over the translation 91722f70d07c40f5… (all of the seat's roots in one cut). By AI agents, Wed Nov 11 2026. No macro, syntax, notation, axiom, sorry.
-/
import Derived.Test.YtiofjnhmogeenaaGreatDoorChecked
import GoSem.Claim
import GoSem.ClaimJoined
import GoSem.ClaimMapViews
import Derived.JoinedTies
import Derived.KernelRfl
namespace Go.Proofs.YtiofjnhmogeenaaGreatDoor
/- THE CELL 'sum', in the pinned program and in every row, IS THE sha256 OF THE DUMP (.gsa) THAT YtiofjnhmogeenaaGreatDoorProg.lean LOADS. Nothing in Lean hashes anything: it is a label: what it is worth is what the hold of that sum in a sandbox is worth. -/
noncomputable def Tryz.pinned : Pinned := { name := "ytiofjnhmogeenaagreatdoor", sum := "91722f70d07c40f54da245c1ac8328e09ceec14d5b1ba82a34b9a7e015fa18e2", checked := Tryz.checked }
namespace Rows
def none {H : Type} : Left H := { results := [], args := [] }

/- WHAT THE LISTED PACKAGE-LEVEL VARIABLES READ AS WHEN THE CALL BEGINS. Each datum BY PROGRAM (the guide's laid-datum.mjs) off the statement by which the dump's own 'gosem.cut.vars' lays the variable. In a bare row this is a premise. The card (YtiofjnhmogeenaaGreatDoorCards.lean) ties it to the program's text. -/
def laid_math_bits_deBruijn64tab {H : Type} : DataW H := .agg [.lit (.int .u8 0), .lit (.int .u8 1), .lit (.int .u8 56), .lit (.int .u8 2), .lit (.int .u8 57), .lit (.int .u8 49), .lit (.int .u8 28), .lit (.int .u8 3), .lit (.int .u8 61), .lit (.int .u8 58), .lit (.int .u8 42), .lit (.int .u8 50), .lit (.int .u8 38), .lit (.int .u8 29), .lit (.int .u8 17), .lit (.int .u8 4), .lit (.int .u8 62), .lit (.int .u8 47), .lit (.int .u8 59), .lit (.int .u8 36), .lit (.int .u8 45), .lit (.int .u8 43), .lit (.int .u8 51), .lit (.int .u8 22), .lit (.int .u8 53), .lit (.int .u8 39), .lit (.int .u8 33), .lit (.int .u8 30), .lit (.int .u8 24), .lit (.int .u8 18), .lit (.int .u8 12), .lit (.int .u8 5), .lit (.int .u8 63), .lit (.int .u8 55), .lit (.int .u8 48), .lit (.int .u8 27), .lit (.int .u8 60), .lit (.int .u8 41), .lit (.int .u8 37), .lit (.int .u8 16), .lit (.int .u8 46), .lit (.int .u8 35), .lit (.int .u8 44), .lit (.int .u8 21), .lit (.int .u8 52), .lit (.int .u8 32), .lit (.int .u8 23), .lit (.int .u8 11), .lit (.int .u8 54), .lit (.int .u8 26), .lit (.int .u8 40), .lit (.int .u8 15), .lit (.int .u8 34), .lit (.int .u8 20), .lit (.int .u8 31), .lit (.int .u8 10), .lit (.int .u8 25), .lit (.int .u8 14), .lit (.int .u8 19), .lit (.int .u8 9), .lit (.int .u8 13), .lit (.int .u8 8), .lit (.int .u8 7), .lit (.int .u8 6)]

/-- 'jigsawlaw12.ExtFilters': WHATEVER THE INPUT: true; the input reads as it did. -/
def extFiltersSpec : ChangeSpec := { name := "extFilters", fn := fun _ => fun
  | [d1, d2] => { results := [.lit (.bool true)], args := [d1, d2] }
  | _ => none }
def extFiltersRow : OpenClaim := { program := "ytiofjnhmogeenaagreatdoor", sum := "91722f70d07c40f54da245c1ac8328e09ceec14d5b1ba82a34b9a7e015fa18e2", func := "jigsaw/jigsawlaw12.ExtFilters", spec := "extFilters", inPlace := ["internal/bytealg.IndexByteString", "internal/bytealg.IndexString", "internal/bytealg.CountString"], unfollowed := true, recurses := true, named := ["math/bits.deBruijn64tab", "internal/bytealg.MaxLen"], apart := false, laid := [("math/bits.deBruijn64tab", laid_math_bits_deBruijn64tab)] }
def ExtFiltersSaid : Prop := extFiltersRow.holds Tryz.pinned (OpenSpec.ofChange extFiltersSpec)

/-- ITS FALSE NEIGHBOUR: 'it returns false'. Refute it at one input. -/
def extFiltersWrong : ChangeSpec := { name := "extFilters", fn := fun _ => fun
  | [d1, d2] => { results := [.lit (.bool false)], args := [d1, d2] }
  | _ => none }
def ExtFiltersWrongFalsely : Prop := extFiltersRow.holds Tryz.pinned (OpenSpec.ofChange extFiltersWrong)

/-- 'jigsawlaw12.ExtRefuses': WHATEVER THE INPUT: true; the input reads as it did. -/
def extRefusesSpec : ChangeSpec := { name := "extRefuses", fn := fun _ => fun
  | [d1, d2, d3] => { results := [.lit (.bool true)], args := [d1, d2, d3] }
  | _ => none }
def extRefusesRow : OpenClaim := { program := "ytiofjnhmogeenaagreatdoor", sum := "91722f70d07c40f54da245c1ac8328e09ceec14d5b1ba82a34b9a7e015fa18e2", func := "jigsaw/jigsawlaw12.ExtRefuses", spec := "extRefuses", inPlace := ["internal/bytealg.IndexByteString", "internal/bytealg.IndexString", "internal/bytealg.CountString"], unfollowed := true, recurses := true, named := ["math/bits.deBruijn64tab", "internal/bytealg.MaxLen"], apart := false, laid := [("math/bits.deBruijn64tab", laid_math_bits_deBruijn64tab)] }
def ExtRefusesSaid : Prop := extRefusesRow.holds Tryz.pinned (OpenSpec.ofChange extRefusesSpec)

/-- ITS FALSE NEIGHBOUR: 'it returns false'. Refute it at one input. -/
def extRefusesWrong : ChangeSpec := { name := "extRefuses", fn := fun _ => fun
  | [d1, d2, d3] => { results := [.lit (.bool false)], args := [d1, d2, d3] }
  | _ => none }
def ExtRefusesWrongFalsely : Prop := extRefusesRow.holds Tryz.pinned (OpenSpec.ofChange extRefusesWrong)

/-- 'jigsawlaw12.ExtFixed': WHATEVER THE INPUT: true; the input reads as it did. -/
def extFixedSpec : ChangeSpec := { name := "extFixed", fn := fun _ => fun
  | [d1, d2, d3] => { results := [.lit (.bool true)], args := [d1, d2, d3] }
  | _ => none }
def extFixedRow : OpenClaim := { program := "ytiofjnhmogeenaagreatdoor", sum := "91722f70d07c40f54da245c1ac8328e09ceec14d5b1ba82a34b9a7e015fa18e2", func := "jigsaw/jigsawlaw12.ExtFixed", spec := "extFixed", inPlace := ["internal/bytealg.IndexByteString", "internal/bytealg.IndexString", "internal/bytealg.CountString"], unfollowed := true, recurses := true, named := ["math/bits.deBruijn64tab", "internal/bytealg.MaxLen"], apart := false, laid := [("math/bits.deBruijn64tab", laid_math_bits_deBruijn64tab)] }
def ExtFixedSaid : Prop := extFixedRow.holds Tryz.pinned (OpenSpec.ofChange extFixedSpec)

/-- ITS FALSE NEIGHBOUR: 'it returns false'. Refute it at one input. -/
def extFixedWrong : ChangeSpec := { name := "extFixed", fn := fun _ => fun
  | [d1, d2, d3] => { results := [.lit (.bool false)], args := [d1, d2, d3] }
  | _ => none }
def ExtFixedWrongFalsely : Prop := extFixedRow.holds Tryz.pinned (OpenSpec.ofChange extFixedWrong)

/-- 'jigsawlaw12.ExtWide': WHATEVER THE INPUT: true; the input reads as it did. -/
def extWideSpec : ChangeSpec := { name := "extWide", fn := fun _ => fun
  | [d1, d2, d3] => { results := [.lit (.bool true)], args := [d1, d2, d3] }
  | _ => none }
def extWideRow : OpenClaim := { program := "ytiofjnhmogeenaagreatdoor", sum := "91722f70d07c40f54da245c1ac8328e09ceec14d5b1ba82a34b9a7e015fa18e2", func := "jigsaw/jigsawlaw12.ExtWide", spec := "extWide", inPlace := ["internal/bytealg.IndexByteString", "internal/bytealg.IndexString", "internal/bytealg.CountString"], unfollowed := true, recurses := true, named := ["math/bits.deBruijn64tab", "internal/bytealg.MaxLen"], apart := false, laid := [("math/bits.deBruijn64tab", laid_math_bits_deBruijn64tab)] }
def ExtWideSaid : Prop := extWideRow.holds Tryz.pinned (OpenSpec.ofChange extWideSpec)

/-- ITS FALSE NEIGHBOUR: 'it returns false'. Refute it at one input. -/
def extWideWrong : ChangeSpec := { name := "extWide", fn := fun _ => fun
  | [d1, d2, d3] => { results := [.lit (.bool false)], args := [d1, d2, d3] }
  | _ => none }
def ExtWideWrongFalsely : Prop := extWideRow.holds Tryz.pinned (OpenSpec.ofChange extWideWrong)

/-- 'jigsawlaw12.ExtKeeps': WHATEVER THE INPUT: true; the input reads as it did. -/
def extKeepsSpec : ChangeSpec := { name := "extKeeps", fn := fun _ => fun
  | [d1, d2] => { results := [.lit (.bool true)], args := [d1, d2] }
  | _ => none }
def extKeepsRow : OpenClaim := { program := "ytiofjnhmogeenaagreatdoor", sum := "91722f70d07c40f54da245c1ac8328e09ceec14d5b1ba82a34b9a7e015fa18e2", func := "jigsaw/jigsawlaw12.ExtKeeps", spec := "extKeeps", inPlace := ["internal/bytealg.IndexByteString", "internal/bytealg.IndexString", "internal/bytealg.CountString"], unfollowed := true, recurses := true, named := ["math/bits.deBruijn64tab", "internal/bytealg.MaxLen"], apart := false, laid := [("math/bits.deBruijn64tab", laid_math_bits_deBruijn64tab)] }
def ExtKeepsSaid : Prop := extKeepsRow.holds Tryz.pinned (OpenSpec.ofChange extKeepsSpec)

/-- ITS FALSE NEIGHBOUR: 'it returns false'. Refute it at one input. -/
def extKeepsWrong : ChangeSpec := { name := "extKeeps", fn := fun _ => fun
  | [d1, d2] => { results := [.lit (.bool false)], args := [d1, d2] }
  | _ => none }
def ExtKeepsWrongFalsely : Prop := extKeepsRow.holds Tryz.pinned (OpenSpec.ofChange extKeepsWrong)

/- THE SECOND FORM. 'bulk': how many values and letters a reading holds, each counted each time it is reached (what is shared counts as often as it is met; a slice's spare places count too). A statement '..UptoSaid' is the law's where the arguments, and the package variables that the reading takes, are together of bulk at most 1048576: NARROWER than '..Said'. Prove '..Said' where nothing that the law and all that it calls make is longer than what came in: it says more and counts as full. Else prove '..UptoSaid'. A law counts once. -/
mutual
def uptoBulk {H : Type} : DataW H → Nat
  | .lit (.string bytes) => bytes.length + 1
  | .lit _ => 1
  | .nil => 1
  | .ptr d => uptoBulk d + 1
  | .slice elems spare => uptoBulkAll elems + uptoBulkAll spare + 1
  | .agg parts => uptoBulkAll parts + 1
  | .iface _ d => uptoBulk d + 1
  | .map entries => uptoBulkEntries entries + 1
  | .held _ => 1
def uptoBulkAll {H : Type} : List (DataW H) → Nat
  | [] => 0
  | d :: r => uptoBulk d + uptoBulkAll r
def uptoBulkEntries {H : Type} : List (Lit × DataW H) → Nat
  | [] => 0
  | x :: r => uptoBulkEntry x + uptoBulkEntries r
def uptoBulkEntry {H : Type} : Lit × DataW H → Nat
  | (.string bytes, d) => bytes.length + uptoBulk d + 1
  | (_, d) => uptoBulk d + 1
 end
def uptoSmall : (H : Type) → List (DataW H) → Bool := fun _ ds => decide (uptoBulkAll ds ≤ 1048576)
def OpenSpec.upto (s : _root_.Go.ChangeSpec) : _root_.Go.OpenSpec := { _root_.Go.OpenSpec.ofChange s with cond := some uptoSmall }

/-- 'jigsawlaw12.ExtFilters', WHERE WHAT IT READS IS OF BULK AT MOST 1048576: true; the input reads as it did. -/
def extFiltersUptoRow : OpenClaim := { program := "ytiofjnhmogeenaagreatdoor", sum := "91722f70d07c40f54da245c1ac8328e09ceec14d5b1ba82a34b9a7e015fa18e2", func := "jigsaw/jigsawlaw12.ExtFilters", spec := "extFilters", inPlace := ["internal/bytealg.IndexByteString", "internal/bytealg.IndexString", "internal/bytealg.CountString"], unfollowed := true, recurses := true, named := ["math/bits.deBruijn64tab", "internal/bytealg.MaxLen"], apart := false, laid := [("math/bits.deBruijn64tab", laid_math_bits_deBruijn64tab)], narrowed := true }
def ExtFiltersUptoSaid : Prop := extFiltersUptoRow.holds Tryz.pinned (OpenSpec.upto extFiltersSpec)

/-- 'jigsawlaw12.ExtRefuses', WHERE WHAT IT READS IS OF BULK AT MOST 1048576: true; the input reads as it did. -/
def extRefusesUptoRow : OpenClaim := { program := "ytiofjnhmogeenaagreatdoor", sum := "91722f70d07c40f54da245c1ac8328e09ceec14d5b1ba82a34b9a7e015fa18e2", func := "jigsaw/jigsawlaw12.ExtRefuses", spec := "extRefuses", inPlace := ["internal/bytealg.IndexByteString", "internal/bytealg.IndexString", "internal/bytealg.CountString"], unfollowed := true, recurses := true, named := ["math/bits.deBruijn64tab", "internal/bytealg.MaxLen"], apart := false, laid := [("math/bits.deBruijn64tab", laid_math_bits_deBruijn64tab)], narrowed := true }
def ExtRefusesUptoSaid : Prop := extRefusesUptoRow.holds Tryz.pinned (OpenSpec.upto extRefusesSpec)

/-- 'jigsawlaw12.ExtFixed', WHERE WHAT IT READS IS OF BULK AT MOST 1048576: true; the input reads as it did. -/
def extFixedUptoRow : OpenClaim := { program := "ytiofjnhmogeenaagreatdoor", sum := "91722f70d07c40f54da245c1ac8328e09ceec14d5b1ba82a34b9a7e015fa18e2", func := "jigsaw/jigsawlaw12.ExtFixed", spec := "extFixed", inPlace := ["internal/bytealg.IndexByteString", "internal/bytealg.IndexString", "internal/bytealg.CountString"], unfollowed := true, recurses := true, named := ["math/bits.deBruijn64tab", "internal/bytealg.MaxLen"], apart := false, laid := [("math/bits.deBruijn64tab", laid_math_bits_deBruijn64tab)], narrowed := true }
def ExtFixedUptoSaid : Prop := extFixedUptoRow.holds Tryz.pinned (OpenSpec.upto extFixedSpec)

/-- 'jigsawlaw12.ExtWide', WHERE WHAT IT READS IS OF BULK AT MOST 1048576: true; the input reads as it did. -/
def extWideUptoRow : OpenClaim := { program := "ytiofjnhmogeenaagreatdoor", sum := "91722f70d07c40f54da245c1ac8328e09ceec14d5b1ba82a34b9a7e015fa18e2", func := "jigsaw/jigsawlaw12.ExtWide", spec := "extWide", inPlace := ["internal/bytealg.IndexByteString", "internal/bytealg.IndexString", "internal/bytealg.CountString"], unfollowed := true, recurses := true, named := ["math/bits.deBruijn64tab", "internal/bytealg.MaxLen"], apart := false, laid := [("math/bits.deBruijn64tab", laid_math_bits_deBruijn64tab)], narrowed := true }
def ExtWideUptoSaid : Prop := extWideUptoRow.holds Tryz.pinned (OpenSpec.upto extWideSpec)

/-- 'jigsawlaw12.ExtKeeps', WHERE WHAT IT READS IS OF BULK AT MOST 1048576: true; the input reads as it did. -/
def extKeepsUptoRow : OpenClaim := { program := "ytiofjnhmogeenaagreatdoor", sum := "91722f70d07c40f54da245c1ac8328e09ceec14d5b1ba82a34b9a7e015fa18e2", func := "jigsaw/jigsawlaw12.ExtKeeps", spec := "extKeeps", inPlace := ["internal/bytealg.IndexByteString", "internal/bytealg.IndexString", "internal/bytealg.CountString"], unfollowed := true, recurses := true, named := ["math/bits.deBruijn64tab", "internal/bytealg.MaxLen"], apart := false, laid := [("math/bits.deBruijn64tab", laid_math_bits_deBruijn64tab)], narrowed := true }
def ExtKeepsUptoSaid : Prop := extKeepsUptoRow.holds Tryz.pinned (OpenSpec.upto extKeepsSpec)

end Rows
end Go.Proofs.YtiofjnhmogeenaaGreatDoor
