/-
  NARROWER THAN 'FOR EVERY INPUT', by the rows' own cells (each row's printed sentence says how): GccFilters: laid · GccRefuses: laid · GccFixed: laid · GccAll: laid · GccKeeps: laid.
  DERIVED. THE GIVEN ROWS OF THIS SEAT. 5 by the template 'for every input the law returns true; each argument reads behind the call as it read before'; 0 by the template 'total and deterministic' (their statements: YtijjhobjmehhoaaGreatDoorTotals.lean).
  GIVEN WITH THE SEED: the statements are not yours to turn. If you find one false, say at which input.
  Laid BY PROGRAM, IN A SANDBOX (cutbox-rows.mjs): the forced cells as the released guide's own fill.sh prints them over the translation db55514f07065257… (all of the seat's roots in one cut). By AI agents, Wed Nov 11 2026. No macro, syntax, notation, axiom, sorry.
-/
import Derived.Test.YtijjhobjmehhoaaGreatDoorChecked
import GoSem.Claim
import GoSem.ClaimJoined
import GoSem.ClaimMapViews
import Derived.JoinedTies
import Derived.KernelRfl
namespace Go.Proofs.YtijjhobjmehhoaaGreatDoor
/- THE CELL 'sum', in the pinned program and in every row, IS THE sha256 OF THE DUMP (.gsa) THAT YtijjhobjmehhoaaGreatDoorProg.lean LOADS. Nothing in Lean hashes anything: it is a label: what it is worth is what the hold of that sum in a sandbox is worth. -/
noncomputable def Tryz.pinned : Pinned := { name := "ytijjhobjmehhoaagreatdoor", sum := "db55514f070652572d678d9b7f0059fda0380fd912c0c9e8b0fe44299f018e14", checked := Tryz.checked }
namespace Rows
def none {H : Type} : Left H := { results := [], args := [] }

/- WHAT THE LISTED PACKAGE-LEVEL VARIABLES READ AS WHEN THE CALL BEGINS. Each datum BY PROGRAM (the guide's laid-datum.mjs) off the statement by which the dump's own 'gosem.cut.vars' lays the variable. In a bare row this is a premise. The card (YtijjhobjmehhoaaGreatDoorCards.lean) ties it to the program's text. -/
def laid_math_bits_deBruijn64tab {H : Type} : DataW H := .agg [.lit (.int .u8 0), .lit (.int .u8 1), .lit (.int .u8 56), .lit (.int .u8 2), .lit (.int .u8 57), .lit (.int .u8 49), .lit (.int .u8 28), .lit (.int .u8 3), .lit (.int .u8 61), .lit (.int .u8 58), .lit (.int .u8 42), .lit (.int .u8 50), .lit (.int .u8 38), .lit (.int .u8 29), .lit (.int .u8 17), .lit (.int .u8 4), .lit (.int .u8 62), .lit (.int .u8 47), .lit (.int .u8 59), .lit (.int .u8 36), .lit (.int .u8 45), .lit (.int .u8 43), .lit (.int .u8 51), .lit (.int .u8 22), .lit (.int .u8 53), .lit (.int .u8 39), .lit (.int .u8 33), .lit (.int .u8 30), .lit (.int .u8 24), .lit (.int .u8 18), .lit (.int .u8 12), .lit (.int .u8 5), .lit (.int .u8 63), .lit (.int .u8 55), .lit (.int .u8 48), .lit (.int .u8 27), .lit (.int .u8 60), .lit (.int .u8 41), .lit (.int .u8 37), .lit (.int .u8 16), .lit (.int .u8 46), .lit (.int .u8 35), .lit (.int .u8 44), .lit (.int .u8 21), .lit (.int .u8 52), .lit (.int .u8 32), .lit (.int .u8 23), .lit (.int .u8 11), .lit (.int .u8 54), .lit (.int .u8 26), .lit (.int .u8 40), .lit (.int .u8 15), .lit (.int .u8 34), .lit (.int .u8 20), .lit (.int .u8 31), .lit (.int .u8 10), .lit (.int .u8 25), .lit (.int .u8 14), .lit (.int .u8 19), .lit (.int .u8 9), .lit (.int .u8 13), .lit (.int .u8 8), .lit (.int .u8 7), .lit (.int .u8 6)]

/-- 'jigsawlaw20.GccFilters': WHATEVER THE INPUT: true; the input reads as it did. -/
def gccFiltersSpec : ChangeSpec := { name := "gccFilters", fn := fun _ => fun
  | [d1, d2] => { results := [.lit (.bool true)], args := [d1, d2] }
  | _ => none }
def gccFiltersRow : OpenClaim := { program := "ytijjhobjmehhoaagreatdoor", sum := "db55514f070652572d678d9b7f0059fda0380fd912c0c9e8b0fe44299f018e14", func := "jigsaw/jigsawlaw20.GccFilters", spec := "gccFilters", inPlace := ["internal/bytealg.IndexByteString", "internal/bytealg.IndexString", "internal/bytealg.CountString"], unfollowed := true, recurses := true, named := ["math/bits.deBruijn64tab", "internal/bytealg.MaxLen"], apart := false, laid := [("math/bits.deBruijn64tab", laid_math_bits_deBruijn64tab)] }
def GccFiltersSaid : Prop := gccFiltersRow.holds Tryz.pinned (OpenSpec.ofChange gccFiltersSpec)

/-- ITS FALSE NEIGHBOUR: 'it returns false'. Refute it at one input. -/
def gccFiltersWrong : ChangeSpec := { name := "gccFilters", fn := fun _ => fun
  | [d1, d2] => { results := [.lit (.bool false)], args := [d1, d2] }
  | _ => none }
def GccFiltersWrongFalsely : Prop := gccFiltersRow.holds Tryz.pinned (OpenSpec.ofChange gccFiltersWrong)

/-- 'jigsawlaw20.GccRefuses': WHATEVER THE INPUT: true; the input reads as it did. -/
def gccRefusesSpec : ChangeSpec := { name := "gccRefuses", fn := fun _ => fun
  | [d1, d2, d3] => { results := [.lit (.bool true)], args := [d1, d2, d3] }
  | _ => none }
def gccRefusesRow : OpenClaim := { program := "ytijjhobjmehhoaagreatdoor", sum := "db55514f070652572d678d9b7f0059fda0380fd912c0c9e8b0fe44299f018e14", func := "jigsaw/jigsawlaw20.GccRefuses", spec := "gccRefuses", inPlace := ["internal/bytealg.IndexByteString", "internal/bytealg.IndexString", "internal/bytealg.CountString"], unfollowed := true, recurses := true, named := ["math/bits.deBruijn64tab", "internal/bytealg.MaxLen"], apart := false, laid := [("math/bits.deBruijn64tab", laid_math_bits_deBruijn64tab)] }
def GccRefusesSaid : Prop := gccRefusesRow.holds Tryz.pinned (OpenSpec.ofChange gccRefusesSpec)

/-- ITS FALSE NEIGHBOUR: 'it returns false'. Refute it at one input. -/
def gccRefusesWrong : ChangeSpec := { name := "gccRefuses", fn := fun _ => fun
  | [d1, d2, d3] => { results := [.lit (.bool false)], args := [d1, d2, d3] }
  | _ => none }
def GccRefusesWrongFalsely : Prop := gccRefusesRow.holds Tryz.pinned (OpenSpec.ofChange gccRefusesWrong)

/-- 'jigsawlaw20.GccFixed': WHATEVER THE INPUT: true; the input reads as it did. -/
def gccFixedSpec : ChangeSpec := { name := "gccFixed", fn := fun _ => fun
  | [d1, d2, d3] => { results := [.lit (.bool true)], args := [d1, d2, d3] }
  | _ => none }
def gccFixedRow : OpenClaim := { program := "ytijjhobjmehhoaagreatdoor", sum := "db55514f070652572d678d9b7f0059fda0380fd912c0c9e8b0fe44299f018e14", func := "jigsaw/jigsawlaw20.GccFixed", spec := "gccFixed", inPlace := ["internal/bytealg.IndexByteString", "internal/bytealg.IndexString", "internal/bytealg.CountString"], unfollowed := true, recurses := true, named := ["math/bits.deBruijn64tab", "internal/bytealg.MaxLen"], apart := false, laid := [("math/bits.deBruijn64tab", laid_math_bits_deBruijn64tab)] }
def GccFixedSaid : Prop := gccFixedRow.holds Tryz.pinned (OpenSpec.ofChange gccFixedSpec)

/-- ITS FALSE NEIGHBOUR: 'it returns false'. Refute it at one input. -/
def gccFixedWrong : ChangeSpec := { name := "gccFixed", fn := fun _ => fun
  | [d1, d2, d3] => { results := [.lit (.bool false)], args := [d1, d2, d3] }
  | _ => none }
def GccFixedWrongFalsely : Prop := gccFixedRow.holds Tryz.pinned (OpenSpec.ofChange gccFixedWrong)

/-- 'jigsawlaw20.GccAll': WHATEVER THE INPUT: true; the input reads as it did. -/
def gccAllSpec : ChangeSpec := { name := "gccAll", fn := fun _ => fun
  | [d] => { results := [.lit (.bool true)], args := [d] }
  | _ => none }
def gccAllRow : OpenClaim := { program := "ytijjhobjmehhoaagreatdoor", sum := "db55514f070652572d678d9b7f0059fda0380fd912c0c9e8b0fe44299f018e14", func := "jigsaw/jigsawlaw20.GccAll", spec := "gccAll", inPlace := ["internal/bytealg.IndexByteString", "internal/bytealg.IndexString", "internal/bytealg.CountString"], unfollowed := true, recurses := true, named := ["math/bits.deBruijn64tab", "internal/bytealg.MaxLen"], apart := false, laid := [("math/bits.deBruijn64tab", laid_math_bits_deBruijn64tab)] }
def GccAllSaid : Prop := gccAllRow.holds Tryz.pinned (OpenSpec.ofChange gccAllSpec)

/-- ITS FALSE NEIGHBOUR: 'it returns false'. Refute it at one input. -/
def gccAllWrong : ChangeSpec := { name := "gccAll", fn := fun _ => fun
  | [d] => { results := [.lit (.bool false)], args := [d] }
  | _ => none }
def GccAllWrongFalsely : Prop := gccAllRow.holds Tryz.pinned (OpenSpec.ofChange gccAllWrong)

/-- 'jigsawlaw20.GccKeeps': WHATEVER THE INPUT: true; the input reads as it did. -/
def gccKeepsSpec : ChangeSpec := { name := "gccKeeps", fn := fun _ => fun
  | [d1, d2] => { results := [.lit (.bool true)], args := [d1, d2] }
  | _ => none }
def gccKeepsRow : OpenClaim := { program := "ytijjhobjmehhoaagreatdoor", sum := "db55514f070652572d678d9b7f0059fda0380fd912c0c9e8b0fe44299f018e14", func := "jigsaw/jigsawlaw20.GccKeeps", spec := "gccKeeps", inPlace := ["internal/bytealg.IndexByteString", "internal/bytealg.IndexString", "internal/bytealg.CountString"], unfollowed := true, recurses := true, named := ["math/bits.deBruijn64tab", "internal/bytealg.MaxLen"], apart := false, laid := [("math/bits.deBruijn64tab", laid_math_bits_deBruijn64tab)] }
def GccKeepsSaid : Prop := gccKeepsRow.holds Tryz.pinned (OpenSpec.ofChange gccKeepsSpec)

/-- ITS FALSE NEIGHBOUR: 'it returns false'. Refute it at one input. -/
def gccKeepsWrong : ChangeSpec := { name := "gccKeeps", fn := fun _ => fun
  | [d1, d2] => { results := [.lit (.bool false)], args := [d1, d2] }
  | _ => none }
def GccKeepsWrongFalsely : Prop := gccKeepsRow.holds Tryz.pinned (OpenSpec.ofChange gccKeepsWrong)

/- THE SECOND FORM. 'bulk': how many values and letters a reading holds, each counted each time it is reached (what is shared counts as often as it is met; a slice's spare places count too). A statement '..UptoSaid' is the law's where the arguments, and the package variables that the reading takes, are together of bulk at most 1048576: NARROWER than '..Said'. Prove '..Said' where nothing that the law and all that it calls make is longer than what came in: it says more and counts as full. Else prove '..UptoSaid'. A law counts once. -/
mutual
def uptoBulk {H : Type} : DataW H → Nat
  | .lit (.string bytes) => bytes.length + 1
  | .lit _ => 1
  | .nil => 1
  | .ptr d => uptoBulk d + 1
  | .slice elems spare => uptoBulkAll elems + uptoBulkAll spare + 1
  | .agg parts => uptoBulkAll parts + 1
  | .iface _ d => uptoBulk d + 1
  | .map entries => uptoBulkEntries entries + 1
  | .held _ => 1
def uptoBulkAll {H : Type} : List (DataW H) → Nat
  | [] => 0
  | d :: r => uptoBulk d + uptoBulkAll r
def uptoBulkEntries {H : Type} : List (Lit × DataW H) → Nat
  | [] => 0
  | x :: r => uptoBulkEntry x + uptoBulkEntries r
def uptoBulkEntry {H : Type} : Lit × DataW H → Nat
  | (.string bytes, d) => bytes.length + uptoBulk d + 1
  | (_, d) => uptoBulk d + 1
 end
def uptoSmall : (H : Type) → List (DataW H) → Bool := fun _ ds => decide (uptoBulkAll ds ≤ 1048576)
def OpenSpec.upto (s : _root_.Go.ChangeSpec) : _root_.Go.OpenSpec := { _root_.Go.OpenSpec.ofChange s with cond := some uptoSmall }

/-- 'jigsawlaw20.GccFilters', WHERE WHAT IT READS IS OF BULK AT MOST 1048576: true; the input reads as it did. -/
def gccFiltersUptoRow : OpenClaim := { program := "ytijjhobjmehhoaagreatdoor", sum := "db55514f070652572d678d9b7f0059fda0380fd912c0c9e8b0fe44299f018e14", func := "jigsaw/jigsawlaw20.GccFilters", spec := "gccFilters", inPlace := ["internal/bytealg.IndexByteString", "internal/bytealg.IndexString", "internal/bytealg.CountString"], unfollowed := true, recurses := true, named := ["math/bits.deBruijn64tab", "internal/bytealg.MaxLen"], apart := false, laid := [("math/bits.deBruijn64tab", laid_math_bits_deBruijn64tab)], narrowed := true }
def GccFiltersUptoSaid : Prop := gccFiltersUptoRow.holds Tryz.pinned (OpenSpec.upto gccFiltersSpec)

/-- 'jigsawlaw20.GccRefuses', WHERE WHAT IT READS IS OF BULK AT MOST 1048576: true; the input reads as it did. -/
def gccRefusesUptoRow : OpenClaim := { program := "ytijjhobjmehhoaagreatdoor", sum := "db55514f070652572d678d9b7f0059fda0380fd912c0c9e8b0fe44299f018e14", func := "jigsaw/jigsawlaw20.GccRefuses", spec := "gccRefuses", inPlace := ["internal/bytealg.IndexByteString", "internal/bytealg.IndexString", "internal/bytealg.CountString"], unfollowed := true, recurses := true, named := ["math/bits.deBruijn64tab", "internal/bytealg.MaxLen"], apart := false, laid := [("math/bits.deBruijn64tab", laid_math_bits_deBruijn64tab)], narrowed := true }
def GccRefusesUptoSaid : Prop := gccRefusesUptoRow.holds Tryz.pinned (OpenSpec.upto gccRefusesSpec)

/-- 'jigsawlaw20.GccFixed', WHERE WHAT IT READS IS OF BULK AT MOST 1048576: true; the input reads as it did. -/
def gccFixedUptoRow : OpenClaim := { program := "ytijjhobjmehhoaagreatdoor", sum := "db55514f070652572d678d9b7f0059fda0380fd912c0c9e8b0fe44299f018e14", func := "jigsaw/jigsawlaw20.GccFixed", spec := "gccFixed", inPlace := ["internal/bytealg.IndexByteString", "internal/bytealg.IndexString", "internal/bytealg.CountString"], unfollowed := true, recurses := true, named := ["math/bits.deBruijn64tab", "internal/bytealg.MaxLen"], apart := false, laid := [("math/bits.deBruijn64tab", laid_math_bits_deBruijn64tab)], narrowed := true }
def GccFixedUptoSaid : Prop := gccFixedUptoRow.holds Tryz.pinned (OpenSpec.upto gccFixedSpec)

/-- 'jigsawlaw20.GccAll', WHERE WHAT IT READS IS OF BULK AT MOST 1048576: true; the input reads as it did. -/
def gccAllUptoRow : OpenClaim := { program := "ytijjhobjmehhoaagreatdoor", sum := "db55514f070652572d678d9b7f0059fda0380fd912c0c9e8b0fe44299f018e14", func := "jigsaw/jigsawlaw20.GccAll", spec := "gccAll", inPlace := ["internal/bytealg.IndexByteString", "internal/bytealg.IndexString", "internal/bytealg.CountString"], unfollowed := true, recurses := true, named := ["math/bits.deBruijn64tab", "internal/bytealg.MaxLen"], apart := false, laid := [("math/bits.deBruijn64tab", laid_math_bits_deBruijn64tab)], narrowed := true }
def GccAllUptoSaid : Prop := gccAllUptoRow.holds Tryz.pinned (OpenSpec.upto gccAllSpec)

/-- 'jigsawlaw20.GccKeeps', WHERE WHAT IT READS IS OF BULK AT MOST 1048576: true; the input reads as it did. -/
def gccKeepsUptoRow : OpenClaim := { program := "ytijjhobjmehhoaagreatdoor", sum := "db55514f070652572d678d9b7f0059fda0380fd912c0c9e8b0fe44299f018e14", func := "jigsaw/jigsawlaw20.GccKeeps", spec := "gccKeeps", inPlace := ["internal/bytealg.IndexByteString", "internal/bytealg.IndexString", "internal/bytealg.CountString"], unfollowed := true, recurses := true, named := ["math/bits.deBruijn64tab", "internal/bytealg.MaxLen"], apart := false, laid := [("math/bits.deBruijn64tab", laid_math_bits_deBruijn64tab)], narrowed := true }
def GccKeepsUptoSaid : Prop := gccKeepsUptoRow.holds Tryz.pinned (OpenSpec.upto gccKeepsSpec)

end Rows
end Go.Proofs.YtijjhobjmehhoaaGreatDoor
