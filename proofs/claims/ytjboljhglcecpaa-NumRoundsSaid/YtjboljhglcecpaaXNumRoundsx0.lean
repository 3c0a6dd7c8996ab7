-- by xprint.py, a program of this session, over the kit's print
import Derived.Test.YtjboljhglcecpaaProg
import Derived.Below
import Derived.Deep.Draws
import Derived.Deep.AppendLies
import Derived.Maps.AppendAt
import Derived.OwnWalk
import Derived.Laws.BytesArg
import Derived.Laws.MakeOwn
import Derived.Laws.OwnMore
import Derived.Deep.OwnRows
import Derived.Tactics
import Derived.Lib.ConvBytes
import Derived.Laws.Slices
import Derived.WalkKit
import Derived.KernelRfl
import Derived.RowKit3
import Derived.Deep.LoopGhost
import Derived.Deep.QuietTactic
import Derived.BigQuiet
import Derived.WideLaws
import Derived.Deep.DeepCutAuto
import Derived.Deep.CutBlock
import Derived.Deep.RegionHeld3
import Derived.Laws.Rows
import Derived.Lib.AppendStr
import Derived.ArgAppend
import Derived.Laws.IdiomCopy
import Derived.OrdersHeld
import Derived.Laws.BitsLemmas
import Derived.RowKit
import Derived.Test.YtjboljhglcecpaaWWords
import Derived.Test.YtjboljhglcecpaaWLast
import Derived.Test.YtjboljhglcecpaaWTab
import Derived.Test.YtjboljhglcecpaaWFour
import Derived.Test.YtjboljhglcecpaaWQPut
import Derived.Test.YtjboljhglcecpaaWApart
import Derived.Test.YtjboljhglcecpaaWArr
import Derived.Test.YtjboljhglcecpaaWZeros
import Derived.Test.YtjboljhglcecpaaWFoot
import Derived.Test.YtjboljhglcecpaaWKept
import Derived.Test.YtjboljhglcecpaaWShare
import Derived.Test.YtjboljhglcecpaaWN
import Derived.Test.YtjboljhglcecpaaWFootNe
import Derived.Test.YtjboljhglcecpaaWAt
import Derived.Test.YtjboljhglcecpaaWEqStruct
import Derived.Test.YtjboljhglcecpaaWRepsOne
import Derived.Test.YtjboljhglcecpaaWInv
import Derived.Test.YtjboljhglcecpaaWInvWords
import Derived.Test.YtjboljhglcecpaaWGuard
import Derived.Test.YtjboljhglcecpaaWNEv
import Derived.Test.YtjboljhglcecpaaWMore
namespace Go.Proofs.Ytjboljhglcecpaa.XNumRounds
open Go.RowKit Go.Proofs.YtjboljhglcecpaaW.PrintWords Go.Proofs.YtjboljhglcecpaaW.PrintLast Go.Proofs.YtjboljhglcecpaaW.PrintMore
attribute [local go_sem] max2_int min2_int max_two min_two max_three min_three max_four min_four   -- for this text's walks alone
set_option linter.unusedVariables false
set_option linter.unusedSimpArgs false



def errW : Option Int → Value
  | none => .nilIface
  | some c => .iface 0 (.int .i64 c)
theorem errW_none : errW none = .nilIface := rfl
theorem errW_some (c : Int) : errW (some c) = .iface 0 (.int .i64 c) := rfl

-- the values' own types

end Go.Proofs.Ytjboljhglcecpaa.XNumRounds
