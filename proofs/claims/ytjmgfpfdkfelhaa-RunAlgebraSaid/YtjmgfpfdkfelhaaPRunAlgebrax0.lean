-- By a program of this session (wip/tools/mkprint.py), for this claim.
import Derived.Test.YtjmgfpfdkfelhaaProg
import Derived.Below
import Derived.Deep.Draws
import Derived.Deep.AppendLies
import Derived.Maps.AppendAt
import Derived.OwnWalk
import Derived.Laws.BytesArg
import Derived.Laws.MakeOwn
import Derived.Laws.OwnMore
import Derived.Deep.OwnRows
import Derived.Tactics
import Derived.Lib.ConvBytes
import Derived.Laws.Slices
import Derived.WalkKit
import Derived.KernelRfl
import Derived.RowKit3
import Derived.Deep.LoopGhost
import Derived.Deep.QuietTactic
import Derived.BigQuiet
import Derived.WideLaws
import Derived.Deep.DeepCutAuto
import Derived.Deep.CutBlock
import Derived.Deep.RegionHeld3
import Derived.Laws.Rows
import Derived.Lib.AppendStr
import Derived.ArgAppend
import Derived.Laws.IdiomCopy
import Derived.OrdersHeld
import Derived.Laws.BitsLemmas
import Derived.RowKit
import Derived.Test.YtjmgfpfdkfelhaaWWords
import Derived.Test.YtjmgfpfdkfelhaaWLast
import Derived.Test.YtjmgfpfdkfelhaaWTab
import Derived.Test.YtjmgfpfdkfelhaaWFour
import Derived.Test.YtjmgfpfdkfelhaaWQPut
import Derived.Test.YtjmgfpfdkfelhaaWApart
import Derived.Test.YtjmgfpfdkfelhaaWArr
import Derived.Test.YtjmgfpfdkfelhaaWZeros
import Derived.Test.YtjmgfpfdkfelhaaWFoot
import Derived.Test.YtjmgfpfdkfelhaaWKept
import Derived.Test.YtjmgfpfdkfelhaaWShare
import Derived.Test.YtjmgfpfdkfelhaaWN
import Derived.Test.YtjmgfpfdkfelhaaWFootNe
import Derived.Test.YtjmgfpfdkfelhaaWAt
import Derived.Test.YtjmgfpfdkfelhaaWEqStruct
import Derived.Test.YtjmgfpfdkfelhaaWRepsOne
import Derived.Test.YtjmgfpfdkfelhaaWInv
import Derived.Test.YtjmgfpfdkfelhaaWInvWords
import Derived.Test.YtjmgfpfdkfelhaaWGuard
import Derived.Test.YtjmgfpfdkfelhaaWNEv
import Derived.Test.YtjmgfpfdkfelhaaWMore
namespace Go.Proofs.Ytjmgfpfdkfelhaa.PRunAlgebra
open Go.RowKit Go.Proofs.YtjmgfpfdkfelhaaW.PrintWords Go.Proofs.YtjmgfpfdkfelhaaW.PrintLast Go.Proofs.YtjmgfpfdkfelhaaW.PrintMore
attribute [local go_sem] max2_int min2_int max_two min_two max_three min_three max_four min_four   -- for this text's walks alone
set_option linter.unusedVariables false
set_option linter.unusedSimpArgs false



def errW : Option Int → Value
  | none => .nilIface
  | some c => .iface 0 (.int .i64 c)
theorem errW_none : errW none = .nilIface := rfl
theorem errW_some (c : Int) : errW (some c) = .iface 0 (.int .i64 c) := rfl

-- the values' own types

end Go.Proofs.Ytjmgfpfdkfelhaa.PRunAlgebra
