-- By a program of this session (wip/tools/mkprint.py), for this claim.
import Derived.Test.YtcajpaflaeaakaaProg
import Derived.Below
import Derived.Deep.Draws
import Derived.Deep.AppendLies
import Derived.Maps.AppendAt
import Derived.OwnWalk
import Derived.Laws.BytesArg
import Derived.Laws.MakeOwn
import Derived.Laws.OwnMore
import Derived.Deep.OwnRows
import Derived.Tactics
import Derived.Lib.ConvBytes
import Derived.Laws.Slices
import Derived.WalkKit
import Derived.KernelRfl
import Derived.RowKit3
import Derived.Deep.LoopGhost
import Derived.Deep.QuietTactic
import Derived.BigQuiet
import Derived.WideLaws
import Derived.Deep.DeepCutAuto
import Derived.Deep.CutBlock
import Derived.Deep.RegionHeld3
import Derived.Laws.Rows
import Derived.Lib.AppendStr
import Derived.ArgAppend
import Derived.Laws.IdiomCopy
import Derived.OrdersHeld
import Derived.Laws.BitsLemmas
import Derived.RowKit
import Derived.Test.YtcajpaflaeaakaaWWords
import Derived.Test.YtcajpaflaeaakaaWLast
import Derived.Test.YtcajpaflaeaakaaWTab
import Derived.Test.YtcajpaflaeaakaaWFour
import Derived.Test.YtcajpaflaeaakaaWQPut
import Derived.Test.YtcajpaflaeaakaaWApart
import Derived.Test.YtcajpaflaeaakaaWArr
import Derived.Test.YtcajpaflaeaakaaWZeros
import Derived.Test.YtcajpaflaeaakaaWFoot
import Derived.Test.YtcajpaflaeaakaaWKept
import Derived.Test.YtcajpaflaeaakaaWShare
import Derived.Test.YtcajpaflaeaakaaWN
import Derived.Test.YtcajpaflaeaakaaWFootNe
import Derived.Test.YtcajpaflaeaakaaWAt
import Derived.Test.YtcajpaflaeaakaaWEqStruct
import Derived.Test.YtcajpaflaeaakaaWRepsOne
import Derived.Test.YtcajpaflaeaakaaWInv
import Derived.Test.YtcajpaflaeaakaaWInvWords
import Derived.Test.YtcajpaflaeaakaaWGuard
import Derived.Test.YtcajpaflaeaakaaWNEv
import Derived.Test.YtcajpaflaeaakaaWMore
namespace Go.Proofs.Ytcajpaflaeaakaa.PSumOne
open Go.RowKit Go.Proofs.YtcajpaflaeaakaaW.PrintWords Go.Proofs.YtcajpaflaeaakaaW.PrintLast Go.Proofs.YtcajpaflaeaakaaW.PrintMore
attribute [local go_sem] max2_int min2_int max_two min_two max_three min_three max_four min_four   -- for this text's walks alone
set_option linter.unusedVariables false
set_option linter.unusedSimpArgs false



def errW : Option Int → Value
  | none => .nilIface
  | some c => .iface 0 (.int .i64 c)
theorem errW_none : errW none = .nilIface := rfl
theorem errW_some (c : Int) : errW (some c) = .iface 0 (.int .i64 c) := rfl

theorem info5 : (Try.prog.info? 5).map (fun i => (i.zero, i.size, i.bytes)) = some (some (.int .u8 0), 1, 1) := by kernel_rfl
-- the values' own types

end Go.Proofs.Ytcajpaflaeaakaa.PSumOne
