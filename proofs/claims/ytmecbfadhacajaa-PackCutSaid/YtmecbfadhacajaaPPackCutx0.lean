-- By a program of this session (wip/tools/mkprint.py), for this claim.
import Derived.Test.YtmecbfadhacajaaProg
import Derived.Test.YtmecbfadhacajaaHw
import Derived.StillTailTactics
import Derived.Lib.FrozenHead2
import Derived.Lib.UnsafeStr
import Derived.Laws.Externs
import Derived.Lib.SliceRun
import Derived.Lib.Hide
import Derived.Shelf.Abstract
import Derived.Deep.RegionLaw
import Derived.Deep.RegionWith
import Derived.Below
import Derived.Deep.Draws
import Derived.Deep.AppendLies
import Derived.Maps.AppendAt
import Derived.OwnWalk
import Derived.Laws.BytesArg
import Derived.Laws.MakeOwn
import Derived.Laws.OwnMore
import Derived.Deep.OwnRows
import Derived.Tactics
import Derived.Lib.ConvBytes
import Derived.Laws.Slices
import Derived.WalkKit
import Derived.KernelRfl
import Derived.RowKit3
import Derived.Deep.LoopGhost
import Derived.Deep.QuietTactic
import Derived.BigQuiet
import Derived.WideLaws
import Derived.Deep.DeepCutAuto
import Derived.Deep.CutBlock
import Derived.Deep.RegionHeld3
import Derived.Laws.Rows
import Derived.Lib.AppendStr
import Derived.ArgAppend
import Derived.Laws.IdiomCopy
import Derived.OrdersHeld
import Derived.Laws.BitsLemmas
import Derived.RowKit
import Derived.Test.YtmecbfadhacajaaWWords
import Derived.Test.YtmecbfadhacajaaWLast
import Derived.Test.YtmecbfadhacajaaWTab
import Derived.Test.YtmecbfadhacajaaWFour
import Derived.Test.YtmecbfadhacajaaWQPut
import Derived.Test.YtmecbfadhacajaaWApart
import Derived.Test.YtmecbfadhacajaaWArr
import Derived.Test.YtmecbfadhacajaaWZeros
import Derived.Test.YtmecbfadhacajaaWFoot
import Derived.Test.YtmecbfadhacajaaWKept
import Derived.Test.YtmecbfadhacajaaWShare
import Derived.Test.YtmecbfadhacajaaWN
import Derived.Test.YtmecbfadhacajaaWFootNe
import Derived.Test.YtmecbfadhacajaaWAt
import Derived.Test.YtmecbfadhacajaaWEqStruct
import Derived.Test.YtmecbfadhacajaaWRepsOne
import Derived.Test.YtmecbfadhacajaaWInv
import Derived.Test.YtmecbfadhacajaaWInvWords
import Derived.Test.YtmecbfadhacajaaWGuard
import Derived.Test.YtmecbfadhacajaaWNEv
import Derived.Test.YtmecbfadhacajaaWMore
namespace Go.Proofs.Ytmecbfadhacajaa.PPackCut
open Go.RowKit Go.Proofs.YtmecbfadhacajaaW.PrintWords Go.Proofs.YtmecbfadhacajaaW.PrintLast Go.Proofs.YtmecbfadhacajaaW.PrintMore
attribute [local go_sem] max2_int min2_int max_two min_two max_three min_three max_four min_four   -- for this text's walks alone
set_option linter.unusedVariables false
set_option linter.unusedSimpArgs false



def errW : Option Int → Value
  | none => .nilIface
  | some c => .iface 0 (.int .i64 c)
theorem errW_none : errW none = .nilIface := rfl
theorem errW_some (c : Int) : errW (some c) = .iface 0 (.int .i64 c) := rfl

theorem info5 : (Try.prog.info? 5).map (fun i => (i.zero, i.size, i.bytes)) = some (some (.int .u8 0), 1, 1) := by kernel_rfl
-- the values' own types

end Go.Proofs.Ytmecbfadhacajaa.PPackCut
