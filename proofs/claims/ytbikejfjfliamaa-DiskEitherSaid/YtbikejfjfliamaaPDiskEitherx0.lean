-- By a program of this session (wip/tools/mkprint.py), for this claim.
import Derived.Test.YtbikejfjfliamaaProg
import Derived.Test.YtbikejfjfliamaaHw
import Derived.StillTailTactics
import Derived.Lib.FrozenHead2
import Derived.Lib.UnsafeStr
import Derived.Laws.Externs
import Derived.Lib.SliceRun
import Derived.Lib.Hide
import Derived.Shelf.Abstract
import Derived.Deep.RegionLaw
import Derived.Deep.RegionWith
import Derived.Test.YtbikejfjfliamaaPe
import Derived.Below
import Derived.Deep.Draws
import Derived.Deep.AppendLies
import Derived.Maps.AppendAt
import Derived.OwnWalk
import Derived.Laws.BytesArg
import Derived.Laws.MakeOwn
import Derived.Laws.OwnMore
import Derived.Deep.OwnRows
import Derived.Tactics
import Derived.Lib.ConvBytes
import Derived.Laws.Slices
import Derived.WalkKit
import Derived.KernelRfl
import Derived.RowKit3
import Derived.Deep.LoopGhost
import Derived.Deep.QuietTactic
import Derived.BigQuiet
import Derived.WideLaws
import Derived.Deep.DeepCutAuto
import Derived.Deep.CutBlock
import Derived.Deep.RegionHeld3
import Derived.Laws.Rows
import Derived.Lib.AppendStr
import Derived.ArgAppend
import Derived.Laws.IdiomCopy
import Derived.OrdersHeld
import Derived.Laws.BitsLemmas
import Derived.RowKit
import Derived.Test.YtbikejfjfliamaaWWords
import Derived.Test.YtbikejfjfliamaaWLast
import Derived.Test.YtbikejfjfliamaaWTab
import Derived.Test.YtbikejfjfliamaaWFour
import Derived.Test.YtbikejfjfliamaaWQPut
import Derived.Test.YtbikejfjfliamaaWApart
import Derived.Test.YtbikejfjfliamaaWArr
import Derived.Test.YtbikejfjfliamaaWZeros
import Derived.Test.YtbikejfjfliamaaWFoot
import Derived.Test.YtbikejfjfliamaaWKept
import Derived.Test.YtbikejfjfliamaaWShare
import Derived.Test.YtbikejfjfliamaaWN
import Derived.Test.YtbikejfjfliamaaWFootNe
import Derived.Test.YtbikejfjfliamaaWAt
import Derived.Test.YtbikejfjfliamaaWEqStruct
import Derived.Test.YtbikejfjfliamaaWRepsOne
import Derived.Test.YtbikejfjfliamaaWInv
import Derived.Test.YtbikejfjfliamaaWInvWords
import Derived.Test.YtbikejfjfliamaaWGuard
import Derived.Test.YtbikejfjfliamaaWNEv
import Derived.Test.YtbikejfjfliamaaWMore
namespace Go.Proofs.Ytbikejfjfliamaa.PDiskEither
open Go.RowKit Go.Proofs.YtbikejfjfliamaaW.PrintWords Go.Proofs.YtbikejfjfliamaaW.PrintLast Go.Proofs.YtbikejfjfliamaaW.PrintMore
attribute [local go_sem] max2_int min2_int max_two min_two max_three min_three max_four min_four   -- for this text's walks alone
set_option linter.unusedVariables false
set_option linter.unusedSimpArgs false



def errW : Option Int → Value
  | none => .nilIface
  | some c => .iface 0 (.int .i64 c)
theorem errW_none : errW none = .nilIface := rfl
theorem errW_some (c : Int) : errW (some c) = .iface 0 (.int .i64 c) := rfl

theorem info9 : (Try.prog.info? 9).map (fun i => (i.zero, i.size, i.bytes)) = some (some (.string ⟨#[]⟩), 1, 16) := by kernel_rfl
-- the values' own types

end Go.Proofs.Ytbikejfjfliamaa.PDiskEither
