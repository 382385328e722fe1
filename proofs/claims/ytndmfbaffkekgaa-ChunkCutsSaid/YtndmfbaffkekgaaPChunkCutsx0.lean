-- By a program of this session (wip/tools/mkprint.py), for this claim.
import Derived.Test.YtndmfbaffkekgaaProg
import Derived.Test.YtndmfbaffkekgaaHw
import Derived.StillTailTactics
import Derived.Lib.FrozenHead2
import Derived.Lib.UnsafeStr
import Derived.Laws.Externs
import Derived.Lib.SliceRun
import Derived.Lib.Hide
import Derived.Shelf.Abstract
import Derived.Deep.RegionLaw
import Derived.Deep.RegionWith
import Derived.Test.YtndmfbaffkekgaaCt
import Derived.Below
import Derived.Deep.Draws
import Derived.Deep.AppendLies
import Derived.Maps.AppendAt
import Derived.OwnWalk
import Derived.Laws.BytesArg
import Derived.Laws.MakeOwn
import Derived.Laws.OwnMore
import Derived.Deep.OwnRows
import Derived.Tactics
import Derived.Lib.ConvBytes
import Derived.Laws.Slices
import Derived.WalkKit
import Derived.KernelRfl
import Derived.RowKit3
import Derived.Deep.LoopGhost
import Derived.Deep.QuietTactic
import Derived.BigQuiet
import Derived.WideLaws
import Derived.Deep.DeepCutAuto
import Derived.Deep.CutBlock
import Derived.Deep.RegionHeld3
import Derived.Laws.Rows
import Derived.Lib.AppendStr
import Derived.ArgAppend
import Derived.Laws.IdiomCopy
import Derived.OrdersHeld
import Derived.Laws.BitsLemmas
import Derived.RowKit
import Derived.Test.YtndmfbaffkekgaaWWords
import Derived.Test.YtndmfbaffkekgaaWLast
import Derived.Test.YtndmfbaffkekgaaWTab
import Derived.Test.YtndmfbaffkekgaaWFour
import Derived.Test.YtndmfbaffkekgaaWQPut
import Derived.Test.YtndmfbaffkekgaaWApart
import Derived.Test.YtndmfbaffkekgaaWArr
import Derived.Test.YtndmfbaffkekgaaWZeros
import Derived.Test.YtndmfbaffkekgaaWFoot
import Derived.Test.YtndmfbaffkekgaaWKept
import Derived.Test.YtndmfbaffkekgaaWShare
import Derived.Test.YtndmfbaffkekgaaWN
import Derived.Test.YtndmfbaffkekgaaWFootNe
import Derived.Test.YtndmfbaffkekgaaWAt
import Derived.Test.YtndmfbaffkekgaaWEqStruct
import Derived.Test.YtndmfbaffkekgaaWRepsOne
import Derived.Test.YtndmfbaffkekgaaWInv
import Derived.Test.YtndmfbaffkekgaaWInvWords
import Derived.Test.YtndmfbaffkekgaaWGuard
import Derived.Test.YtndmfbaffkekgaaWNEv
import Derived.Test.YtndmfbaffkekgaaWMore
namespace Go.Proofs.Ytndmfbaffkekgaa.PChunkCuts
open Go.RowKit Go.Proofs.YtndmfbaffkekgaaW.PrintWords Go.Proofs.YtndmfbaffkekgaaW.PrintLast Go.Proofs.YtndmfbaffkekgaaW.PrintMore
attribute [local go_sem] max2_int min2_int max_two min_two max_three min_three max_four min_four   -- for this text's walks alone
set_option linter.unusedVariables false
set_option linter.unusedSimpArgs false



def errW : Option Int → Value
  | none => .nilIface
  | some c => .iface 0 (.int .i64 c)
theorem errW_none : errW none = .nilIface := rfl
theorem errW_some (c : Int) : errW (some c) = .iface 0 (.int .i64 c) := rfl

theorem info9 : (Try.prog.info? 9).map (fun i => (i.zero, i.size, i.bytes)) = some (some (.string ⟨#[]⟩), 1, 16) := by kernel_rfl
-- the values' own types

end Go.Proofs.Ytndmfbaffkekgaa.PChunkCuts
