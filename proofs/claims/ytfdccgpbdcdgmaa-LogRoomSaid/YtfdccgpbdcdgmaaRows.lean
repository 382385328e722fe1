/-
  No cell of these rows narrows 'for every input' (looked for: loops, veiled, ifaces, maps, wideKeys, modest, calm, conditions, laid).
  DERIVED. THE GIVEN ROWS OF THIS SEAT. 6 by the template 'for every input the law returns true; each argument reads behind the call as it read before'; 0 by the template 'total and deterministic' (their statements: YtfdccgpbdcdgmaaTotals.lean).
  GIVEN WITH THE SEED: the statements are not yours to turn. If you find one false, say at which input.
  Laid BY PROGRAM, IN A SANDBOX (cutbox-rows.mjs): the forced cells as the released guide's own fill.sh prints them over the translation 55e76d2add9e58e7… (all of the seat's roots in one cut). By AI agents, Wed Nov 11 2026. No macro, syntax, notation, axiom, sorry.
-/
import Derived.Test.YtfdccgpbdcdgmaaChecked
import GoSem.Claim
import GoSem.ClaimJoined
import GoSem.ClaimMapViews
import Derived.JoinedTies
import Derived.KernelRfl
namespace Go.Proofs.Ytfdccgpbdcdgmaa
/- THE CELL 'sum', in the pinned program and in every row, IS THE sha256 OF THE DUMP (.gsa) THAT YtfdccgpbdcdgmaaProg.lean LOADS. Nothing in Lean hashes anything: it is a label: what it is worth is what the hold of that sum in a sandbox is worth. -/
noncomputable def Try.pinned : Pinned := { name := "ytfdccgpbdcdgmaa", sum := "55e76d2add9e58e78be048a0f12b1babe3271e451f959908af7eb8397a44c7c0", checked := Try.checked }
namespace Rows
def none {H : Type} : Left H := { results := [], args := [] }

/-- 'cubbylaw05.LogChunks': WHATEVER THE INPUT: true; the input reads as it did. -/
def logChunksSpec : ChangeSpec := { name := "logChunks", fn := fun _ => fun
  | [d1, d2] => { results := [.lit (.bool true)], args := [d1, d2] }
  | _ => none }
def logChunksRow : OpenClaim := { program := "ytfdccgpbdcdgmaa", sum := "55e76d2add9e58e78be048a0f12b1babe3271e451f959908af7eb8397a44c7c0", func := "cubby/cubbylaw05.LogChunks", spec := "logChunks", inPlace := ["internal/abi.NoEscape"], unfollowed := true, recurses := true, apart := false }
def LogChunksSaid : Prop := logChunksRow.holds Try.pinned (OpenSpec.ofChange logChunksSpec)

/-- ITS FALSE NEIGHBOUR: 'it returns false'. Refute it at one input. -/
def logChunksWrong : ChangeSpec := { name := "logChunks", fn := fun _ => fun
  | [d1, d2] => { results := [.lit (.bool false)], args := [d1, d2] }
  | _ => none }
def LogChunksWrongFalsely : Prop := logChunksRow.holds Try.pinned (OpenSpec.ofChange logChunksWrong)

/-- 'cubbylaw05.LogRoom': WHATEVER THE INPUT: true; the input reads as it did. -/
def logRoomSpec : ChangeSpec := { name := "logRoom", fn := fun _ => fun
  | [d] => { results := [.lit (.bool true)], args := [d] }
  | _ => none }
def logRoomRow : OpenClaim := { program := "ytfdccgpbdcdgmaa", sum := "55e76d2add9e58e78be048a0f12b1babe3271e451f959908af7eb8397a44c7c0", func := "cubby/cubbylaw05.LogRoom", spec := "logRoom", inPlace := ["internal/abi.NoEscape"], unfollowed := true, recurses := true, apart := false }
def LogRoomSaid : Prop := logRoomRow.holds Try.pinned (OpenSpec.ofChange logRoomSpec)

/-- ITS FALSE NEIGHBOUR: 'it returns false'. Refute it at one input. -/
def logRoomWrong : ChangeSpec := { name := "logRoom", fn := fun _ => fun
  | [d] => { results := [.lit (.bool false)], args := [d] }
  | _ => none }
def LogRoomWrongFalsely : Prop := logRoomRow.holds Try.pinned (OpenSpec.ofChange logRoomWrong)

/-- 'cubbylaw05.LogTwice': WHATEVER THE INPUT: true; the input reads as it did. -/
def logTwiceSpec : ChangeSpec := { name := "logTwice", fn := fun _ => fun
  | [d1, d2, d3] => { results := [.lit (.bool true)], args := [d1, d2, d3] }
  | _ => none }
def logTwiceRow : OpenClaim := { program := "ytfdccgpbdcdgmaa", sum := "55e76d2add9e58e78be048a0f12b1babe3271e451f959908af7eb8397a44c7c0", func := "cubby/cubbylaw05.LogTwice", spec := "logTwice", inPlace := ["internal/abi.NoEscape"], unfollowed := true, recurses := true, apart := false }
def LogTwiceSaid : Prop := logTwiceRow.holds Try.pinned (OpenSpec.ofChange logTwiceSpec)

/-- ITS FALSE NEIGHBOUR: 'it returns false'. Refute it at one input. -/
def logTwiceWrong : ChangeSpec := { name := "logTwice", fn := fun _ => fun
  | [d1, d2, d3] => { results := [.lit (.bool false)], args := [d1, d2, d3] }
  | _ => none }
def LogTwiceWrongFalsely : Prop := logTwiceRow.holds Try.pinned (OpenSpec.ofChange logTwiceWrong)

/-- 'cubbylaw05.LogKeeps': WHATEVER THE INPUT: true; the input reads as it did. -/
def logKeepsSpec : ChangeSpec := { name := "logKeeps", fn := fun _ => fun
  | [d1, d2] => { results := [.lit (.bool true)], args := [d1, d2] }
  | _ => none }
def logKeepsRow : OpenClaim := { program := "ytfdccgpbdcdgmaa", sum := "55e76d2add9e58e78be048a0f12b1babe3271e451f959908af7eb8397a44c7c0", func := "cubby/cubbylaw05.LogKeeps", spec := "logKeeps", inPlace := ["internal/abi.NoEscape"], unfollowed := true, recurses := true, apart := false }
def LogKeepsSaid : Prop := logKeepsRow.holds Try.pinned (OpenSpec.ofChange logKeepsSpec)

/-- ITS FALSE NEIGHBOUR: 'it returns false'. Refute it at one input. -/
def logKeepsWrong : ChangeSpec := { name := "logKeeps", fn := fun _ => fun
  | [d1, d2] => { results := [.lit (.bool false)], args := [d1, d2] }
  | _ => none }
def LogKeepsWrongFalsely : Prop := logKeepsRow.holds Try.pinned (OpenSpec.ofChange logKeepsWrong)

/-- 'cubbylaw05.LogRenews': WHATEVER THE INPUT: true; the input reads as it did. -/
def logRenewsSpec : ChangeSpec := { name := "logRenews", fn := fun _ => fun
  | [d1, d2] => { results := [.lit (.bool true)], args := [d1, d2] }
  | _ => none }
def logRenewsRow : OpenClaim := { program := "ytfdccgpbdcdgmaa", sum := "55e76d2add9e58e78be048a0f12b1babe3271e451f959908af7eb8397a44c7c0", func := "cubby/cubbylaw05.LogRenews", spec := "logRenews", inPlace := ["internal/abi.NoEscape"], unfollowed := true, recurses := true, apart := false }
def LogRenewsSaid : Prop := logRenewsRow.holds Try.pinned (OpenSpec.ofChange logRenewsSpec)

/-- ITS FALSE NEIGHBOUR: 'it returns false'. Refute it at one input. -/
def logRenewsWrong : ChangeSpec := { name := "logRenews", fn := fun _ => fun
  | [d1, d2] => { results := [.lit (.bool false)], args := [d1, d2] }
  | _ => none }
def LogRenewsWrongFalsely : Prop := logRenewsRow.holds Try.pinned (OpenSpec.ofChange logRenewsWrong)

/-- 'cubbylaw05.LogCuts': WHATEVER THE INPUT: true; the input reads as it did. -/
def logCutsSpec : ChangeSpec := { name := "logCuts", fn := fun _ => fun
  | [d1, d2, d3, d4, d5, d6] => { results := [.lit (.bool true)], args := [d1, d2, d3, d4, d5, d6] }
  | _ => none }
def logCutsRow : OpenClaim := { program := "ytfdccgpbdcdgmaa", sum := "55e76d2add9e58e78be048a0f12b1babe3271e451f959908af7eb8397a44c7c0", func := "cubby/cubbylaw05.LogCuts", spec := "logCuts", inPlace := ["internal/abi.NoEscape"], unfollowed := true, recurses := true, apart := false }
def LogCutsSaid : Prop := logCutsRow.holds Try.pinned (OpenSpec.ofChange logCutsSpec)

/-- ITS FALSE NEIGHBOUR: 'it returns false'. Refute it at one input. -/
def logCutsWrong : ChangeSpec := { name := "logCuts", fn := fun _ => fun
  | [d1, d2, d3, d4, d5, d6] => { results := [.lit (.bool false)], args := [d1, d2, d3, d4, d5, d6] }
  | _ => none }
def LogCutsWrongFalsely : Prop := logCutsRow.holds Try.pinned (OpenSpec.ofChange logCutsWrong)

/- THE SECOND FORM. 'bulk': how many values and letters a reading holds, each counted each time it is reached (what is shared counts as often as it is met; a slice's spare places count too). A statement '..UptoSaid' is the law's where the arguments, and the package variables that the reading takes, are together of bulk at most 1048576: NARROWER than '..Said'. Prove '..Said' where nothing that the law and all that it calls make is longer than what came in: it says more and counts as full. Else prove '..UptoSaid'. A law counts once. -/
mutual
def uptoBulk {H : Type} : DataW H → Nat
  | .lit (.string bytes) => bytes.length + 1
  | .lit _ => 1
  | .nil => 1
  | .ptr d => uptoBulk d + 1
  | .slice elems spare => uptoBulkAll elems + uptoBulkAll spare + 1
  | .agg parts => uptoBulkAll parts + 1
  | .iface _ d => uptoBulk d + 1
  | .map entries => uptoBulkEntries entries + 1
  | .held _ => 1
def uptoBulkAll {H : Type} : List (DataW H) → Nat
  | [] => 0
  | d :: r => uptoBulk d + uptoBulkAll r
def uptoBulkEntries {H : Type} : List (Lit × DataW H) → Nat
  | [] => 0
  | x :: r => uptoBulkEntry x + uptoBulkEntries r
def uptoBulkEntry {H : Type} : Lit × DataW H → Nat
  | (.string bytes, d) => bytes.length + uptoBulk d + 1
  | (_, d) => uptoBulk d + 1
 end
def uptoSmall : (H : Type) → List (DataW H) → Bool := fun _ ds => decide (uptoBulkAll ds ≤ 1048576)
def OpenSpec.upto (s : _root_.Go.ChangeSpec) : _root_.Go.OpenSpec := { _root_.Go.OpenSpec.ofChange s with cond := some uptoSmall }

/-- 'cubbylaw05.LogChunks', WHERE WHAT IT READS IS OF BULK AT MOST 1048576: true; the input reads as it did. -/
def logChunksUptoRow : OpenClaim := { program := "ytfdccgpbdcdgmaa", sum := "55e76d2add9e58e78be048a0f12b1babe3271e451f959908af7eb8397a44c7c0", func := "cubby/cubbylaw05.LogChunks", spec := "logChunks", inPlace := ["internal/abi.NoEscape"], unfollowed := true, recurses := true, apart := false, narrowed := true }
def LogChunksUptoSaid : Prop := logChunksUptoRow.holds Try.pinned (OpenSpec.upto logChunksSpec)

/-- 'cubbylaw05.LogRoom', WHERE WHAT IT READS IS OF BULK AT MOST 1048576: true; the input reads as it did. -/
def logRoomUptoRow : OpenClaim := { program := "ytfdccgpbdcdgmaa", sum := "55e76d2add9e58e78be048a0f12b1babe3271e451f959908af7eb8397a44c7c0", func := "cubby/cubbylaw05.LogRoom", spec := "logRoom", inPlace := ["internal/abi.NoEscape"], unfollowed := true, recurses := true, apart := false, narrowed := true }
def LogRoomUptoSaid : Prop := logRoomUptoRow.holds Try.pinned (OpenSpec.upto logRoomSpec)

/-- 'cubbylaw05.LogTwice', WHERE WHAT IT READS IS OF BULK AT MOST 1048576: true; the input reads as it did. -/
def logTwiceUptoRow : OpenClaim := { program := "ytfdccgpbdcdgmaa", sum := "55e76d2add9e58e78be048a0f12b1babe3271e451f959908af7eb8397a44c7c0", func := "cubby/cubbylaw05.LogTwice", spec := "logTwice", inPlace := ["internal/abi.NoEscape"], unfollowed := true, recurses := true, apart := false, narrowed := true }
def LogTwiceUptoSaid : Prop := logTwiceUptoRow.holds Try.pinned (OpenSpec.upto logTwiceSpec)

/-- 'cubbylaw05.LogKeeps', WHERE WHAT IT READS IS OF BULK AT MOST 1048576: true; the input reads as it did. -/
def logKeepsUptoRow : OpenClaim := { program := "ytfdccgpbdcdgmaa", sum := "55e76d2add9e58e78be048a0f12b1babe3271e451f959908af7eb8397a44c7c0", func := "cubby/cubbylaw05.LogKeeps", spec := "logKeeps", inPlace := ["internal/abi.NoEscape"], unfollowed := true, recurses := true, apart := false, narrowed := true }
def LogKeepsUptoSaid : Prop := logKeepsUptoRow.holds Try.pinned (OpenSpec.upto logKeepsSpec)

/-- 'cubbylaw05.LogRenews', WHERE WHAT IT READS IS OF BULK AT MOST 1048576: true; the input reads as it did. -/
def logRenewsUptoRow : OpenClaim := { program := "ytfdccgpbdcdgmaa", sum := "55e76d2add9e58e78be048a0f12b1babe3271e451f959908af7eb8397a44c7c0", func := "cubby/cubbylaw05.LogRenews", spec := "logRenews", inPlace := ["internal/abi.NoEscape"], unfollowed := true, recurses := true, apart := false, narrowed := true }
def LogRenewsUptoSaid : Prop := logRenewsUptoRow.holds Try.pinned (OpenSpec.upto logRenewsSpec)

/-- 'cubbylaw05.LogCuts', WHERE WHAT IT READS IS OF BULK AT MOST 1048576: true; the input reads as it did. -/
def logCutsUptoRow : OpenClaim := { program := "ytfdccgpbdcdgmaa", sum := "55e76d2add9e58e78be048a0f12b1babe3271e451f959908af7eb8397a44c7c0", func := "cubby/cubbylaw05.LogCuts", spec := "logCuts", inPlace := ["internal/abi.NoEscape"], unfollowed := true, recurses := true, apart := false, narrowed := true }
def LogCutsUptoSaid : Prop := logCutsUptoRow.holds Try.pinned (OpenSpec.upto logCutsSpec)

end Rows
end Go.Proofs.Ytfdccgpbdcdgmaa
