/-
  No cell of these rows narrows 'for every input' (looked for: loops, veiled, ifaces, maps, wideKeys, modest, calm, conditions, laid).
  DERIVED. THE GIVEN ROWS OF THIS SEAT. 6 by the template 'for every input the law returns true; each argument reads behind the call as it read before'; 0 by the template 'total and deterministic' (their statements: YtndmfbaffkekgaaTotals.lean).
  GIVEN WITH THE SEED: the statements are not yours to turn. If you find one false, say at which input.
  Laid BY PROGRAM, IN A SANDBOX (cutbox-rows.mjs): the forced cells as the released guide's own fill.sh prints them over the translation d928e145d1d0545a… (all of the seat's roots in one cut). By AI agents, Wed Nov 11 2026. No macro, syntax, notation, axiom, sorry.
-/
import Derived.Test.YtndmfbaffkekgaaChecked
import GoSem.Claim
import GoSem.ClaimJoined
import GoSem.ClaimMapViews
import Derived.JoinedTies
import Derived.KernelRfl
namespace Go.Proofs.Ytndmfbaffkekgaa
/- THE CELL 'sum', in the pinned program and in every row, IS THE sha256 OF THE DUMP (.gsa) THAT YtndmfbaffkekgaaProg.lean LOADS. Nothing in Lean hashes anything: it is a label: what it is worth is what the hold of that sum in a sandbox is worth. -/
noncomputable def Try.pinned : Pinned := { name := "ytndmfbaffkekgaa", sum := "d928e145d1d0545a38853c6b879fda071873669c8bf842d99032cadba28e5b1e", checked := Try.checked }
namespace Rows
def none {H : Type} : Left H := { results := [], args := [] }

/-- 'cubbylaw04.ChunkCuts': WHATEVER THE INPUT: true; the input reads as it did. -/
def chunkCutsSpec : ChangeSpec := { name := "chunkCuts", fn := fun _ => fun
  | [d] => { results := [.lit (.bool true)], args := [d] }
  | _ => none }
def chunkCutsRow : OpenClaim := { program := "ytndmfbaffkekgaa", sum := "d928e145d1d0545a38853c6b879fda071873669c8bf842d99032cadba28e5b1e", func := "cubby/cubbylaw04.ChunkCuts", spec := "chunkCuts", unfollowed := true, recurses := true, apart := false }
def ChunkCutsSaid : Prop := chunkCutsRow.holds Try.pinned (OpenSpec.ofChange chunkCutsSpec)

/-- ITS FALSE NEIGHBOUR: 'it returns false'. Refute it at one input. -/
def chunkCutsWrong : ChangeSpec := { name := "chunkCuts", fn := fun _ => fun
  | [d] => { results := [.lit (.bool false)], args := [d] }
  | _ => none }
def ChunkCutsWrongFalsely : Prop := chunkCutsRow.holds Try.pinned (OpenSpec.ofChange chunkCutsWrong)

/-- 'cubbylaw04.ChunkSmall': WHATEVER THE INPUT: true; the input reads as it did. -/
def chunkSmallSpec : ChangeSpec := { name := "chunkSmall", fn := fun _ => fun
  | [d1, d2, d3, d4, d5] => { results := [.lit (.bool true)], args := [d1, d2, d3, d4, d5] }
  | _ => none }
def chunkSmallRow : OpenClaim := { program := "ytndmfbaffkekgaa", sum := "d928e145d1d0545a38853c6b879fda071873669c8bf842d99032cadba28e5b1e", func := "cubby/cubbylaw04.ChunkSmall", spec := "chunkSmall", inPlace := ["internal/abi.NoEscape"], apart := false }
def ChunkSmallSaid : Prop := chunkSmallRow.holds Try.pinned (OpenSpec.ofChange chunkSmallSpec)

/-- ITS FALSE NEIGHBOUR: 'it returns false'. Refute it at one input. -/
def chunkSmallWrong : ChangeSpec := { name := "chunkSmall", fn := fun _ => fun
  | [d1, d2, d3, d4, d5] => { results := [.lit (.bool false)], args := [d1, d2, d3, d4, d5] }
  | _ => none }
def ChunkSmallWrongFalsely : Prop := chunkSmallRow.holds Try.pinned (OpenSpec.ofChange chunkSmallWrong)

/-- 'cubbylaw04.ChunkShort': WHATEVER THE INPUT: true; the input reads as it did. -/
def chunkShortSpec : ChangeSpec := { name := "chunkShort", fn := fun _ => fun
  | [d1, d2, d3] => { results := [.lit (.bool true)], args := [d1, d2, d3] }
  | _ => none }
def chunkShortRow : OpenClaim := { program := "ytndmfbaffkekgaa", sum := "d928e145d1d0545a38853c6b879fda071873669c8bf842d99032cadba28e5b1e", func := "cubby/cubbylaw04.ChunkShort", spec := "chunkShort", unfollowed := true, recurses := true, apart := false }
def ChunkShortSaid : Prop := chunkShortRow.holds Try.pinned (OpenSpec.ofChange chunkShortSpec)

/-- ITS FALSE NEIGHBOUR: 'it returns false'. Refute it at one input. -/
def chunkShortWrong : ChangeSpec := { name := "chunkShort", fn := fun _ => fun
  | [d1, d2, d3] => { results := [.lit (.bool false)], args := [d1, d2, d3] }
  | _ => none }
def ChunkShortWrongFalsely : Prop := chunkShortRow.holds Try.pinned (OpenSpec.ofChange chunkShortWrong)

/-- 'cubbylaw04.ChunkEncodes': WHATEVER THE INPUT: true; the input reads as it did. -/
def chunkEncodesSpec : ChangeSpec := { name := "chunkEncodes", fn := fun _ => fun
  | [d] => { results := [.lit (.bool true)], args := [d] }
  | _ => none }
def chunkEncodesRow : OpenClaim := { program := "ytndmfbaffkekgaa", sum := "d928e145d1d0545a38853c6b879fda071873669c8bf842d99032cadba28e5b1e", func := "cubby/cubbylaw04.ChunkEncodes", spec := "chunkEncodes", inPlace := ["internal/abi.NoEscape"], unfollowed := true, recurses := true, apart := false }
def ChunkEncodesSaid : Prop := chunkEncodesRow.holds Try.pinned (OpenSpec.ofChange chunkEncodesSpec)

/-- ITS FALSE NEIGHBOUR: 'it returns false'. Refute it at one input. -/
def chunkEncodesWrong : ChangeSpec := { name := "chunkEncodes", fn := fun _ => fun
  | [d] => { results := [.lit (.bool false)], args := [d] }
  | _ => none }
def ChunkEncodesWrongFalsely : Prop := chunkEncodesRow.holds Try.pinned (OpenSpec.ofChange chunkEncodesWrong)

/-- 'cubbylaw04.ChunkDecodes': WHATEVER THE INPUT: true; the input reads as it did. -/
def chunkDecodesSpec : ChangeSpec := { name := "chunkDecodes", fn := fun _ => fun
  | [d] => { results := [.lit (.bool true)], args := [d] }
  | _ => none }
def chunkDecodesRow : OpenClaim := { program := "ytndmfbaffkekgaa", sum := "d928e145d1d0545a38853c6b879fda071873669c8bf842d99032cadba28e5b1e", func := "cubby/cubbylaw04.ChunkDecodes", spec := "chunkDecodes", inPlace := ["internal/abi.NoEscape"], unfollowed := true, recurses := true, apart := false }
def ChunkDecodesSaid : Prop := chunkDecodesRow.holds Try.pinned (OpenSpec.ofChange chunkDecodesSpec)

/-- ITS FALSE NEIGHBOUR: 'it returns false'. Refute it at one input. -/
def chunkDecodesWrong : ChangeSpec := { name := "chunkDecodes", fn := fun _ => fun
  | [d] => { results := [.lit (.bool false)], args := [d] }
  | _ => none }
def ChunkDecodesWrongFalsely : Prop := chunkDecodesRow.holds Try.pinned (OpenSpec.ofChange chunkDecodesWrong)

/-- 'cubbylaw04.ChunkSpoilt': WHATEVER THE INPUT: true; the input reads as it did. -/
def chunkSpoiltSpec : ChangeSpec := { name := "chunkSpoilt", fn := fun _ => fun
  | [d1, d2, d3] => { results := [.lit (.bool true)], args := [d1, d2, d3] }
  | _ => none }
def chunkSpoiltRow : OpenClaim := { program := "ytndmfbaffkekgaa", sum := "d928e145d1d0545a38853c6b879fda071873669c8bf842d99032cadba28e5b1e", func := "cubby/cubbylaw04.ChunkSpoilt", spec := "chunkSpoilt", inPlace := ["internal/abi.NoEscape"], unfollowed := true, recurses := true, apart := false }
def ChunkSpoiltSaid : Prop := chunkSpoiltRow.holds Try.pinned (OpenSpec.ofChange chunkSpoiltSpec)

/-- ITS FALSE NEIGHBOUR: 'it returns false'. Refute it at one input. -/
def chunkSpoiltWrong : ChangeSpec := { name := "chunkSpoilt", fn := fun _ => fun
  | [d1, d2, d3] => { results := [.lit (.bool false)], args := [d1, d2, d3] }
  | _ => none }
def ChunkSpoiltWrongFalsely : Prop := chunkSpoiltRow.holds Try.pinned (OpenSpec.ofChange chunkSpoiltWrong)

/- THE SECOND FORM. 'bulk': how many values and letters a reading holds, each counted each time it is reached (what is shared counts as often as it is met; a slice's spare places count too). A statement '..UptoSaid' is the law's where the arguments, and the package variables that the reading takes, are together of bulk at most 1048576: NARROWER than '..Said'. Prove '..Said' where nothing that the law and all that it calls make is longer than what came in: it says more and counts as full. Else prove '..UptoSaid'. A law counts once. -/
mutual
def uptoBulk {H : Type} : DataW H → Nat
  | .lit (.string bytes) => bytes.length + 1
  | .lit _ => 1
  | .nil => 1
  | .ptr d => uptoBulk d + 1
  | .slice elems spare => uptoBulkAll elems + uptoBulkAll spare + 1
  | .agg parts => uptoBulkAll parts + 1
  | .iface _ d => uptoBulk d + 1
  | .map entries => uptoBulkEntries entries + 1
  | .held _ => 1
def uptoBulkAll {H : Type} : List (DataW H) → Nat
  | [] => 0
  | d :: r => uptoBulk d + uptoBulkAll r
def uptoBulkEntries {H : Type} : List (Lit × DataW H) → Nat
  | [] => 0
  | x :: r => uptoBulkEntry x + uptoBulkEntries r
def uptoBulkEntry {H : Type} : Lit × DataW H → Nat
  | (.string bytes, d) => bytes.length + uptoBulk d + 1
  | (_, d) => uptoBulk d + 1
 end
def uptoSmall : (H : Type) → List (DataW H) → Bool := fun _ ds => decide (uptoBulkAll ds ≤ 1048576)
def OpenSpec.upto (s : _root_.Go.ChangeSpec) : _root_.Go.OpenSpec := { _root_.Go.OpenSpec.ofChange s with cond := some uptoSmall }

/-- 'cubbylaw04.ChunkCuts', WHERE WHAT IT READS IS OF BULK AT MOST 1048576: true; the input reads as it did. -/
def chunkCutsUptoRow : OpenClaim := { program := "ytndmfbaffkekgaa", sum := "d928e145d1d0545a38853c6b879fda071873669c8bf842d99032cadba28e5b1e", func := "cubby/cubbylaw04.ChunkCuts", spec := "chunkCuts", unfollowed := true, recurses := true, apart := false, narrowed := true }
def ChunkCutsUptoSaid : Prop := chunkCutsUptoRow.holds Try.pinned (OpenSpec.upto chunkCutsSpec)

/-- 'cubbylaw04.ChunkSmall', WHERE WHAT IT READS IS OF BULK AT MOST 1048576: true; the input reads as it did. -/
def chunkSmallUptoRow : OpenClaim := { program := "ytndmfbaffkekgaa", sum := "d928e145d1d0545a38853c6b879fda071873669c8bf842d99032cadba28e5b1e", func := "cubby/cubbylaw04.ChunkSmall", spec := "chunkSmall", inPlace := ["internal/abi.NoEscape"], apart := false, narrowed := true }
def ChunkSmallUptoSaid : Prop := chunkSmallUptoRow.holds Try.pinned (OpenSpec.upto chunkSmallSpec)

/-- 'cubbylaw04.ChunkShort', WHERE WHAT IT READS IS OF BULK AT MOST 1048576: true; the input reads as it did. -/
def chunkShortUptoRow : OpenClaim := { program := "ytndmfbaffkekgaa", sum := "d928e145d1d0545a38853c6b879fda071873669c8bf842d99032cadba28e5b1e", func := "cubby/cubbylaw04.ChunkShort", spec := "chunkShort", unfollowed := true, recurses := true, apart := false, narrowed := true }
def ChunkShortUptoSaid : Prop := chunkShortUptoRow.holds Try.pinned (OpenSpec.upto chunkShortSpec)

/-- 'cubbylaw04.ChunkEncodes', WHERE WHAT IT READS IS OF BULK AT MOST 1048576: true; the input reads as it did. -/
def chunkEncodesUptoRow : OpenClaim := { program := "ytndmfbaffkekgaa", sum := "d928e145d1d0545a38853c6b879fda071873669c8bf842d99032cadba28e5b1e", func := "cubby/cubbylaw04.ChunkEncodes", spec := "chunkEncodes", inPlace := ["internal/abi.NoEscape"], unfollowed := true, recurses := true, apart := false, narrowed := true }
def ChunkEncodesUptoSaid : Prop := chunkEncodesUptoRow.holds Try.pinned (OpenSpec.upto chunkEncodesSpec)

/-- 'cubbylaw04.ChunkDecodes', WHERE WHAT IT READS IS OF BULK AT MOST 1048576: true; the input reads as it did. -/
def chunkDecodesUptoRow : OpenClaim := { program := "ytndmfbaffkekgaa", sum := "d928e145d1d0545a38853c6b879fda071873669c8bf842d99032cadba28e5b1e", func := "cubby/cubbylaw04.ChunkDecodes", spec := "chunkDecodes", inPlace := ["internal/abi.NoEscape"], unfollowed := true, recurses := true, apart := false, narrowed := true }
def ChunkDecodesUptoSaid : Prop := chunkDecodesUptoRow.holds Try.pinned (OpenSpec.upto chunkDecodesSpec)

/-- 'cubbylaw04.ChunkSpoilt', WHERE WHAT IT READS IS OF BULK AT MOST 1048576: true; the input reads as it did. -/
def chunkSpoiltUptoRow : OpenClaim := { program := "ytndmfbaffkekgaa", sum := "d928e145d1d0545a38853c6b879fda071873669c8bf842d99032cadba28e5b1e", func := "cubby/cubbylaw04.ChunkSpoilt", spec := "chunkSpoilt", inPlace := ["internal/abi.NoEscape"], unfollowed := true, recurses := true, apart := false, narrowed := true }
def ChunkSpoiltUptoSaid : Prop := chunkSpoiltUptoRow.holds Try.pinned (OpenSpec.upto chunkSpoiltSpec)

end Rows
end Go.Proofs.Ytndmfbaffkekgaa
