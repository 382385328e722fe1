/-
  No cell of these rows narrows 'for every input' (looked for: loops, veiled, ifaces, maps, wideKeys, modest, calm, conditions, laid).
  DERIVED. THE GIVEN ROWS OF THIS SEAT. 4 by the template 'for every input the law returns true; each argument reads behind the call as it read before'; 0 by the template 'total and deterministic' (their statements: YtjmgfpfdkfelhaaTotals.lean).
  GIVEN WITH THE SEED: the statements are not yours to turn. If you find one false, say at which input.
  Laid BY PROGRAM, IN A SANDBOX (cutbox-rows.mjs): the forced cells as the released guide's own fill.sh prints them over the translation f43006d6fd8e58e1… (all of the seat's roots in one cut). By AI agents, Wed Nov 11 2026. No macro, syntax, notation, axiom, sorry.
-/
import Derived.Test.YtjmgfpfdkfelhaaChecked
import GoSem.Claim
import GoSem.ClaimJoined
import GoSem.ClaimMapViews
import Derived.JoinedTies
import Derived.KernelRfl
namespace Go.Proofs.Ytjmgfpfdkfelhaa
/- THE CELL 'sum', in the pinned program and in every row, IS THE sha256 OF THE DUMP (.gsa) THAT YtjmgfpfdkfelhaaProg.lean LOADS. Nothing in Lean hashes anything: it is a label: what it is worth is what the hold of that sum in a sandbox is worth. -/
noncomputable def Try.pinned : Pinned := { name := "ytjmgfpfdkfelhaa", sum := "f43006d6fd8e58e1ebe8f666735496fa969d5988b8d1f64f67851c87b5bbfef3", checked := Try.checked }
namespace Rows
def none {H : Type} : Left H := { results := [], args := [] }

/-- 'cubbylaw10.RunOps': WHATEVER THE INPUT: true; the input reads as it did. -/
def runOpsSpec : ChangeSpec := { name := "runOps", fn := fun _ => fun
  | [d1, d2, d3] => { results := [.lit (.bool true)], args := [d1, d2, d3] }
  | _ => none }
def runOpsRow : OpenClaim := { program := "ytjmgfpfdkfelhaa", sum := "f43006d6fd8e58e1ebe8f666735496fa969d5988b8d1f64f67851c87b5bbfef3", func := "cubby/cubbylaw10.RunOps", spec := "runOps", apart := false }
def RunOpsSaid : Prop := runOpsRow.holds Try.pinned (OpenSpec.ofChange runOpsSpec)

/-- ITS FALSE NEIGHBOUR: 'it returns false'. Refute it at one input. -/
def runOpsWrong : ChangeSpec := { name := "runOps", fn := fun _ => fun
  | [d1, d2, d3] => { results := [.lit (.bool false)], args := [d1, d2, d3] }
  | _ => none }
def RunOpsWrongFalsely : Prop := runOpsRow.holds Try.pinned (OpenSpec.ofChange runOpsWrong)

/-- 'cubbylaw10.RunAlgebra': WHATEVER THE INPUT: true; the input reads as it did. -/
def runAlgebraSpec : ChangeSpec := { name := "runAlgebra", fn := fun _ => fun
  | [d1, d2, d3] => { results := [.lit (.bool true)], args := [d1, d2, d3] }
  | _ => none }
def runAlgebraRow : OpenClaim := { program := "ytjmgfpfdkfelhaa", sum := "f43006d6fd8e58e1ebe8f666735496fa969d5988b8d1f64f67851c87b5bbfef3", func := "cubby/cubbylaw10.RunAlgebra", spec := "runAlgebra", apart := false }
def RunAlgebraSaid : Prop := runAlgebraRow.holds Try.pinned (OpenSpec.ofChange runAlgebraSpec)

/-- ITS FALSE NEIGHBOUR: 'it returns false'. Refute it at one input. -/
def runAlgebraWrong : ChangeSpec := { name := "runAlgebra", fn := fun _ => fun
  | [d1, d2, d3] => { results := [.lit (.bool false)], args := [d1, d2, d3] }
  | _ => none }
def RunAlgebraWrongFalsely : Prop := runAlgebraRow.holds Try.pinned (OpenSpec.ofChange runAlgebraWrong)

/-- 'cubbylaw10.RunMemory': WHATEVER THE INPUT: true; the input reads as it did. -/
def runMemorySpec : ChangeSpec := { name := "runMemory", fn := fun _ => fun
  | [d1, d2, d3] => { results := [.lit (.bool true)], args := [d1, d2, d3] }
  | _ => none }
def runMemoryRow : OpenClaim := { program := "ytjmgfpfdkfelhaa", sum := "f43006d6fd8e58e1ebe8f666735496fa969d5988b8d1f64f67851c87b5bbfef3", func := "cubby/cubbylaw10.RunMemory", spec := "runMemory", unfollowed := true, recurses := true, apart := false }
def RunMemorySaid : Prop := runMemoryRow.holds Try.pinned (OpenSpec.ofChange runMemorySpec)

/-- ITS FALSE NEIGHBOUR: 'it returns false'. Refute it at one input. -/
def runMemoryWrong : ChangeSpec := { name := "runMemory", fn := fun _ => fun
  | [d1, d2, d3] => { results := [.lit (.bool false)], args := [d1, d2, d3] }
  | _ => none }
def RunMemoryWrongFalsely : Prop := runMemoryRow.holds Try.pinned (OpenSpec.ofChange runMemoryWrong)

/-- 'cubbylaw10.RunDeep': WHATEVER THE INPUT: true; the input reads as it did. -/
def runDeepSpec : ChangeSpec := { name := "runDeep", fn := fun _ => fun
  | [d1, d2] => { results := [.lit (.bool true)], args := [d1, d2] }
  | _ => none }
def runDeepRow : OpenClaim := { program := "ytjmgfpfdkfelhaa", sum := "f43006d6fd8e58e1ebe8f666735496fa969d5988b8d1f64f67851c87b5bbfef3", func := "cubby/cubbylaw10.RunDeep", spec := "runDeep", unfollowed := true, recurses := true, apart := false }
def RunDeepSaid : Prop := runDeepRow.holds Try.pinned (OpenSpec.ofChange runDeepSpec)

/-- ITS FALSE NEIGHBOUR: 'it returns false'. Refute it at one input. -/
def runDeepWrong : ChangeSpec := { name := "runDeep", fn := fun _ => fun
  | [d1, d2] => { results := [.lit (.bool false)], args := [d1, d2] }
  | _ => none }
def RunDeepWrongFalsely : Prop := runDeepRow.holds Try.pinned (OpenSpec.ofChange runDeepWrong)

/- THE SECOND FORM. 'bulk': how many values and letters a reading holds, each counted each time it is reached (what is shared counts as often as it is met; a slice's spare places count too). A statement '..UptoSaid' is the law's where the arguments, and the package variables that the reading takes, are together of bulk at most 1048576: NARROWER than '..Said'. Prove '..Said' where nothing that the law and all that it calls make is longer than what came in: it says more and counts as full. Else prove '..UptoSaid'. A law counts once. -/
mutual
def uptoBulk {H : Type} : DataW H → Nat
  | .lit (.string bytes) => bytes.length + 1
  | .lit _ => 1
  | .nil => 1
  | .ptr d => uptoBulk d + 1
  | .slice elems spare => uptoBulkAll elems + uptoBulkAll spare + 1
  | .agg parts => uptoBulkAll parts + 1
  | .iface _ d => uptoBulk d + 1
  | .map entries => uptoBulkEntries entries + 1
  | .held _ => 1
def uptoBulkAll {H : Type} : List (DataW H) → Nat
  | [] => 0
  | d :: r => uptoBulk d + uptoBulkAll r
def uptoBulkEntries {H : Type} : List (Lit × DataW H) → Nat
  | [] => 0
  | x :: r => uptoBulkEntry x + uptoBulkEntries r
def uptoBulkEntry {H : Type} : Lit × DataW H → Nat
  | (.string bytes, d) => bytes.length + uptoBulk d + 1
  | (_, d) => uptoBulk d + 1
 end
def uptoSmall : (H : Type) → List (DataW H) → Bool := fun _ ds => decide (uptoBulkAll ds ≤ 1048576)
def OpenSpec.upto (s : _root_.Go.ChangeSpec) : _root_.Go.OpenSpec := { _root_.Go.OpenSpec.ofChange s with cond := some uptoSmall }

/-- 'cubbylaw10.RunOps', WHERE WHAT IT READS IS OF BULK AT MOST 1048576: true; the input reads as it did. -/
def runOpsUptoRow : OpenClaim := { program := "ytjmgfpfdkfelhaa", sum := "f43006d6fd8e58e1ebe8f666735496fa969d5988b8d1f64f67851c87b5bbfef3", func := "cubby/cubbylaw10.RunOps", spec := "runOps", apart := false, narrowed := true }
def RunOpsUptoSaid : Prop := runOpsUptoRow.holds Try.pinned (OpenSpec.upto runOpsSpec)

/-- 'cubbylaw10.RunAlgebra', WHERE WHAT IT READS IS OF BULK AT MOST 1048576: true; the input reads as it did. -/
def runAlgebraUptoRow : OpenClaim := { program := "ytjmgfpfdkfelhaa", sum := "f43006d6fd8e58e1ebe8f666735496fa969d5988b8d1f64f67851c87b5bbfef3", func := "cubby/cubbylaw10.RunAlgebra", spec := "runAlgebra", apart := false, narrowed := true }
def RunAlgebraUptoSaid : Prop := runAlgebraUptoRow.holds Try.pinned (OpenSpec.upto runAlgebraSpec)

/-- 'cubbylaw10.RunMemory', WHERE WHAT IT READS IS OF BULK AT MOST 1048576: true; the input reads as it did. -/
def runMemoryUptoRow : OpenClaim := { program := "ytjmgfpfdkfelhaa", sum := "f43006d6fd8e58e1ebe8f666735496fa969d5988b8d1f64f67851c87b5bbfef3", func := "cubby/cubbylaw10.RunMemory", spec := "runMemory", unfollowed := true, recurses := true, apart := false, narrowed := true }
def RunMemoryUptoSaid : Prop := runMemoryUptoRow.holds Try.pinned (OpenSpec.upto runMemorySpec)

/-- 'cubbylaw10.RunDeep', WHERE WHAT IT READS IS OF BULK AT MOST 1048576: true; the input reads as it did. -/
def runDeepUptoRow : OpenClaim := { program := "ytjmgfpfdkfelhaa", sum := "f43006d6fd8e58e1ebe8f666735496fa969d5988b8d1f64f67851c87b5bbfef3", func := "cubby/cubbylaw10.RunDeep", spec := "runDeep", unfollowed := true, recurses := true, apart := false, narrowed := true }
def RunDeepUptoSaid : Prop := runDeepUptoRow.holds Try.pinned (OpenSpec.upto runDeepSpec)

end Rows
end Go.Proofs.Ytjmgfpfdkfelhaa
