/-
  No cell of these rows narrows 'for every input' (looked for: loops, veiled, ifaces, maps, wideKeys, modest, calm, conditions, laid).
  DERIVED. THE GIVEN ROWS OF THIS SEAT. 4 by the template 'for every input the law returns true; each argument reads behind the call as it read before'; 0 by the template 'total and deterministic' (their statements: YtmecbfadhacajaaTotals.lean).
  GIVEN WITH THE SEED: the statements are not yours to turn. If you find one false, say at which input.
  Laid BY PROGRAM, IN A SANDBOX (cutbox-rows.mjs): the forced cells as the released guide's own fill.sh prints them over the translation 2eeca6668a610e42… (all of the seat's roots in one cut). By AI agents, Wed Nov 11 2026. No macro, syntax, notation, axiom, sorry.
-/
import Derived.Test.YtmecbfadhacajaaChecked
import GoSem.Claim
import GoSem.ClaimJoined
import GoSem.ClaimMapViews
import Derived.JoinedTies
import Derived.KernelRfl
namespace Go.Proofs.Ytmecbfadhacajaa
/- THE CELL 'sum', in the pinned program and in every row, IS THE sha256 OF THE DUMP (.gsa) THAT YtmecbfadhacajaaProg.lean LOADS. Nothing in Lean hashes anything: it is a label: what it is worth is what the hold of that sum in a sandbox is worth. -/
noncomputable def Try.pinned : Pinned := { name := "ytmecbfadhacajaa", sum := "2eeca6668a610e4250884e894e5cd32e9d9d73fb0b8efd0e2cc501e98a77d431", checked := Try.checked }
namespace Rows
def none {H : Type} : Left H := { results := [], args := [] }

/-- 'cubbylaw02.PackSorts': WHATEVER THE INPUT: true; the input reads as it did. -/
def packSortsSpec : ChangeSpec := { name := "packSorts", fn := fun _ => fun
  | [d1, d2] => { results := [.lit (.bool true)], args := [d1, d2] }
  | _ => none }
def packSortsRow : OpenClaim := { program := "ytmecbfadhacajaa", sum := "2eeca6668a610e4250884e894e5cd32e9d9d73fb0b8efd0e2cc501e98a77d431", func := "cubby/cubbylaw02.PackSorts", spec := "packSorts", inPlace := ["internal/abi.NoEscape"], apart := false }
def PackSortsSaid : Prop := packSortsRow.holds Try.pinned (OpenSpec.ofChange packSortsSpec)

/-- ITS FALSE NEIGHBOUR: 'it returns false'. Refute it at one input. -/
def packSortsWrong : ChangeSpec := { name := "packSorts", fn := fun _ => fun
  | [d1, d2] => { results := [.lit (.bool false)], args := [d1, d2] }
  | _ => none }
def PackSortsWrongFalsely : Prop := packSortsRow.holds Try.pinned (OpenSpec.ofChange packSortsWrong)

/-- 'cubbylaw02.PackWrites': WHATEVER THE INPUT: true; the input reads as it did. -/
def packWritesSpec : ChangeSpec := { name := "packWrites", fn := fun _ => fun
  | [d] => { results := [.lit (.bool true)], args := [d] }
  | _ => none }
def packWritesRow : OpenClaim := { program := "ytmecbfadhacajaa", sum := "2eeca6668a610e4250884e894e5cd32e9d9d73fb0b8efd0e2cc501e98a77d431", func := "cubby/cubbylaw02.PackWrites", spec := "packWrites", inPlace := ["internal/abi.NoEscape"], apart := false }
def PackWritesSaid : Prop := packWritesRow.holds Try.pinned (OpenSpec.ofChange packWritesSpec)

/-- ITS FALSE NEIGHBOUR: 'it returns false'. Refute it at one input. -/
def packWritesWrong : ChangeSpec := { name := "packWrites", fn := fun _ => fun
  | [d] => { results := [.lit (.bool false)], args := [d] }
  | _ => none }
def PackWritesWrongFalsely : Prop := packWritesRow.holds Try.pinned (OpenSpec.ofChange packWritesWrong)

/-- 'cubbylaw02.PackBack': WHATEVER THE INPUT: true; the input reads as it did. -/
def packBackSpec : ChangeSpec := { name := "packBack", fn := fun _ => fun
  | [d] => { results := [.lit (.bool true)], args := [d] }
  | _ => none }
def packBackRow : OpenClaim := { program := "ytmecbfadhacajaa", sum := "2eeca6668a610e4250884e894e5cd32e9d9d73fb0b8efd0e2cc501e98a77d431", func := "cubby/cubbylaw02.PackBack", spec := "packBack", inPlace := ["internal/abi.NoEscape"], unfollowed := true, recurses := true, apart := false }
def PackBackSaid : Prop := packBackRow.holds Try.pinned (OpenSpec.ofChange packBackSpec)

/-- ITS FALSE NEIGHBOUR: 'it returns false'. Refute it at one input. -/
def packBackWrong : ChangeSpec := { name := "packBack", fn := fun _ => fun
  | [d] => { results := [.lit (.bool false)], args := [d] }
  | _ => none }
def PackBackWrongFalsely : Prop := packBackRow.holds Try.pinned (OpenSpec.ofChange packBackWrong)

/-- 'cubbylaw02.PackCut': WHATEVER THE INPUT: true; the input reads as it did. -/
def packCutSpec : ChangeSpec := { name := "packCut", fn := fun _ => fun
  | [d1, d2] => { results := [.lit (.bool true)], args := [d1, d2] }
  | _ => none }
def packCutRow : OpenClaim := { program := "ytmecbfadhacajaa", sum := "2eeca6668a610e4250884e894e5cd32e9d9d73fb0b8efd0e2cc501e98a77d431", func := "cubby/cubbylaw02.PackCut", spec := "packCut", inPlace := ["internal/abi.NoEscape"], unfollowed := true, recurses := true, apart := false }
def PackCutSaid : Prop := packCutRow.holds Try.pinned (OpenSpec.ofChange packCutSpec)

/-- ITS FALSE NEIGHBOUR: 'it returns false'. Refute it at one input. -/
def packCutWrong : ChangeSpec := { name := "packCut", fn := fun _ => fun
  | [d1, d2] => { results := [.lit (.bool false)], args := [d1, d2] }
  | _ => none }
def PackCutWrongFalsely : Prop := packCutRow.holds Try.pinned (OpenSpec.ofChange packCutWrong)

/- THE SECOND FORM. 'bulk': how many values and letters a reading holds, each counted each time it is reached (what is shared counts as often as it is met; a slice's spare places count too). A statement '..UptoSaid' is the law's where the arguments, and the package variables that the reading takes, are together of bulk at most 1048576: NARROWER than '..Said'. Prove '..Said' where nothing that the law and all that it calls make is longer than what came in: it says more and counts as full. Else prove '..UptoSaid'. A law counts once. -/
mutual
def uptoBulk {H : Type} : DataW H → Nat
  | .lit (.string bytes) => bytes.length + 1
  | .lit _ => 1
  | .nil => 1
  | .ptr d => uptoBulk d + 1
  | .slice elems spare => uptoBulkAll elems + uptoBulkAll spare + 1
  | .agg parts => uptoBulkAll parts + 1
  | .iface _ d => uptoBulk d + 1
  | .map entries => uptoBulkEntries entries + 1
  | .held _ => 1
def uptoBulkAll {H : Type} : List (DataW H) → Nat
  | [] => 0
  | d :: r => uptoBulk d + uptoBulkAll r
def uptoBulkEntries {H : Type} : List (Lit × DataW H) → Nat
  | [] => 0
  | x :: r => uptoBulkEntry x + uptoBulkEntries r
def uptoBulkEntry {H : Type} : Lit × DataW H → Nat
  | (.string bytes, d) => bytes.length + uptoBulk d + 1
  | (_, d) => uptoBulk d + 1
 end
def uptoSmall : (H : Type) → List (DataW H) → Bool := fun _ ds => decide (uptoBulkAll ds ≤ 1048576)
def OpenSpec.upto (s : _root_.Go.ChangeSpec) : _root_.Go.OpenSpec := { _root_.Go.OpenSpec.ofChange s with cond := some uptoSmall }

/-- 'cubbylaw02.PackSorts', WHERE WHAT IT READS IS OF BULK AT MOST 1048576: true; the input reads as it did. -/
def packSortsUptoRow : OpenClaim := { program := "ytmecbfadhacajaa", sum := "2eeca6668a610e4250884e894e5cd32e9d9d73fb0b8efd0e2cc501e98a77d431", func := "cubby/cubbylaw02.PackSorts", spec := "packSorts", inPlace := ["internal/abi.NoEscape"], apart := false, narrowed := true }
def PackSortsUptoSaid : Prop := packSortsUptoRow.holds Try.pinned (OpenSpec.upto packSortsSpec)

/-- 'cubbylaw02.PackWrites', WHERE WHAT IT READS IS OF BULK AT MOST 1048576: true; the input reads as it did. -/
def packWritesUptoRow : OpenClaim := { program := "ytmecbfadhacajaa", sum := "2eeca6668a610e4250884e894e5cd32e9d9d73fb0b8efd0e2cc501e98a77d431", func := "cubby/cubbylaw02.PackWrites", spec := "packWrites", inPlace := ["internal/abi.NoEscape"], apart := false, narrowed := true }
def PackWritesUptoSaid : Prop := packWritesUptoRow.holds Try.pinned (OpenSpec.upto packWritesSpec)

/-- 'cubbylaw02.PackBack', WHERE WHAT IT READS IS OF BULK AT MOST 1048576: true; the input reads as it did. -/
def packBackUptoRow : OpenClaim := { program := "ytmecbfadhacajaa", sum := "2eeca6668a610e4250884e894e5cd32e9d9d73fb0b8efd0e2cc501e98a77d431", func := "cubby/cubbylaw02.PackBack", spec := "packBack", inPlace := ["internal/abi.NoEscape"], unfollowed := true, recurses := true, apart := false, narrowed := true }
def PackBackUptoSaid : Prop := packBackUptoRow.holds Try.pinned (OpenSpec.upto packBackSpec)

/-- 'cubbylaw02.PackCut', WHERE WHAT IT READS IS OF BULK AT MOST 1048576: true; the input reads as it did. -/
def packCutUptoRow : OpenClaim := { program := "ytmecbfadhacajaa", sum := "2eeca6668a610e4250884e894e5cd32e9d9d73fb0b8efd0e2cc501e98a77d431", func := "cubby/cubbylaw02.PackCut", spec := "packCut", inPlace := ["internal/abi.NoEscape"], unfollowed := true, recurses := true, apart := false, narrowed := true }
def PackCutUptoSaid : Prop := packCutUptoRow.holds Try.pinned (OpenSpec.upto packCutSpec)

end Rows
end Go.Proofs.Ytmecbfadhacajaa
