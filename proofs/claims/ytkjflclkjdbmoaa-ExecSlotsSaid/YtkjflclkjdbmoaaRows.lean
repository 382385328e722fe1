/-
  No cell of these rows narrows 'for every input' (looked for: loops, veiled, ifaces, maps, wideKeys, modest, calm, conditions, laid).
  DERIVED. THE GIVEN ROWS OF THIS SEAT. 3 by the template 'for every input the law returns true; each argument reads behind the call as it read before'; 0 by the template 'total and deterministic' (their statements: YtkjflclkjdbmoaaTotals.lean).
  GIVEN WITH THE SEED: the statements are not yours to turn. If you find one false, say at which input.
  Laid BY PROGRAM, IN A SANDBOX (cutbox-rows.mjs): the forced cells as the released guide's own fill.sh prints them over the translation efde66a89ddc7707… (all of the seat's roots in one cut). By AI agents, Wed Nov 11 2026. No macro, syntax, notation, axiom, sorry.
-/
import Derived.Test.YtkjflclkjdbmoaaChecked
import GoSem.Claim
import GoSem.ClaimJoined
import GoSem.ClaimMapViews
import Derived.JoinedTies
import Derived.KernelRfl
namespace Go.Proofs.Ytkjflclkjdbmoaa
/- THE CELL 'sum', in the pinned program and in every row, IS THE sha256 OF THE DUMP (.gsa) THAT YtkjflclkjdbmoaaProg.lean LOADS. Nothing in Lean hashes anything: it is a label: what it is worth is what the hold of that sum in a sandbox is worth. -/
noncomputable def Try.pinned : Pinned := { name := "ytkjflclkjdbmoaa", sum := "efde66a89ddc7707138cdb0e785d543a4c24099ba35a58c1a0289b58f1a6cd61", checked := Try.checked }
namespace Rows
def none {H : Type} : Left H := { results := [], args := [] }

/-- 'cubbylaw14.ExecSlots': WHATEVER THE INPUT: true; the input reads as it did. -/
def execSlotsSpec : ChangeSpec := { name := "execSlots", fn := fun _ => fun
  | [d1, d2] => { results := [.lit (.bool true)], args := [d1, d2] }
  | _ => none }
def execSlotsRow : OpenClaim := { program := "ytkjflclkjdbmoaa", sum := "efde66a89ddc7707138cdb0e785d543a4c24099ba35a58c1a0289b58f1a6cd61", func := "cubby/cubbylaw14.ExecSlots", spec := "execSlots", unfollowed := true, recurses := true, apart := false }
def ExecSlotsSaid : Prop := execSlotsRow.holds Try.pinned (OpenSpec.ofChange execSlotsSpec)

/-- ITS FALSE NEIGHBOUR: 'it returns false'. Refute it at one input. -/
def execSlotsWrong : ChangeSpec := { name := "execSlots", fn := fun _ => fun
  | [d1, d2] => { results := [.lit (.bool false)], args := [d1, d2] }
  | _ => none }
def ExecSlotsWrongFalsely : Prop := execSlotsRow.holds Try.pinned (OpenSpec.ofChange execSlotsWrong)

/-- 'cubbylaw14.ExecPoison': WHATEVER THE INPUT: true; the input reads as it did. -/
def execPoisonSpec : ChangeSpec := { name := "execPoison", fn := fun _ => fun
  | [d1, d2, d3, d4] => { results := [.lit (.bool true)], args := [d1, d2, d3, d4] }
  | _ => none }
def execPoisonRow : OpenClaim := { program := "ytkjflclkjdbmoaa", sum := "efde66a89ddc7707138cdb0e785d543a4c24099ba35a58c1a0289b58f1a6cd61", func := "cubby/cubbylaw14.ExecPoison", spec := "execPoison", unfollowed := true, recurses := true, apart := false }
def ExecPoisonSaid : Prop := execPoisonRow.holds Try.pinned (OpenSpec.ofChange execPoisonSpec)

/-- ITS FALSE NEIGHBOUR: 'it returns false'. Refute it at one input. -/
def execPoisonWrong : ChangeSpec := { name := "execPoison", fn := fun _ => fun
  | [d1, d2, d3, d4] => { results := [.lit (.bool false)], args := [d1, d2, d3, d4] }
  | _ => none }
def ExecPoisonWrongFalsely : Prop := execPoisonRow.holds Try.pinned (OpenSpec.ofChange execPoisonWrong)

/-- 'cubbylaw14.ExecFuncs': WHATEVER THE INPUT: true; the input reads as it did. -/
def execFuncsSpec : ChangeSpec := { name := "execFuncs", fn := fun _ => fun
  | [d1, d2, d3, d4] => { results := [.lit (.bool true)], args := [d1, d2, d3, d4] }
  | _ => none }
def execFuncsRow : OpenClaim := { program := "ytkjflclkjdbmoaa", sum := "efde66a89ddc7707138cdb0e785d543a4c24099ba35a58c1a0289b58f1a6cd61", func := "cubby/cubbylaw14.ExecFuncs", spec := "execFuncs", unfollowed := true, recurses := true, apart := false }
def ExecFuncsSaid : Prop := execFuncsRow.holds Try.pinned (OpenSpec.ofChange execFuncsSpec)

/-- ITS FALSE NEIGHBOUR: 'it returns false'. Refute it at one input. -/
def execFuncsWrong : ChangeSpec := { name := "execFuncs", fn := fun _ => fun
  | [d1, d2, d3, d4] => { results := [.lit (.bool false)], args := [d1, d2, d3, d4] }
  | _ => none }
def ExecFuncsWrongFalsely : Prop := execFuncsRow.holds Try.pinned (OpenSpec.ofChange execFuncsWrong)

/- THE SECOND FORM. 'bulk': how many values and letters a reading holds, each counted each time it is reached (what is shared counts as often as it is met; a slice's spare places count too). A statement '..UptoSaid' is the law's where the arguments, and the package variables that the reading takes, are together of bulk at most 1048576: NARROWER than '..Said'. Prove '..Said' where nothing that the law and all that it calls make is longer than what came in: it says more and counts as full. Else prove '..UptoSaid'. A law counts once. -/
mutual
def uptoBulk {H : Type} : DataW H → Nat
  | .lit (.string bytes) => bytes.length + 1
  | .lit _ => 1
  | .nil => 1
  | .ptr d => uptoBulk d + 1
  | .slice elems spare => uptoBulkAll elems + uptoBulkAll spare + 1
  | .agg parts => uptoBulkAll parts + 1
  | .iface _ d => uptoBulk d + 1
  | .map entries => uptoBulkEntries entries + 1
  | .held _ => 1
def uptoBulkAll {H : Type} : List (DataW H) → Nat
  | [] => 0
  | d :: r => uptoBulk d + uptoBulkAll r
def uptoBulkEntries {H : Type} : List (Lit × DataW H) → Nat
  | [] => 0
  | x :: r => uptoBulkEntry x + uptoBulkEntries r
def uptoBulkEntry {H : Type} : Lit × DataW H → Nat
  | (.string bytes, d) => bytes.length + uptoBulk d + 1
  | (_, d) => uptoBulk d + 1
 end
def uptoSmall : (H : Type) → List (DataW H) → Bool := fun _ ds => decide (uptoBulkAll ds ≤ 1048576)
def OpenSpec.upto (s : _root_.Go.ChangeSpec) : _root_.Go.OpenSpec := { _root_.Go.OpenSpec.ofChange s with cond := some uptoSmall }

/-- 'cubbylaw14.ExecSlots', WHERE WHAT IT READS IS OF BULK AT MOST 1048576: true; the input reads as it did. -/
def execSlotsUptoRow : OpenClaim := { program := "ytkjflclkjdbmoaa", sum := "efde66a89ddc7707138cdb0e785d543a4c24099ba35a58c1a0289b58f1a6cd61", func := "cubby/cubbylaw14.ExecSlots", spec := "execSlots", unfollowed := true, recurses := true, apart := false, narrowed := true }
def ExecSlotsUptoSaid : Prop := execSlotsUptoRow.holds Try.pinned (OpenSpec.upto execSlotsSpec)

/-- 'cubbylaw14.ExecPoison', WHERE WHAT IT READS IS OF BULK AT MOST 1048576: true; the input reads as it did. -/
def execPoisonUptoRow : OpenClaim := { program := "ytkjflclkjdbmoaa", sum := "efde66a89ddc7707138cdb0e785d543a4c24099ba35a58c1a0289b58f1a6cd61", func := "cubby/cubbylaw14.ExecPoison", spec := "execPoison", unfollowed := true, recurses := true, apart := false, narrowed := true }
def ExecPoisonUptoSaid : Prop := execPoisonUptoRow.holds Try.pinned (OpenSpec.upto execPoisonSpec)

/-- 'cubbylaw14.ExecFuncs', WHERE WHAT IT READS IS OF BULK AT MOST 1048576: true; the input reads as it did. -/
def execFuncsUptoRow : OpenClaim := { program := "ytkjflclkjdbmoaa", sum := "efde66a89ddc7707138cdb0e785d543a4c24099ba35a58c1a0289b58f1a6cd61", func := "cubby/cubbylaw14.ExecFuncs", spec := "execFuncs", unfollowed := true, recurses := true, apart := false, narrowed := true }
def ExecFuncsUptoSaid : Prop := execFuncsUptoRow.holds Try.pinned (OpenSpec.upto execFuncsSpec)

end Rows
end Go.Proofs.Ytkjflclkjdbmoaa
