/-
  No cell of these rows narrows 'for every input' (looked for: loops, veiled, ifaces, maps, wideKeys, modest, calm, conditions, laid).
  DERIVED. THE GIVEN ROWS OF THIS SEAT. 7 by the template 'for every input the law returns true; each argument reads behind the call as it read before'; 0 by the template 'total and deterministic' (their statements: YtjofkmeaofpbfaaTotals.lean).
  GIVEN WITH THE SEED: the statements are not yours to turn. If you find one false, say at which input.
  Laid BY PROGRAM, IN A SANDBOX (cutbox-rows.mjs): the forced cells as the released guide's own fill.sh prints them over the translation ba085ae54598948c… (all of the seat's roots in one cut). By AI agents, Wed Nov 11 2026. No macro, syntax, notation, axiom, sorry.
-/
import Derived.Test.YtjofkmeaofpbfaaChecked
import GoSem.Claim
import GoSem.ClaimJoined
import GoSem.ClaimMapViews
import Derived.JoinedTies
import Derived.KernelRfl
namespace Go.Proofs.Ytjofkmeaofpbfaa
/- THE CELL 'sum', in the pinned program and in every row, IS THE sha256 OF THE DUMP (.gsa) THAT YtjofkmeaofpbfaaProg.lean LOADS. Nothing in Lean hashes anything: it is a label: what it is worth is what the hold of that sum in a sandbox is worth. -/
noncomputable def Try.pinned : Pinned := { name := "ytjofkmeaofpbfaa", sum := "ba085ae54598948ce508af5523b0da066aaf84ea734ce52d701903fa88222406", checked := Try.checked }
namespace Rows
def none {H : Type} : Left H := { results := [], args := [] }

/-- 'cubbylaw15.MoveIns': WHATEVER THE INPUT: true; the input reads as it did. -/
def moveInsSpec : ChangeSpec := { name := "moveIns", fn := fun _ => fun
  | [d] => { results := [.lit (.bool true)], args := [d] }
  | _ => none }
def moveInsRow : OpenClaim := { program := "ytjofkmeaofpbfaa", sum := "ba085ae54598948ce508af5523b0da066aaf84ea734ce52d701903fa88222406", func := "cubby/cubbylaw15.MoveIns", spec := "moveIns", apart := false }
def MoveInsSaid : Prop := moveInsRow.holds Try.pinned (OpenSpec.ofChange moveInsSpec)

/-- ITS FALSE NEIGHBOUR: 'it returns false'. Refute it at one input. -/
def moveInsWrong : ChangeSpec := { name := "moveIns", fn := fun _ => fun
  | [d] => { results := [.lit (.bool false)], args := [d] }
  | _ => none }
def MoveInsWrongFalsely : Prop := moveInsRow.holds Try.pinned (OpenSpec.ofChange moveInsWrong)

/-- 'cubbylaw15.MoveShift': WHATEVER THE INPUT: true; the input reads as it did. -/
def moveShiftSpec : ChangeSpec := { name := "moveShift", fn := fun _ => fun
  | [d1, d2] => { results := [.lit (.bool true)], args := [d1, d2] }
  | _ => none }
def moveShiftRow : OpenClaim := { program := "ytjofkmeaofpbfaa", sum := "ba085ae54598948ce508af5523b0da066aaf84ea734ce52d701903fa88222406", func := "cubby/cubbylaw15.MoveShift", spec := "moveShift", unfollowed := true, recurses := true, apart := false }
def MoveShiftSaid : Prop := moveShiftRow.holds Try.pinned (OpenSpec.ofChange moveShiftSpec)

/-- ITS FALSE NEIGHBOUR: 'it returns false'. Refute it at one input. -/
def moveShiftWrong : ChangeSpec := { name := "moveShift", fn := fun _ => fun
  | [d1, d2] => { results := [.lit (.bool false)], args := [d1, d2] }
  | _ => none }
def MoveShiftWrongFalsely : Prop := moveShiftRow.holds Try.pinned (OpenSpec.ofChange moveShiftWrong)

/-- 'cubbylaw15.MoveSpread': WHATEVER THE INPUT: true; the input reads as it did. -/
def moveSpreadSpec : ChangeSpec := { name := "moveSpread", fn := fun _ => fun
  | [d1, d2] => { results := [.lit (.bool true)], args := [d1, d2] }
  | _ => none }
def moveSpreadRow : OpenClaim := { program := "ytjofkmeaofpbfaa", sum := "ba085ae54598948ce508af5523b0da066aaf84ea734ce52d701903fa88222406", func := "cubby/cubbylaw15.MoveSpread", spec := "moveSpread", unfollowed := true, recurses := true, apart := false }
def MoveSpreadSaid : Prop := moveSpreadRow.holds Try.pinned (OpenSpec.ofChange moveSpreadSpec)

/-- ITS FALSE NEIGHBOUR: 'it returns false'. Refute it at one input. -/
def moveSpreadWrong : ChangeSpec := { name := "moveSpread", fn := fun _ => fun
  | [d1, d2] => { results := [.lit (.bool false)], args := [d1, d2] }
  | _ => none }
def MoveSpreadWrongFalsely : Prop := moveSpreadRow.holds Try.pinned (OpenSpec.ofChange moveSpreadWrong)

/-- 'cubbylaw15.MoveOrders': WHATEVER THE INPUT: true; the input reads as it did. -/
def moveOrdersSpec : ChangeSpec := { name := "moveOrders", fn := fun _ => fun
  | [d1, d2] => { results := [.lit (.bool true)], args := [d1, d2] }
  | _ => none }
def moveOrdersRow : OpenClaim := { program := "ytjofkmeaofpbfaa", sum := "ba085ae54598948ce508af5523b0da066aaf84ea734ce52d701903fa88222406", func := "cubby/cubbylaw15.MoveOrders", spec := "moveOrders", unfollowed := true, recurses := true, apart := false }
def MoveOrdersSaid : Prop := moveOrdersRow.holds Try.pinned (OpenSpec.ofChange moveOrdersSpec)

/-- ITS FALSE NEIGHBOUR: 'it returns false'. Refute it at one input. -/
def moveOrdersWrong : ChangeSpec := { name := "moveOrders", fn := fun _ => fun
  | [d1, d2] => { results := [.lit (.bool false)], args := [d1, d2] }
  | _ => none }
def MoveOrdersWrongFalsely : Prop := moveOrdersRow.holds Try.pinned (OpenSpec.ofChange moveOrdersWrong)

/-- 'cubbylaw15.MoveDoes': WHATEVER THE INPUT: true; the input reads as it did. -/
def moveDoesSpec : ChangeSpec := { name := "moveDoes", fn := fun _ => fun
  | [d1, d2, d3] => { results := [.lit (.bool true)], args := [d1, d2, d3] }
  | _ => none }
def moveDoesRow : OpenClaim := { program := "ytjofkmeaofpbfaa", sum := "ba085ae54598948ce508af5523b0da066aaf84ea734ce52d701903fa88222406", func := "cubby/cubbylaw15.MoveDoes", spec := "moveDoes", unfollowed := true, recurses := true, apart := false }
def MoveDoesSaid : Prop := moveDoesRow.holds Try.pinned (OpenSpec.ofChange moveDoesSpec)

/-- ITS FALSE NEIGHBOUR: 'it returns false'. Refute it at one input. -/
def moveDoesWrong : ChangeSpec := { name := "moveDoes", fn := fun _ => fun
  | [d1, d2, d3] => { results := [.lit (.bool false)], args := [d1, d2, d3] }
  | _ => none }
def MoveDoesWrongFalsely : Prop := moveDoesRow.holds Try.pinned (OpenSpec.ofChange moveDoesWrong)

/-- 'cubbylaw15.MoveFew': WHATEVER THE INPUT: true; the input reads as it did. -/
def moveFewSpec : ChangeSpec := { name := "moveFew", fn := fun _ => fun
  | [d1, d2] => { results := [.lit (.bool true)], args := [d1, d2] }
  | _ => none }
def moveFewRow : OpenClaim := { program := "ytjofkmeaofpbfaa", sum := "ba085ae54598948ce508af5523b0da066aaf84ea734ce52d701903fa88222406", func := "cubby/cubbylaw15.MoveFew", spec := "moveFew", unfollowed := true, recurses := true, apart := false }
def MoveFewSaid : Prop := moveFewRow.holds Try.pinned (OpenSpec.ofChange moveFewSpec)

/-- ITS FALSE NEIGHBOUR: 'it returns false'. Refute it at one input. -/
def moveFewWrong : ChangeSpec := { name := "moveFew", fn := fun _ => fun
  | [d1, d2] => { results := [.lit (.bool false)], args := [d1, d2] }
  | _ => none }
def MoveFewWrongFalsely : Prop := moveFewRow.holds Try.pinned (OpenSpec.ofChange moveFewWrong)

/-- 'cubbylaw15.MoveRing': WHATEVER THE INPUT: true; the input reads as it did. -/
def moveRingSpec : ChangeSpec := { name := "moveRing", fn := fun _ => fun
  | [d1, d2] => { results := [.lit (.bool true)], args := [d1, d2] }
  | _ => none }
def moveRingRow : OpenClaim := { program := "ytjofkmeaofpbfaa", sum := "ba085ae54598948ce508af5523b0da066aaf84ea734ce52d701903fa88222406", func := "cubby/cubbylaw15.MoveRing", spec := "moveRing", unfollowed := true, recurses := true, apart := false }
def MoveRingSaid : Prop := moveRingRow.holds Try.pinned (OpenSpec.ofChange moveRingSpec)

/-- ITS FALSE NEIGHBOUR: 'it returns false'. Refute it at one input. -/
def moveRingWrong : ChangeSpec := { name := "moveRing", fn := fun _ => fun
  | [d1, d2] => { results := [.lit (.bool false)], args := [d1, d2] }
  | _ => none }
def MoveRingWrongFalsely : Prop := moveRingRow.holds Try.pinned (OpenSpec.ofChange moveRingWrong)

/- THE SECOND FORM. 'bulk': how many values and letters a reading holds, each counted each time it is reached (what is shared counts as often as it is met; a slice's spare places count too). A statement '..UptoSaid' is the law's where the arguments, and the package variables that the reading takes, are together of bulk at most 1048576: NARROWER than '..Said'. Prove '..Said' where nothing that the law and all that it calls make is longer than what came in: it says more and counts as full. Else prove '..UptoSaid'. A law counts once. -/
mutual
def uptoBulk {H : Type} : DataW H → Nat
  | .lit (.string bytes) => bytes.length + 1
  | .lit _ => 1
  | .nil => 1
  | .ptr d => uptoBulk d + 1
  | .slice elems spare => uptoBulkAll elems + uptoBulkAll spare + 1
  | .agg parts => uptoBulkAll parts + 1
  | .iface _ d => uptoBulk d + 1
  | .map entries => uptoBulkEntries entries + 1
  | .held _ => 1
def uptoBulkAll {H : Type} : List (DataW H) → Nat
  | [] => 0
  | d :: r => uptoBulk d + uptoBulkAll r
def uptoBulkEntries {H : Type} : List (Lit × DataW H) → Nat
  | [] => 0
  | x :: r => uptoBulkEntry x + uptoBulkEntries r
def uptoBulkEntry {H : Type} : Lit × DataW H → Nat
  | (.string bytes, d) => bytes.length + uptoBulk d + 1
  | (_, d) => uptoBulk d + 1
 end
def uptoSmall : (H : Type) → List (DataW H) → Bool := fun _ ds => decide (uptoBulkAll ds ≤ 1048576)
def OpenSpec.upto (s : _root_.Go.ChangeSpec) : _root_.Go.OpenSpec := { _root_.Go.OpenSpec.ofChange s with cond := some uptoSmall }

/-- 'cubbylaw15.MoveIns', WHERE WHAT IT READS IS OF BULK AT MOST 1048576: true; the input reads as it did. -/
def moveInsUptoRow : OpenClaim := { program := "ytjofkmeaofpbfaa", sum := "ba085ae54598948ce508af5523b0da066aaf84ea734ce52d701903fa88222406", func := "cubby/cubbylaw15.MoveIns", spec := "moveIns", apart := false, narrowed := true }
def MoveInsUptoSaid : Prop := moveInsUptoRow.holds Try.pinned (OpenSpec.upto moveInsSpec)

/-- 'cubbylaw15.MoveShift', WHERE WHAT IT READS IS OF BULK AT MOST 1048576: true; the input reads as it did. -/
def moveShiftUptoRow : OpenClaim := { program := "ytjofkmeaofpbfaa", sum := "ba085ae54598948ce508af5523b0da066aaf84ea734ce52d701903fa88222406", func := "cubby/cubbylaw15.MoveShift", spec := "moveShift", unfollowed := true, recurses := true, apart := false, narrowed := true }
def MoveShiftUptoSaid : Prop := moveShiftUptoRow.holds Try.pinned (OpenSpec.upto moveShiftSpec)

/-- 'cubbylaw15.MoveSpread', WHERE WHAT IT READS IS OF BULK AT MOST 1048576: true; the input reads as it did. -/
def moveSpreadUptoRow : OpenClaim := { program := "ytjofkmeaofpbfaa", sum := "ba085ae54598948ce508af5523b0da066aaf84ea734ce52d701903fa88222406", func := "cubby/cubbylaw15.MoveSpread", spec := "moveSpread", unfollowed := true, recurses := true, apart := false, narrowed := true }
def MoveSpreadUptoSaid : Prop := moveSpreadUptoRow.holds Try.pinned (OpenSpec.upto moveSpreadSpec)

/-- 'cubbylaw15.MoveOrders', WHERE WHAT IT READS IS OF BULK AT MOST 1048576: true; the input reads as it did. -/
def moveOrdersUptoRow : OpenClaim := { program := "ytjofkmeaofpbfaa", sum := "ba085ae54598948ce508af5523b0da066aaf84ea734ce52d701903fa88222406", func := "cubby/cubbylaw15.MoveOrders", spec := "moveOrders", unfollowed := true, recurses := true, apart := false, narrowed := true }
def MoveOrdersUptoSaid : Prop := moveOrdersUptoRow.holds Try.pinned (OpenSpec.upto moveOrdersSpec)

/-- 'cubbylaw15.MoveDoes', WHERE WHAT IT READS IS OF BULK AT MOST 1048576: true; the input reads as it did. -/
def moveDoesUptoRow : OpenClaim := { program := "ytjofkmeaofpbfaa", sum := "ba085ae54598948ce508af5523b0da066aaf84ea734ce52d701903fa88222406", func := "cubby/cubbylaw15.MoveDoes", spec := "moveDoes", unfollowed := true, recurses := true, apart := false, narrowed := true }
def MoveDoesUptoSaid : Prop := moveDoesUptoRow.holds Try.pinned (OpenSpec.upto moveDoesSpec)

/-- 'cubbylaw15.MoveFew', WHERE WHAT IT READS IS OF BULK AT MOST 1048576: true; the input reads as it did. -/
def moveFewUptoRow : OpenClaim := { program := "ytjofkmeaofpbfaa", sum := "ba085ae54598948ce508af5523b0da066aaf84ea734ce52d701903fa88222406", func := "cubby/cubbylaw15.MoveFew", spec := "moveFew", unfollowed := true, recurses := true, apart := false, narrowed := true }
def MoveFewUptoSaid : Prop := moveFewUptoRow.holds Try.pinned (OpenSpec.upto moveFewSpec)

/-- 'cubbylaw15.MoveRing', WHERE WHAT IT READS IS OF BULK AT MOST 1048576: true; the input reads as it did. -/
def moveRingUptoRow : OpenClaim := { program := "ytjofkmeaofpbfaa", sum := "ba085ae54598948ce508af5523b0da066aaf84ea734ce52d701903fa88222406", func := "cubby/cubbylaw15.MoveRing", spec := "moveRing", unfollowed := true, recurses := true, apart := false, narrowed := true }
def MoveRingUptoSaid : Prop := moveRingUptoRow.holds Try.pinned (OpenSpec.upto moveRingSpec)

end Rows
end Go.Proofs.Ytjofkmeaofpbfaa
