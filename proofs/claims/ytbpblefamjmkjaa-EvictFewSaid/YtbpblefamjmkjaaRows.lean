/-
  No cell of these rows narrows 'for every input' (looked for: loops, veiled, ifaces, maps, wideKeys, modest, calm, conditions, laid).
  DERIVED. THE GIVEN ROWS OF THIS SEAT. 5 by the template 'for every input the law returns true; each argument reads behind the call as it read before'; 0 by the template 'total and deterministic' (their statements: YtbpblefamjmkjaaTotals.lean).
  GIVEN WITH THE SEED: the statements are not yours to turn. If you find one false, say at which input.
  Laid BY PROGRAM, IN A SANDBOX (cutbox-rows.mjs): the forced cells as the released guide's own fill.sh prints them over the translation fca37fecc18903c7… (all of the seat's roots in one cut). By AI agents, Wed Nov 11 2026. No macro, syntax, notation, axiom, sorry.
-/
import Derived.Test.YtbpblefamjmkjaaChecked
import GoSem.Claim
import GoSem.ClaimJoined
import GoSem.ClaimMapViews
import Derived.JoinedTies
import Derived.KernelRfl
namespace Go.Proofs.Ytbpblefamjmkjaa
/- THE CELL 'sum', in the pinned program and in every row, IS THE sha256 OF THE DUMP (.gsa) THAT YtbpblefamjmkjaaProg.lean LOADS. Nothing in Lean hashes anything: it is a label: what it is worth is what the hold of that sum in a sandbox is worth. -/
noncomputable def Try.pinned : Pinned := { name := "ytbpblefamjmkjaa", sum := "fca37fecc18903c7dd6b62afb817273e3119aee18f9c42fdeb5557ad165ad45a", checked := Try.checked }
namespace Rows
def none {H : Type} : Left H := { results := [], args := [] }

/-- 'cubbylaw20.EvictTouches': WHATEVER THE INPUT: true; the input reads as it did. -/
def evictTouchesSpec : ChangeSpec := { name := "evictTouches", fn := fun _ => fun
  | [d1, d2] => { results := [.lit (.bool true)], args := [d1, d2] }
  | _ => none }
def evictTouchesRow : OpenClaim := { program := "ytbpblefamjmkjaa", sum := "fca37fecc18903c7dd6b62afb817273e3119aee18f9c42fdeb5557ad165ad45a", func := "cubby/cubbylaw20.EvictTouches", spec := "evictTouches", apart := false }
def EvictTouchesSaid : Prop := evictTouchesRow.holds Try.pinned (OpenSpec.ofChange evictTouchesSpec)

/-- ITS FALSE NEIGHBOUR: 'it returns false'. Refute it at one input. -/
def evictTouchesWrong : ChangeSpec := { name := "evictTouches", fn := fun _ => fun
  | [d1, d2] => { results := [.lit (.bool false)], args := [d1, d2] }
  | _ => none }
def EvictTouchesWrongFalsely : Prop := evictTouchesRow.holds Try.pinned (OpenSpec.ofChange evictTouchesWrong)

/-- 'cubbylaw20.EvictPins': WHATEVER THE INPUT: true; the input reads as it did. -/
def evictPinsSpec : ChangeSpec := { name := "evictPins", fn := fun _ => fun
  | [d1, d2, d3] => { results := [.lit (.bool true)], args := [d1, d2, d3] }
  | _ => none }
def evictPinsRow : OpenClaim := { program := "ytbpblefamjmkjaa", sum := "fca37fecc18903c7dd6b62afb817273e3119aee18f9c42fdeb5557ad165ad45a", func := "cubby/cubbylaw20.EvictPins", spec := "evictPins", unfollowed := true, recurses := true, apart := false }
def EvictPinsSaid : Prop := evictPinsRow.holds Try.pinned (OpenSpec.ofChange evictPinsSpec)

/-- ITS FALSE NEIGHBOUR: 'it returns false'. Refute it at one input. -/
def evictPinsWrong : ChangeSpec := { name := "evictPins", fn := fun _ => fun
  | [d1, d2, d3] => { results := [.lit (.bool false)], args := [d1, d2, d3] }
  | _ => none }
def EvictPinsWrongFalsely : Prop := evictPinsRow.holds Try.pinned (OpenSpec.ofChange evictPinsWrong)

/-- 'cubbylaw20.EvictVictims': WHATEVER THE INPUT: true; the input reads as it did. -/
def evictVictimsSpec : ChangeSpec := { name := "evictVictims", fn := fun _ => fun
  | [d1, d2, d3] => { results := [.lit (.bool true)], args := [d1, d2, d3] }
  | _ => none }
def evictVictimsRow : OpenClaim := { program := "ytbpblefamjmkjaa", sum := "fca37fecc18903c7dd6b62afb817273e3119aee18f9c42fdeb5557ad165ad45a", func := "cubby/cubbylaw20.EvictVictims", spec := "evictVictims", unfollowed := true, recurses := true, apart := false }
def EvictVictimsSaid : Prop := evictVictimsRow.holds Try.pinned (OpenSpec.ofChange evictVictimsSpec)

/-- ITS FALSE NEIGHBOUR: 'it returns false'. Refute it at one input. -/
def evictVictimsWrong : ChangeSpec := { name := "evictVictims", fn := fun _ => fun
  | [d1, d2, d3] => { results := [.lit (.bool false)], args := [d1, d2, d3] }
  | _ => none }
def EvictVictimsWrongFalsely : Prop := evictVictimsRow.holds Try.pinned (OpenSpec.ofChange evictVictimsWrong)

/-- 'cubbylaw20.EvictFew': WHATEVER THE INPUT: true; the input reads as it did. -/
def evictFewSpec : ChangeSpec := { name := "evictFew", fn := fun _ => fun
  | [d1, d2, d3, d4] => { results := [.lit (.bool true)], args := [d1, d2, d3, d4] }
  | _ => none }
def evictFewRow : OpenClaim := { program := "ytbpblefamjmkjaa", sum := "fca37fecc18903c7dd6b62afb817273e3119aee18f9c42fdeb5557ad165ad45a", func := "cubby/cubbylaw20.EvictFew", spec := "evictFew", unfollowed := true, recurses := true, apart := false }
def EvictFewSaid : Prop := evictFewRow.holds Try.pinned (OpenSpec.ofChange evictFewSpec)

/-- ITS FALSE NEIGHBOUR: 'it returns false'. Refute it at one input. -/
def evictFewWrong : ChangeSpec := { name := "evictFew", fn := fun _ => fun
  | [d1, d2, d3, d4] => { results := [.lit (.bool false)], args := [d1, d2, d3, d4] }
  | _ => none }
def EvictFewWrongFalsely : Prop := evictFewRow.holds Try.pinned (OpenSpec.ofChange evictFewWrong)

/-- 'cubbylaw20.EvictLast': WHATEVER THE INPUT: true; the input reads as it did. -/
def evictLastSpec : ChangeSpec := { name := "evictLast", fn := fun _ => fun
  | [d1, d2] => { results := [.lit (.bool true)], args := [d1, d2] }
  | _ => none }
def evictLastRow : OpenClaim := { program := "ytbpblefamjmkjaa", sum := "fca37fecc18903c7dd6b62afb817273e3119aee18f9c42fdeb5557ad165ad45a", func := "cubby/cubbylaw20.EvictLast", spec := "evictLast", unfollowed := true, recurses := true, apart := false }
def EvictLastSaid : Prop := evictLastRow.holds Try.pinned (OpenSpec.ofChange evictLastSpec)

/-- ITS FALSE NEIGHBOUR: 'it returns false'. Refute it at one input. -/
def evictLastWrong : ChangeSpec := { name := "evictLast", fn := fun _ => fun
  | [d1, d2] => { results := [.lit (.bool false)], args := [d1, d2] }
  | _ => none }
def EvictLastWrongFalsely : Prop := evictLastRow.holds Try.pinned (OpenSpec.ofChange evictLastWrong)

/- THE SECOND FORM. 'bulk': how many values and letters a reading holds, each counted each time it is reached (what is shared counts as often as it is met; a slice's spare places count too). A statement '..UptoSaid' is the law's where the arguments, and the package variables that the reading takes, are together of bulk at most 1048576: NARROWER than '..Said'. Prove '..Said' where nothing that the law and all that it calls make is longer than what came in: it says more and counts as full. Else prove '..UptoSaid'. A law counts once. -/
mutual
def uptoBulk {H : Type} : DataW H → Nat
  | .lit (.string bytes) => bytes.length + 1
  | .lit _ => 1
  | .nil => 1
  | .ptr d => uptoBulk d + 1
  | .slice elems spare => uptoBulkAll elems + uptoBulkAll spare + 1
  | .agg parts => uptoBulkAll parts + 1
  | .iface _ d => uptoBulk d + 1
  | .map entries => uptoBulkEntries entries + 1
  | .held _ => 1
def uptoBulkAll {H : Type} : List (DataW H) → Nat
  | [] => 0
  | d :: r => uptoBulk d + uptoBulkAll r
def uptoBulkEntries {H : Type} : List (Lit × DataW H) → Nat
  | [] => 0
  | x :: r => uptoBulkEntry x + uptoBulkEntries r
def uptoBulkEntry {H : Type} : Lit × DataW H → Nat
  | (.string bytes, d) => bytes.length + uptoBulk d + 1
  | (_, d) => uptoBulk d + 1
 end
def uptoSmall : (H : Type) → List (DataW H) → Bool := fun _ ds => decide (uptoBulkAll ds ≤ 1048576)
def OpenSpec.upto (s : _root_.Go.ChangeSpec) : _root_.Go.OpenSpec := { _root_.Go.OpenSpec.ofChange s with cond := some uptoSmall }

/-- 'cubbylaw20.EvictTouches', WHERE WHAT IT READS IS OF BULK AT MOST 1048576: true; the input reads as it did. -/
def evictTouchesUptoRow : OpenClaim := { program := "ytbpblefamjmkjaa", sum := "fca37fecc18903c7dd6b62afb817273e3119aee18f9c42fdeb5557ad165ad45a", func := "cubby/cubbylaw20.EvictTouches", spec := "evictTouches", apart := false, narrowed := true }
def EvictTouchesUptoSaid : Prop := evictTouchesUptoRow.holds Try.pinned (OpenSpec.upto evictTouchesSpec)

/-- 'cubbylaw20.EvictPins', WHERE WHAT IT READS IS OF BULK AT MOST 1048576: true; the input reads as it did. -/
def evictPinsUptoRow : OpenClaim := { program := "ytbpblefamjmkjaa", sum := "fca37fecc18903c7dd6b62afb817273e3119aee18f9c42fdeb5557ad165ad45a", func := "cubby/cubbylaw20.EvictPins", spec := "evictPins", unfollowed := true, recurses := true, apart := false, narrowed := true }
def EvictPinsUptoSaid : Prop := evictPinsUptoRow.holds Try.pinned (OpenSpec.upto evictPinsSpec)

/-- 'cubbylaw20.EvictVictims', WHERE WHAT IT READS IS OF BULK AT MOST 1048576: true; the input reads as it did. -/
def evictVictimsUptoRow : OpenClaim := { program := "ytbpblefamjmkjaa", sum := "fca37fecc18903c7dd6b62afb817273e3119aee18f9c42fdeb5557ad165ad45a", func := "cubby/cubbylaw20.EvictVictims", spec := "evictVictims", unfollowed := true, recurses := true, apart := false, narrowed := true }
def EvictVictimsUptoSaid : Prop := evictVictimsUptoRow.holds Try.pinned (OpenSpec.upto evictVictimsSpec)

/-- 'cubbylaw20.EvictFew', WHERE WHAT IT READS IS OF BULK AT MOST 1048576: true; the input reads as it did. -/
def evictFewUptoRow : OpenClaim := { program := "ytbpblefamjmkjaa", sum := "fca37fecc18903c7dd6b62afb817273e3119aee18f9c42fdeb5557ad165ad45a", func := "cubby/cubbylaw20.EvictFew", spec := "evictFew", unfollowed := true, recurses := true, apart := false, narrowed := true }
def EvictFewUptoSaid : Prop := evictFewUptoRow.holds Try.pinned (OpenSpec.upto evictFewSpec)

/-- 'cubbylaw20.EvictLast', WHERE WHAT IT READS IS OF BULK AT MOST 1048576: true; the input reads as it did. -/
def evictLastUptoRow : OpenClaim := { program := "ytbpblefamjmkjaa", sum := "fca37fecc18903c7dd6b62afb817273e3119aee18f9c42fdeb5557ad165ad45a", func := "cubby/cubbylaw20.EvictLast", spec := "evictLast", unfollowed := true, recurses := true, apart := false, narrowed := true }
def EvictLastUptoSaid : Prop := evictLastUptoRow.holds Try.pinned (OpenSpec.upto evictLastSpec)

end Rows
end Go.Proofs.Ytbpblefamjmkjaa
