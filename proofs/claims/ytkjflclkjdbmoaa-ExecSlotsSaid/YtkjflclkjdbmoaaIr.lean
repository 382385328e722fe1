/- What cubbyref07 says of instructions, in plain words; by hand. A library; conditions: none. -/
import Derived.Test.YtkjflclkjdbmoaaRn
set_option linter.unusedVariables false
namespace Go.Proofs.Ytkjflclkjdbmoaa
open Go.RowKit Go.Proofs.YtkjflclkjdbmoaaW.PrintWords Go.Proofs.YtkjflclkjdbmoaaW.PrintLast Go.Proofs.YtkjflclkjdbmoaaW
def Ir.last (op : Int) : Bool := decide (op = 12 ∨ op = 13 ∨ op = 14)
def Ir.df (op d : Int) : Int := if op = 1 ∨ op = 2 ∨ op = 8 ∨ op = 3 ∨ op = 4 ∨ op = 5 ∨ op = 6 ∨ op = 7 ∨ op = 11 then d else -1
def Ir.uses (op a b : Int) (args : List Int) : List Int := if op = 2 ∨ op = 8 ∨ op = 10 ∨ op = 14 ∨ op = 13 then [a] else if op = 3 ∨ op = 4 ∨ op = 5 ∨ op = 6 ∨ op = 7 ∨ op = 9 then [a, b] else if op = 11 then args else []
def Ir.targets (op d a b : Int) : List Int := if op = 12 then [a] else if op = 13 then [b, d] else []
def Ir.bare (op d a b : Int) (nm : ByteArray) (args : List Int) : Bool :=
  if ¬ op = 11 ∧ (¬ nm = ⟨#[]⟩ ∨ 0 < args.length) then false
  else if op = 1 ∨ op = 2 ∨ op = 8 then decide (b = 0)
  else if op = 3 ∨ op = 4 ∨ op = 5 ∨ op = 6 ∨ op = 7 ∨ op = 13 then true
  else if op = 9 then decide (d = 0)
  else if op = 10 ∨ op = 14 ∨ op = 12 then decide (d = 0 ∧ b = 0)
  else if op = 11 then decide (a = 0 ∧ b = 0) else false
def Ir.within (l : List Int) (m : Int) : Bool := l.all (fun x => decide (0 ≤ x ∧ x < m))
theorem Ir.ops (op : Int) (h1 : 1 ≤ op) (h2 : op ≤ 14) : op = 1 ∨ op = 2 ∨ op = 3 ∨ op = 4 ∨ op = 5 ∨ op = 6 ∨ op = 7 ∨ op = 8 ∨ op = 9 ∨ op = 10 ∨ op = 11 ∨ op = 12 ∨ op = 13 ∨ op = 14 := by omega
end Go.Proofs.Ytkjflclkjdbmoaa
