/- The pure law behind ExecSlots: for every input that its bounds let in, the law's function answers true. Conditions: none. -/
import Derived.Test.YtkjflclkjdbmoaaPExecSlotsx8
set_option linter.unusedVariables false
namespace Go.Proofs.Ytkjflclkjdbmoaa.Pure
open Go.RowKit Go.Proofs.Ytkjflclkjdbmoaa.PExecSlots Go.Proofs.YtkjflclkjdbmoaaW.PrintWords Go.Proofs.YtkjflclkjdbmoaaW.PrintLast

theorem wfu16 {x : Int} (h : (Lit.int .u16 x).wf = true) : 0 ≤ x ∧ x < 65536 := by
  simp [Lit.wf, IntKind.min, IntKind.max, IntKind.signed, IntKind.bits] at h
  omega
theorem wfu8 {x : Int} (h : (Lit.int .u8 x).wf = true) : 0 ≤ x ∧ x < 256 := by
  simp [Lit.wf, IntKind.min, IntKind.max, IntKind.signed, IntKind.bits] at h
  omega

theorem ExecSlots : cubbylaw14_ExecSlots.Pure := by
  intro l0 l1 h0 h1
  unfold cubbylaw14_ExecSlots.f
  exact if_pos ⟨fun x hx => wfu16 (h0.2.2 x hx), fun x hx => wfu8 (h1.2.2 x hx)⟩

end Go.Proofs.Ytkjflclkjdbmoaa.Pure
