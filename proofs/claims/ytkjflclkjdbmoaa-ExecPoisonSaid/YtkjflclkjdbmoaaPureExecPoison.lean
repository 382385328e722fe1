/- The pure law behind ExecPoison: for every input that its bounds let in, the law's function answers true. Conditions: none. -/
import Derived.Test.YtkjflclkjdbmoaaPExecPoisonx5
set_option linter.unusedVariables false
namespace Go.Proofs.Ytkjflclkjdbmoaa.Pure
open Go.RowKit Go.Proofs.Ytkjflclkjdbmoaa.PExecPoison Go.Proofs.YtkjflclkjdbmoaaW.PrintWords Go.Proofs.YtkjflclkjdbmoaaW.PrintLast

theorem wfu16 {x : Int} (h : (Lit.int .u16 x).wf = true) : 0 ≤ x ∧ x < 65536 := by
  simp [Lit.wf, IntKind.min, IntKind.max, IntKind.signed, IntKind.bits] at h
  omega
theorem wfu8 {x : Int} (h : (Lit.int .u8 x).wf = true) : 0 ≤ x ∧ x < 256 := by
  simp [Lit.wf, IntKind.min, IntKind.max, IntKind.signed, IntKind.bits] at h
  omega

theorem ExecPoison : cubbylaw14_ExecPoison.Pure := by
  intro v r s u hv hr hs hu
  unfold cubbylaw14_ExecPoison.f
  exact if_pos ⟨wfu16 hv, wfu8 hr, wfu8 hs, wfu16 hu⟩

end Go.Proofs.Ytkjflclkjdbmoaa.Pure
