/- The pure law behind RunDeep: for every input that its bounds let in, the law's function answers true. Conditions: none. -/
import Derived.Test.YtjmgfpfdkfelhaaPRunDeepx4
set_option linter.unusedVariables false
namespace Go.Proofs.Ytjmgfpfdkfelhaa.Pure
open Go.RowKit Go.Proofs.Ytjmgfpfdkfelhaa.PRunDeep Go.Proofs.YtjmgfpfdkfelhaaW.PrintWords Go.Proofs.YtjmgfpfdkfelhaaW.PrintLast

theorem wfu16 {x : Int} (h : (Lit.int .u16 x).wf = true) : 0 ≤ x ∧ x < 65536 := by
  simp [Lit.wf, IntKind.min, IntKind.max, IntKind.signed, IntKind.bits] at h
  omega
theorem wfu8 {x : Int} (h : (Lit.int .u8 x).wf = true) : 0 ≤ x ∧ x < 256 := by
  simp [Lit.wf, IntKind.min, IntKind.max, IntKind.signed, IntKind.bits] at h
  omega
theorem RunDeep : cubbylaw10_RunDeep.Pure := by
  intro a v ha hv
  unfold cubbylaw10_RunDeep.f
  exact if_pos ⟨wfu8 ha, wfu16 hv⟩

end Go.Proofs.Ytjmgfpfdkfelhaa.Pure
