/- The pure law behind RunMemory: for every input that its bounds let in, the law's function answers true. Conditions: none. -/
import Derived.Test.YtjmgfpfdkfelhaaPRunMemoryx4
set_option linter.unusedVariables false
namespace Go.Proofs.Ytjmgfpfdkfelhaa.Pure
open Go.RowKit Go.Proofs.Ytjmgfpfdkfelhaa.PRunMemory Go.Proofs.YtjmgfpfdkfelhaaW.PrintWords Go.Proofs.YtjmgfpfdkfelhaaW.PrintLast

theorem wfu16 {x : Int} (h : (Lit.int .u16 x).wf = true) : 0 ≤ x ∧ x < 65536 := by
  simp [Lit.wf, IntKind.min, IntKind.max, IntKind.signed, IntKind.bits] at h
  omega
theorem RunMemory : cubbylaw10_RunMemory.Pure := by
  intro a v l ha hv hl
  unfold cubbylaw10_RunMemory.f
  refine if_pos ⟨wfu16 ha, wfu16 hv, ?_⟩
  have := hl.2.1
  omega

end Go.Proofs.Ytjmgfpfdkfelhaa.Pure
