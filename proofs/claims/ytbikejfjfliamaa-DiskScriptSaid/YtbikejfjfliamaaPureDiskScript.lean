/- The pure law behind DiskScript: for every input that its bounds let in, the law's function answers true. Conditions: none. -/
import Derived.Test.YtbikejfjfliamaaPDiskScriptx5
set_option linter.unusedVariables false
namespace Go.Proofs.Ytbikejfjfliamaa.Pure
open Go.RowKit Go.Proofs.Ytbikejfjfliamaa.PDiskScript Go.Proofs.YtbikejfjfliamaaW.PrintWords Go.Proofs.YtbikejfjfliamaaW.PrintLast

theorem wf64 {x : Int} (h : (Lit.int .i64 x).wf = true) : -9223372036854775808 ≤ x ∧ x < 9223372036854775808 := by
  simp [Lit.wf, IntKind.min, IntKind.max, IntKind.signed, IntKind.bits] at h
  omega
theorem wfu64 {x : Int} (h : (Lit.int .u64 x).wf = true) : 0 ≤ x ∧ x < 18446744073709551616 := by
  simp [Lit.wf, IntKind.min, IntKind.max, IntKind.signed, IntKind.bits] at h
  omega

theorem DiskScript : cubbylaw03_DiskScript.Pure := by
  intro l0 h
  unfold cubbylaw03_DiskScript.f
  refine if_pos ⟨h.1, fun x hx => ?_⟩
  obtain ⟨_, h1, _, h3⟩ := h.2.2 x hx
  exact ⟨(wf64 h1).2, (wfu64 h3).1, (wfu64 h3).2⟩

end Go.Proofs.Ytbikejfjfliamaa.Pure
