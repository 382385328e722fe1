/- The pure law behind DiskLasts: for every input that its bounds let in, the law's function answers true. Conditions: none. -/
import Derived.Test.YtbikejfjfliamaaPDiskLastsx4
set_option linter.unusedVariables false
namespace Go.Proofs.Ytbikejfjfliamaa.Pure
open Go.RowKit Go.Proofs.Ytbikejfjfliamaa.PDiskLasts Go.Proofs.YtbikejfjfliamaaW.PrintWords Go.Proofs.YtbikejfjfliamaaW.PrintLast

theorem wf64 {x : Int} (h : (Lit.int .i64 x).wf = true) : -9223372036854775808 ≤ x ∧ x < 9223372036854775808 := by
  simp [Lit.wf, IntKind.min, IntKind.max, IntKind.signed, IntKind.bits] at h
  omega
theorem wfu64 {x : Int} (h : (Lit.int .u64 x).wf = true) : 0 ≤ x ∧ x < 18446744073709551616 := by
  simp [Lit.wf, IntKind.min, IntKind.max, IntKind.signed, IntKind.bits] at h
  omega

theorem fits {l0 : List S44} (h : l0.length ≤ maxLen ∧ l0.length * 40 ≤ 140737488351232 ∧ ∀ x ∈ l0, ((Lit.int .i64 x.f0).wf = true ∧ (Lit.int .i64 x.f1).wf = true ∧ x.f2.size ≤ 140737488351232 ∧ (Lit.int .u64 x.f3).wf = true)) : l0.length ≤ maxLen ∧ ∀ x ∈ l0, x.f1 < 9223372036854775808 ∧ 0 ≤ x.f3 ∧ x.f3 < 18446744073709551616 := by
  refine ⟨h.1, fun x hx => ?_⟩
  obtain ⟨_, h1, _, h3⟩ := h.2.2 x hx
  exact ⟨(wf64 h1).2, (wfu64 h3).1, (wfu64 h3).2⟩
theorem DiskLasts : cubbylaw03_DiskLasts.Pure := by
  intro l0 l1 k h0 h1 hk
  unfold cubbylaw03_DiskLasts.f
  exact if_pos ⟨fits h0, fits h1, wfu64 hk⟩

end Go.Proofs.Ytbikejfjfliamaa.Pure
