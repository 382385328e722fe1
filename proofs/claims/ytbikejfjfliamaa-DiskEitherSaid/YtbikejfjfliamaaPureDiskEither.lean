/- The pure law behind DiskEither: for every input that its bounds let in, the law's function answers true. Conditions: none. -/
import Derived.Test.YtbikejfjfliamaaPDiskEitherx2
set_option linter.unusedVariables false
namespace Go.Proofs.Ytbikejfjfliamaa.Pure
open Go.RowKit Go.Proofs.Ytbikejfjfliamaa.PDiskEither Go.Proofs.YtbikejfjfliamaaW.PrintWords Go.Proofs.YtbikejfjfliamaaW.PrintLast

theorem wf64 {x : Int} (h : (Lit.int .i64 x).wf = true) : -9223372036854775808 ≤ x ∧ x < 9223372036854775808 := by
  simp [Lit.wf, IntKind.min, IntKind.max, IntKind.signed, IntKind.bits] at h
  omega
theorem wfu64 {x : Int} (h : (Lit.int .u64 x).wf = true) : 0 ≤ x ∧ x < 18446744073709551616 := by
  simp [Lit.wf, IntKind.min, IntKind.max, IntKind.signed, IntKind.bits] at h
  omega

theorem DiskEither : cubbylaw03_DiskEither.Pure := by
  intro l k hl hk
  unfold cubbylaw03_DiskEither.f
  refine if_pos ⟨?_, hl.2.2, wfu64 hk⟩
  have := hl.2.1
  omega

end Go.Proofs.Ytbikejfjfliamaa.Pure
