/- The pure law behind DiskCalls: for every input that its bounds let in, the law's function answers true. Conditions: none. -/
import Derived.Test.YtbikejfjfliamaaPDiskCallsx4
set_option linter.unusedVariables false
namespace Go.Proofs.Ytbikejfjfliamaa.Pure
open Go.RowKit Go.Proofs.Ytbikejfjfliamaa.PDiskCalls Go.Proofs.YtbikejfjfliamaaW.PrintWords Go.Proofs.YtbikejfjfliamaaW.PrintLast

theorem wf64 {x : Int} (h : (Lit.int .i64 x).wf = true) : -9223372036854775808 ≤ x ∧ x < 9223372036854775808 := by
  simp [Lit.wf, IntKind.min, IntKind.max, IntKind.signed, IntKind.bits] at h
  omega
theorem wfu64 {x : Int} (h : (Lit.int .u64 x).wf = true) : 0 ≤ x ∧ x < 18446744073709551616 := by
  simp [Lit.wf, IntKind.min, IntKind.max, IntKind.signed, IntKind.bits] at h
  omega

theorem wf8 {x : Int} (h : (Lit.int .u8 x).wf = true) : 0 ≤ x ∧ x < 256 := by
  simp [Lit.wf, IntKind.min, IntKind.max, IntKind.signed, IntKind.bits] at h
  omega
theorem DiskCalls : cubbylaw03_DiskCalls.Pure := by
  intro n b k hn hb hk
  unfold cubbylaw03_DiskCalls.f
  exact if_pos ⟨wf8 hn, wf8 hb, wfu64 hk⟩

end Go.Proofs.Ytbikejfjfliamaa.Pure
