/- The pure law behind LogRoom: for every input that its bounds let in, the law's function answers true. Conditions: none. -/
import Derived.Test.YtfdccgpbdcdgmaaPLogRoomx11
set_option linter.unusedVariables false
namespace Go.Proofs.Ytfdccgpbdcdgmaa.Pure
open Go.RowKit Go.Proofs.Ytfdccgpbdcdgmaa.PLogRoom Go.Proofs.YtfdccgpbdcdgmaaW.PrintWords Go.Proofs.YtfdccgpbdcdgmaaW.PrintLast

theorem wfu16 {x : Int} (h : (Lit.int .u16 x).wf = true) : 0 ≤ x ∧ x < 65536 := by
  simp [Lit.wf, IntKind.min, IntKind.max, IntKind.signed, IntKind.bits] at h
  omega
theorem wfu8 {x : Int} (h : (Lit.int .u8 x).wf = true) : 0 ≤ x ∧ x < 256 := by
  simp [Lit.wf, IntKind.min, IntKind.max, IntKind.signed, IntKind.bits] at h
  omega

theorem LogRoom : cubbylaw05_LogRoom.Pure := by
  intro l0 h0
  unfold cubbylaw05_LogRoom.f
  exact if_pos (fun x hx => wfu16 (h0.2.2 x hx))

end Go.Proofs.Ytfdccgpbdcdgmaa.Pure
