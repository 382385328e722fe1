/- The pure law behind PackWrites: for every input that its bounds let in, the law's function answers true. Conditions: none. -/
import Derived.Test.YtmecbfadhacajaaPPackWritesx2
set_option linter.unusedVariables false
namespace Go.Proofs.Ytmecbfadhacajaa.Pure
open Go.RowKit Go.Proofs.Ytmecbfadhacajaa.PPackWrites Go.Proofs.YtmecbfadhacajaaW.PrintWords Go.Proofs.YtmecbfadhacajaaW.PrintLast

theorem PackWrites : cubbylaw02_PackWrites.Pure := by
  intro l0 h
  unfold cubbylaw02_PackWrites.f
  exact if_pos h.1

end Go.Proofs.Ytmecbfadhacajaa.Pure
