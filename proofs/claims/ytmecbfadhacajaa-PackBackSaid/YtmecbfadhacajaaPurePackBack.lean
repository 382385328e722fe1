/- The pure law behind PackBack: for every input that its bounds let in, the law's function answers true. Conditions: none. -/
import Derived.Test.YtmecbfadhacajaaPPackBackx2
set_option linter.unusedVariables false
namespace Go.Proofs.Ytmecbfadhacajaa.Pure
open Go.RowKit Go.Proofs.Ytmecbfadhacajaa.PPackBack Go.Proofs.YtmecbfadhacajaaW.PrintWords Go.Proofs.YtmecbfadhacajaaW.PrintLast

theorem PackBack : cubbylaw02_PackBack.Pure := by
  intro l0 h
  unfold cubbylaw02_PackBack.f
  exact if_pos h.1

end Go.Proofs.Ytmecbfadhacajaa.Pure
