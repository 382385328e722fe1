/- The pure law behind PackCut: for every input that its bounds let in, the law's function answers true. Conditions: none. -/
import Derived.Test.YtmecbfadhacajaaPPackCutx7
set_option linter.unusedVariables false
namespace Go.Proofs.Ytmecbfadhacajaa.Pure
open Go.RowKit Go.Proofs.Ytmecbfadhacajaa.PPackCut Go.Proofs.YtmecbfadhacajaaW.PrintWords Go.Proofs.YtmecbfadhacajaaW.PrintLast

theorem PackCut : cubbylaw02_PackCut.Pure := by
  intro a0_0 a0_1 a0_2 a1 _ _ _ _
  rfl

end Go.Proofs.Ytmecbfadhacajaa.Pure
