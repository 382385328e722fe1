/- The pure law behind DiskFails: for every input that its bounds let in, the law's function answers true. Conditions: none. -/
import Derived.Test.YtbikejfjfliamaaPDiskFailsx2
set_option linter.unusedVariables false
namespace Go.Proofs.Ytbikejfjfliamaa.Pure
open Go.RowKit Go.Proofs.Ytbikejfjfliamaa.PDiskFails Go.Proofs.YtbikejfjfliamaaW.PrintWords Go.Proofs.YtbikejfjfliamaaW.PrintLast

theorem DiskFails : cubbylaw03_DiskFails.Pure := by
  intro a b n ha hb hn
  unfold cubbylaw03_DiskFails.f
  refine if_pos ?_
  unfold cubbylaw03_DiskFails.Fit
  omega

end Go.Proofs.Ytbikejfjfliamaa.Pure
