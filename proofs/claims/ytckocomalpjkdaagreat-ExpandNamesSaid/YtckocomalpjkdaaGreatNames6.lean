/- Runs of the evaluator in the kernel: ExpandNames' body with the name number 6 and each other one returns true; no condition. -/
import Derived.Test.YtckocomalpjkdaaGreatNamesA
set_option linter.unusedVariables false
set_option linter.unusedSimpArgs false
set_option linter.unusedSectionVars false
open Go Go.Proofs Go.AE AET
set_option maxRecDepth 100000
theorem nr6x0 (a b : AV) : nameRun a b 6 0 = true := by kernel_rfl
theorem nr6x1 (a b : AV) : nameRun a b 6 1 = true := by kernel_rfl
theorem nr6x2 (a b : AV) : nameRun a b 6 2 = true := by kernel_rfl
theorem nr6x3 (a b : AV) : nameRun a b 6 3 = true := by kernel_rfl
theorem nr6x4 (a b : AV) : nameRun a b 6 4 = true := by kernel_rfl
theorem nr6x5 (a b : AV) : nameRun a b 6 5 = true := by kernel_rfl
theorem nr6x6 (a b : AV) : nameRun a b 6 6 = true := by kernel_rfl
theorem nr6x7 (a b : AV) : nameRun a b 6 7 = true := by kernel_rfl
theorem nr6x8 (a b : AV) : nameRun a b 6 8 = true := by kernel_rfl
theorem nr6x9 (a b : AV) : nameRun a b 6 9 = true := by kernel_rfl
