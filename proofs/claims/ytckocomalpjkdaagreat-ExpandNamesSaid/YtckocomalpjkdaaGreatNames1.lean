/- Runs of the evaluator in the kernel: ExpandNames' body with the name number 1 and each other one returns true; no condition. -/
import Derived.Test.YtckocomalpjkdaaGreatNamesA
set_option linter.unusedVariables false
set_option linter.unusedSimpArgs false
set_option linter.unusedSectionVars false
open Go Go.Proofs Go.AE AET
set_option maxRecDepth 100000
theorem nr1x0 (a b : AV) : nameRun a b 1 0 = true := by kernel_rfl
theorem nr1x1 (a b : AV) : nameRun a b 1 1 = true := by kernel_rfl
theorem nr1x2 (a b : AV) : nameRun a b 1 2 = true := by kernel_rfl
theorem nr1x3 (a b : AV) : nameRun a b 1 3 = true := by kernel_rfl
theorem nr1x4 (a b : AV) : nameRun a b 1 4 = true := by kernel_rfl
theorem nr1x5 (a b : AV) : nameRun a b 1 5 = true := by kernel_rfl
theorem nr1x6 (a b : AV) : nameRun a b 1 6 = true := by kernel_rfl
theorem nr1x7 (a b : AV) : nameRun a b 1 7 = true := by kernel_rfl
theorem nr1x8 (a b : AV) : nameRun a b 1 8 = true := by kernel_rfl
theorem nr1x9 (a b : AV) : nameRun a b 1 9 = true := by kernel_rfl
