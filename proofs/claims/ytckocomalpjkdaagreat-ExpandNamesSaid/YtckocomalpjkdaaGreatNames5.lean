/- Runs of the evaluator in the kernel: ExpandNames' body with the name number 5 and each other one returns true; no condition. -/
import Derived.Test.YtckocomalpjkdaaGreatNamesA
set_option linter.unusedVariables false
set_option linter.unusedSimpArgs false
set_option linter.unusedSectionVars false
open Go Go.Proofs Go.AE AET
set_option maxRecDepth 100000
theorem nr5x0 (a b : AV) : nameRun a b 5 0 = true := by kernel_rfl
theorem nr5x1 (a b : AV) : nameRun a b 5 1 = true := by kernel_rfl
theorem nr5x2 (a b : AV) : nameRun a b 5 2 = true := by kernel_rfl
theorem nr5x3 (a b : AV) : nameRun a b 5 3 = true := by kernel_rfl
theorem nr5x4 (a b : AV) : nameRun a b 5 4 = true := by kernel_rfl
theorem nr5x5 (a b : AV) : nameRun a b 5 5 = true := by kernel_rfl
theorem nr5x6 (a b : AV) : nameRun a b 5 6 = true := by kernel_rfl
theorem nr5x7 (a b : AV) : nameRun a b 5 7 = true := by kernel_rfl
theorem nr5x8 (a b : AV) : nameRun a b 5 8 = true := by kernel_rfl
theorem nr5x9 (a b : AV) : nameRun a b 5 9 = true := by kernel_rfl
