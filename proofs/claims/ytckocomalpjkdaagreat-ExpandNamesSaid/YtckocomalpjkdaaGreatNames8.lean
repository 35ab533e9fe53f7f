/- Runs of the evaluator in the kernel: ExpandNames' body with the name number 8 and each other one returns true; no condition. -/
import Derived.Test.YtckocomalpjkdaaGreatNamesA
set_option linter.unusedVariables false
set_option linter.unusedSimpArgs false
set_option linter.unusedSectionVars false
open Go Go.Proofs Go.AE AET
set_option maxRecDepth 100000
theorem nr8x0 (a b : AV) : nameRun a b 8 0 = true := by kernel_rfl
theorem nr8x1 (a b : AV) : nameRun a b 8 1 = true := by kernel_rfl
theorem nr8x2 (a b : AV) : nameRun a b 8 2 = true := by kernel_rfl
theorem nr8x3 (a b : AV) : nameRun a b 8 3 = true := by kernel_rfl
theorem nr8x4 (a b : AV) : nameRun a b 8 4 = true := by kernel_rfl
theorem nr8x5 (a b : AV) : nameRun a b 8 5 = true := by kernel_rfl
theorem nr8x6 (a b : AV) : nameRun a b 8 6 = true := by kernel_rfl
theorem nr8x7 (a b : AV) : nameRun a b 8 7 = true := by kernel_rfl
theorem nr8x8 (a b : AV) : nameRun a b 8 8 = true := by kernel_rfl
theorem nr8x9 (a b : AV) : nameRun a b 8 9 = true := by kernel_rfl
