/- Runs of the evaluator in the kernel: ExpandNames' body with the name number 4 and each other one returns true; no condition. -/
import Derived.Test.YtckocomalpjkdaaGreatNamesA
set_option linter.unusedVariables false
set_option linter.unusedSimpArgs false
set_option linter.unusedSectionVars false
open Go Go.Proofs Go.AE AET
set_option maxRecDepth 100000
theorem nr4x0 (a b : AV) : nameRun a b 4 0 = true := by kernel_rfl
theorem nr4x1 (a b : AV) : nameRun a b 4 1 = true := by kernel_rfl
theorem nr4x2 (a b : AV) : nameRun a b 4 2 = true := by kernel_rfl
theorem nr4x3 (a b : AV) : nameRun a b 4 3 = true := by kernel_rfl
theorem nr4x4 (a b : AV) : nameRun a b 4 4 = true := by kernel_rfl
theorem nr4x5 (a b : AV) : nameRun a b 4 5 = true := by kernel_rfl
theorem nr4x6 (a b : AV) : nameRun a b 4 6 = true := by kernel_rfl
theorem nr4x7 (a b : AV) : nameRun a b 4 7 = true := by kernel_rfl
theorem nr4x8 (a b : AV) : nameRun a b 4 8 = true := by kernel_rfl
theorem nr4x9 (a b : AV) : nameRun a b 4 9 = true := by kernel_rfl
