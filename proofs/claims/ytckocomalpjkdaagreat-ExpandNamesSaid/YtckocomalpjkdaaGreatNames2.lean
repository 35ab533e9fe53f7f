/- Runs of the evaluator in the kernel: ExpandNames' body with the name number 2 and each other one returns true; no condition. -/
import Derived.Test.YtckocomalpjkdaaGreatNamesA
set_option linter.unusedVariables false
set_option linter.unusedSimpArgs false
set_option linter.unusedSectionVars false
open Go Go.Proofs Go.AE AET
set_option maxRecDepth 100000
theorem nr2x0 (a b : AV) : nameRun a b 2 0 = true := by kernel_rfl
theorem nr2x1 (a b : AV) : nameRun a b 2 1 = true := by kernel_rfl
theorem nr2x2 (a b : AV) : nameRun a b 2 2 = true := by kernel_rfl
theorem nr2x3 (a b : AV) : nameRun a b 2 3 = true := by kernel_rfl
theorem nr2x4 (a b : AV) : nameRun a b 2 4 = true := by kernel_rfl
theorem nr2x5 (a b : AV) : nameRun a b 2 5 = true := by kernel_rfl
theorem nr2x6 (a b : AV) : nameRun a b 2 6 = true := by kernel_rfl
theorem nr2x7 (a b : AV) : nameRun a b 2 7 = true := by kernel_rfl
theorem nr2x8 (a b : AV) : nameRun a b 2 8 = true := by kernel_rfl
theorem nr2x9 (a b : AV) : nameRun a b 2 9 = true := by kernel_rfl
