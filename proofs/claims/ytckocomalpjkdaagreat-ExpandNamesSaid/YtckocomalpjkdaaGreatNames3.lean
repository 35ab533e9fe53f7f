/- Runs of the evaluator in the kernel: ExpandNames' body with the name number 3 and each other one returns true; no condition. -/
import Derived.Test.YtckocomalpjkdaaGreatNamesA
set_option linter.unusedVariables false
set_option linter.unusedSimpArgs false
set_option linter.unusedSectionVars false
open Go Go.Proofs Go.AE AET
set_option maxRecDepth 100000
theorem nr3x0 (a b : AV) : nameRun a b 3 0 = true := by kernel_rfl
theorem nr3x1 (a b : AV) : nameRun a b 3 1 = true := by kernel_rfl
theorem nr3x2 (a b : AV) : nameRun a b 3 2 = true := by kernel_rfl
theorem nr3x3 (a b : AV) : nameRun a b 3 3 = true := by kernel_rfl
theorem nr3x4 (a b : AV) : nameRun a b 3 4 = true := by kernel_rfl
theorem nr3x5 (a b : AV) : nameRun a b 3 5 = true := by kernel_rfl
theorem nr3x6 (a b : AV) : nameRun a b 3 6 = true := by kernel_rfl
theorem nr3x7 (a b : AV) : nameRun a b 3 7 = true := by kernel_rfl
theorem nr3x8 (a b : AV) : nameRun a b 3 8 = true := by kernel_rfl
theorem nr3x9 (a b : AV) : nameRun a b 3 9 = true := by kernel_rfl
