/- Runs of the evaluator in the kernel: ExpandNames' body with the name number 9 and each other one returns true; no condition. -/
import Derived.Test.YtckocomalpjkdaaGreatNamesA
set_option linter.unusedVariables false
set_option linter.unusedSimpArgs false
set_option linter.unusedSectionVars false
open Go Go.Proofs Go.AE AET
set_option maxRecDepth 100000
theorem nr9x0 (a b : AV) : nameRun a b 9 0 = true := by kernel_rfl
theorem nr9x1 (a b : AV) : nameRun a b 9 1 = true := by kernel_rfl
theorem nr9x2 (a b : AV) : nameRun a b 9 2 = true := by kernel_rfl
theorem nr9x3 (a b : AV) : nameRun a b 9 3 = true := by kernel_rfl
theorem nr9x4 (a b : AV) : nameRun a b 9 4 = true := by kernel_rfl
theorem nr9x5 (a b : AV) : nameRun a b 9 5 = true := by kernel_rfl
theorem nr9x6 (a b : AV) : nameRun a b 9 6 = true := by kernel_rfl
theorem nr9x7 (a b : AV) : nameRun a b 9 7 = true := by kernel_rfl
theorem nr9x8 (a b : AV) : nameRun a b 9 8 = true := by kernel_rfl
theorem nr9x9 (a b : AV) : nameRun a b 9 9 = true := by kernel_rfl
