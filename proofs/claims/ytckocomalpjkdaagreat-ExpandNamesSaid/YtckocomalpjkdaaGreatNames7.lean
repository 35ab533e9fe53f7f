/- Runs of the evaluator in the kernel: ExpandNames' body with the name number 7 and each other one returns true; no condition. -/
import Derived.Test.YtckocomalpjkdaaGreatNamesA
set_option linter.unusedVariables false
set_option linter.unusedSimpArgs false
set_option linter.unusedSectionVars false
open Go Go.Proofs Go.AE AET
set_option maxRecDepth 100000
theorem nr7x0 (a b : AV) : nameRun a b 7 0 = true := by kernel_rfl
theorem nr7x1 (a b : AV) : nameRun a b 7 1 = true := by kernel_rfl
theorem nr7x2 (a b : AV) : nameRun a b 7 2 = true := by kernel_rfl
theorem nr7x3 (a b : AV) : nameRun a b 7 3 = true := by kernel_rfl
theorem nr7x4 (a b : AV) : nameRun a b 7 4 = true := by kernel_rfl
theorem nr7x5 (a b : AV) : nameRun a b 7 5 = true := by kernel_rfl
theorem nr7x6 (a b : AV) : nameRun a b 7 6 = true := by kernel_rfl
theorem nr7x7 (a b : AV) : nameRun a b 7 7 = true := by kernel_rfl
theorem nr7x8 (a b : AV) : nameRun a b 7 8 = true := by kernel_rfl
theorem nr7x9 (a b : AV) : nameRun a b 7 9 = true := by kernel_rfl
