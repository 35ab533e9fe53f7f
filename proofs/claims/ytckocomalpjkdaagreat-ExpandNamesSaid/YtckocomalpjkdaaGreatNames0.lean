/- Runs of the evaluator in the kernel: ExpandNames' body with the name number 0 and each other one returns true; no condition. -/
import Derived.Test.YtckocomalpjkdaaGreatNamesA
set_option linter.unusedVariables false
set_option linter.unusedSimpArgs false
set_option linter.unusedSectionVars false
open Go Go.Proofs Go.AE AET
set_option maxRecDepth 100000
theorem nr0x0 (a b : AV) : nameRun a b 0 0 = true := by kernel_rfl
theorem nr0x1 (a b : AV) : nameRun a b 0 1 = true := by kernel_rfl
theorem nr0x2 (a b : AV) : nameRun a b 0 2 = true := by kernel_rfl
theorem nr0x3 (a b : AV) : nameRun a b 0 3 = true := by kernel_rfl
theorem nr0x4 (a b : AV) : nameRun a b 0 4 = true := by kernel_rfl
theorem nr0x5 (a b : AV) : nameRun a b 0 5 = true := by kernel_rfl
theorem nr0x6 (a b : AV) : nameRun a b 0 6 = true := by kernel_rfl
theorem nr0x7 (a b : AV) : nameRun a b 0 7 = true := by kernel_rfl
theorem nr0x8 (a b : AV) : nameRun a b 0 8 = true := by kernel_rfl
theorem nr0x9 (a b : AV) : nameRun a b 0 9 = true := by kernel_rfl
