/- Runs of the evaluator in the kernel: ExpandHygiene's body with the first name number 3 and others returns true; no condition. -/
import Derived.Test.YtckocomalpjkdaaGreatHygA
set_option linter.unusedVariables false
set_option linter.unusedSimpArgs false
set_option linter.unusedSectionVars false
open Go Go.Proofs Go.AE AET
set_option maxRecDepth 100000
theorem hr3x5x0 (a b c : AV) : hygRun a b c 3 5 0 = true := by kernel_rfl
theorem hr3x5x1 (a b c : AV) : hygRun a b c 3 5 1 = true := by kernel_rfl
theorem hr3x5x2 (a b c : AV) : hygRun a b c 3 5 2 = true := by kernel_rfl
theorem hr3x5x3 (a b c : AV) : hygRun a b c 3 5 3 = true := by kernel_rfl
theorem hr3x6x0 (a b c : AV) : hygRun a b c 3 6 0 = true := by kernel_rfl
theorem hr3x6x1 (a b c : AV) : hygRun a b c 3 6 1 = true := by kernel_rfl
theorem hr3x6x2 (a b c : AV) : hygRun a b c 3 6 2 = true := by kernel_rfl
theorem hr3x6x3 (a b c : AV) : hygRun a b c 3 6 3 = true := by kernel_rfl
theorem hr3x7x0 (a b c : AV) : hygRun a b c 3 7 0 = true := by kernel_rfl
theorem hr3x7x1 (a b c : AV) : hygRun a b c 3 7 1 = true := by kernel_rfl
theorem hr3x7x2 (a b c : AV) : hygRun a b c 3 7 2 = true := by kernel_rfl
theorem hr3x7x3 (a b c : AV) : hygRun a b c 3 7 3 = true := by kernel_rfl
theorem hr3x8x0 (a b c : AV) : hygRun a b c 3 8 0 = true := by kernel_rfl
theorem hr3x8x1 (a b c : AV) : hygRun a b c 3 8 1 = true := by kernel_rfl
theorem hr3x8x2 (a b c : AV) : hygRun a b c 3 8 2 = true := by kernel_rfl
theorem hr3x8x3 (a b c : AV) : hygRun a b c 3 8 3 = true := by kernel_rfl
