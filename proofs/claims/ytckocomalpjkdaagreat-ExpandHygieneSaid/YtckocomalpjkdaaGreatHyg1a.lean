/- Runs of the evaluator in the kernel: ExpandHygiene's body with the first name number 1 and others returns true; no condition. -/
import Derived.Test.YtckocomalpjkdaaGreatHygA
set_option linter.unusedVariables false
set_option linter.unusedSimpArgs false
set_option linter.unusedSectionVars false
open Go Go.Proofs Go.AE AET
set_option maxRecDepth 100000
theorem hr1x0x0 (a b c : AV) : hygRun a b c 1 0 0 = true := by kernel_rfl
theorem hr1x0x1 (a b c : AV) : hygRun a b c 1 0 1 = true := by kernel_rfl
theorem hr1x0x2 (a b c : AV) : hygRun a b c 1 0 2 = true := by kernel_rfl
theorem hr1x0x3 (a b c : AV) : hygRun a b c 1 0 3 = true := by kernel_rfl
theorem hr1x1x0 (a b c : AV) : hygRun a b c 1 1 0 = true := by kernel_rfl
theorem hr1x1x1 (a b c : AV) : hygRun a b c 1 1 1 = true := by kernel_rfl
theorem hr1x1x2 (a b c : AV) : hygRun a b c 1 1 2 = true := by kernel_rfl
theorem hr1x1x3 (a b c : AV) : hygRun a b c 1 1 3 = true := by kernel_rfl
theorem hr1x2x0 (a b c : AV) : hygRun a b c 1 2 0 = true := by kernel_rfl
theorem hr1x2x1 (a b c : AV) : hygRun a b c 1 2 1 = true := by kernel_rfl
theorem hr1x2x2 (a b c : AV) : hygRun a b c 1 2 2 = true := by kernel_rfl
theorem hr1x2x3 (a b c : AV) : hygRun a b c 1 2 3 = true := by kernel_rfl
theorem hr1x3x0 (a b c : AV) : hygRun a b c 1 3 0 = true := by kernel_rfl
theorem hr1x3x1 (a b c : AV) : hygRun a b c 1 3 1 = true := by kernel_rfl
theorem hr1x3x2 (a b c : AV) : hygRun a b c 1 3 2 = true := by kernel_rfl
theorem hr1x3x3 (a b c : AV) : hygRun a b c 1 3 3 = true := by kernel_rfl
theorem hr1x4x0 (a b c : AV) : hygRun a b c 1 4 0 = true := by kernel_rfl
theorem hr1x4x1 (a b c : AV) : hygRun a b c 1 4 1 = true := by kernel_rfl
theorem hr1x4x2 (a b c : AV) : hygRun a b c 1 4 2 = true := by kernel_rfl
theorem hr1x4x3 (a b c : AV) : hygRun a b c 1 4 3 = true := by kernel_rfl
