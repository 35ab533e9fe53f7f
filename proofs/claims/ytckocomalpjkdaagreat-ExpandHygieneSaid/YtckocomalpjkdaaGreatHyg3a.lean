/- Runs of the evaluator in the kernel: ExpandHygiene's body with the first name number 3 and others returns true; no condition. -/
import Derived.Test.YtckocomalpjkdaaGreatHygA
set_option linter.unusedVariables false
set_option linter.unusedSimpArgs false
set_option linter.unusedSectionVars false
open Go Go.Proofs Go.AE AET
set_option maxRecDepth 100000
theorem hr3x0x0 (a b c : AV) : hygRun a b c 3 0 0 = true := by kernel_rfl
theorem hr3x0x1 (a b c : AV) : hygRun a b c 3 0 1 = true := by kernel_rfl
theorem hr3x0x2 (a b c : AV) : hygRun a b c 3 0 2 = true := by kernel_rfl
theorem hr3x0x3 (a b c : AV) : hygRun a b c 3 0 3 = true := by kernel_rfl
theorem hr3x1x0 (a b c : AV) : hygRun a b c 3 1 0 = true := by kernel_rfl
theorem hr3x1x1 (a b c : AV) : hygRun a b c 3 1 1 = true := by kernel_rfl
theorem hr3x1x2 (a b c : AV) : hygRun a b c 3 1 2 = true := by kernel_rfl
theorem hr3x1x3 (a b c : AV) : hygRun a b c 3 1 3 = true := by kernel_rfl
theorem hr3x2x0 (a b c : AV) : hygRun a b c 3 2 0 = true := by kernel_rfl
theorem hr3x2x1 (a b c : AV) : hygRun a b c 3 2 1 = true := by kernel_rfl
theorem hr3x2x2 (a b c : AV) : hygRun a b c 3 2 2 = true := by kernel_rfl
theorem hr3x2x3 (a b c : AV) : hygRun a b c 3 2 3 = true := by kernel_rfl
theorem hr3x3x0 (a b c : AV) : hygRun a b c 3 3 0 = true := by kernel_rfl
theorem hr3x3x1 (a b c : AV) : hygRun a b c 3 3 1 = true := by kernel_rfl
theorem hr3x3x2 (a b c : AV) : hygRun a b c 3 3 2 = true := by kernel_rfl
theorem hr3x3x3 (a b c : AV) : hygRun a b c 3 3 3 = true := by kernel_rfl
theorem hr3x4x0 (a b c : AV) : hygRun a b c 3 4 0 = true := by kernel_rfl
theorem hr3x4x1 (a b c : AV) : hygRun a b c 3 4 1 = true := by kernel_rfl
theorem hr3x4x2 (a b c : AV) : hygRun a b c 3 4 2 = true := by kernel_rfl
theorem hr3x4x3 (a b c : AV) : hygRun a b c 3 4 3 = true := by kernel_rfl
