/- Runs of the evaluator in the kernel: ExpandHygiene's body with the first name number 6 and others returns true; no condition. -/
import Derived.Test.YtckocomalpjkdaaGreatHygA
set_option linter.unusedVariables false
set_option linter.unusedSimpArgs false
set_option linter.unusedSectionVars false
open Go Go.Proofs Go.AE AET
set_option maxRecDepth 100000
theorem hr6x0x0 (a b c : AV) : hygRun a b c 6 0 0 = true := by kernel_rfl
theorem hr6x0x1 (a b c : AV) : hygRun a b c 6 0 1 = true := by kernel_rfl
theorem hr6x0x2 (a b c : AV) : hygRun a b c 6 0 2 = true := by kernel_rfl
theorem hr6x0x3 (a b c : AV) : hygRun a b c 6 0 3 = true := by kernel_rfl
theorem hr6x1x0 (a b c : AV) : hygRun a b c 6 1 0 = true := by kernel_rfl
theorem hr6x1x1 (a b c : AV) : hygRun a b c 6 1 1 = true := by kernel_rfl
theorem hr6x1x2 (a b c : AV) : hygRun a b c 6 1 2 = true := by kernel_rfl
theorem hr6x1x3 (a b c : AV) : hygRun a b c 6 1 3 = true := by kernel_rfl
theorem hr6x2x0 (a b c : AV) : hygRun a b c 6 2 0 = true := by kernel_rfl
theorem hr6x2x1 (a b c : AV) : hygRun a b c 6 2 1 = true := by kernel_rfl
theorem hr6x2x2 (a b c : AV) : hygRun a b c 6 2 2 = true := by kernel_rfl
theorem hr6x2x3 (a b c : AV) : hygRun a b c 6 2 3 = true := by kernel_rfl
theorem hr6x3x0 (a b c : AV) : hygRun a b c 6 3 0 = true := by kernel_rfl
theorem hr6x3x1 (a b c : AV) : hygRun a b c 6 3 1 = true := by kernel_rfl
theorem hr6x3x2 (a b c : AV) : hygRun a b c 6 3 2 = true := by kernel_rfl
theorem hr6x3x3 (a b c : AV) : hygRun a b c 6 3 3 = true := by kernel_rfl
theorem hr6x4x0 (a b c : AV) : hygRun a b c 6 4 0 = true := by kernel_rfl
theorem hr6x4x1 (a b c : AV) : hygRun a b c 6 4 1 = true := by kernel_rfl
theorem hr6x4x2 (a b c : AV) : hygRun a b c 6 4 2 = true := by kernel_rfl
theorem hr6x4x3 (a b c : AV) : hygRun a b c 6 4 3 = true := by kernel_rfl
