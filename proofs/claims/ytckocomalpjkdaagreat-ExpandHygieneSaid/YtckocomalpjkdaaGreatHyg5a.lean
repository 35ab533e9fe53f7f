/- Runs of the evaluator in the kernel: ExpandHygiene's body with the first name number 5 and others returns true; no condition. -/
import Derived.Test.YtckocomalpjkdaaGreatHygA
set_option linter.unusedVariables false
set_option linter.unusedSimpArgs false
set_option linter.unusedSectionVars false
open Go Go.Proofs Go.AE AET
set_option maxRecDepth 100000
theorem hr5x0x0 (a b c : AV) : hygRun a b c 5 0 0 = true := by kernel_rfl
theorem hr5x0x1 (a b c : AV) : hygRun a b c 5 0 1 = true := by kernel_rfl
theorem hr5x0x2 (a b c : AV) : hygRun a b c 5 0 2 = true := by kernel_rfl
theorem hr5x0x3 (a b c : AV) : hygRun a b c 5 0 3 = true := by kernel_rfl
theorem hr5x1x0 (a b c : AV) : hygRun a b c 5 1 0 = true := by kernel_rfl
theorem hr5x1x1 (a b c : AV) : hygRun a b c 5 1 1 = true := by kernel_rfl
theorem hr5x1x2 (a b c : AV) : hygRun a b c 5 1 2 = true := by kernel_rfl
theorem hr5x1x3 (a b c : AV) : hygRun a b c 5 1 3 = true := by kernel_rfl
theorem hr5x2x0 (a b c : AV) : hygRun a b c 5 2 0 = true := by kernel_rfl
theorem hr5x2x1 (a b c : AV) : hygRun a b c 5 2 1 = true := by kernel_rfl
theorem hr5x2x2 (a b c : AV) : hygRun a b c 5 2 2 = true := by kernel_rfl
theorem hr5x2x3 (a b c : AV) : hygRun a b c 5 2 3 = true := by kernel_rfl
theorem hr5x3x0 (a b c : AV) : hygRun a b c 5 3 0 = true := by kernel_rfl
theorem hr5x3x1 (a b c : AV) : hygRun a b c 5 3 1 = true := by kernel_rfl
theorem hr5x3x2 (a b c : AV) : hygRun a b c 5 3 2 = true := by kernel_rfl
theorem hr5x3x3 (a b c : AV) : hygRun a b c 5 3 3 = true := by kernel_rfl
theorem hr5x4x0 (a b c : AV) : hygRun a b c 5 4 0 = true := by kernel_rfl
theorem hr5x4x1 (a b c : AV) : hygRun a b c 5 4 1 = true := by kernel_rfl
theorem hr5x4x2 (a b c : AV) : hygRun a b c 5 4 2 = true := by kernel_rfl
theorem hr5x4x3 (a b c : AV) : hygRun a b c 5 4 3 = true := by kernel_rfl
theorem hr5x5x0 (a b c : AV) : hygRun a b c 5 5 0 = true := by kernel_rfl
theorem hr5x5x1 (a b c : AV) : hygRun a b c 5 5 1 = true := by kernel_rfl
theorem hr5x5x2 (a b c : AV) : hygRun a b c 5 5 2 = true := by kernel_rfl
theorem hr5x5x3 (a b c : AV) : hygRun a b c 5 5 3 = true := by kernel_rfl
theorem hr5x6x0 (a b c : AV) : hygRun a b c 5 6 0 = true := by kernel_rfl
theorem hr5x6x1 (a b c : AV) : hygRun a b c 5 6 1 = true := by kernel_rfl
theorem hr5x6x2 (a b c : AV) : hygRun a b c 5 6 2 = true := by kernel_rfl
theorem hr5x6x3 (a b c : AV) : hygRun a b c 5 6 3 = true := by kernel_rfl
theorem hr5x7x0 (a b c : AV) : hygRun a b c 5 7 0 = true := by kernel_rfl
theorem hr5x7x1 (a b c : AV) : hygRun a b c 5 7 1 = true := by kernel_rfl
theorem hr5x7x2 (a b c : AV) : hygRun a b c 5 7 2 = true := by kernel_rfl
theorem hr5x7x3 (a b c : AV) : hygRun a b c 5 7 3 = true := by kernel_rfl
theorem hr5x8x0 (a b c : AV) : hygRun a b c 5 8 0 = true := by kernel_rfl
theorem hr5x8x1 (a b c : AV) : hygRun a b c 5 8 1 = true := by kernel_rfl
theorem hr5x8x2 (a b c : AV) : hygRun a b c 5 8 2 = true := by kernel_rfl
theorem hr5x8x3 (a b c : AV) : hygRun a b c 5 8 3 = true := by kernel_rfl
