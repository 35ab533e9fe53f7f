/- Runs of the evaluator in the kernel: ExpandHygiene's body with the first name number 7 and others returns true; no condition. -/
import Derived.Test.YtckocomalpjkdaaGreatHygA
set_option linter.unusedVariables false
set_option linter.unusedSimpArgs false
set_option linter.unusedSectionVars false
open Go Go.Proofs Go.AE AET
set_option maxRecDepth 100000
theorem hr7x0x0 (a b c : AV) : hygRun a b c 7 0 0 = true := by kernel_rfl
theorem hr7x0x1 (a b c : AV) : hygRun a b c 7 0 1 = true := by kernel_rfl
theorem hr7x0x2 (a b c : AV) : hygRun a b c 7 0 2 = true := by kernel_rfl
theorem hr7x0x3 (a b c : AV) : hygRun a b c 7 0 3 = true := by kernel_rfl
theorem hr7x1x0 (a b c : AV) : hygRun a b c 7 1 0 = true := by kernel_rfl
theorem hr7x1x1 (a b c : AV) : hygRun a b c 7 1 1 = true := by kernel_rfl
theorem hr7x1x2 (a b c : AV) : hygRun a b c 7 1 2 = true := by kernel_rfl
theorem hr7x1x3 (a b c : AV) : hygRun a b c 7 1 3 = true := by kernel_rfl
theorem hr7x2x0 (a b c : AV) : hygRun a b c 7 2 0 = true := by kernel_rfl
theorem hr7x2x1 (a b c : AV) : hygRun a b c 7 2 1 = true := by kernel_rfl
theorem hr7x2x2 (a b c : AV) : hygRun a b c 7 2 2 = true := by kernel_rfl
theorem hr7x2x3 (a b c : AV) : hygRun a b c 7 2 3 = true := by kernel_rfl
theorem hr7x3x0 (a b c : AV) : hygRun a b c 7 3 0 = true := by kernel_rfl
theorem hr7x3x1 (a b c : AV) : hygRun a b c 7 3 1 = true := by kernel_rfl
theorem hr7x3x2 (a b c : AV) : hygRun a b c 7 3 2 = true := by kernel_rfl
theorem hr7x3x3 (a b c : AV) : hygRun a b c 7 3 3 = true := by kernel_rfl
theorem hr7x4x0 (a b c : AV) : hygRun a b c 7 4 0 = true := by kernel_rfl
theorem hr7x4x1 (a b c : AV) : hygRun a b c 7 4 1 = true := by kernel_rfl
theorem hr7x4x2 (a b c : AV) : hygRun a b c 7 4 2 = true := by kernel_rfl
theorem hr7x4x3 (a b c : AV) : hygRun a b c 7 4 3 = true := by kernel_rfl
theorem hr7x5x0 (a b c : AV) : hygRun a b c 7 5 0 = true := by kernel_rfl
theorem hr7x5x1 (a b c : AV) : hygRun a b c 7 5 1 = true := by kernel_rfl
theorem hr7x5x2 (a b c : AV) : hygRun a b c 7 5 2 = true := by kernel_rfl
theorem hr7x5x3 (a b c : AV) : hygRun a b c 7 5 3 = true := by kernel_rfl
theorem hr7x6x0 (a b c : AV) : hygRun a b c 7 6 0 = true := by kernel_rfl
theorem hr7x6x1 (a b c : AV) : hygRun a b c 7 6 1 = true := by kernel_rfl
theorem hr7x6x2 (a b c : AV) : hygRun a b c 7 6 2 = true := by kernel_rfl
theorem hr7x6x3 (a b c : AV) : hygRun a b c 7 6 3 = true := by kernel_rfl
theorem hr7x7x0 (a b c : AV) : hygRun a b c 7 7 0 = true := by kernel_rfl
theorem hr7x7x1 (a b c : AV) : hygRun a b c 7 7 1 = true := by kernel_rfl
theorem hr7x7x2 (a b c : AV) : hygRun a b c 7 7 2 = true := by kernel_rfl
theorem hr7x7x3 (a b c : AV) : hygRun a b c 7 7 3 = true := by kernel_rfl
theorem hr7x8x0 (a b c : AV) : hygRun a b c 7 8 0 = true := by kernel_rfl
theorem hr7x8x1 (a b c : AV) : hygRun a b c 7 8 1 = true := by kernel_rfl
theorem hr7x8x2 (a b c : AV) : hygRun a b c 7 8 2 = true := by kernel_rfl
theorem hr7x8x3 (a b c : AV) : hygRun a b c 7 8 3 = true := by kernel_rfl
