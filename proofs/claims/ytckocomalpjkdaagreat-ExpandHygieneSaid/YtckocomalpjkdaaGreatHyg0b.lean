/- Runs of the evaluator in the kernel: ExpandHygiene's body with the first name number 0 and others returns true; no condition. -/
import Derived.Test.YtckocomalpjkdaaGreatHygA
set_option linter.unusedVariables false
set_option linter.unusedSimpArgs false
set_option linter.unusedSectionVars false
open Go Go.Proofs Go.AE AET
set_option maxRecDepth 100000
theorem hr0x5x0 (a b c : AV) : hygRun a b c 0 5 0 = true := by kernel_rfl
theorem hr0x5x1 (a b c : AV) : hygRun a b c 0 5 1 = true := by kernel_rfl
theorem hr0x5x2 (a b c : AV) : hygRun a b c 0 5 2 = true := by kernel_rfl
theorem hr0x5x3 (a b c : AV) : hygRun a b c 0 5 3 = true := by kernel_rfl
theorem hr0x6x0 (a b c : AV) : hygRun a b c 0 6 0 = true := by kernel_rfl
theorem hr0x6x1 (a b c : AV) : hygRun a b c 0 6 1 = true := by kernel_rfl
theorem hr0x6x2 (a b c : AV) : hygRun a b c 0 6 2 = true := by kernel_rfl
theorem hr0x6x3 (a b c : AV) : hygRun a b c 0 6 3 = true := by kernel_rfl
theorem hr0x7x0 (a b c : AV) : hygRun a b c 0 7 0 = true := by kernel_rfl
theorem hr0x7x1 (a b c : AV) : hygRun a b c 0 7 1 = true := by kernel_rfl
theorem hr0x7x2 (a b c : AV) : hygRun a b c 0 7 2 = true := by kernel_rfl
theorem hr0x7x3 (a b c : AV) : hygRun a b c 0 7 3 = true := by kernel_rfl
theorem hr0x8x0 (a b c : AV) : hygRun a b c 0 8 0 = true := by kernel_rfl
theorem hr0x8x1 (a b c : AV) : hygRun a b c 0 8 1 = true := by kernel_rfl
theorem hr0x8x2 (a b c : AV) : hygRun a b c 0 8 2 = true := by kernel_rfl
theorem hr0x8x3 (a b c : AV) : hygRun a b c 0 8 3 = true := by kernel_rfl
