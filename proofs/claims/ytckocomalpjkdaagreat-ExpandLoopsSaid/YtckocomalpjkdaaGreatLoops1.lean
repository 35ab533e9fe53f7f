/- Where Place has come to 1 the rest of ExpandLoops returns true: a run of the evaluator in the kernel; no condition. -/
import Derived.Test.YtckocomalpjkdaaGreatLoopsA
set_option linter.unusedVariables false
set_option linter.unusedSimpArgs false
set_option linter.unusedSectionVars false
open Go Go.Proofs Go.AE AET
set_option maxRecDepth 100000
theorem run1 (n : AV) : isTrue (outR cfg c8 (evCC 3000 (callN cfg 3000 tab 200) rc8 (FT.set (FT.set (FT.set FT.empty .d0 .d0 n) .d0 .d1 (.b false)) .d0 .d2 (.i 1)) St.empty)) = true := by kernel_rfl
