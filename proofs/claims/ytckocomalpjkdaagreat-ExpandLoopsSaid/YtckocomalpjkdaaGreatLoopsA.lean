/- What the proof of ExpandLoops runs: the rest of its body, behind the call of Place, in the evaluator's form; no condition. -/
import Derived.Test.YtckocomalpjkdaaGreatTab
set_option linter.unusedVariables false
set_option linter.unusedSimpArgs false
set_option linter.unusedSectionVars false
open Go Go.Proofs Go.AE AET
set_option maxRecDepth 100000
noncomputable def cfg : Cfg := ⟨fun _ _ => none, [56]⟩
noncomputable def bodyOf (fn : Func) : Code := match fn.body with | some c => c | none => .skip
noncomputable def sq1 : Code → Code | .seq a _ => a | _ => .skip
noncomputable def sq2 : Code → Code | .seq _ b => b | _ => .skip
noncomputable def cq2 : CC → CC | .seq _ b => b | _ => .bad
noncomputable def gs8 : List Nat := globals Tryz.f8 (bodyOf Tryz.f8)
noncomputable def rest8 : Code := sq2 (sq2 (bodyOf Tryz.f8))
noncomputable def rc8 : CC := cq2 (cq2 c8.code)
theorem kr8 : cmpC Tryz.prog gs8 68 rest8 = rc8 := by kernel_rfl

