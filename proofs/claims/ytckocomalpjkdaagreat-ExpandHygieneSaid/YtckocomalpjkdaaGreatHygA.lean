/- What the proof of ExpandHygiene runs: its body behind the three names that it picks; no condition. -/
import Derived.Test.YtckocomalpjkdaaGreatAwake
set_option linter.unusedVariables false
set_option linter.unusedSimpArgs false
set_option linter.unusedSectionVars false
open Go Go.Proofs Go.AE Go.RowKit AET
set_option maxRecDepth 100000
noncomputable def gs5 : List Nat := globals Tryz.f5 (bodyOf Tryz.f5)
noncomputable def y0 : Code := sq1 (bodyOf Tryz.f5)
noncomputable def y1 : Code := sq1 (sq2 (bodyOf Tryz.f5))
noncomputable def y2 : Code := sq1 (sq2 (sq2 (bodyOf Tryz.f5)))
noncomputable def y3 : Code := sq1 (sq2 (sq2 (sq2 (bodyOf Tryz.f5))))
noncomputable def y4 : Code := sq1 (sq2 (sq2 (sq2 (sq2 (bodyOf Tryz.f5)))))
noncomputable def y5 : Code := sq2 (sq2 (sq2 (sq2 (sq2 (bodyOf Tryz.f5)))))
noncomputable def rc5 : CC := cq2 (cq2 (cq2 (cq2 (cq2 c5.code))))
theorem kr5 : cmpC Tryz.prog gs5 146 y5 = rc5 := by kernel_rfl
theorem body5 : Tryz.f5.body = some (.seq y0 (.seq y1 (.seq y2 (.seq y3 (.seq y4 y5))))) := rfl
theorem ps5 : mapO (slotOf gs5) (List.range 3) = some c5.params := by kernel_rfl
theorem rs5 : mapO (cmpRes Tryz.prog gs5) Tryz.f5.results.toList = some c5.res := by kernel_rfl
/-- the names -/
noncomputable def hm : Nat → List Nat
  | 0 => [116]
  | 1 => [116, 109, 112]
  | 2 => [120]
  | 3 => [121]
  | 4 => [105, 102]
  | 5 => [108, 101, 116]
  | 6 => [101, 108, 115, 101]
  | 7 => [115, 119, 97, 112]
  | _ => [118]
noncomputable def sH : St := ⟨H.set St.empty.h ⟨.d0, .d0, .d0, .d0, .d0⟩ (.row 9 [.s (hm 0), .s (hm 1), .s (hm 2), .s (hm 3), .s (hm 4), .s (hm 5), .s (hm 6), .s (hm 7), .s (hm 8)] none 0), some ⟨.d0, .d0, .d0, .d0, .d1⟩, St.empty.fams⟩
noncomputable def fhA (a b c : AV) : FT := FT.set (FT.set (FT.set (FT.set FT.empty .d0 .d0 a) .d0 .d1 b) .d0 .d2 c) .d0 .d3 (.b false)
noncomputable def fhB (a b c : AV) : FT := FT.set (fhA a b c) .d0 .d4 (.sl ⟨.d0, .d0, .d0, .d0, .d0⟩ 0 9 9 1)
noncomputable def fhC (a b c x : AV) : FT := FT.set (fhB a b c) .d0 .d5 x
noncomputable def fhD (a b c x y : AV) : FT := FT.set (fhC a b c x) .d0 .d6 y
noncomputable def fhE (a b c x y z : AV) : FT := FT.set (fhD a b c x y) .d0 .d7 z
theorem z0 (a b c : AV) (call : AE.Call) : evCC 0 call (cmpC Tryz.prog gs5 146 y0) (args0 c5.params [a, b, c] FT.empty) St.empty = .nrm (fhA a b c) St.empty := by kernel_rfl
theorem z1 (a b c : AV) (call : AE.Call) : evCC 0 call (cmpC Tryz.prog gs5 146 y1) (fhA a b c) St.empty = .nrm (fhB a b c) sH := by kernel_rfl
noncomputable def Y2 (v : AV) : Ops := .u (iIdx (nat_lit 1) (odF .d0 .d4) (odV v)) fun v24 => .u (iLoad1 (odV v24)) fun v25 => .g (iMove (odV v25)) .d0 .d5 .nil
noncomputable def Y3 (v : AV) : Ops := .u (iIdx (nat_lit 1) (odF .d0 .d4) (odV v)) fun v24 => .u (iLoad1 (odV v24)) fun v25 => .g (iMove (odV v25)) .d0 .d6 .nil
noncomputable def Y4 (v : AV) : Ops := .u (iIdx (nat_lit 1) (odF .d0 .d4) (odV v)) fun v24 => .u (iLoad1 (odV v24)) fun v25 => .g (iMove (odV v25)) .d0 .d7 .nil
theorem z2 (a b c k : AV) (call : AE.Call) (h : call 17 [a, .i 9] sH = AE.R.ok k sH) : evCC 0 call (cmpC Tryz.prog gs5 146 y2) (fhB a b c) sH = exec call (Y2 k) (fhB a b c) sH := by
  have : evCC 0 call (cmpC Tryz.prog gs5 146 y2) (fhB a b c) sH = bR (call 17 [a, .i 9] sH) fun v σ' => exec call (Y2 v) (fhB a b c) σ' := by kernel_rfl
  rw [this, h]; rfl
theorem z3 (a b c x k : AV) (call : AE.Call) (h : call 17 [b, .i 9] sH = AE.R.ok k sH) : evCC 0 call (cmpC Tryz.prog gs5 146 y3) (fhC a b c x) sH = exec call (Y3 k) (fhC a b c x) sH := by
  have : evCC 0 call (cmpC Tryz.prog gs5 146 y3) (fhC a b c x) sH = bR (call 17 [b, .i 9] sH) fun v σ' => exec call (Y3 v) (fhC a b c x) σ' := by kernel_rfl
  rw [this, h]; rfl
theorem z4 (a b c x y k : AV) (call : AE.Call) (h : call 17 [c, .i 4] sH = AE.R.ok k sH) : evCC 0 call (cmpC Tryz.prog gs5 146 y4) (fhD a b c x y) sH = exec call (Y4 k) (fhD a b c x y) sH := by
  have : evCC 0 call (cmpC Tryz.prog gs5 146 y4) (fhD a b c x y) sH = bR (call 17 [c, .i 4] sH) fun v σ' => exec call (Y4 v) (fhD a b c x y) σ' := by kernel_rfl
  rw [this, h]; rfl
theorem upTo9 {k : Int} (h0 : 0 ≤ k) (h1 : k < 9) {Q : Int → Prop} (q0 : Q 0) (q1 : Q 1) (q2 : Q 2) (q3 : Q 3) (q4 : Q 4) (q5 : Q 5) (q6 : Q 6) (q7 : Q 7) (q8 : Q 8) : Q k := by
  have : k = 0 ∨ k = 1 ∨ k = 2 ∨ k = 3 ∨ k = 4 ∨ k = 5 ∨ k = 6 ∨ k = 7 ∨ k = 8 := by omega
  rcases this with rfl | rfl | rfl | rfl | rfl | rfl | rfl | rfl | rfl <;> assumption
theorem upTo4 {k : Int} (h0 : 0 ≤ k) (h1 : k < 4) {Q : Int → Prop} (q0 : Q 0) (q1 : Q 1) (q2 : Q 2) (q3 : Q 3) : Q k := by
  have : k = 0 ∨ k = 1 ∨ k = 2 ∨ k = 3 := by omega
  rcases this with rfl | rfl | rfl | rfl <;> assumption
theorem z2b (a b c : AV) (call : AE.Call) {k : Int} (h0 : 0 ≤ k) (h1 : k < 9) : exec call (Y2 (.i k)) (fhB a b c) sH = .nrm (fhC a b c (.s (hm k.toNat))) sH := by
  refine upTo9 (Q := fun k => exec call (Y2 (.i k)) (fhB a b c) sH = .nrm (fhC a b c (.s (hm k.toNat))) sH) h0 h1 ?_ ?_ ?_ ?_ ?_ ?_ ?_ ?_ ?_ <;> kernel_rfl
theorem z3b (a b c x : AV) (call : AE.Call) {k : Int} (h0 : 0 ≤ k) (h1 : k < 9) : exec call (Y3 (.i k)) (fhC a b c x) sH = .nrm (fhD a b c x (.s (hm k.toNat))) sH := by
  refine upTo9 (Q := fun k => exec call (Y3 (.i k)) (fhC a b c x) sH = .nrm (fhD a b c x (.s (hm k.toNat))) sH) h0 h1 ?_ ?_ ?_ ?_ ?_ ?_ ?_ ?_ ?_ <;> kernel_rfl
theorem z4b (a b c x y : AV) (call : AE.Call) {k : Int} (h0 : 0 ≤ k) (h1 : k < 4) : exec call (Y4 (.i k)) (fhD a b c x y) sH = .nrm (fhE a b c x y (.s (hm k.toNat))) sH := by
  refine upTo4 (Q := fun k => exec call (Y4 (.i k)) (fhD a b c x y) sH = .nrm (fhE a b c x y (.s (hm k.toNat))) sH) h0 h1 ?_ ?_ ?_ ?_ <;> kernel_rfl
noncomputable def hygRun (a b c : AV) (i j k : Nat) : Bool := isTrue (outR cfgA c5 (evCC 3000 (callN cfgA 3000 tab 200) rc5 (fhE a b c (.s (hm i)) (.s (hm j)) (.s (hm k))) sH))
