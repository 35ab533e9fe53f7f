/- What the proof of ExpandNames runs: its body behind the two names that it picks; no condition. -/
import Derived.Test.YtckocomalpjkdaaGreatAwake
set_option linter.unusedVariables false
set_option linter.unusedSimpArgs false
set_option linter.unusedSectionVars false
open Go Go.Proofs Go.AE Go.RowKit AET
set_option maxRecDepth 100000
noncomputable def gs6 : List Nat := globals Tryz.f6 (bodyOf Tryz.f6)
noncomputable def q0 : Code := sq1 (bodyOf Tryz.f6)
noncomputable def q1 : Code := sq1 (sq2 (bodyOf Tryz.f6))
noncomputable def q2 : Code := sq1 (sq2 (sq2 (bodyOf Tryz.f6)))
noncomputable def q3 : Code := sq1 (sq2 (sq2 (sq2 (bodyOf Tryz.f6))))
noncomputable def q4 : Code := sq2 (sq2 (sq2 (sq2 (bodyOf Tryz.f6))))
noncomputable def rc6 : CC := cq2 (cq2 (cq2 (cq2 c6.code)))
theorem kr6 : cmpC Tryz.prog gs6 115 q4 = rc6 := by kernel_rfl
theorem body6 : Tryz.f6.body = some (.seq q0 (.seq q1 (.seq q2 (.seq q3 q4)))) := rfl
theorem ps6 : mapO (slotOf gs6) (List.range 2) = some c6.params := by kernel_rfl
theorem rs6 : mapO (cmpRes Tryz.prog gs6) Tryz.f6.results.toList = some c6.res := by kernel_rfl
/-- the names -/
noncomputable def nm : Nat → List Nat
  | 0 => [97] | 1 => [122, 122] | 2 => [105, 102] | 3 => [108, 97, 109, 98, 100, 97] | 4 => [113, 117, 111, 116, 101] | 5 => [108, 101, 116] | 6 => [99, 97, 114] | 7 => [100, 101, 102, 105, 110, 101] | 8 => [101, 108, 115, 101] | _ => [98, 101, 103, 105, 110]
noncomputable def sN : St := ⟨H.set St.empty.h ⟨.d0, .d0, .d0, .d0, .d0⟩ (.row 10 [.s (nm 0), .s (nm 1), .s (nm 2), .s (nm 3), .s (nm 4), .s (nm 5), .s (nm 6), .s (nm 7), .s (nm 8), .s (nm 9)] none 0), some ⟨.d0, .d0, .d0, .d0, .d1⟩, St.empty.fams⟩
noncomputable def frA (a b : AV) : FT := FT.set (FT.set (FT.set FT.empty .d0 .d0 a) .d0 .d1 b) .d0 .d2 (.b false)
noncomputable def frB (a b : AV) : FT := FT.set (frA a b) .d0 .d3 (.sl ⟨.d0, .d0, .d0, .d0, .d0⟩ 0 10 10 1)
noncomputable def frC (a b x : AV) : FT := FT.set (frB a b) .d0 .d4 x
noncomputable def frD (a b x y : AV) : FT := FT.set (frC a b x) .d0 .d5 y
theorem g0 (a b : AV) (call : AE.Call) : evCC 0 call (cmpC Tryz.prog gs6 115 q0) (args0 c6.params [a, b] FT.empty) St.empty = .nrm (frA a b) St.empty := by kernel_rfl
theorem g1 (a b : AV) (call : AE.Call) : evCC 0 call (cmpC Tryz.prog gs6 115 q1) (frA a b) St.empty = .nrm (frB a b) sN := by kernel_rfl
noncomputable def T2 (v : AV) : Ops := .u (iIdx (nat_lit 1) (odF .d0 .d3) (odV v)) fun v24 => .u (iLoad1 (odV v24)) fun v25 => .g (iMove (odV v25)) .d0 .d4 .nil
noncomputable def T3 (v : AV) : Ops := .u (iIdx (nat_lit 1) (odF .d0 .d3) (odV v)) fun v24 => .u (iLoad1 (odV v24)) fun v25 => .g (iMove (odV v25)) .d0 .d5 .nil
theorem g2 (a b k : AV) (call : AE.Call) (h : call 17 [a, .i 10] sN = AE.R.ok k sN) : evCC 0 call (cmpC Tryz.prog gs6 115 q2) (frB a b) sN = exec call (T2 k) (frB a b) sN := by
  have : evCC 0 call (cmpC Tryz.prog gs6 115 q2) (frB a b) sN = bR (call 17 [a, .i 10] sN) fun v σ' => exec call (T2 v) (frB a b) σ' := by kernel_rfl
  rw [this, h]; rfl
theorem g3 (a b x k : AV) (call : AE.Call) (h : call 17 [b, .i 10] sN = AE.R.ok k sN) : evCC 0 call (cmpC Tryz.prog gs6 115 q3) (frC a b x) sN = exec call (T3 k) (frC a b x) sN := by
  have : evCC 0 call (cmpC Tryz.prog gs6 115 q3) (frC a b x) sN = bR (call 17 [b, .i 10] sN) fun v σ' => exec call (T3 v) (frC a b x) σ' := by kernel_rfl
  rw [this, h]; rfl
theorem upTo10 {k : Int} (h0 : 0 ≤ k) (h1 : k < 10) {Q : Int → Prop} (q0 : Q 0) (q1 : Q 1) (q2 : Q 2) (q3 : Q 3) (q4 : Q 4) (q5 : Q 5) (q6 : Q 6) (q7 : Q 7) (q8 : Q 8) (q9 : Q 9) : Q k := by
  have : k = 0 ∨ k = 1 ∨ k = 2 ∨ k = 3 ∨ k = 4 ∨ k = 5 ∨ k = 6 ∨ k = 7 ∨ k = 8 ∨ k = 9 := by omega
  rcases this with rfl | rfl | rfl | rfl | rfl | rfl | rfl | rfl | rfl | rfl <;> assumption
theorem g2b (a b : AV) (call : AE.Call) {k : Int} (h0 : 0 ≤ k) (h1 : k < 10) : exec call (T2 (.i k)) (frB a b) sN = .nrm (frC a b (.s (nm k.toNat))) sN := by
  revert h0 h1; intro h0 h1
  refine upTo10 (Q := fun k => exec call (T2 (.i k)) (frB a b) sN = .nrm (frC a b (.s (nm k.toNat))) sN) h0 h1 ?_ ?_ ?_ ?_ ?_ ?_ ?_ ?_ ?_ ?_ <;> kernel_rfl
theorem g3b (a b x : AV) (call : AE.Call) {k : Int} (h0 : 0 ≤ k) (h1 : k < 10) : exec call (T3 (.i k)) (frC a b x) sN = .nrm (frD a b x (.s (nm k.toNat))) sN := by
  refine upTo10 (Q := fun k => exec call (T3 (.i k)) (frC a b x) sN = .nrm (frD a b x (.s (nm k.toNat))) sN) h0 h1 ?_ ?_ ?_ ?_ ?_ ?_ ?_ ?_ ?_ ?_ <;> kernel_rfl
noncomputable def nameRun (a b : AV) (j k : Nat) : Bool := isTrue (outR cfgA c6 (evCC 3000 (callN cfgA 3000 tab 200) rc6 (frD a b (.s (nm j)) (.s (nm k))) sN))
