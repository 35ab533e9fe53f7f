/- A call of ExpandNames with any two whole numbers returns true, and leaves every block that was there as it was; no condition. -/
import Derived.Test.YtckocomalpjkdaaGreatNames0
import Derived.Test.YtckocomalpjkdaaGreatNames1
import Derived.Test.YtckocomalpjkdaaGreatNames2
import Derived.Test.YtckocomalpjkdaaGreatNames3
import Derived.Test.YtckocomalpjkdaaGreatNames4
import Derived.Test.YtckocomalpjkdaaGreatNames5
import Derived.Test.YtckocomalpjkdaaGreatNames6
import Derived.Test.YtckocomalpjkdaaGreatNames7
import Derived.Test.YtckocomalpjkdaaGreatNames8
import Derived.Test.YtckocomalpjkdaaGreatNames9
set_option linter.unusedVariables false
set_option linter.unusedSimpArgs false
set_option linter.unusedSectionVars false
open Go Go.Proofs Go.AE Go.RowKit AET
set_option maxRecDepth 100000
theorem place_walk10 (n : Int) (w : World) : Calls Tryz.prog 17 #[.int .i64 n, .int .i64 10] w fun e w' => e = .returned (.int .i64 (pl n 10)) ∧ w' = w := by
  have h := pl_range n (c := 10) (by decide)
  unfold pl at *
  go_enter Tryz.func17, Tryz.ntmps17
  go_wp2
  all_goals (go_ret; exact ⟨rfl, rfl⟩)
theorem enters17 : Enters Tryz.prog 17 := ⟨Tryz.f17, _, Tryz.func17, by decide +kernel, rfl⟩
theorem oracle17 (n : Int) : CallOK Tryz.prog (oracle 17 [.sc (.int .i64 n), .i 10] (.i (pl n 10))) := oracle_ok enters17 fun ρ base σ w args' hw ha => by
  cases ha with
  | cons h1 h2 => cases h2 with
    | cons h3 h4 => cases h4; cases h1; cases h3
                    exact (place_walk10 n w).mono fun e w' ⟨he, hw'⟩ => ⟨_, he, by subst hw'; exact Good.same hw (.i _)⟩
theorem row0 (a b : AV) {k : Int} (h0 : 0 ≤ k) (h1 : k < 10) : nameRun a b 0 k.toNat = true :=
  upTo10 (Q := fun k => nameRun a b 0 k.toNat = true) h0 h1 (nr0x0 a b) (nr0x1 a b) (nr0x2 a b) (nr0x3 a b) (nr0x4 a b) (nr0x5 a b) (nr0x6 a b) (nr0x7 a b) (nr0x8 a b) (nr0x9 a b)
theorem row1 (a b : AV) {k : Int} (h0 : 0 ≤ k) (h1 : k < 10) : nameRun a b 1 k.toNat = true :=
  upTo10 (Q := fun k => nameRun a b 1 k.toNat = true) h0 h1 (nr1x0 a b) (nr1x1 a b) (nr1x2 a b) (nr1x3 a b) (nr1x4 a b) (nr1x5 a b) (nr1x6 a b) (nr1x7 a b) (nr1x8 a b) (nr1x9 a b)
theorem row2 (a b : AV) {k : Int} (h0 : 0 ≤ k) (h1 : k < 10) : nameRun a b 2 k.toNat = true :=
  upTo10 (Q := fun k => nameRun a b 2 k.toNat = true) h0 h1 (nr2x0 a b) (nr2x1 a b) (nr2x2 a b) (nr2x3 a b) (nr2x4 a b) (nr2x5 a b) (nr2x6 a b) (nr2x7 a b) (nr2x8 a b) (nr2x9 a b)
theorem row3 (a b : AV) {k : Int} (h0 : 0 ≤ k) (h1 : k < 10) : nameRun a b 3 k.toNat = true :=
  upTo10 (Q := fun k => nameRun a b 3 k.toNat = true) h0 h1 (nr3x0 a b) (nr3x1 a b) (nr3x2 a b) (nr3x3 a b) (nr3x4 a b) (nr3x5 a b) (nr3x6 a b) (nr3x7 a b) (nr3x8 a b) (nr3x9 a b)
theorem row4 (a b : AV) {k : Int} (h0 : 0 ≤ k) (h1 : k < 10) : nameRun a b 4 k.toNat = true :=
  upTo10 (Q := fun k => nameRun a b 4 k.toNat = true) h0 h1 (nr4x0 a b) (nr4x1 a b) (nr4x2 a b) (nr4x3 a b) (nr4x4 a b) (nr4x5 a b) (nr4x6 a b) (nr4x7 a b) (nr4x8 a b) (nr4x9 a b)
theorem row5 (a b : AV) {k : Int} (h0 : 0 ≤ k) (h1 : k < 10) : nameRun a b 5 k.toNat = true :=
  upTo10 (Q := fun k => nameRun a b 5 k.toNat = true) h0 h1 (nr5x0 a b) (nr5x1 a b) (nr5x2 a b) (nr5x3 a b) (nr5x4 a b) (nr5x5 a b) (nr5x6 a b) (nr5x7 a b) (nr5x8 a b) (nr5x9 a b)
theorem row6 (a b : AV) {k : Int} (h0 : 0 ≤ k) (h1 : k < 10) : nameRun a b 6 k.toNat = true :=
  upTo10 (Q := fun k => nameRun a b 6 k.toNat = true) h0 h1 (nr6x0 a b) (nr6x1 a b) (nr6x2 a b) (nr6x3 a b) (nr6x4 a b) (nr6x5 a b) (nr6x6 a b) (nr6x7 a b) (nr6x8 a b) (nr6x9 a b)
theorem row7 (a b : AV) {k : Int} (h0 : 0 ≤ k) (h1 : k < 10) : nameRun a b 7 k.toNat = true :=
  upTo10 (Q := fun k => nameRun a b 7 k.toNat = true) h0 h1 (nr7x0 a b) (nr7x1 a b) (nr7x2 a b) (nr7x3 a b) (nr7x4 a b) (nr7x5 a b) (nr7x6 a b) (nr7x7 a b) (nr7x8 a b) (nr7x9 a b)
theorem row8 (a b : AV) {k : Int} (h0 : 0 ≤ k) (h1 : k < 10) : nameRun a b 8 k.toNat = true :=
  upTo10 (Q := fun k => nameRun a b 8 k.toNat = true) h0 h1 (nr8x0 a b) (nr8x1 a b) (nr8x2 a b) (nr8x3 a b) (nr8x4 a b) (nr8x5 a b) (nr8x6 a b) (nr8x7 a b) (nr8x8 a b) (nr8x9 a b)
theorem row9 (a b : AV) {k : Int} (h0 : 0 ≤ k) (h1 : k < 10) : nameRun a b 9 k.toNat = true :=
  upTo10 (Q := fun k => nameRun a b 9 k.toNat = true) h0 h1 (nr9x0 a b) (nr9x1 a b) (nr9x2 a b) (nr9x3 a b) (nr9x4 a b) (nr9x5 a b) (nr9x6 a b) (nr9x7 a b) (nr9x8 a b) (nr9x9 a b)
theorem allN (a b : AV) {j k : Int} (g0 : 0 ≤ j) (g1 : j < 10) (h0 : 0 ≤ k) (h1 : k < 10) : nameRun a b j.toNat k.toNat = true :=
  upTo10 (Q := fun j => nameRun a b j.toNat k.toNat = true) g0 g1 (row0 a b h0 h1) (row1 a b h0 h1) (row2 a b h0 h1) (row3 a b h0 h1) (row4 a b h0 h1) (row5 a b h0 h1) (row6 a b h0 h1) (row7 a b h0 h1) (row8 a b h0 h1) (row9 a b h0 h1)
theorem walk6 (k n : Int) (w : World) : Calls Tryz.prog 6 #[.int .i64 k, .int .i64 n] w fun e w' => e = .returned (.bool true) ∧ Kept (Bs.top w).keep w w' := by
  have hk := pl_range k (c := 10) (by decide)
  have hn := pl_range n (c := 10) (by decide)
  obtain ⟨σ', hv⟩ := isTrue_ok (allN (.sc (.int .i64 k)) (.sc (.int .i64 n)) hk.1 hk.2 hn.1 hn.2)
  refine calls_of_wp_defers Tryz.func6 body6 ?_
  refine seq_ok (ρ := Rho0) (base := Bs.top w) mixed (oracle17 k) 0 (g0 (.sc (.int .i64 k)) (.sc (.int .i64 n)) _) (WR.start w) (entry_FR (args' := [.int .i64 k, .int .i64 n]) (.cons (.sc _) (.cons (.sc _) .nil)) ps6) fun ρ1 a1 w1 l1 hw1 hf1 hk1 => ?_
  refine seq_ok mixed (oracle17 k) 0 (g1 (.sc (.int .i64 k)) (.sc (.int .i64 n)) _) hw1 hf1 fun ρ2 a2 w2 l2 hw2 hf2 hk2 => ?_
  refine seq_ok mixed (oracle17 k) 0 ((g2 (.sc (.int .i64 k)) (.sc (.int .i64 n)) (.i (pl k 10)) _ (oracle_eq _ _ _ _)).trans (g2b _ _ _ hk.1 hk.2)) hw2 hf2 fun ρ3 a3 w3 l3 hw3 hf3 hk3 => ?_
  refine seq_ok mixed (oracle17 n) 0 ((g3 (.sc (.int .i64 k)) (.sc (.int .i64 n)) _ (.i (pl n 10)) _ (oracle_eq _ _ _ _)).trans (g3b _ _ _ _ hn.1 hn.2)) hw3 hf3 fun ρ4 a4 w4 l4 hw4 hf4 hk4 => ?_
  rw [← kr6] at hv
  refine rest_ok (ps := c6.params) (cc := c6.code) cfgA_ok mixed callA_ok 3000 rs6 hv hw4 hf4 fun v' w' hg => ?_
  obtain ⟨rfl, hk5⟩ := hg.true
  exact ⟨rfl, (((hk1.trans hk2).trans hk3).trans hk4).trans hk5⟩
