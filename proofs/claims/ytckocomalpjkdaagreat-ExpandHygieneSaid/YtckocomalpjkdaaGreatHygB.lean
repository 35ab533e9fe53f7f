/- A call of ExpandHygiene with any three whole numbers returns true, and leaves every block that was there as it was; no condition. -/
import Derived.Test.YtckocomalpjkdaaGreatHyg0a
import Derived.Test.YtckocomalpjkdaaGreatHyg0b
import Derived.Test.YtckocomalpjkdaaGreatHyg1a
import Derived.Test.YtckocomalpjkdaaGreatHyg1b
import Derived.Test.YtckocomalpjkdaaGreatHyg2a
import Derived.Test.YtckocomalpjkdaaGreatHyg2b
import Derived.Test.YtckocomalpjkdaaGreatHyg3a
import Derived.Test.YtckocomalpjkdaaGreatHyg3b
import Derived.Test.YtckocomalpjkdaaGreatHyg4a
import Derived.Test.YtckocomalpjkdaaGreatHyg4b
import Derived.Test.YtckocomalpjkdaaGreatHyg5a
import Derived.Test.YtckocomalpjkdaaGreatHyg6a
import Derived.Test.YtckocomalpjkdaaGreatHyg6b
import Derived.Test.YtckocomalpjkdaaGreatHyg7a
import Derived.Test.YtckocomalpjkdaaGreatHyg8a
import Derived.Test.YtckocomalpjkdaaGreatHyg8b
set_option linter.unusedVariables false
set_option linter.unusedSimpArgs false
set_option linter.unusedSectionVars false
open Go Go.Proofs Go.AE Go.RowKit AET
set_option maxRecDepth 100000
theorem place_walk9 (n : Int) (w : World) : Calls Tryz.prog 17 #[.int .i64 n, .int .i64 9] w fun e w' => e = .returned (.int .i64 (pl n 9)) ∧ w' = w := by
  have h := pl_range n (c := 9) (by decide)
  unfold pl at *
  go_enter Tryz.func17, Tryz.ntmps17
  go_wp2
  all_goals (go_ret; exact ⟨rfl, rfl⟩)
theorem place_walk4 (n : Int) (w : World) : Calls Tryz.prog 17 #[.int .i64 n, .int .i64 4] w fun e w' => e = .returned (.int .i64 (pl n 4)) ∧ w' = w := by
  have h := pl_range n (c := 4) (by decide)
  unfold pl at *
  go_enter Tryz.func17, Tryz.ntmps17
  go_wp2
  all_goals (go_ret; exact ⟨rfl, rfl⟩)
theorem enters17 : Enters Tryz.prog 17 := ⟨Tryz.f17, _, Tryz.func17, by decide +kernel, rfl⟩
theorem oracle17n9 (n : Int) : CallOK Tryz.prog (oracle 17 [.sc (.int .i64 n), .i 9] (.i (pl n 9))) := oracle_ok enters17 fun ρ base σ w args' hw ha => by
  cases ha with
  | cons h1 h2 => cases h2 with
    | cons h3 h4 => cases h4; cases h1; cases h3
                    exact (place_walk9 n w).mono fun e w' ⟨he, hw'⟩ => ⟨_, he, by subst hw'; exact Good.same hw (.i _)⟩
theorem oracle17n4 (n : Int) : CallOK Tryz.prog (oracle 17 [.sc (.int .i64 n), .i 4] (.i (pl n 4))) := oracle_ok enters17 fun ρ base σ w args' hw ha => by
  cases ha with
  | cons h1 h2 => cases h2 with
    | cons h3 h4 => cases h4; cases h1; cases h3
                    exact (place_walk4 n w).mono fun e w' ⟨he, hw'⟩ => ⟨_, he, by subst hw'; exact Good.same hw (.i _)⟩
theorem rowh0x0 (a b c : AV) {k : Int} (h0 : 0 ≤ k) (h1 : k < 4) : hygRun a b c 0 0 k.toNat = true := upTo4 (Q := fun k => hygRun a b c 0 0 k.toNat = true) h0 h1 (hr0x0x0 a b c) (hr0x0x1 a b c) (hr0x0x2 a b c) (hr0x0x3 a b c)
theorem rowh0x1 (a b c : AV) {k : Int} (h0 : 0 ≤ k) (h1 : k < 4) : hygRun a b c 0 1 k.toNat = true := upTo4 (Q := fun k => hygRun a b c 0 1 k.toNat = true) h0 h1 (hr0x1x0 a b c) (hr0x1x1 a b c) (hr0x1x2 a b c) (hr0x1x3 a b c)
theorem rowh0x2 (a b c : AV) {k : Int} (h0 : 0 ≤ k) (h1 : k < 4) : hygRun a b c 0 2 k.toNat = true := upTo4 (Q := fun k => hygRun a b c 0 2 k.toNat = true) h0 h1 (hr0x2x0 a b c) (hr0x2x1 a b c) (hr0x2x2 a b c) (hr0x2x3 a b c)
theorem rowh0x3 (a b c : AV) {k : Int} (h0 : 0 ≤ k) (h1 : k < 4) : hygRun a b c 0 3 k.toNat = true := upTo4 (Q := fun k => hygRun a b c 0 3 k.toNat = true) h0 h1 (hr0x3x0 a b c) (hr0x3x1 a b c) (hr0x3x2 a b c) (hr0x3x3 a b c)
theorem rowh0x4 (a b c : AV) {k : Int} (h0 : 0 ≤ k) (h1 : k < 4) : hygRun a b c 0 4 k.toNat = true := upTo4 (Q := fun k => hygRun a b c 0 4 k.toNat = true) h0 h1 (hr0x4x0 a b c) (hr0x4x1 a b c) (hr0x4x2 a b c) (hr0x4x3 a b c)
theorem rowh0x5 (a b c : AV) {k : Int} (h0 : 0 ≤ k) (h1 : k < 4) : hygRun a b c 0 5 k.toNat = true := upTo4 (Q := fun k => hygRun a b c 0 5 k.toNat = true) h0 h1 (hr0x5x0 a b c) (hr0x5x1 a b c) (hr0x5x2 a b c) (hr0x5x3 a b c)
theorem rowh0x6 (a b c : AV) {k : Int} (h0 : 0 ≤ k) (h1 : k < 4) : hygRun a b c 0 6 k.toNat = true := upTo4 (Q := fun k => hygRun a b c 0 6 k.toNat = true) h0 h1 (hr0x6x0 a b c) (hr0x6x1 a b c) (hr0x6x2 a b c) (hr0x6x3 a b c)
theorem rowh0x7 (a b c : AV) {k : Int} (h0 : 0 ≤ k) (h1 : k < 4) : hygRun a b c 0 7 k.toNat = true := upTo4 (Q := fun k => hygRun a b c 0 7 k.toNat = true) h0 h1 (hr0x7x0 a b c) (hr0x7x1 a b c) (hr0x7x2 a b c) (hr0x7x3 a b c)
theorem rowh0x8 (a b c : AV) {k : Int} (h0 : 0 ≤ k) (h1 : k < 4) : hygRun a b c 0 8 k.toNat = true := upTo4 (Q := fun k => hygRun a b c 0 8 k.toNat = true) h0 h1 (hr0x8x0 a b c) (hr0x8x1 a b c) (hr0x8x2 a b c) (hr0x8x3 a b c)
theorem rowh0 (a b c : AV) {j k : Int} (g0 : 0 ≤ j) (g1 : j < 9) (h0 : 0 ≤ k) (h1 : k < 4) : hygRun a b c 0 j.toNat k.toNat = true := upTo9 (Q := fun j => hygRun a b c 0 j.toNat k.toNat = true) g0 g1 (rowh0x0 a b c h0 h1) (rowh0x1 a b c h0 h1) (rowh0x2 a b c h0 h1) (rowh0x3 a b c h0 h1) (rowh0x4 a b c h0 h1) (rowh0x5 a b c h0 h1) (rowh0x6 a b c h0 h1) (rowh0x7 a b c h0 h1) (rowh0x8 a b c h0 h1)
theorem rowh1x0 (a b c : AV) {k : Int} (h0 : 0 ≤ k) (h1 : k < 4) : hygRun a b c 1 0 k.toNat = true := upTo4 (Q := fun k => hygRun a b c 1 0 k.toNat = true) h0 h1 (hr1x0x0 a b c) (hr1x0x1 a b c) (hr1x0x2 a b c) (hr1x0x3 a b c)
theorem rowh1x1 (a b c : AV) {k : Int} (h0 : 0 ≤ k) (h1 : k < 4) : hygRun a b c 1 1 k.toNat = true := upTo4 (Q := fun k => hygRun a b c 1 1 k.toNat = true) h0 h1 (hr1x1x0 a b c) (hr1x1x1 a b c) (hr1x1x2 a b c) (hr1x1x3 a b c)
theorem rowh1x2 (a b c : AV) {k : Int} (h0 : 0 ≤ k) (h1 : k < 4) : hygRun a b c 1 2 k.toNat = true := upTo4 (Q := fun k => hygRun a b c 1 2 k.toNat = true) h0 h1 (hr1x2x0 a b c) (hr1x2x1 a b c) (hr1x2x2 a b c) (hr1x2x3 a b c)
theorem rowh1x3 (a b c : AV) {k : Int} (h0 : 0 ≤ k) (h1 : k < 4) : hygRun a b c 1 3 k.toNat = true := upTo4 (Q := fun k => hygRun a b c 1 3 k.toNat = true) h0 h1 (hr1x3x0 a b c) (hr1x3x1 a b c) (hr1x3x2 a b c) (hr1x3x3 a b c)
theorem rowh1x4 (a b c : AV) {k : Int} (h0 : 0 ≤ k) (h1 : k < 4) : hygRun a b c 1 4 k.toNat = true := upTo4 (Q := fun k => hygRun a b c 1 4 k.toNat = true) h0 h1 (hr1x4x0 a b c) (hr1x4x1 a b c) (hr1x4x2 a b c) (hr1x4x3 a b c)
theorem rowh1x5 (a b c : AV) {k : Int} (h0 : 0 ≤ k) (h1 : k < 4) : hygRun a b c 1 5 k.toNat = true := upTo4 (Q := fun k => hygRun a b c 1 5 k.toNat = true) h0 h1 (hr1x5x0 a b c) (hr1x5x1 a b c) (hr1x5x2 a b c) (hr1x5x3 a b c)
theorem rowh1x6 (a b c : AV) {k : Int} (h0 : 0 ≤ k) (h1 : k < 4) : hygRun a b c 1 6 k.toNat = true := upTo4 (Q := fun k => hygRun a b c 1 6 k.toNat = true) h0 h1 (hr1x6x0 a b c) (hr1x6x1 a b c) (hr1x6x2 a b c) (hr1x6x3 a b c)
theorem rowh1x7 (a b c : AV) {k : Int} (h0 : 0 ≤ k) (h1 : k < 4) : hygRun a b c 1 7 k.toNat = true := upTo4 (Q := fun k => hygRun a b c 1 7 k.toNat = true) h0 h1 (hr1x7x0 a b c) (hr1x7x1 a b c) (hr1x7x2 a b c) (hr1x7x3 a b c)
theorem rowh1x8 (a b c : AV) {k : Int} (h0 : 0 ≤ k) (h1 : k < 4) : hygRun a b c 1 8 k.toNat = true := upTo4 (Q := fun k => hygRun a b c 1 8 k.toNat = true) h0 h1 (hr1x8x0 a b c) (hr1x8x1 a b c) (hr1x8x2 a b c) (hr1x8x3 a b c)
theorem rowh1 (a b c : AV) {j k : Int} (g0 : 0 ≤ j) (g1 : j < 9) (h0 : 0 ≤ k) (h1 : k < 4) : hygRun a b c 1 j.toNat k.toNat = true := upTo9 (Q := fun j => hygRun a b c 1 j.toNat k.toNat = true) g0 g1 (rowh1x0 a b c h0 h1) (rowh1x1 a b c h0 h1) (rowh1x2 a b c h0 h1) (rowh1x3 a b c h0 h1) (rowh1x4 a b c h0 h1) (rowh1x5 a b c h0 h1) (rowh1x6 a b c h0 h1) (rowh1x7 a b c h0 h1) (rowh1x8 a b c h0 h1)
theorem rowh2x0 (a b c : AV) {k : Int} (h0 : 0 ≤ k) (h1 : k < 4) : hygRun a b c 2 0 k.toNat = true := upTo4 (Q := fun k => hygRun a b c 2 0 k.toNat = true) h0 h1 (hr2x0x0 a b c) (hr2x0x1 a b c) (hr2x0x2 a b c) (hr2x0x3 a b c)
theorem rowh2x1 (a b c : AV) {k : Int} (h0 : 0 ≤ k) (h1 : k < 4) : hygRun a b c 2 1 k.toNat = true := upTo4 (Q := fun k => hygRun a b c 2 1 k.toNat = true) h0 h1 (hr2x1x0 a b c) (hr2x1x1 a b c) (hr2x1x2 a b c) (hr2x1x3 a b c)
theorem rowh2x2 (a b c : AV) {k : Int} (h0 : 0 ≤ k) (h1 : k < 4) : hygRun a b c 2 2 k.toNat = true := upTo4 (Q := fun k => hygRun a b c 2 2 k.toNat = true) h0 h1 (hr2x2x0 a b c) (hr2x2x1 a b c) (hr2x2x2 a b c) (hr2x2x3 a b c)
theorem rowh2x3 (a b c : AV) {k : Int} (h0 : 0 ≤ k) (h1 : k < 4) : hygRun a b c 2 3 k.toNat = true := upTo4 (Q := fun k => hygRun a b c 2 3 k.toNat = true) h0 h1 (hr2x3x0 a b c) (hr2x3x1 a b c) (hr2x3x2 a b c) (hr2x3x3 a b c)
theorem rowh2x4 (a b c : AV) {k : Int} (h0 : 0 ≤ k) (h1 : k < 4) : hygRun a b c 2 4 k.toNat = true := upTo4 (Q := fun k => hygRun a b c 2 4 k.toNat = true) h0 h1 (hr2x4x0 a b c) (hr2x4x1 a b c) (hr2x4x2 a b c) (hr2x4x3 a b c)
theorem rowh2x5 (a b c : AV) {k : Int} (h0 : 0 ≤ k) (h1 : k < 4) : hygRun a b c 2 5 k.toNat = true := upTo4 (Q := fun k => hygRun a b c 2 5 k.toNat = true) h0 h1 (hr2x5x0 a b c) (hr2x5x1 a b c) (hr2x5x2 a b c) (hr2x5x3 a b c)
theorem rowh2x6 (a b c : AV) {k : Int} (h0 : 0 ≤ k) (h1 : k < 4) : hygRun a b c 2 6 k.toNat = true := upTo4 (Q := fun k => hygRun a b c 2 6 k.toNat = true) h0 h1 (hr2x6x0 a b c) (hr2x6x1 a b c) (hr2x6x2 a b c) (hr2x6x3 a b c)
theorem rowh2x7 (a b c : AV) {k : Int} (h0 : 0 ≤ k) (h1 : k < 4) : hygRun a b c 2 7 k.toNat = true := upTo4 (Q := fun k => hygRun a b c 2 7 k.toNat = true) h0 h1 (hr2x7x0 a b c) (hr2x7x1 a b c) (hr2x7x2 a b c) (hr2x7x3 a b c)
theorem rowh2x8 (a b c : AV) {k : Int} (h0 : 0 ≤ k) (h1 : k < 4) : hygRun a b c 2 8 k.toNat = true := upTo4 (Q := fun k => hygRun a b c 2 8 k.toNat = true) h0 h1 (hr2x8x0 a b c) (hr2x8x1 a b c) (hr2x8x2 a b c) (hr2x8x3 a b c)
theorem rowh2 (a b c : AV) {j k : Int} (g0 : 0 ≤ j) (g1 : j < 9) (h0 : 0 ≤ k) (h1 : k < 4) : hygRun a b c 2 j.toNat k.toNat = true := upTo9 (Q := fun j => hygRun a b c 2 j.toNat k.toNat = true) g0 g1 (rowh2x0 a b c h0 h1) (rowh2x1 a b c h0 h1) (rowh2x2 a b c h0 h1) (rowh2x3 a b c h0 h1) (rowh2x4 a b c h0 h1) (rowh2x5 a b c h0 h1) (rowh2x6 a b c h0 h1) (rowh2x7 a b c h0 h1) (rowh2x8 a b c h0 h1)
theorem rowh3x0 (a b c : AV) {k : Int} (h0 : 0 ≤ k) (h1 : k < 4) : hygRun a b c 3 0 k.toNat = true := upTo4 (Q := fun k => hygRun a b c 3 0 k.toNat = true) h0 h1 (hr3x0x0 a b c) (hr3x0x1 a b c) (hr3x0x2 a b c) (hr3x0x3 a b c)
theorem rowh3x1 (a b c : AV) {k : Int} (h0 : 0 ≤ k) (h1 : k < 4) : hygRun a b c 3 1 k.toNat = true := upTo4 (Q := fun k => hygRun a b c 3 1 k.toNat = true) h0 h1 (hr3x1x0 a b c) (hr3x1x1 a b c) (hr3x1x2 a b c) (hr3x1x3 a b c)
theorem rowh3x2 (a b c : AV) {k : Int} (h0 : 0 ≤ k) (h1 : k < 4) : hygRun a b c 3 2 k.toNat = true := upTo4 (Q := fun k => hygRun a b c 3 2 k.toNat = true) h0 h1 (hr3x2x0 a b c) (hr3x2x1 a b c) (hr3x2x2 a b c) (hr3x2x3 a b c)
theorem rowh3x3 (a b c : AV) {k : Int} (h0 : 0 ≤ k) (h1 : k < 4) : hygRun a b c 3 3 k.toNat = true := upTo4 (Q := fun k => hygRun a b c 3 3 k.toNat = true) h0 h1 (hr3x3x0 a b c) (hr3x3x1 a b c) (hr3x3x2 a b c) (hr3x3x3 a b c)
theorem rowh3x4 (a b c : AV) {k : Int} (h0 : 0 ≤ k) (h1 : k < 4) : hygRun a b c 3 4 k.toNat = true := upTo4 (Q := fun k => hygRun a b c 3 4 k.toNat = true) h0 h1 (hr3x4x0 a b c) (hr3x4x1 a b c) (hr3x4x2 a b c) (hr3x4x3 a b c)
theorem rowh3x5 (a b c : AV) {k : Int} (h0 : 0 ≤ k) (h1 : k < 4) : hygRun a b c 3 5 k.toNat = true := upTo4 (Q := fun k => hygRun a b c 3 5 k.toNat = true) h0 h1 (hr3x5x0 a b c) (hr3x5x1 a b c) (hr3x5x2 a b c) (hr3x5x3 a b c)
theorem rowh3x6 (a b c : AV) {k : Int} (h0 : 0 ≤ k) (h1 : k < 4) : hygRun a b c 3 6 k.toNat = true := upTo4 (Q := fun k => hygRun a b c 3 6 k.toNat = true) h0 h1 (hr3x6x0 a b c) (hr3x6x1 a b c) (hr3x6x2 a b c) (hr3x6x3 a b c)
theorem rowh3x7 (a b c : AV) {k : Int} (h0 : 0 ≤ k) (h1 : k < 4) : hygRun a b c 3 7 k.toNat = true := upTo4 (Q := fun k => hygRun a b c 3 7 k.toNat = true) h0 h1 (hr3x7x0 a b c) (hr3x7x1 a b c) (hr3x7x2 a b c) (hr3x7x3 a b c)
theorem rowh3x8 (a b c : AV) {k : Int} (h0 : 0 ≤ k) (h1 : k < 4) : hygRun a b c 3 8 k.toNat = true := upTo4 (Q := fun k => hygRun a b c 3 8 k.toNat = true) h0 h1 (hr3x8x0 a b c) (hr3x8x1 a b c) (hr3x8x2 a b c) (hr3x8x3 a b c)
theorem rowh3 (a b c : AV) {j k : Int} (g0 : 0 ≤ j) (g1 : j < 9) (h0 : 0 ≤ k) (h1 : k < 4) : hygRun a b c 3 j.toNat k.toNat = true := upTo9 (Q := fun j => hygRun a b c 3 j.toNat k.toNat = true) g0 g1 (rowh3x0 a b c h0 h1) (rowh3x1 a b c h0 h1) (rowh3x2 a b c h0 h1) (rowh3x3 a b c h0 h1) (rowh3x4 a b c h0 h1) (rowh3x5 a b c h0 h1) (rowh3x6 a b c h0 h1) (rowh3x7 a b c h0 h1) (rowh3x8 a b c h0 h1)
theorem rowh4x0 (a b c : AV) {k : Int} (h0 : 0 ≤ k) (h1 : k < 4) : hygRun a b c 4 0 k.toNat = true := upTo4 (Q := fun k => hygRun a b c 4 0 k.toNat = true) h0 h1 (hr4x0x0 a b c) (hr4x0x1 a b c) (hr4x0x2 a b c) (hr4x0x3 a b c)
theorem rowh4x1 (a b c : AV) {k : Int} (h0 : 0 ≤ k) (h1 : k < 4) : hygRun a b c 4 1 k.toNat = true := upTo4 (Q := fun k => hygRun a b c 4 1 k.toNat = true) h0 h1 (hr4x1x0 a b c) (hr4x1x1 a b c) (hr4x1x2 a b c) (hr4x1x3 a b c)
theorem rowh4x2 (a b c : AV) {k : Int} (h0 : 0 ≤ k) (h1 : k < 4) : hygRun a b c 4 2 k.toNat = true := upTo4 (Q := fun k => hygRun a b c 4 2 k.toNat = true) h0 h1 (hr4x2x0 a b c) (hr4x2x1 a b c) (hr4x2x2 a b c) (hr4x2x3 a b c)
theorem rowh4x3 (a b c : AV) {k : Int} (h0 : 0 ≤ k) (h1 : k < 4) : hygRun a b c 4 3 k.toNat = true := upTo4 (Q := fun k => hygRun a b c 4 3 k.toNat = true) h0 h1 (hr4x3x0 a b c) (hr4x3x1 a b c) (hr4x3x2 a b c) (hr4x3x3 a b c)
theorem rowh4x4 (a b c : AV) {k : Int} (h0 : 0 ≤ k) (h1 : k < 4) : hygRun a b c 4 4 k.toNat = true := upTo4 (Q := fun k => hygRun a b c 4 4 k.toNat = true) h0 h1 (hr4x4x0 a b c) (hr4x4x1 a b c) (hr4x4x2 a b c) (hr4x4x3 a b c)
theorem rowh4x5 (a b c : AV) {k : Int} (h0 : 0 ≤ k) (h1 : k < 4) : hygRun a b c 4 5 k.toNat = true := upTo4 (Q := fun k => hygRun a b c 4 5 k.toNat = true) h0 h1 (hr4x5x0 a b c) (hr4x5x1 a b c) (hr4x5x2 a b c) (hr4x5x3 a b c)
theorem rowh4x6 (a b c : AV) {k : Int} (h0 : 0 ≤ k) (h1 : k < 4) : hygRun a b c 4 6 k.toNat = true := upTo4 (Q := fun k => hygRun a b c 4 6 k.toNat = true) h0 h1 (hr4x6x0 a b c) (hr4x6x1 a b c) (hr4x6x2 a b c) (hr4x6x3 a b c)
theorem rowh4x7 (a b c : AV) {k : Int} (h0 : 0 ≤ k) (h1 : k < 4) : hygRun a b c 4 7 k.toNat = true := upTo4 (Q := fun k => hygRun a b c 4 7 k.toNat = true) h0 h1 (hr4x7x0 a b c) (hr4x7x1 a b c) (hr4x7x2 a b c) (hr4x7x3 a b c)
theorem rowh4x8 (a b c : AV) {k : Int} (h0 : 0 ≤ k) (h1 : k < 4) : hygRun a b c 4 8 k.toNat = true := upTo4 (Q := fun k => hygRun a b c 4 8 k.toNat = true) h0 h1 (hr4x8x0 a b c) (hr4x8x1 a b c) (hr4x8x2 a b c) (hr4x8x3 a b c)
theorem rowh4 (a b c : AV) {j k : Int} (g0 : 0 ≤ j) (g1 : j < 9) (h0 : 0 ≤ k) (h1 : k < 4) : hygRun a b c 4 j.toNat k.toNat = true := upTo9 (Q := fun j => hygRun a b c 4 j.toNat k.toNat = true) g0 g1 (rowh4x0 a b c h0 h1) (rowh4x1 a b c h0 h1) (rowh4x2 a b c h0 h1) (rowh4x3 a b c h0 h1) (rowh4x4 a b c h0 h1) (rowh4x5 a b c h0 h1) (rowh4x6 a b c h0 h1) (rowh4x7 a b c h0 h1) (rowh4x8 a b c h0 h1)
theorem rowh5x0 (a b c : AV) {k : Int} (h0 : 0 ≤ k) (h1 : k < 4) : hygRun a b c 5 0 k.toNat = true := upTo4 (Q := fun k => hygRun a b c 5 0 k.toNat = true) h0 h1 (hr5x0x0 a b c) (hr5x0x1 a b c) (hr5x0x2 a b c) (hr5x0x3 a b c)
theorem rowh5x1 (a b c : AV) {k : Int} (h0 : 0 ≤ k) (h1 : k < 4) : hygRun a b c 5 1 k.toNat = true := upTo4 (Q := fun k => hygRun a b c 5 1 k.toNat = true) h0 h1 (hr5x1x0 a b c) (hr5x1x1 a b c) (hr5x1x2 a b c) (hr5x1x3 a b c)
theorem rowh5x2 (a b c : AV) {k : Int} (h0 : 0 ≤ k) (h1 : k < 4) : hygRun a b c 5 2 k.toNat = true := upTo4 (Q := fun k => hygRun a b c 5 2 k.toNat = true) h0 h1 (hr5x2x0 a b c) (hr5x2x1 a b c) (hr5x2x2 a b c) (hr5x2x3 a b c)
theorem rowh5x3 (a b c : AV) {k : Int} (h0 : 0 ≤ k) (h1 : k < 4) : hygRun a b c 5 3 k.toNat = true := upTo4 (Q := fun k => hygRun a b c 5 3 k.toNat = true) h0 h1 (hr5x3x0 a b c) (hr5x3x1 a b c) (hr5x3x2 a b c) (hr5x3x3 a b c)
theorem rowh5x4 (a b c : AV) {k : Int} (h0 : 0 ≤ k) (h1 : k < 4) : hygRun a b c 5 4 k.toNat = true := upTo4 (Q := fun k => hygRun a b c 5 4 k.toNat = true) h0 h1 (hr5x4x0 a b c) (hr5x4x1 a b c) (hr5x4x2 a b c) (hr5x4x3 a b c)
theorem rowh5x5 (a b c : AV) {k : Int} (h0 : 0 ≤ k) (h1 : k < 4) : hygRun a b c 5 5 k.toNat = true := upTo4 (Q := fun k => hygRun a b c 5 5 k.toNat = true) h0 h1 (hr5x5x0 a b c) (hr5x5x1 a b c) (hr5x5x2 a b c) (hr5x5x3 a b c)
theorem rowh5x6 (a b c : AV) {k : Int} (h0 : 0 ≤ k) (h1 : k < 4) : hygRun a b c 5 6 k.toNat = true := upTo4 (Q := fun k => hygRun a b c 5 6 k.toNat = true) h0 h1 (hr5x6x0 a b c) (hr5x6x1 a b c) (hr5x6x2 a b c) (hr5x6x3 a b c)
theorem rowh5x7 (a b c : AV) {k : Int} (h0 : 0 ≤ k) (h1 : k < 4) : hygRun a b c 5 7 k.toNat = true := upTo4 (Q := fun k => hygRun a b c 5 7 k.toNat = true) h0 h1 (hr5x7x0 a b c) (hr5x7x1 a b c) (hr5x7x2 a b c) (hr5x7x3 a b c)
theorem rowh5x8 (a b c : AV) {k : Int} (h0 : 0 ≤ k) (h1 : k < 4) : hygRun a b c 5 8 k.toNat = true := upTo4 (Q := fun k => hygRun a b c 5 8 k.toNat = true) h0 h1 (hr5x8x0 a b c) (hr5x8x1 a b c) (hr5x8x2 a b c) (hr5x8x3 a b c)
theorem rowh5 (a b c : AV) {j k : Int} (g0 : 0 ≤ j) (g1 : j < 9) (h0 : 0 ≤ k) (h1 : k < 4) : hygRun a b c 5 j.toNat k.toNat = true := upTo9 (Q := fun j => hygRun a b c 5 j.toNat k.toNat = true) g0 g1 (rowh5x0 a b c h0 h1) (rowh5x1 a b c h0 h1) (rowh5x2 a b c h0 h1) (rowh5x3 a b c h0 h1) (rowh5x4 a b c h0 h1) (rowh5x5 a b c h0 h1) (rowh5x6 a b c h0 h1) (rowh5x7 a b c h0 h1) (rowh5x8 a b c h0 h1)
theorem rowh6x0 (a b c : AV) {k : Int} (h0 : 0 ≤ k) (h1 : k < 4) : hygRun a b c 6 0 k.toNat = true := upTo4 (Q := fun k => hygRun a b c 6 0 k.toNat = true) h0 h1 (hr6x0x0 a b c) (hr6x0x1 a b c) (hr6x0x2 a b c) (hr6x0x3 a b c)
theorem rowh6x1 (a b c : AV) {k : Int} (h0 : 0 ≤ k) (h1 : k < 4) : hygRun a b c 6 1 k.toNat = true := upTo4 (Q := fun k => hygRun a b c 6 1 k.toNat = true) h0 h1 (hr6x1x0 a b c) (hr6x1x1 a b c) (hr6x1x2 a b c) (hr6x1x3 a b c)
theorem rowh6x2 (a b c : AV) {k : Int} (h0 : 0 ≤ k) (h1 : k < 4) : hygRun a b c 6 2 k.toNat = true := upTo4 (Q := fun k => hygRun a b c 6 2 k.toNat = true) h0 h1 (hr6x2x0 a b c) (hr6x2x1 a b c) (hr6x2x2 a b c) (hr6x2x3 a b c)
theorem rowh6x3 (a b c : AV) {k : Int} (h0 : 0 ≤ k) (h1 : k < 4) : hygRun a b c 6 3 k.toNat = true := upTo4 (Q := fun k => hygRun a b c 6 3 k.toNat = true) h0 h1 (hr6x3x0 a b c) (hr6x3x1 a b c) (hr6x3x2 a b c) (hr6x3x3 a b c)
theorem rowh6x4 (a b c : AV) {k : Int} (h0 : 0 ≤ k) (h1 : k < 4) : hygRun a b c 6 4 k.toNat = true := upTo4 (Q := fun k => hygRun a b c 6 4 k.toNat = true) h0 h1 (hr6x4x0 a b c) (hr6x4x1 a b c) (hr6x4x2 a b c) (hr6x4x3 a b c)
theorem rowh6x5 (a b c : AV) {k : Int} (h0 : 0 ≤ k) (h1 : k < 4) : hygRun a b c 6 5 k.toNat = true := upTo4 (Q := fun k => hygRun a b c 6 5 k.toNat = true) h0 h1 (hr6x5x0 a b c) (hr6x5x1 a b c) (hr6x5x2 a b c) (hr6x5x3 a b c)
theorem rowh6x6 (a b c : AV) {k : Int} (h0 : 0 ≤ k) (h1 : k < 4) : hygRun a b c 6 6 k.toNat = true := upTo4 (Q := fun k => hygRun a b c 6 6 k.toNat = true) h0 h1 (hr6x6x0 a b c) (hr6x6x1 a b c) (hr6x6x2 a b c) (hr6x6x3 a b c)
theorem rowh6x7 (a b c : AV) {k : Int} (h0 : 0 ≤ k) (h1 : k < 4) : hygRun a b c 6 7 k.toNat = true := upTo4 (Q := fun k => hygRun a b c 6 7 k.toNat = true) h0 h1 (hr6x7x0 a b c) (hr6x7x1 a b c) (hr6x7x2 a b c) (hr6x7x3 a b c)
theorem rowh6x8 (a b c : AV) {k : Int} (h0 : 0 ≤ k) (h1 : k < 4) : hygRun a b c 6 8 k.toNat = true := upTo4 (Q := fun k => hygRun a b c 6 8 k.toNat = true) h0 h1 (hr6x8x0 a b c) (hr6x8x1 a b c) (hr6x8x2 a b c) (hr6x8x3 a b c)
theorem rowh6 (a b c : AV) {j k : Int} (g0 : 0 ≤ j) (g1 : j < 9) (h0 : 0 ≤ k) (h1 : k < 4) : hygRun a b c 6 j.toNat k.toNat = true := upTo9 (Q := fun j => hygRun a b c 6 j.toNat k.toNat = true) g0 g1 (rowh6x0 a b c h0 h1) (rowh6x1 a b c h0 h1) (rowh6x2 a b c h0 h1) (rowh6x3 a b c h0 h1) (rowh6x4 a b c h0 h1) (rowh6x5 a b c h0 h1) (rowh6x6 a b c h0 h1) (rowh6x7 a b c h0 h1) (rowh6x8 a b c h0 h1)
theorem rowh7x0 (a b c : AV) {k : Int} (h0 : 0 ≤ k) (h1 : k < 4) : hygRun a b c 7 0 k.toNat = true := upTo4 (Q := fun k => hygRun a b c 7 0 k.toNat = true) h0 h1 (hr7x0x0 a b c) (hr7x0x1 a b c) (hr7x0x2 a b c) (hr7x0x3 a b c)
theorem rowh7x1 (a b c : AV) {k : Int} (h0 : 0 ≤ k) (h1 : k < 4) : hygRun a b c 7 1 k.toNat = true := upTo4 (Q := fun k => hygRun a b c 7 1 k.toNat = true) h0 h1 (hr7x1x0 a b c) (hr7x1x1 a b c) (hr7x1x2 a b c) (hr7x1x3 a b c)
theorem rowh7x2 (a b c : AV) {k : Int} (h0 : 0 ≤ k) (h1 : k < 4) : hygRun a b c 7 2 k.toNat = true := upTo4 (Q := fun k => hygRun a b c 7 2 k.toNat = true) h0 h1 (hr7x2x0 a b c) (hr7x2x1 a b c) (hr7x2x2 a b c) (hr7x2x3 a b c)
theorem rowh7x3 (a b c : AV) {k : Int} (h0 : 0 ≤ k) (h1 : k < 4) : hygRun a b c 7 3 k.toNat = true := upTo4 (Q := fun k => hygRun a b c 7 3 k.toNat = true) h0 h1 (hr7x3x0 a b c) (hr7x3x1 a b c) (hr7x3x2 a b c) (hr7x3x3 a b c)
theorem rowh7x4 (a b c : AV) {k : Int} (h0 : 0 ≤ k) (h1 : k < 4) : hygRun a b c 7 4 k.toNat = true := upTo4 (Q := fun k => hygRun a b c 7 4 k.toNat = true) h0 h1 (hr7x4x0 a b c) (hr7x4x1 a b c) (hr7x4x2 a b c) (hr7x4x3 a b c)
theorem rowh7x5 (a b c : AV) {k : Int} (h0 : 0 ≤ k) (h1 : k < 4) : hygRun a b c 7 5 k.toNat = true := upTo4 (Q := fun k => hygRun a b c 7 5 k.toNat = true) h0 h1 (hr7x5x0 a b c) (hr7x5x1 a b c) (hr7x5x2 a b c) (hr7x5x3 a b c)
theorem rowh7x6 (a b c : AV) {k : Int} (h0 : 0 ≤ k) (h1 : k < 4) : hygRun a b c 7 6 k.toNat = true := upTo4 (Q := fun k => hygRun a b c 7 6 k.toNat = true) h0 h1 (hr7x6x0 a b c) (hr7x6x1 a b c) (hr7x6x2 a b c) (hr7x6x3 a b c)
theorem rowh7x7 (a b c : AV) {k : Int} (h0 : 0 ≤ k) (h1 : k < 4) : hygRun a b c 7 7 k.toNat = true := upTo4 (Q := fun k => hygRun a b c 7 7 k.toNat = true) h0 h1 (hr7x7x0 a b c) (hr7x7x1 a b c) (hr7x7x2 a b c) (hr7x7x3 a b c)
theorem rowh7x8 (a b c : AV) {k : Int} (h0 : 0 ≤ k) (h1 : k < 4) : hygRun a b c 7 8 k.toNat = true := upTo4 (Q := fun k => hygRun a b c 7 8 k.toNat = true) h0 h1 (hr7x8x0 a b c) (hr7x8x1 a b c) (hr7x8x2 a b c) (hr7x8x3 a b c)
theorem rowh7 (a b c : AV) {j k : Int} (g0 : 0 ≤ j) (g1 : j < 9) (h0 : 0 ≤ k) (h1 : k < 4) : hygRun a b c 7 j.toNat k.toNat = true := upTo9 (Q := fun j => hygRun a b c 7 j.toNat k.toNat = true) g0 g1 (rowh7x0 a b c h0 h1) (rowh7x1 a b c h0 h1) (rowh7x2 a b c h0 h1) (rowh7x3 a b c h0 h1) (rowh7x4 a b c h0 h1) (rowh7x5 a b c h0 h1) (rowh7x6 a b c h0 h1) (rowh7x7 a b c h0 h1) (rowh7x8 a b c h0 h1)
theorem rowh8x0 (a b c : AV) {k : Int} (h0 : 0 ≤ k) (h1 : k < 4) : hygRun a b c 8 0 k.toNat = true := upTo4 (Q := fun k => hygRun a b c 8 0 k.toNat = true) h0 h1 (hr8x0x0 a b c) (hr8x0x1 a b c) (hr8x0x2 a b c) (hr8x0x3 a b c)
theorem rowh8x1 (a b c : AV) {k : Int} (h0 : 0 ≤ k) (h1 : k < 4) : hygRun a b c 8 1 k.toNat = true := upTo4 (Q := fun k => hygRun a b c 8 1 k.toNat = true) h0 h1 (hr8x1x0 a b c) (hr8x1x1 a b c) (hr8x1x2 a b c) (hr8x1x3 a b c)
theorem rowh8x2 (a b c : AV) {k : Int} (h0 : 0 ≤ k) (h1 : k < 4) : hygRun a b c 8 2 k.toNat = true := upTo4 (Q := fun k => hygRun a b c 8 2 k.toNat = true) h0 h1 (hr8x2x0 a b c) (hr8x2x1 a b c) (hr8x2x2 a b c) (hr8x2x3 a b c)
theorem rowh8x3 (a b c : AV) {k : Int} (h0 : 0 ≤ k) (h1 : k < 4) : hygRun a b c 8 3 k.toNat = true := upTo4 (Q := fun k => hygRun a b c 8 3 k.toNat = true) h0 h1 (hr8x3x0 a b c) (hr8x3x1 a b c) (hr8x3x2 a b c) (hr8x3x3 a b c)
theorem rowh8x4 (a b c : AV) {k : Int} (h0 : 0 ≤ k) (h1 : k < 4) : hygRun a b c 8 4 k.toNat = true := upTo4 (Q := fun k => hygRun a b c 8 4 k.toNat = true) h0 h1 (hr8x4x0 a b c) (hr8x4x1 a b c) (hr8x4x2 a b c) (hr8x4x3 a b c)
theorem rowh8x5 (a b c : AV) {k : Int} (h0 : 0 ≤ k) (h1 : k < 4) : hygRun a b c 8 5 k.toNat = true := upTo4 (Q := fun k => hygRun a b c 8 5 k.toNat = true) h0 h1 (hr8x5x0 a b c) (hr8x5x1 a b c) (hr8x5x2 a b c) (hr8x5x3 a b c)
theorem rowh8x6 (a b c : AV) {k : Int} (h0 : 0 ≤ k) (h1 : k < 4) : hygRun a b c 8 6 k.toNat = true := upTo4 (Q := fun k => hygRun a b c 8 6 k.toNat = true) h0 h1 (hr8x6x0 a b c) (hr8x6x1 a b c) (hr8x6x2 a b c) (hr8x6x3 a b c)
theorem rowh8x7 (a b c : AV) {k : Int} (h0 : 0 ≤ k) (h1 : k < 4) : hygRun a b c 8 7 k.toNat = true := upTo4 (Q := fun k => hygRun a b c 8 7 k.toNat = true) h0 h1 (hr8x7x0 a b c) (hr8x7x1 a b c) (hr8x7x2 a b c) (hr8x7x3 a b c)
theorem rowh8x8 (a b c : AV) {k : Int} (h0 : 0 ≤ k) (h1 : k < 4) : hygRun a b c 8 8 k.toNat = true := upTo4 (Q := fun k => hygRun a b c 8 8 k.toNat = true) h0 h1 (hr8x8x0 a b c) (hr8x8x1 a b c) (hr8x8x2 a b c) (hr8x8x3 a b c)
theorem rowh8 (a b c : AV) {j k : Int} (g0 : 0 ≤ j) (g1 : j < 9) (h0 : 0 ≤ k) (h1 : k < 4) : hygRun a b c 8 j.toNat k.toNat = true := upTo9 (Q := fun j => hygRun a b c 8 j.toNat k.toNat = true) g0 g1 (rowh8x0 a b c h0 h1) (rowh8x1 a b c h0 h1) (rowh8x2 a b c h0 h1) (rowh8x3 a b c h0 h1) (rowh8x4 a b c h0 h1) (rowh8x5 a b c h0 h1) (rowh8x6 a b c h0 h1) (rowh8x7 a b c h0 h1) (rowh8x8 a b c h0 h1)
theorem allH (a b c : AV) {i j k : Int} (f0 : 0 ≤ i) (f1 : i < 9) (g0 : 0 ≤ j) (g1 : j < 9) (h0 : 0 ≤ k) (h1 : k < 4) : hygRun a b c i.toNat j.toNat k.toNat = true :=
  upTo9 (Q := fun i => hygRun a b c i.toNat j.toNat k.toNat = true) f0 f1 (rowh0 a b c g0 g1 h0 h1) (rowh1 a b c g0 g1 h0 h1) (rowh2 a b c g0 g1 h0 h1) (rowh3 a b c g0 g1 h0 h1) (rowh4 a b c g0 g1 h0 h1) (rowh5 a b c g0 g1 h0 h1) (rowh6 a b c g0 g1 h0 h1) (rowh7 a b c g0 g1 h0 h1) (rowh8 a b c g0 g1 h0 h1)
theorem walk5 (x y t : Int) (w : World) : Calls Tryz.prog 5 #[.int .i64 x, .int .i64 y, .int .i64 t] w fun e w' => e = .returned (.bool true) ∧ Kept (Bs.top w).keep w w' := by
  have hx := pl_range x (c := 9) (by decide)
  have hy := pl_range y (c := 9) (by decide)
  have ht := pl_range t (c := 4) (by decide)
  obtain ⟨σ', hv⟩ := isTrue_ok (allH (.sc (.int .i64 x)) (.sc (.int .i64 y)) (.sc (.int .i64 t)) hx.1 hx.2 hy.1 hy.2 ht.1 ht.2)
  refine calls_of_wp_defers Tryz.func5 body5 ?_
  refine seq_ok (ρ := Rho0) (base := Bs.top w) mixed (oracle17n9 x) 0 (z0 (.sc (.int .i64 x)) (.sc (.int .i64 y)) (.sc (.int .i64 t)) _) (WR.start w) (entry_FR (args' := [.int .i64 x, .int .i64 y, .int .i64 t]) (.cons (.sc _) (.cons (.sc _) (.cons (.sc _) .nil))) ps5) fun ρ1 a1 w1 l1 hw1 hf1 hk1 => ?_
  refine seq_ok mixed (oracle17n9 x) 0 (z1 (.sc (.int .i64 x)) (.sc (.int .i64 y)) (.sc (.int .i64 t)) _) hw1 hf1 fun ρ2 a2 w2 l2 hw2 hf2 hk2 => ?_
  refine seq_ok mixed (oracle17n9 x) 0 ((z2 (.sc (.int .i64 x)) (.sc (.int .i64 y)) (.sc (.int .i64 t)) (.i (pl x 9)) _ (oracle_eq _ _ _ _)).trans (z2b _ _ _ _ hx.1 hx.2)) hw2 hf2 fun ρ3 a3 w3 l3 hw3 hf3 hk3 => ?_
  refine seq_ok mixed (oracle17n9 y) 0 ((z3 (.sc (.int .i64 x)) (.sc (.int .i64 y)) (.sc (.int .i64 t)) _ (.i (pl y 9)) _ (oracle_eq _ _ _ _)).trans (z3b _ _ _ _ _ hy.1 hy.2)) hw3 hf3 fun ρ4 a4 w4 l4 hw4 hf4 hk4 => ?_
  refine seq_ok mixed (oracle17n4 t) 0 ((z4 (.sc (.int .i64 x)) (.sc (.int .i64 y)) (.sc (.int .i64 t)) _ _ (.i (pl t 4)) _ (oracle_eq _ _ _ _)).trans (z4b _ _ _ _ _ _ ht.1 ht.2)) hw4 hf4 fun ρ5 a5 w5 l5 hw5 hf5 hk5 => ?_
  rw [← kr5] at hv
  refine rest_ok (ps := c5.params) (cc := c5.code) cfgA_ok mixed callA_ok 3000 rs5 hv hw5 hf5 fun v' w' hg => ?_
  obtain ⟨rfl, hk6⟩ := hg.true
  exact ⟨rfl, ((((hk1.trans hk2).trans hk3).trans hk4).trans hk5).trans hk6⟩
