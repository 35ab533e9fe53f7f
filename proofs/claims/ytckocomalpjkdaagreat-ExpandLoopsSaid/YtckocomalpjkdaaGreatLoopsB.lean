/- A call of ExpandLoops with any whole number returns true, and leaves every block that was there as it was; no condition. -/
import Derived.Test.YtckocomalpjkdaaGreatLoops0
import Derived.Test.YtckocomalpjkdaaGreatLoops1
import Derived.Test.YtckocomalpjkdaaGreatLoops2
import Derived.Test.YtckocomalpjkdaaGreatLoops3
import Derived.Test.YtckocomalpjkdaaGreatLoops4
import Derived.Test.YtckocomalpjkdaaGreatLoops5
import Derived.WalkKit
import Derived.ProofKit
set_option linter.unusedVariables false
set_option linter.unusedSimpArgs false
set_option linter.unusedSectionVars false
open Go Go.Proofs Go.AE Go.RowKit AET
set_option maxRecDepth 100000
theorem put_self {a : Act} {d : Nat} {v : Value} (h : d < a.tmps.size) : (a.put (some d) v).eval (.tmp d) = v := by simp [Act.eval, Act.put, h]
theorem put_ne {a : Act} {d t : Nat} {v : Value} (h : d ≠ t) : (a.put (some d) v).eval (.tmp t) = a.eval (.tmp t) := by simp [Act.eval, Act.put, h]
theorem put_size {a : Act} {d : Nat} {v : Value} : (a.put (some d) v).tmps.size = a.tmps.size := by simp [Act.put]
theorem put_defers {a : Act} {d : Nat} {v : Value} : (a.put (some d) v).defers = a.defers := by simp [Act.put]
theorem idle56 : IdleOK Tryz.prog 56 := by
  refine ⟨⟨Tryz.f56, _, Tryz.func56, by decide +kernel, rfl⟩, fun args w => callsD_of_wpS Tryz.func56 rfl fun c₀ cs hu => ?_⟩
  generalize ha : ({ tmps := args ++ Array.replicate (Tryz.f56.ntmps - args.size) undef, defers := [] } : Act) = a
  have hs : 8 ≤ a.tmps.size := by rw [← ha]; simp [Tryz.f56]; omega
  have hd : a.defers = [] := by rw [← ha]
  clear ha
  have hrec := recoverD_returning (cs := cs) hu
  refine wpS_seq (wpS_region ?_)
  simp only [List.size_toArray, List.length_cons, List.length_nil, show List.range (0 + 1 + 1) = [0, 1] from rfl]
  have h1 : ∀ ty pos af, (execOp a.eval { dst := some 2, op := Op.call { callee := Callee.builtin Builtin.recover, args := #[], argTypes := #[] }, type := ty, pos := pos, after := af, guard := none }).run Tryz.prog w = .ok .recover w := by
    intros; simp [execOp, resolve, invoke, builtin]
  have h2 : ∀ ty pos af, (execOp (a.put (some 2) .nilIface).eval { dst := some 1, op := Op.assign (Operand.tmp 2), type := ty, pos := pos, after := af, guard := none }).run Tryz.prog w = .ok (.value .nilIface) w := by
    intros; simp [execOp, put_self (show 2 < a.tmps.size by omega)]
  simp only [wpOpsS, Region.wanted, List.getElem?_toArray, List.getElem?_cons_zero, List.getElem?_cons_succ, if_true, h1, hrec, h2, Oper.upon]
  generalize ha2 : (a.put (some 2) Value.nilIface).put (some 1) Value.nilIface = b
  have hb1 : b.eval (.tmp 1) = .nilIface := by rw [← ha2]; exact put_self (by rw [put_size]; omega)
  have hbs : 8 ≤ b.tmps.size := by rw [← ha2, put_size, put_size]; exact hs
  have hbd : b.defers = [] := by rw [← ha2, put_defers, put_defers]; exact hd
  clear ha2 h1 h2
  show Code.wpS _ _ _ _ _ _
  refine wpS_seq (wpS_region ?_)
  simp only [List.size_toArray, List.length_cons, List.length_nil, show List.range (0 + 1 + 1) = [0, 1] from rfl]
  have h1 : ∀ ty pos af, (execOp b.eval { dst := some 3, op := Op.move (Operand.tmp 1), type := ty, pos := pos, after := af, guard := none }).run Tryz.prog w = .ok (.value .nilIface) w := by
    intros; simp [execOp, hb1]
  have h2 : ∀ ty pos af, (execOp (b.put (some 3) .nilIface).eval { dst := some 4, op := Op.binOp BinOp.neq 20 (Operand.tmp 3) (Operand.const Value.nilIface) 20, type := ty, pos := pos, after := af, guard := none }).run Tryz.prog w = .ok (.value (.bool false)) w := by
    intros
    have e3 : (b.put (some 3) .nilIface).eval (.tmp 3) = .nilIface := put_self (show 3 < b.tmps.size by omega)
    have ec : (b.put (some 3) .nilIface).eval (.const Value.nilIface) = .nilIface := rfl
    have hg : (eqGuard BinOp.neq 20 (Operand.tmp 3) (Operand.const Value.nilIface) .nilIface .nilIface).run Tryz.prog w = .ok () w := by simp [eqGuard]
    have hb : (binOp BinOp.neq 20 Value.nilIface Value.nilIface).run Tryz.prog w = .ok (.bool false) w := pureRun_run _ _ (by kernel_rfl) w
    simp only [execOp, e3, ec, Sem.run_bind, hg, hb, Result.andThen_ok, Sem.run_pure]
  simp only [wpOpsS, Region.wanted, List.getElem?_toArray, List.getElem?_cons_zero, List.getElem?_cons_succ, if_true, h1, h2, Oper.upon]
  show Code.wpS _ _ _ _ _ _
  refine wpS_cond (t := false) (put_self (by rw [put_size]; omega)) ?_
  refine wpS_of_wp (wp_skip ?_)
  exact ⟨by rw [put_defers, put_defers]; exact hbd, .returning, by rw [← hu], .tuple #[], by simp [Go.results, Tryz.f56], ⟨_, rfl⟩, rfl, rfl⟩

theorem cfg_idle (f : Nat) (h : cfg.idle.contains f = true) : IdleOK Tryz.prog f := by
  have : f = 56 := by simpa [cfg] using h
  subst this; exact idle56
theorem cfg_ok : KnownOK Tryz.prog cfg := ⟨fun f args v h => (by cases h), cfg_idle⟩
theorem mixed : Tryz.prog.follows .mixedOrders = true := by kernel_rfl
theorem call_ok : CallOK Tryz.prog (callN cfg 3000 tab 200) := callN_ok cfg_ok mixed (fun f cf h => tabFind_ok tab_all f cf h) 3000 200

def pl (n c : Int) : Int := if n.tmod c < 0 then n.tmod c + c else n.tmod c
theorem pl_range (n : Int) {c : Int} (hc : 0 < c) : 0 ≤ pl n c ∧ pl n c < c := by
  unfold pl
  have h1 := Int.tmod_lt_of_pos n hc
  have h2 : -c < n.tmod c := Int.lt_tmod_of_pos n hc
  split <;> omega
theorem place_walk (n : Int) (w : World) : Calls Tryz.prog 17 #[.int .i64 n, .int .i64 6] w fun e w' => e = .returned (.int .i64 (pl n 6)) ∧ w' = w := by
  have h := pl_range n (c := 6) (by decide)
  unfold pl at *
  go_enter Tryz.func17, Tryz.ntmps17
  go_wp2
  all_goals (go_ret; exact ⟨rfl, rfl⟩)

theorem enters17 : Enters Tryz.prog 17 := ⟨Tryz.f17, _, Tryz.func17, by decide +kernel, rfl⟩
theorem oracle17 (n : Int) : CallOK Tryz.prog (oracle 17 [.sc (.int .i64 n), .i 6] (.i (pl n 6))) := oracle_ok enters17 fun ρ base σ w args' hw ha => by
  cases ha with
  | cons h1 h2 => cases h2 with
    | cons h3 h4 => cases h4; cases h1; cases h3
                    exact (place_walk n w).mono fun e w' ⟨he, hw'⟩ => ⟨_, he, by subst hw'; exact Good.same hw (.i _)⟩

noncomputable def R0 : Code := sq1 (bodyOf Tryz.f8)
noncomputable def R1 : Code := sq1 (sq2 (bodyOf Tryz.f8))
theorem body8 : Tryz.f8.body = some (.seq R0 (.seq R1 rest8)) := rfl
theorem ps8 : mapO (slotOf gs8) (List.range 1) = some c8.params := by kernel_rfl
theorem rs8 : mapO (cmpRes Tryz.prog gs8) Tryz.f8.results.toList = some c8.res := by kernel_rfl
theorem e0 (n : AV) (call : AE.Call) : evCC 0 call (cmpC Tryz.prog gs8 68 R0) (args0 c8.params [n] FT.empty) St.empty = .nrm (FT.set (FT.set FT.empty .d0 .d0 n) .d0 .d1 (.b false)) St.empty := by kernel_rfl
theorem e1 (n : AV) (call : AE.Call) (k : AV) (h : call 17 [n, .i 6] St.empty = AE.R.ok k St.empty) : evCC 0 call (cmpC Tryz.prog gs8 68 R1) (FT.set (FT.set FT.empty .d0 .d0 n) .d0 .d1 (.b false)) St.empty = .nrm (FT.set (FT.set (FT.set FT.empty .d0 .d0 n) .d0 .d1 (.b false)) .d0 .d2 k) St.empty := by
  have : evCC 0 call (cmpC Tryz.prog gs8 68 R1) (FT.set (FT.set FT.empty .d0 .d0 n) .d0 .d1 (.b false)) St.empty = bR (call 17 [n, .i 6] St.empty) fun v σ' => .nrm (FT.set (FT.set (FT.set FT.empty .d0 .d0 n) .d0 .d1 (.b false)) .d0 .d2 v) σ' := by kernel_rfl
  rw [this, h]; rfl
theorem all8 (n : AV) (k : Int) (h0 : 0 ≤ k) (h1 : k < 6) : isTrue (outR cfg c8 (evCC 3000 (callN cfg 3000 tab 200) rc8 (FT.set (FT.set (FT.set FT.empty .d0 .d0 n) .d0 .d1 (.b false)) .d0 .d2 (.i k)) St.empty)) = true := by
  have : k = 0 ∨ k = 1 ∨ k = 2 ∨ k = 3 ∨ k = 4 ∨ k = 5 := by omega
  rcases this with rfl | rfl | rfl | rfl | rfl | rfl
  · exact run0 n
  · exact run1 n
  · exact run2 n
  · exact run3 n
  · exact run4 n
  · exact run5 n
theorem walk8 (n : Int) (w : World) : Calls Tryz.prog 8 #[.int .i64 n] w fun e w' => e = .returned (.bool true) ∧ Kept (Bs.top w).keep w w' := by
  have h := pl_range n (c := 6) (by decide)
  obtain ⟨σ', hv⟩ := isTrue_ok (all8 (.sc (.int .i64 n)) _ h.1 h.2)
  refine calls_of_wp_defers Tryz.func8 body8 ?_
  refine seq_ok (ρ := Rho0) (base := Bs.top w) mixed (oracle17 n) 0 (e0 (.sc (.int .i64 n)) _) (WR.start w) (entry_FR (args' := [.int .i64 n]) (.cons (.sc _) .nil) ps8) fun ρ1 a1 w1 l1 hw1 hf1 hk1 => ?_
  refine seq_ok mixed (oracle17 n) 0 (e1 (.sc (.int .i64 n)) _ (.i (pl n 6)) (oracle_eq _ _ _ _)) hw1 hf1 fun ρ2 a2 w2 l2 hw2 hf2 hk2 => ?_
  rw [← kr8] at hv
  refine rest_ok (ps := c8.params) (cc := c8.code) cfg_ok mixed call_ok 3000 rs8 hv hw2 hf2 fun v' w' hg => ?_
  obtain ⟨rfl, hk⟩ := hg.true
  exact ⟨rfl, (hk1.trans hk2).trans hk⟩
