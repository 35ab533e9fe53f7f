/- awake returns true wherever it is called, and leaves every block as it was (a run of the evaluator in the kernel); a table that knows this; no condition. -/
import Derived.Test.YtckocomalpjkdaaGreatTab
import Derived.WalkKit
import Derived.ProofKit
set_option linter.unusedVariables false
set_option linter.unusedSimpArgs false
set_option linter.unusedSectionVars false
open Go Go.Proofs Go.AE Go.RowKit AET
set_option maxRecDepth 100000
noncomputable def cfg : Cfg := ⟨fun _ _ => none, [56]⟩
noncomputable def bodyOf (fn : Func) : Code := match fn.body with | some c => c | none => .skip
noncomputable def sq1 : Code → Code | .seq a _ => a | _ => .skip
noncomputable def sq2 : Code → Code | .seq _ b => b | _ => .skip
noncomputable def cq2 : CC → CC | .seq _ b => b | _ => .bad
theorem run13 : isTrue (callN cfg 3000 tab 200 13 [] St.empty) = true := by kernel_rfl
theorem put_self {a : Act} {d : Nat} {v : Value} (h : d < a.tmps.size) : (a.put (some d) v).eval (.tmp d) = v := by simp [Act.eval, Act.put, h]
theorem put_ne {a : Act} {d t : Nat} {v : Value} (h : d ≠ t) : (a.put (some d) v).eval (.tmp t) = a.eval (.tmp t) := by simp [Act.eval, Act.put, h]
theorem put_size {a : Act} {d : Nat} {v : Value} : (a.put (some d) v).tmps.size = a.tmps.size := by simp [Act.put]
theorem put_defers {a : Act} {d : Nat} {v : Value} : (a.put (some d) v).defers = a.defers := by simp [Act.put]
theorem idle56 : IdleOK Tryz.prog 56 := by
  refine ⟨⟨Tryz.f56, _, Tryz.func56, by decide +kernel, rfl⟩, fun args w => callsD_of_wpS Tryz.func56 rfl fun c₀ cs hu => ?_⟩
  generalize ha : ({ tmps := args ++ Array.replicate (Tryz.f56.ntmps - args.size) undef, defers := [] } : Act) = a
  have hs : 8 ≤ a.tmps.size := by rw [← ha]; simp [Tryz.f56]; omega
  have hd : a.defers = [] := by rw [← ha]
  clear ha
  have hrec := recoverD_returning (cs := cs) hu
  refine wpS_seq (wpS_region ?_)
  simp only [List.size_toArray, List.length_cons, List.length_nil, show List.range (0 + 1 + 1) = [0, 1] from rfl]
  have h1 : ∀ ty pos af, (execOp a.eval { dst := some 2, op := Op.call { callee := Callee.builtin Builtin.recover, args := #[], argTypes := #[] }, type := ty, pos := pos, after := af, guard := none }).run Tryz.prog w = .ok .recover w := by
    intros; simp [execOp, resolve, invoke, builtin]
  have h2 : ∀ ty pos af, (execOp (a.put (some 2) .nilIface).eval { dst := some 1, op := Op.assign (Operand.tmp 2), type := ty, pos := pos, after := af, guard := none }).run Tryz.prog w = .ok (.value .nilIface) w := by
    intros; simp [execOp, put_self (show 2 < a.tmps.size by omega)]
  simp only [wpOpsS, Region.wanted, List.getElem?_toArray, List.getElem?_cons_zero, List.getElem?_cons_succ, if_true, h1, hrec, h2, Oper.upon]
  generalize ha2 : (a.put (some 2) Value.nilIface).put (some 1) Value.nilIface = b
  have hb1 : b.eval (.tmp 1) = .nilIface := by rw [← ha2]; exact put_self (by rw [put_size]; omega)
  have hbs : 8 ≤ b.tmps.size := by rw [← ha2, put_size, put_size]; exact hs
  have hbd : b.defers = [] := by rw [← ha2, put_defers, put_defers]; exact hd
  clear ha2 h1 h2
  show Code.wpS _ _ _ _ _ _
  refine wpS_seq (wpS_region ?_)
  simp only [List.size_toArray, List.length_cons, List.length_nil, show List.range (0 + 1 + 1) = [0, 1] from rfl]
  have h1 : ∀ ty pos af, (execOp b.eval { dst := some 3, op := Op.move (Operand.tmp 1), type := ty, pos := pos, after := af, guard := none }).run Tryz.prog w = .ok (.value .nilIface) w := by
    intros; simp [execOp, hb1]
  have h2 : ∀ ty pos af, (execOp (b.put (some 3) .nilIface).eval { dst := some 4, op := Op.binOp BinOp.neq 20 (Operand.tmp 3) (Operand.const Value.nilIface) 20, type := ty, pos := pos, after := af, guard := none }).run Tryz.prog w = .ok (.value (.bool false)) w := by
    intros
    have e3 : (b.put (some 3) .nilIface).eval (.tmp 3) = .nilIface := put_self (show 3 < b.tmps.size by omega)
    have ec : (b.put (some 3) .nilIface).eval (.const Value.nilIface) = .nilIface := rfl
    have hg : (eqGuard BinOp.neq 20 (Operand.tmp 3) (Operand.const Value.nilIface) .nilIface .nilIface).run Tryz.prog w = .ok () w := by simp [eqGuard]
    have hb : (binOp BinOp.neq 20 Value.nilIface Value.nilIface).run Tryz.prog w = .ok (.bool false) w := pureRun_run _ _ (by kernel_rfl) w
    simp only [execOp, e3, ec, Sem.run_bind, hg, hb, Result.andThen_ok, Sem.run_pure]
  simp only [wpOpsS, Region.wanted, List.getElem?_toArray, List.getElem?_cons_zero, List.getElem?_cons_succ, if_true, h1, h2, Oper.upon]
  show Code.wpS _ _ _ _ _ _
  refine wpS_cond (t := false) (put_self (by rw [put_size]; omega)) ?_
  refine wpS_of_wp (wp_skip ?_)
  exact ⟨by rw [put_defers, put_defers]; exact hbd, .returning, by rw [← hu], .tuple #[], by simp [Go.results, Tryz.f56], ⟨_, rfl⟩, rfl, rfl⟩

theorem cfg_idle (f : Nat) (h : cfg.idle.contains f = true) : IdleOK Tryz.prog f := by
  have : f = 56 := by simpa [cfg] using h
  subst this; exact idle56
theorem cfg_ok : KnownOK Tryz.prog cfg := ⟨fun f args v h => (by cases h), cfg_idle⟩
theorem mixed : Tryz.prog.follows .mixedOrders = true := by kernel_rfl
theorem call_ok : CallOK Tryz.prog (callN cfg 3000 tab 200) := callN_ok cfg_ok mixed (fun f cf h => tabFind_ok tab_all f cf h) 3000 200


theorem awake_walk (w : World) : Calls Tryz.prog 13 #[] w fun e w' => e = .returned (.bool true) ∧ Kept (Bs.top w).keep w w' := by
  obtain ⟨σ', h⟩ := isTrue_ok run13
  obtain ⟨_, h2⟩ := call_ok 13 [] St.empty _ σ' h
  refine (h2 Rho0 (Bs.top w) w [] (WR.start w) .nil).mono fun e w' ⟨v', he, hg⟩ => ?_
  obtain ⟨rfl, hk⟩ := hg.true
  exact ⟨he, hk⟩
/-- with awake's answer known -/
noncomputable def knownA (f : Nat) (args : List AV) : Option AV := match args with
  | [] => match Nat.beq f 13 with
    | true => some (.b true)
    | false => none
  | _ :: _ => none
noncomputable def cfgA : Cfg := ⟨knownA, [56]⟩
theorem enters13 : Enters Tryz.prog 13 := ⟨Tryz.f13, _, Tryz.func13, by decide +kernel, rfl⟩
theorem WR.of_kept {ρ : Rho} {base : Bs} {σ : St} {w w' : World} (hw : WR ρ base σ w) (hk : Kept (Bs.top w).keep w w') : WR ρ base σ w' ∧ Kept base.keep w w' :=
  ⟨hw.of_same hk.size fun x hx => hk.block x hx, ⟨hk.os, hk.tape, hk.output, hk.size, fun k hk' => hk.block k (hw.hbase k hk')⟩⟩
theorem cfgA_known (f : Nat) (args : List AV) (v : AV) (h : cfgA.known f args = some v) : Enters Tryz.prog f ∧ ∀ (ρ : Rho) (base : Bs) (σ : St) (w : World) args', WR ρ base σ w → VRs ρ args args' → Calls Tryz.prog f args'.toArray w fun e w' => ∃ v', e = .returned v' ∧ Good ρ base w v σ v' w' := by
  have h' : knownA f args = some v := h
  unfold knownA at h'
  split at h'
  · split at h'
    · rename_i hb
      have hf : f = 13 := Nat.eq_of_beq_eq_true hb
      subst hf
      cases h'
      refine ⟨enters13, fun ρ base σ w args' hw ha => ?_⟩
      cases ha
      refine (awake_walk w).mono fun e w' ⟨he, hk⟩ => ?_
      obtain ⟨h1, h2⟩ := WR.of_kept hw hk
      exact ⟨_, he, ρ, ρ.le_refl, .b _, h1, h2⟩
    · cases h'
  · cases h'
theorem cfgA_ok : KnownOK Tryz.prog cfgA := ⟨cfgA_known, fun f h => cfg_idle f h⟩
theorem callA_ok : CallOK Tryz.prog (callN cfgA 3000 tab 200) := callN_ok cfgA_ok mixed (fun f cf h => tabFind_ok tab_all f cf h) 3000 200
def pl (n c : Int) : Int := if n.tmod c < 0 then n.tmod c + c else n.tmod c
theorem pl_range (n : Int) {c : Int} (hc : 0 < c) : 0 ≤ pl n c ∧ pl n c < c := by
  unfold pl
  have h1 := Int.tmod_lt_of_pos n hc
  have h2 : -c < n.tmod c := Int.lt_tmod_of_pos n hc
  split <;> omega
