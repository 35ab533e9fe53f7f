/- The given statement ExpandStripsSaid: whatever the datum, true, and the argument reads as it did; no condition. -/
import Derived.Test.YtckocomalpjkdaaGreatRows
import Derived.Test.YtckocomalpjkdaaGreatAwake
import Derived.Test.YtckocomalpjkdaaGreatStripsE
import Derived.Test.YtckocomalpjkdaaGreatStripsB
import Derived.WalkKit
import Derived.ProofKit
import Derived.OpenShut
import Derived.Carry
import Derived.SizedLaws
set_option linter.unusedVariables false
set_option linter.unusedSimpArgs false
set_option linter.unusedSectionVars false
namespace Go.Proofs.YtckocomalpjkdaaGreat.expandStrips
open Go.ChangeShapes Go.WideShapes Go.ChangeAt Go.RowKit
set_option linter.unusedVariables false

theorem own : ownKnob Tryz.prog.godebug = none := by kernel_rfl
theorem laid : laidOutB Tryz.prog = true := by kernel_rfl

theorem aw (w : World) : Calls Tryz.prog 13 #[] w fun e w' => e = .returned (.bool true) ∧ Below w.heap.size w w' :=
  (awake_walk w).mono fun e w' ⟨he, hk⟩ => ⟨he, hk.os, hk.tape, hk.output, hk.size, fun k hlt => hk.block k hlt⟩

set_option maxRecDepth 100000 in
theorem lifted (os : Os) (started : os.Started) (H : Type) (enc : TypeId × Value → H) :
    ReturnsInHanded {} Tryz.checked os 3 .any (Rows.expandStripsSpec.pre6 enc Tryz.prog Tryz.f3 Rows.expandStripsRow.domain false) (Rows.expandStripsSpec.post enc Tryz.prog Tryz.f3 false true false false) := by
  refine returnsInHanded_of_change_sized (C := Tryz.checked) own started (by kernel_rfl) Tryz.func3
    (ChangeSpec.witness6 (enc := enc) (C := Tryz.checked) false ⟨#[], #[.agg #[.int .i64 0, .int .i64 0, .bool false, .slice none 0 0, .string ⟨#[]⟩, .slice none 0 0, .slice none 0 0]], []⟩ 8 (by kernel_rfl) (by kernel_rfl) (by kernel_rfl) (by kernel_rfl)) ?_
  intro W base args ds gs before hval0 hW hcnd hwt _
  have hW' := hW
  obtain ⟨p, q, hA0, hV, rfl, hfz, hnd⟩ := hW
  have hA : DataW.TrodAll enc Tryz.prog W 0 (fun _ => true) true Tryz.f3.params.toList args.toList ds p := hA0
  rw [Tryz.params3] at hA
  obtain ⟨v0, vs0, d0, ds0, p0, q0, hargs, rfl, rfl, h0, r0⟩ := trodAll_cons hA
  obtain ⟨rfl, rfl, rfl⟩ := trodAll_nil r0
  obtain rfl : args = #[v0] := by cases args; simp_all
  obtain ⟨rfl, rfl⟩ := trodVars_none hV
  simp only [List.append_nil] at hW'
  have hwt' : ∀ n ∈ d0.weights Tryz.prog 27, n ≤ reachBytes := by
    intro n hn
    have hw : (DataW.weightsEach Tryz.prog (Tryz.f3.params.toList ++ Rows.expandStripsSpec.plain.varTypes Tryz.prog) [d0]).all (· ≤ reachBytes) = true := hwt
    rw [Tryz.params3] at hw
    have := List.all_eq_true.1 hw n (DataW.weights_mem_each (j := 0) (t := 27) (d := d0) rfl rfl n hn)
    simpa using this
  obtain ⟨fuel, hf⟩ := h0
  obtain ⟨t, ht⟩ := Strips.open_datum fuel _ _ hf hwt'
  have h7 := Strips.rep_len ht
  obtain ⟨cs, rfl⟩ : ∃ cs : List Value, v0 = .agg cs.toArray := by
    cases v0 with
    | agg cs => exact ⟨cs.toList, by simp⟩
    | _ => simp [Value.cells] at h7
  have ht' : Strips.Rep W (fun _ => True) t cs := by simpa [Value.cells] using ht
  refine (root_walk aw t cs W ht').mono fun e W' ⟨he, hb⟩ => ?_
  subst he
  have hlt : ∀ x ∈ p0, x.block < W.heap.size := fun x hx => by simpa using hW'.lt x (by simpa using hx)
  exact ⟨_, rfl, _, _, _, [], p0 ++ [], [], hW', (trodAll_cons_mk (shut_bool Tryz.underlying4 _) trodAll_mk0),
    (trodAll_cons_mk (Below.trod laid (by kernel_rfl) (of_decide_eq_true (by kernel_rfl)) ⟨fuel, hf⟩ hb hlt) trodAll_mk0), rfl, hb.frame _, fun h => by cases h⟩

theorem over : Rows.expandStripsRow.holds Tryz.pinned (OpenSpec.ofChange Rows.expandStripsSpec) :=
  OpenClaim.holds_of_wide 3 Tryz.f3 rfl rfl rfl rfl rfl rfl rfl ⟨rfl, rfl, rfl, rfl, rfl⟩ rfl rfl rfl rfl rfl (by kernel_rfl) Tryz.func3 (by kernel_rfl)
    (of_decide_eq_true (by kernel_rfl)) (by unfold Func.isWrapper; first | (rw [if_pos (by decide +kernel)]; kernel_rfl) | (rw [if_neg (by decide +kernel)]; exact ⟨rfl, rfl⟩))
    (fun os started H enc _ => lifted os started H enc)

theorem proved : Rows.ExpandStripsSaid := over
#print axioms proved
end Go.Proofs.YtckocomalpjkdaaGreat.expandStrips
