/- The evaluator's instructions are right for the model's operations, second part; code without an open order; of any program and any world. -/
import Derived.Test.YtckocomalpjkdaaGreatAeB
import Derived.Scope
set_option linter.unusedVariables false
set_option linter.unusedSimpArgs false
set_option linter.unusedSectionVars false
namespace Go.AE
open Go.RowKit
set_option linter.unusedVariables false
set_option linter.unusedSimpArgs false
variable {ρ : Rho} {base : Bs} {σ σ' : St} {w : World} {P : Program}
variable {o : Oper} {od : Operand → Option Od}

theorem mapO_VRs {l : List Operand} {ds : List Od} {fr : FT} {e : Operand → Value} (h : mapO od l = some ds) (hv : ∀ x d, od x = some d → VR ρ (d fr) (e x)) : VRs ρ (evs fr ds) (l.map e) := by
  induction l generalizing ds with
  | nil => simp [mapO] at h; subst h; exact .nil
  | cons x l ih =>
    simp only [mapO] at h
    split at h
    case h_2 => cases h
    rename_i y l' h1 h2
    cases h
    exact .cons (hv x y h1) (ih h2)

theorem iIfc_ok {t : TypeId} {x : Operand} {d : Od} {u : TypeDesc} (ho : o.op = .makeInterface t x) (ht : P.underlying t = some u) (hu : ∀ ms, u ≠ .interface ms) (hx : od x = some d) : Sound P o od (iIfc t d) := by
  intro call _ fr σ k hne ρ base w e hw hv
  refine ⟨_, σ, rfl, ?_⟩
  have hr : (Instr.makeInterface t (e x)).run P w = .ok (.iface t (e x)) w := by
    simp only [Instr.makeInterface, Sem.run_bind, run_und ht, Result.andThen_ok]
    first
      | rfl
      | (split
         · exact absurd rfl (hu _)
         · rfl)
  have := did_pure (P := P) hw hr (.ifc (hv x d hx))
  simpa [execOp, ho] using this

theorem iFn_ok {f : Fn} {first caps : Array Operand} {a c : List Od} (ho : o.op = .makeFunc f first caps) (ha : mapO od first.toList = some a) (hc : mapO od caps.toList = some c) : Sound P o od (iFn f a c) := by
  intro call _ fr σ k hne ρ base w e hw hv
  refine ⟨_, σ, rfl, ?_⟩
  have hr : (Instr.makeFunc f (first.map e) (caps.map e)).run P w = .ok (.func f (first.map e) (caps.map e)) w := rfl
  have h1 := mapO_VRs (ρ := ρ) ha hv
  have h2 := mapO_VRs (ρ := ρ) hc hv
  have h3 := VR.fn (f := f) h1 h2
  have e1 : (first.toList.map e).toArray = first.map e := by apply Array.ext'; simp
  have e2 : (caps.toList.map e).toArray = caps.map e := by apply Array.ext'; simp
  rw [e1, e2] at h3
  have := did_pure (P := P) hw hr h3
  simpa [execOp, ho] using this

theorem iMap_ok {t : TypeId} (ho : o.op = .makeMap t none) : Sound P o od iMap := by
  intro call _ fr σ k hne ρ base w e hw hv
  obtain ⟨i, hi, heq⟩ := new_ne (show σ.new (.map []) .mp k ≠ .no from hne)
  refine ⟨_, _, heq, ?_⟩
  obtain ⟨h1, h2, h3⟩ := hw.new hi (.map #[] 0) (.map []) 0 (by simp) (by simp) ⟨#[], 0, by show (w.heap.push _)[w.heap.size]? = _; simp, .nil⟩
  have hr : (Instr.makeMap t none).run P w = .ok (.map (some w.heap.size)) (w.alloc (.map #[] 0)) := by simp [Instr.makeMap]
  have := Did.val (P := P) hr (Q := Good ρ base w (.mp i) ⟨H.set σ.h i (.map []), inc i, σ.fams⟩) ⟨_, h1, .mp (upd_same _ _ _), h2, h3⟩
  simpa [execOp, ho] using this

theorem iField_ok {s f : Nat} {x : Operand} {t : TypeId} {n : Nat} {d : Od} (ho : o.op = .field s x f) (hf : fieldOf P s f = some (t, n)) (hx : od x = some d) : Sound P o od (iField P t n d) := by
  intro call _ fr σ k hne ρ base w e hw hv
  have hvx := hv x d hx
  have hne' : fieldK P t n (d fr) σ k ≠ .no := hne
  show ∃ v σ', fieldK P t n (d fr) σ k = k v σ' ∧ _
  rw [fieldK_eq] at hne' ⊢
  split at hne'
  case h_2 => exact absurd rfl hne'
  rename_i m cs hag
  obtain ⟨r, g1, g2⟩ := optK_ne hne'
  refine ⟨r, σ, g2, ?_⟩
  rw [hag] at hvx
  generalize hxx : e x = vx at hvx
  cases hvx with
  | agg hn hs h1 =>
    rename_i ds
    obtain ⟨v, p1, p2⟩ := part_ok g1 hs h1 w
    unfold fieldOf at hf
    split at hf
    case h_2 => cases hf
    rename_i fs hu
    split at hf
    case h_2 => cases hf
    rename_i fl hfl
    cases hf
    have hr : (Instr.field s (e x) f).run P w = .ok v w := by
      rw [hxx]
      simp [Instr.field, run_und hu, hfl, asAgg, p1]
    have := did_pure (P := P) hw hr p2
    simpa [execOp, ho] using this

theorem iExtract_ok {x : Operand} {n : Nat} {d : Od} (ho : o.op = .extract x n) (hx : od x = some d) : Sound P o od (iExtract n d) := by
  intro call _ fr σ k hne ρ base w e hw hv
  have hvx := hv x d hx
  have hne' : extractK n (d fr) σ k ≠ .no := hne
  show ∃ v σ', extractK n (d fr) σ k = k v σ' ∧ _
  rw [extractK_eq] at hne' ⊢
  split at hne'
  case h_2 => exact absurd rfl hne'
  rename_i vs htup
  obtain ⟨r, g1, g2⟩ := optK_ne hne'
  refine ⟨r, σ, g2, ?_⟩
  rw [htup] at hvx
  generalize hxx : e x = vx at hvx
  cases hvx with
  | tup h =>
    rw [headO_eq, dropN_eq, List.head?_drop] at g1
    obtain ⟨v, p1, p2⟩ := h.get g1
    have hr : (Instr.extract (e x) n).run P w = .ok v w := by
      rw [hxx]; simp [Instr.extract, p1]
    have := did_pure (P := P) hw hr p2
    simpa [execOp, ho] using this

theorem iAssert_ok {x : Operand} {t a : TypeId} {ok : Bool} {d : Od} (ho : o.op = .typeAssert x t a ok) (hx : od x = some d) : Sound P o od (iAssert P d a ok) := by
  intro call _ fr σ k hne ρ base w e hw hv
  have hvx := hv x d hx
  have hne' : assertK P (d fr) a ok σ k ≠ .no := hne
  show ∃ v σ', assertK P (d fr) a ok σ k = k v σ' ∧ _
  have fin : ∀ r v', (Instr.typeAssert (e x) t a ok).run P w = .ok v' w → VR ρ r v' → Did P (execOp e o) w (Good ρ base w r σ) := by
    intro r v' h1 h2
    have := did_pure (P := P) hw h1 h2
    simpa [execOp, ho] using this
  have res : ∀ v v', VR ρ v v' → VR ρ (if ok then .tup [v, .b true] else v) (if ok then .tuple #[v', .bool true] else v') := by
    intro v v' h
    cases ok
    · exact h
    · exact .tup (ds := [v', .bool true]) (.cons h (.cons (.b true) .nil))
  unfold assertK at hne' ⊢
  split at hne'
  · rename_i want dt v hu hifc
    split at hne'
    case h_2 => exact absurd rfl hne'
    rename_i i hi
    split at hne'
    case h_2 => exact absurd rfl hne'
    rename_i hm
    refine ⟨_, σ, rfl, ?_⟩
    rw [hifc] at hvx
    generalize hxx : e x = vx at hvx
    cases hvx with
    | ifc h =>
      rename_i v'
      refine fin _ (if ok then .tuple #[.iface dt v', .bool true] else .iface dt v') ?_ (res _ _ (.ifc h))
      rw [hxx]
      simp [Instr.typeAssert, run_und hu, typeInfo, hi, hm]
  · exact absurd rfl hne'
  · rename_i u dt v hnu hu hifc
    split at hne'
    case h_2 => exact absurd rfl hne'
    rename_i hta
    have := Nat.eq_of_beq_eq_true hta
    subst this
    refine ⟨_, σ, rfl, ?_⟩
    rw [hifc] at hvx
    generalize hxx : e x = vx at hvx
    cases hvx with
    | ifc h =>
      rename_i v'
      refine fin _ (if ok then .tuple #[v', .bool true] else v') ?_ (res _ _ h)
      rw [hxx]
      simp only [Instr.typeAssert, Sem.run_bind, run_und hu, Result.andThen_ok]
      first
        | (split
           · rename_i h1 _; exact absurd hu (hnu _ _ _)
           · rename_i h1 _; exact absurd hu (hnu _ _ _)
           · rename_i h2; cases h2
           · rename_i h2; cases h2; simp
           · rename_i h2; exact absurd rfl (h2 _ _))
        | simp
  · exact absurd rfl hne'
end Go.AE

namespace Go.AE
open Go.RowKit
set_option linter.unusedVariables false
set_option linter.unusedSimpArgs false
variable {ρ : Rho} {base : Bs} {σ σ' : St} {w : World} {P : Program}
variable {o : Oper} {od : Operand → Option Od}

/-! maps -/
theorem key1_ok {t : TypeId} {kk : KK} {a b : AV} {r : Bool} {va vb : Value} (hk : kk1 P t = some kk) (hf : fits1 kk a = true) (h : keyEq1 a b = some r) (ha : VR ρ a va) (hb : VR ρ b vb) :
    (∀ d w, (Op.equalIn (d + 1) t va vb).run P w = .ok r w) ∧ (∃ kd, P.underlying t = some kd ∧ Instr.sameNow kd va vb = some r) ∧ (r = true → va = vb) := by
  unfold kk1 at hk
  unfold keyEq1 at h
  split at h
  · cases h; cases ha; cases hb
    split at hk
    · cases hk; rename_i kd hu
      refine ⟨fun d w => by simp [Op.equalIn, run_und hu, beq'_iff], ⟨_, hu, by simp [Instr.sameNow, beq'_iff]⟩, fun h => by rw [beq'_iff] at h; simp at h; rw [h]⟩
    · cases hk; simp [fits1] at hf
    · cases hk; simp [fits1] at hf
    · cases hk
  · split at h
    · rename_i hkd
      cases h; cases ha; cases hb
      subst hkd
      split at hk
      · cases hk; rename_i kd hu
        refine ⟨fun d w => by simp [Op.equalIn, run_und hu, beq'_iff], ⟨_, hu, by simp [Instr.sameNow, beq'_iff]⟩, fun h => by rw [beq'_iff] at h; simp at h; rw [h]⟩
      · cases hk; simp [fits1] at hf
      · cases hk; simp [fits1] at hf
      · cases hk
    · cases h
  · cases h; cases ha; cases hb
    rename_i h1 h2
    split at hk
    · cases hk; simp [fits1] at hf
    · cases hk; rename_i hu
      have e1 := mkStr_beq h1 h2
      refine ⟨fun d w => ?_, ⟨_, hu, ?_⟩, fun h => by rw [sEq_iff] at h; rw [h]⟩
      · rw [← e1]; exact run_equalIn_string w d t _ _ hu
      · simp only [Instr.sameNow]; rw [beq_toListBytes, e1]
    · cases hk; simp [fits1] at hf
    · cases hk
  · cases h; cases ha; cases hb
    split at hk
    · cases hk; simp [fits1] at hf
    · cases hk; simp [fits1] at hf
    · cases hk; rename_i hu
      refine ⟨fun d w => by simp [Op.equalIn, run_und hu], ⟨_, hu, by simp [Instr.sameNow]⟩, fun h => by simp at h; rw [h]⟩
    · cases hk
  · cases h

theorem kk1_flat {t : TypeId} {kk : KK} (hk : kk1 P t = some kk) : aggT P t = some false := by
  unfold kk1 at hk
  unfold aggT
  split at hk <;> first | (cases hk; rename_i hu; simp [hu]) | cases hk | skip
  all_goals (rename_i hu; simp [hu])

theorem fits1_VR {kk : KK} {a : AV} {v : Value} (hf : fits1 kk a = true) (hv : VR ρ a v) : v.oneCell' = true := by
  cases kk <;> cases a <;> simp [fits1] at hf <;> cases hv <;> rfl

theorem keyL_ok : ∀ (fs : List Field) (i : Nat) (l : List KK) (as bs : List AV) (r : Bool) (va vb : List Value), kkFields P i fs = some l → fitsL l (as.drop i) = true → keyEqs (as.drop i) (bs.drop i) = some r →
    VRs ρ as va → VRs ρ bs vb → (∀ d w, (Op.eqFields (d + 1) va.toArray vb.toArray fs).run P w = .ok r w) ∧ (r = true → va.drop i = vb.drop i)
  | [], i, l, as, bs, r, va, vb, hk, hf, he, ha, hb => by
    simp [kkFields] at hk; subst hk
    cases hd : as.drop i with
    | nil =>
      rw [hd] at he
      cases hd' : bs.drop i with
      | nil =>
        rw [hd'] at he
        simp [keyEqs] at he; subst he
        refine ⟨fun d w => rfl, fun _ => ?_⟩
        have h1 := (ha.drop i).length
        have h2 := (hb.drop i).length
        rw [hd] at h1; rw [hd'] at h2
        rw [List.length_eq_zero_iff.1 h1.symm, List.length_eq_zero_iff.1 h2.symm]
      | cons y t => rw [hd'] at he; simp [keyEqs] at he
    | cons y t => rw [hd] at hf; simp [fitsL] at hf
  | f :: fs, i, l, as, bs, r, va, vb, hk, hf, he, ha, hb => by
    simp only [kkFields] at hk
    split at hk
    case h_2 => cases hk
    rename_i k l' h1 h2 h3
    cases hk
    simp only [Bool.and_eq_true, Bool.not_eq_true'] at h2
    have hoff := Nat.eq_of_beq_eq_true h2.1
    have hname : f.name ≠ "_" := by have := h2.2; simpa using this
    cases hda : as.drop i with
    | nil => rw [hda] at hf; simp [fitsL] at hf
    | cons a ra =>
      cases hdb : bs.drop i with
      | nil => rw [hda, hdb] at he; simp [keyEqs] at he
      | cons b rb =>
        rw [hda] at hf he
        rw [hdb] at he
        simp only [fitsL, Bool.and_eq_true] at hf
        have ga : as[i]? = some a := by rw [← List.head?_drop, hda]; rfl
        have gb : bs[i]? = some b := by rw [← List.head?_drop, hdb]; rfl
        have hra : as.drop (i + 1) = ra := by rw [← List.drop_drop, hda]; rfl
        have hrb : bs.drop (i + 1) = rb := by rw [← List.drop_drop, hdb]; rfl
        obtain ⟨xa, a1, a2⟩ := ha.get ga
        obtain ⟨xb, b1, b2⟩ := hb.get gb
        have pa : ∀ w, (Go.part f.type va.toArray f.offset).run P w = .ok xa w := fun w => by
          simp [Go.part, run_isAgg (kk1_flat h1), hoff, a1]
        have pb : ∀ w, (Go.part f.type vb.toArray f.offset).run P w = .ok xb w := fun w => by
          simp [Go.part, run_isAgg (kk1_flat h1), hoff, b1]
        have dva : va.drop i = xa :: va.drop (i + 1) := by
          have hl := (List.getElem?_eq_some_iff.1 a1).1
          rw [List.drop_eq_getElem_cons hl]
          congr 1
          exact (List.getElem?_eq_some_iff.1 a1).2
        have dvb : vb.drop i = xb :: vb.drop (i + 1) := by
          have hl := (List.getElem?_eq_some_iff.1 b1).1
          rw [List.drop_eq_getElem_cons hl]
          congr 1
          exact (List.getElem?_eq_some_iff.1 b1).2
        simp only [keyEqs] at he
        split at he
        · rename_i hq
          obtain ⟨q1, q2, q3⟩ := key1_ok h1 hf.1 hq a2 b2
          rw [← hra, ← hrb] at he
          obtain ⟨r1, r2⟩ := keyL_ok fs (i + 1) l' as bs r va vb h3 (by rw [hra]; exact hf.2) he ha hb
          refine ⟨fun d w => ?_, fun hr => by rw [dva, dvb, q3 rfl, r2 hr]⟩
          simp only [Op.eqFields, hname, ne_eq, not_false_eq_true, if_true, Sem.run_bind, pa, pb, Result.andThen_ok, q1, Bool.not_true, Bool.false_eq_true, if_false]
          exact r1 d w
        · rename_i q hq
          obtain ⟨q1, q2, q3⟩ := key1_ok h1 hf.1 he a2 b2
          cases r with
          | true => exact absurd he hq
          | false =>
            refine ⟨fun d w => ?_, fun hr => by cases hr⟩
            simp only [Op.eqFields, hname, ne_eq, not_false_eq_true, if_true, Sem.run_bind, pa, pb, Result.andThen_ok, q1, Bool.not_false, Sem.run_pure]

/-- two keys -/
theorem key_ok {t : TypeId} {kk : KK} {a b : AV} {r : Bool} {va vb : Value} (hk : keyKind P t = some kk) (hf : fits kk a = true) (h : keyEq a b = some r) (ha : VR ρ a va) (hb : VR ρ b vb) :
    (∀ w, (Op.equal t va vb).run P w = .ok r w) ∧ (∃ kd, P.underlying t = some kd ∧ (Instr.sameNow kd va vb = some r ∨ Instr.sameNow kd va vb = none)) ∧ (r = true → va = vb) := by
  unfold keyKind at hk
  split at hk
  · rename_i fs hu
    split at hk
    · cases hk
    rename_i hp
    cases hkf : kkFields P 0 fs.toList with
    | none => rw [hkf] at hk; cases hk
    | some l =>
      rw [hkf] at hk; cases hk
      unfold fits at hf
      split at hf
      · rename_i l' n cs e1
        cases e1
        cases b with
        | agg m bs =>
          have h' : keyEqs cs bs = some r := h
          cases ha with
          | agg hn hs h1 =>
            rename_i ds
            cases hb with
            | agg hn' hs' h1' =>
              rename_i ds'
              have hfo : P.fieldsOf t = fs := by simp [Program.fieldsOf, hu]
              obtain ⟨q1, q2⟩ := keyL_ok fs.toList 0 l cs bs r ds ds' hkf (by simpa using hf) (by simpa using h') hs hs'
              refine ⟨fun w => ?_, ⟨_, hu, .inr rfl⟩, fun hr => by have := q2 hr; simp at this; rw [this]⟩
              unfold Op.equal
              rw [show Op.maxDepth = 9999 + 1 from rfl, run_equalIn_struct w 9999 t _ _ (by rw [hfo]; exact hu) hp, hfo]
              exact q1 9998 w
        | _ => exact absurd h (by simp [keyEq, keyEq1])
      · simp [fits1] at hf
  · rename_i hns
    have hf' : fits1 kk a = true := by
      unfold fits at hf
      split at hf
      · unfold kk1 at hk
        split at hk <;> cases hk
      · exact hf
    have h' : keyEq1 a b = some r := by
      unfold keyEq at h
      split at h
      · simpa [keyEq1] using h
      · cases kk <;> simp [fits1] at hf'
      · exact h
    obtain ⟨q1, ⟨kd, hu, q2⟩, q3⟩ := key1_ok hk hf' h' ha hb
    exact ⟨fun w => q1 9999 w, ⟨kd, hu, .inl q2⟩, q3⟩
end Go.AE

namespace Go.AE
open Go.RowKit
set_option linter.unusedVariables false
set_option linter.unusedSimpArgs false
variable {ρ : Rho} {base : Bs} {σ σ' : St} {w : World} {P : Program}
variable {o : Oper} {od : Operand → Option Od}

theorem checkKey_pass {t : TypeId} {kk : KK} {a : AV} {v : Value} (n : Nat) (em : Bool) (hk : keyKind P t = some kk) (hf : fits kk a = true) (hv : VR ρ a v) (w : World) : (Instr.checkKey em (n + 2) t v).run P w = .ok () w := by
  have one : ∀ (m : Nat) (t : TypeId) (k : KK) (x : AV) (u : Value), kk1 P t = some k → fits1 k x = true → VR ρ x u → ∀ w, (Instr.checkKey em (m + 1) t u).run P w = .ok () w := by
    intro m t k x u h1 h2 h3 w
    unfold kk1 at h1
    have hu1 : ∃ kd, P.underlying t = some kd ∧ (∀ ms, kd ≠ .interface ms) ∧ (∀ n e, kd ≠ .array n e) ∧ (∀ fs, kd ≠ .struct fs) := by
      split at h1 <;> first | (rename_i hu; exact ⟨_, hu, by simp, by simp, by simp⟩) | cases h1
    obtain ⟨kd, hu, g1, g2, g3⟩ := hu1
    simp only [Instr.checkKey, Sem.run_bind, run_und hu, Result.andThen_ok]
    cases kd <;> first | rfl | exact absurd rfl (g1 _) | exact absurd rfl (g2 _ _) | exact absurd rfl (g3 _)
  unfold keyKind at hk
  split at hk
  · rename_i fs hu
    split at hk
    · cases hk
    cases hkf : kkFields P 0 fs.toList with
    | none => rw [hkf] at hk; cases hk
    | some l =>
      rw [hkf] at hk; cases hk
      unfold fits at hf
      split at hf
      · rename_i l' m cs e1
        cases e1
        cases hv with
        | agg hn hs h1 =>
          rename_i ds
          obtain ⟨N, hN⟩ : ∃ N, N = n + 1 := ⟨_, rfl⟩
          rw [show n + 2 = N + 1 by omega]
          simp only [Instr.checkKey, Sem.run_bind, run_und hu, Result.andThen_ok]
          rw [← Array.forIn_toList]
          have key : ∀ (fs : List Field) (i : Nat) (l : List KK), kkFields P i fs = some l → fitsL l (cs.drop i) = true →
              ∀ (f : Field → PUnit → Sem (ForInStep PUnit)), (∀ (x : Field) (k : KK) (u : AV) (v : Value) (w : World), kk1 P x.type = some k → fits1 k u = true → VR ρ u v → ds[x.offset]? = some v → (f x ⟨⟩).run P w = .ok (.yield ⟨⟩) w) →
              ∀ w, (forIn fs PUnit.unit f).run P w = .ok PUnit.unit w := by
            intro fs
            induction fs with
            | nil => intro i l _ _ f _ w; rfl
            | cons x fs ih =>
              intro i l hl hfl f hff w
              simp only [kkFields] at hl
              split at hl
              case h_2 => cases hl
              rename_i k l' q1 q2 q3
              cases hl
              simp only [Bool.and_eq_true] at q2
              have hoff := Nat.eq_of_beq_eq_true q2.1
              cases hda : cs.drop i with
              | nil => rw [hda] at hfl; simp [fitsL] at hfl
              | cons a ra =>
                rw [hda] at hfl
                simp only [fitsL, Bool.and_eq_true] at hfl
                have ga : cs[i]? = some a := by rw [← List.head?_drop, hda]; rfl
                have hra : cs.drop (i + 1) = ra := by rw [← List.drop_drop, hda]; rfl
                obtain ⟨xa, a1, a2⟩ := hs.get ga
                simp only [List.forIn_cons, Sem.run_bind, hff x k a xa w q1 hfl.1 a2 (by rw [hoff]; exact a1), Result.andThen_ok]
                exact ih (i + 1) l' q3 (by rw [hra]; exact hfl.2) f hff w
          rw [key fs.toList 0 l hkf (by simpa using hf) _ ?_ w]
          · rfl
          intro x k u v w h2 h3 h4 h5
          have hp : (Go.part x.type ds.toArray x.offset).run P w = .ok v w := by simp [Go.part, run_isAgg (kk1_flat h2), h5]
          by_cases hn : x.name = "_"
          · simp [hn]
          · have hc := one n x.type k u v h2 h3 h4 w
            rw [← hN] at hc
            simp only [ne_eq, hn, not_false_eq_true, if_true, Sem.run_bind, hp, Result.andThen_ok, hc, Sem.run_pure]
      · simp [fits1] at hf
  · rename_i hns
    have hf' : fits1 kk a = true := by
      unfold fits at hf
      split at hf
      · unfold kk1 at hk
        split at hk <;> cases hk
      · exact hf
    exact one (n + 1) t kk a v hk hf' hv w

/-- what a search has found, counted from i on -/
def FoundAt (ρ : Rho) (i : Nat) (en : List MapEntry) (kv : Value) : Option AV → Option (Nat × Value) → Prop
  | none, none => True
  | some v, some (j, v') => VR ρ v v' ∧ i ≤ j ∧ ∃ e, en[j - i]? = some e ∧ e.val = v' ∧ e.key = kv
  | _, _ => False
/-- what setting does there -/
def SetAt (ρ : Rho) (i : Nat) (es : List (AV × AV)) (en : List MapEntry) (key : AV) (kv : Value) (r' : Option (Nat × Value)) : Prop :=
  ∀ (v : AV) (v' : Value) (es' : List (AV × AV)), VR ρ v v' → setE key v es = some es' → match r' with
    | none => ∀ b, EntR ρ es' (en ++ [{ key := kv, val := v', born := b }])
    | some (j, _) => EntR ρ es' (en.modify (j - i) fun e => { e with key := kv, val := v' })
theorem SetAt.nil {i : Nat} {key : AV} {kv : Value} (hkv : VR ρ key kv) : SetAt ρ i [] [] key kv none := by
  intro v v' es' hv h
  simp [setE] at h; subst h
  exact fun b => .cons hkv hv .nil
theorem SetAt.here {i : Nat} {es : List (AV × AV)} {en : List MapEntry} {key k' u : AV} {kv x : Value} {e : MapEntry} (hq : keyEq key k' = some true) (hkv : VR ρ key kv) (h3 : EntR ρ es en) :
    SetAt ρ i ((k', u) :: es) (e :: en) key kv (some (i, x)) := by
  intro v v' es' hv h
  simp only [setE, hq] at h
  cases h
  show EntR ρ _ ((e :: en).modify (i - i) _)
  rw [Nat.sub_self, List.modify_zero_cons]
  exact .cons hkv hv h3
theorem SetAt.skip {i : Nat} {es : List (AV × AV)} {en : List MapEntry} {key k' u : AV} {kv : Value} {e : MapEntry} {r' : Option (Nat × Value)} (hq : keyEq key k' = some false) (h1 : VR ρ k' e.key) (h2 : VR ρ u e.val)
    (hle : ∀ q, r' = some q → i + 1 ≤ q.1) (p : SetAt ρ (i + 1) es en key kv r') : SetAt ρ i ((k', u) :: es) (e :: en) key kv r' := by
  intro v v' es' hv h
  simp only [setE, hq] at h
  split at h
  case h_2 => cases h
  rename_i l hl
  cases h
  have := p v v' l hv hl
  cases r' with
  | none => exact fun b => .cons h1 h2 (this b)
  | some q =>
    obtain ⟨j, q⟩ := q
    have hj : i + 1 ≤ j := hle _ rfl
    show EntR ρ _ ((e :: en).modify (j - i) _)
    rw [show j - i = (j - (i + 1)) + 1 by omega, List.modify_succ_cons]
    exact .cons h1 h2 this
theorem FoundAt.le {i : Nat} {en : List MapEntry} {kv : Value} {r : Option AV} {r' : Option (Nat × Value)} (h : FoundAt ρ i en kv r r') : ∀ q, r' = some q → i ≤ q.1 := by
  intro q hq
  subst hq
  cases r with
  | none => exact h.elim
  | some v => exact h.2.1
/-- where a key stands -/
theorem find_ok {t : TypeId} {kk : KK} {key : AV} {kv : Value} (hk : keyKind P t = some kk) (hf : fits kk key = true) (hkv : VR ρ key kv) (w : World) :
    ∀ (es : List (AV × AV)) (en : List MapEntry) (r : Option AV), EntR ρ es en → findE key es = some r →
      ∃ r' : Option (Nat × Value), (Instr.findKey t kv en).run P w = .ok r' w ∧ FoundAt ρ 0 en kv r r' ∧ SetAt ρ 0 es en key kv r' := by
  obtain ⟨kd, hu⟩ : ∃ kd, P.underlying t = some kd := by
    unfold keyKind at hk
    split at hk
    · rename_i hu; exact ⟨_, hu⟩
    · unfold kk1 at hk
      split at hk <;> first | (rename_i hu; exact ⟨_, hu⟩) | cases hk
  have rel : ∀ (es : List (AV × AV)) (en : List MapEntry) (r : Option AV) (i : Nat), EntR ρ es en → findE key es = some r →
      (∃ r' : Option (Nat × Value), Instr.findNow kd kv en i = some r' ∧ FoundAt ρ i en kv r r' ∧ SetAt ρ i es en key kv r') ∨ Instr.findNow kd kv en i = none := by
    intro es
    induction es with
    | nil =>
      intro en r i he h
      cases he
      simp [findE] at h; subst h
      exact .inl ⟨none, rfl, trivial, .nil hkv⟩
    | cons x es ih =>
      intro en r i he h
      obtain ⟨k', v⟩ := x
      cases he with
      | cons h1 h2 h3 =>
        rename_i e en
        simp only [findE] at h
        split at h
        · rename_i hq
          cases h
          obtain ⟨_, ⟨kd', hu', q2⟩, q3⟩ := key_ok hk hf hq hkv h1
          rw [hu] at hu'; cases hu'
          rcases q2 with q2 | q2
          · exact .inl ⟨some (i, e.val), by simp [Instr.findNow, q2], ⟨h2, Nat.le_refl _, e, by simp, rfl, (q3 rfl).symm⟩, .here hq hkv h3⟩
          · exact .inr (by simp [Instr.findNow, q2])
        · rename_i hq
          obtain ⟨_, ⟨kd', hu', q2⟩, q3⟩ := key_ok hk hf hq hkv h1
          rw [hu] at hu'; cases hu'
          rcases q2 with q2 | q2
          · rcases ih en r (i + 1) h3 h with ⟨r', p1, p2, p3⟩ | p1
            · refine .inl ⟨r', by simp [Instr.findNow, q2, p1], ?_, .skip hq h1 h2 p2.le p3⟩
              revert p2
              cases r <;> cases r' <;> simp [FoundAt]
              rename_i v0 jv
              rintro g1 g2 e' g3 g4 g5
              exact ⟨g1, by omega, e', by rw [show jv.1 - i = (jv.1 - (i + 1)) + 1 by omega]; simpa using g3, g4, g5⟩
            · exact .inr (by simp [Instr.findNow, q2, p1])
          · exact .inr (by simp [Instr.findNow, q2])
        · cases h
  have ask : ∀ (es : List (AV × AV)) (en : List MapEntry) (r : Option AV) (i : Nat), EntR ρ es en → findE key es = some r →
      ∃ r' : Option (Nat × Value), (Instr.findAsking t kv en i).run P w = .ok r' w ∧ FoundAt ρ i en kv r r' ∧ SetAt ρ i es en key kv r' := by
    intro es
    induction es with
    | nil =>
      intro en r i he h
      cases he
      simp [findE] at h; subst h
      exact ⟨none, rfl, trivial, .nil hkv⟩
    | cons x es ih =>
      intro en r i he h
      obtain ⟨k', v⟩ := x
      cases he with
      | cons h1 h2 h3 =>
        rename_i e en
        simp only [findE] at h
        split at h
        · rename_i hq
          cases h
          obtain ⟨q1, _, q3⟩ := key_ok hk hf hq hkv h1
          exact ⟨some (i, e.val), by simp [Instr.findAsking, q1], ⟨h2, Nat.le_refl _, e, by simp, rfl, (q3 rfl).symm⟩, .here hq hkv h3⟩
        · rename_i hq
          obtain ⟨q1, _, q3⟩ := key_ok hk hf hq hkv h1
          obtain ⟨r', p1, p2, p3⟩ := ih en r (i + 1) h3 h
          refine ⟨r', by simp [Instr.findAsking, q1, p1], ?_, .skip hq h1 h2 p2.le p3⟩
          revert p2
          cases r <;> cases r' <;> simp [FoundAt]
          rename_i v0 jv
          rintro g1 g2 e' g3 g4 g5
          exact ⟨g1, by omega, e', by rw [show jv.1 - i = (jv.1 - (i + 1)) + 1 by omega]; simpa using g3, g4, g5⟩
        · cases h
  intro es en r he h
  rcases rel es en r 0 he h with ⟨r', p1, p2⟩ | p1
  · exact ⟨r', by simp [Instr.findKey, run_und hu, p1], p2⟩
  · obtain ⟨r', q1, q2⟩ := ask es en r 0 he h
    exact ⟨r', by simp [Instr.findKey, run_und hu, p1, q1], q2⟩
end Go.AE

namespace Go.AE
open Go.RowKit
set_option linter.unusedVariables false
set_option linter.unusedSimpArgs false
variable {ρ : Rho} {base : Bs} {σ σ' : St} {w : World} {P : Program}
variable {o : Oper} {od : Operand → Option Od}

theorem mapAt_ok (hw : WR ρ base σ w) {m : AV} {v : Value} {es : List (AV × AV)} (h : mapAt σ m = some es) (hv : VR ρ m v) :
    (v = .map none ∧ es = []) ∨ ∃ b x d sz en ck, m = .mp b ∧ v = .map (some x) ∧ ρ b = some (x, d, sz) ∧ σ.getB b = .map es ∧ w.heap[x]? = some (.map en ck) ∧ EntR ρ es en.toList := by
  unfold mapAt at h
  split at h
  · rename_i b
    split at h
    · rename_i es' hB
      cases h
      cases hv with
      | mp hρ =>
        obtain ⟨x', d', s', g1, g2, g3⟩ := hw.blk b (by rw [hB]; simp)
        rw [hρ] at g1; cases g1
        rw [hB] at g3
        obtain ⟨en, ck, k1, k2⟩ := g3
        exact .inr ⟨b, _, _, _, en, ck, rfl, rfl, hρ, hB, k1, k2⟩
    · cases h
  · cases h; cases hv; exact .inl ⟨rfl, rfl⟩
  · cases h

theorem run_getMap {x : Nat} {en : Array MapEntry} {ck : Nat} (h : w.heap[x]? = some (.map en ck)) : (getObj x).run P w = .ok (.map en ck) w := by
  simp [getObj, Sem.run, h]
theorem run_setMap {x : Nat} {en : Array MapEntry} {ck : Nat} (h : w.heap[x]? = some (.map en ck)) (o : Obj) : (setObj x o).run P w = .ok () { w with heap := w.heap.setIfInBounds x o } := by
  simp [setObj, Sem.run, h]

theorem lookRes_eq (ok : Bool) (z : AV) (r : Option AV) (σ : St) (k : Kont) : lookRes ok z r σ k = k (if ok then .tup [r.getD z, .b r.isSome] else r.getD z) σ := by
  cases ok <;> cases r <;> rfl

theorem iLookup_ok {t kt e' : TypeId} {m key : Operand} {ok : Bool} {kk : KK} {z : AV} {dm dk : Od} (ho : o.op = .lookup t m key ok) (ht : P.underlying t = some (.map kt e')) (hz : zeroV P e' = some z) (hk : keyKind P kt = some kk)
    (hm : od m = some dm) (hkey : od key = some dk) : Sound P o od (iLookup kk ok z dm dk) := by
  intro call _ fr σ k hne ρ base w e hw hv
  have hvm := hv m dm hm
  have hvk := hv key dk hkey
  have hne' : ite2 (fits kk (dk fr)) (optK (mapAt σ (dm fr)) fun es => optK (findE (dk fr) es) fun r => lookRes ok z r σ k) .no ≠ .no := hne
  show ∃ v σ', ite2 (fits kk (dk fr)) (optK (mapAt σ (dm fr)) fun es => optK (findE (dk fr) es) fun r => lookRes ok z r σ k) .no = k v σ' ∧ _
  obtain ⟨hf, h2⟩ := ite2_ne hne'
  rw [h2] at hne' ⊢
  obtain ⟨es, g1, g2⟩ := optK_ne hne'
  rw [g2] at hne' ⊢
  obtain ⟨r, g3, g4⟩ := optK_ne hne'
  rw [g4, lookRes_eq]
  obtain ⟨zv, hzr, hzv, _⟩ := zero_run hz w
  have res : ∀ v v', VR ρ v v' → ∀ b, VR ρ (if ok then .tup [v, .b b] else v) (if ok then .tuple #[v', .bool b] else v') := by
    intro v v' h b
    cases ok
    · exact h
    · exact .tup (ds := [v', .bool b]) (.cons h (.cons (.b b) .nil))
  obtain ⟨en, hen, her⟩ : ∃ en : Array MapEntry, (e m = .map none ∧ en = #[] ∨ ∃ x ck, e m = .map (some x) ∧ w.heap[x]? = some (.map en ck)) ∧ EntR ρ es en.toList := by
    rcases mapAt_ok hw g1 hvm with ⟨q1, rfl⟩ | ⟨b, x, d, sz, en, ck, q1, q2, q3, q4, q5, q6⟩
    · exact ⟨#[], .inl ⟨q1, rfl⟩, .nil⟩
    · exact ⟨en, .inr ⟨x, ck, q2, q5⟩, q6⟩
  obtain ⟨r', p1, p2, _⟩ := find_ok hk hf hvk w es en.toList r her g3
  have hck := checkKey_pass (P := P) 9998 en.isEmpty hk hf hvk w
  have fin : (Instr.lookup t (e m) (e key) ok).run P w = .ok (if ok then .tuple #[(r'.map (·.2)).getD zv, .bool r'.isSome] else (r'.map (·.2)).getD zv) w := by
    rcases hen with ⟨q1, rfl⟩ | ⟨x, ck, q1, q2⟩
    · rw [q1]
      simp only [Instr.lookup, Sem.run_bind, run_und ht, Result.andThen_ok, Sem.run_pure, hck, p1]
      cases r' with
      | none => simp [hzr]
      | some q => obtain ⟨i, q⟩ := q; simp
    · rw [q1]
      simp only [Instr.lookup, Sem.run_bind, run_und ht, Result.andThen_ok, run_getMap q2, Sem.run_pure, hck, p1]
      cases r' with
      | none => simp [hzr]
      | some q => obtain ⟨i, q⟩ := q; simp
  refine ⟨_, σ, rfl, ?_⟩
  have hb : r'.isSome = r.isSome := by
    cases r <;> cases r' <;> simp [FoundAt] at p2 ⊢
  have hval : VR ρ (r.getD z) ((r'.map (·.2)).getD zv) := by
    cases r with
    | none => cases r' with
      | none => exact hzv ρ
      | some q => exact p2.elim
    | some v => cases r' with
      | none => exact p2.elim
      | some q => obtain ⟨i, q⟩ := q; exact p2.1
  have := did_pure (P := P) hw fin (by rw [hb]; exact res _ _ hval _)
  simpa [execOp, ho] using this

theorem sameBits_refl : ∀ (n : Nat) {a : AV} {v : Value} {kk : KK}, fits1 kk a = true → VR ρ a v → Instr.sameBits n v v = true := by
  intro n a v kk hf hv
  cases kk <;> cases a <;> simp [fits1] at hf <;> cases hv <;> simp [Instr.sameBits]
  rename_i l h
  have : (mkStr l).toList == (mkStr l).toList := by rw [mkStr_beq h h, sEq_iff]
  rw [beq_toListBytes]; exact this
theorem sameBits_key {a : AV} {v : Value} {kk : KK} (hf : fits kk a = true) (hv : VR ρ a v) : Instr.sameBits 10000 v v = true := by
  unfold fits at hf
  split at hf
  · rename_i l n cs
    cases hv with
    | agg hn hs h1 =>
      rename_i ds
      have : ∀ (l : List KK) (cs : List AV) (ds : List Value), fitsL l cs = true → VRs ρ cs ds → (ds.zip ds).all (fun (x, y) => Instr.sameBits 9999 x y) = true := by
        intro l cs ds
        induction cs generalizing l ds with
        | nil => intro _ h; cases h; rfl
        | cons a cs ih =>
          intro hf h
          cases h with
          | cons h1 h2 =>
            cases l with
            | nil => simp [fitsL] at hf
            | cons k l =>
              simp only [fitsL, Bool.and_eq_true] at hf
              simp only [List.zip_cons_cons, List.all_cons, Bool.and_eq_true]
              exact ⟨sameBits_refl _ hf.1 h1, ih l _ hf.2 h2⟩
      show (ds.toArray.size == ds.toArray.size && (ds.toArray.toList.zip ds.toArray.toList).all fun (x, y) => Instr.sameBits 9999 x y) = true
      simp only [beq_self_eq_true, Bool.true_and]
      exact this l cs ds hf hs
  · exact sameBits_refl _ hf hv

theorem iMapSet_ok {t kt e' : TypeId} {m key x : Operand} {kk : KK} {dm dk dx : Od} (ho : o.op = .mapUpdate t m key x ∨ o.op = .insert t m key x) (ht : P.underlying t = some (.map kt e')) (hk : keyKind P kt = some kk)
    (hm : od m = some dm) (hkey : od key = some dk) (hx : od x = some dx) : Sound P o od (iMapSet kk dm dk dx) := by
  intro call _ fr σ k hne ρ base w e hw hv
  have hvm := hv m dm hm
  have hvk := hv key dk hkey
  have hvx := hv x dx hx
  have hne' : ite2 (fits kk (dk fr)) (mapSetK σ (dm fr) (dk fr) (dx fr) k) .no ≠ .no := hne
  show ∃ v σ', ite2 (fits kk (dk fr)) (mapSetK σ (dm fr) (dk fr) (dx fr) k) .no = k v σ' ∧ _
  obtain ⟨hf, h2⟩ := ite2_ne hne'
  rw [h2] at hne' ⊢
  cases hdm : dm fr with
  | mp b =>
    rw [hdm] at hne' hvm
    unfold mapSetK at hne' ⊢
    simp only at hne' ⊢
    cases hB : σ.getB b with
    | map es =>
      rw [hB] at hne'
      simp only at hne' ⊢
      obtain ⟨es', g1, g2⟩ := optK_ne hne'
      rw [g2] at hne' ⊢
      refine ⟨undefA, _, rfl, ?_⟩
      generalize hem : e m = vm at hvm
      cases hvm with
      | mp hρ =>
        obtain ⟨x', d', s', p1, p2, p3⟩ := hw.blk b (by rw [hB]; simp)
        rw [hρ] at p1; cases p1
        rw [hB] at p3
        obtain ⟨en, ck, k1, k2⟩ := p3
        have hfd : ∃ r, findE (dk fr) es = some r := by
          clear hw hB k1 k2 hne hne' g2 h2
          revert es'
          induction es with
          | nil => intro _ _; exact ⟨none, rfl⟩
          | cons q es ih =>
            intro es' g1
            obtain ⟨q1, q2⟩ := q
            simp only [setE] at g1
            simp only [findE]
            split at g1
            · exact ⟨_, rfl⟩
            · rename_i hq
              split at g1
              · rename_i l hl
                exact ih l hl
              · cases g1
            · cases g1
        obtain ⟨r, hr⟩ := hfd
        obtain ⟨r', q1, q2, q3⟩ := find_ok hk hf hvk w es en.toList r k2 hr
        have q4 := q3 (dx fr) (e x) es' hvx g1
        have hck := checkKey_pass (P := P) 9998 false hk hf hvk w
        cases r' with
        | none =>
          obtain ⟨w1, w2⟩ := hw.setMap hB hρ (en.push { key := e key, val := e x, born := ck }) (ck + 1) (by simpa using q4 ck)
          have := Did.skip (P := P) (s := Instr.mapUpdate t (e m) (e key) (e x)) (w := w)
            (Q := Good ρ base w undefA (σ.setB b (.map es'))) (by
              rw [hem]
              simp only [Instr.mapUpdate, Sem.run_bind, run_und ht, Result.andThen_ok, run_getMap k1, hck, q1, run_setMap k1]) ⟨ρ, ρ.le_refl, .tup .nil, w1, w2⟩
          rcases ho with ho | ho <;> simpa [execOp, ho] using this
        | some q =>
          obtain ⟨j, y⟩ := q
          obtain ⟨w1, w2⟩ := hw.setMap hB hρ (en.modify j fun e' => { e' with key := e key, val := e x }) ck (by simpa using q4)
          cases r with
          | none => exact q2.elim
          | some u =>
            obtain ⟨_, _, e2, z1, z2, z3⟩ := q2
            have hget : ((en[j]?).map (·.key)).getD (e key) = e key := by
              rw [← Array.getElem?_toList]
              simp only [Nat.sub_zero] at z1
              rw [z1]; exact z3
            have := Did.skip (P := P) (s := Instr.mapUpdate t (e m) (e key) (e x)) (w := w)
              (Q := Good ρ base w undefA (σ.setB b (.map es'))) (by
                rw [hem]
                simp only [Instr.mapUpdate, Sem.run_bind, run_und ht, Result.andThen_ok, run_getMap k1, hck, q1, hget, Instr.keyThatStays, sameBits_key hf hvk, if_true, Sem.run_pure, run_setMap k1]) ⟨ρ, ρ.le_refl, .tup .nil, w1, w2⟩
            rcases ho with ho | ho <;> simpa [execOp, ho] using this
    | _ => rw [hB] at hne'; exact absurd rfl hne'
  | _ => rw [hdm] at hne'; exact absurd rfl hne'
end Go.AE

namespace Go.AE
open Go.RowKit
set_option linter.unusedVariables false
set_option linter.unusedSimpArgs false
variable {ρ : Rho} {base : Bs} {σ σ' : St} {w : World} {P : Program}
variable {o : Oper} {od : Operand → Option Od}

/-! the methods of an interface's value -/
theorem fieldOf_run {s f : Nat} {t : TypeId} {n : Nat} (h : fieldOf P s f = some (t, n)) : ∃ fs fl, P.underlying s = some (.struct fs) ∧ fs[f]? = some fl ∧ fl.type = t ∧ fl.offset = n := by
  unfold fieldOf at h
  split at h
  case h_2 => cases h
  rename_i fs hu
  split at h
  case h_2 => cases h
  rename_i fl hfl
  cases h
  exact ⟨fs, fl, hu, hfl, rfl, rfl⟩

theorem followA_ok (w : World) : ∀ (ps : List FieldStep) (t : TypeId) (a : AV) (v : Value) (xt : TypeId) (x : AV), followA P ps t a = some (xt, x) → VR ρ a v →
    ∃ v', VR ρ x v' ∧ (follow ps t (.val v)).run P w = .ok (xt, .val v') w ∧ (followBlind ps t (some v)).run P w = .ok (.ok (xt, some v')) w
  | [], t, a, v, xt, x, h, hv => by
    simp only [followA] at h; cases h
    exact ⟨v, hv, rfl, rfl⟩
  | s :: r, t, a, v, xt, x, h, hv => by
    simp only [followA] at h
    split at h
    case h_2 => cases h
    rename_i ty off m cs hd hf
    split at h
    case h_2 => cases h
    rename_i y hy
    obtain ⟨fs, fl, hu, hfl, rfl, rfl⟩ := fieldOf_run hf
    cases hv with
    | agg hn hs h1 =>
      rename_i ds
      obtain ⟨v1, p1, p2⟩ := part_ok (P := P) hy hs h1 w
      obtain ⟨v', q1, q2, q3⟩ := followA_ok w r fl.type y v1 xt x h p2
      refine ⟨v', q1, ?_, ?_⟩
      · simp only [follow, Sem.run_bind, run_und hu, Result.andThen_ok, hfl, hd, Bool.false_eq_true, if_false, p1]
        exact q2
      · simp only [followBlind, Sem.run_bind, run_und hu, Result.andThen_ok, hfl, hd, Bool.false_eq_true, if_false, p1]
        exact q3

/-- the method that is found -/
theorem methodA_ok {t : TypeId} {a x : AV} {v : Value} {name : String} {f : FuncId} (h : methodA P t a name = some (f, x)) (hv : VR ρ a v) (w : World) (n : Nat) :
    ∃ v', VR ρ x v' ∧ (method (n + 1) t v name).run P w = .ok (f, v') w ∧ (nilAhead (n + 1) t v name).run P w = .ok (some false) w := by
  unfold methodA at h
  split at h
  case h_2 => cases h
  rename_i i hi
  split at h
  case h_2 => cases h
  rename_i m hm
  split at h
  case h_2 => cases h
  rename_i xt y g ptr hfo hfu
  obtain ⟨v', q1, q2, q3⟩ := followA_ok w m.path.toList t a v xt y hfo hv
  have done : ∀ d, P.underlying xt = some d → (receiverAt xt (.val v') ptr (if m.path.isEmpty then some ((name.splitOn ".").getLastD name) else none)).run P w = .ok v' w →
      (method (n + 1) t v name).run P w = .ok (g, v') w := by
    intro d hd hr
    simp only [method, Sem.run_bind, typeInfo, run_program, hi, Sem.run_pure, Result.andThen_ok, hm, q2, hfu, hr, Sem.run_pure]
  have ahead : ∀ d, P.underlying xt = some d → ((∃ e, d = .pointer e) → ptr = true) → (nilAhead (n + 1) t v name).run P w = .ok (some false) w := by
    intro d hd hp
    simp only [nilAhead, Sem.run_bind, typeInfo, run_program, hi, Sem.run_pure, Result.andThen_ok, hm, q3, hfu]
    cases ptr with
    | true => rfl
    | false =>
      simp only [Sem.run_bind, run_und hd, Result.andThen_ok]
      cases d <;> first | rfl | exact absurd (hp ⟨_, rfl⟩) (by simp)
  split at h
  · rename_i _ e hu
    cases h
    exact ⟨v', q1, done _ hu (by simp only [receiverAt, Sem.run_bind, run_und hu, Result.andThen_ok]; rfl), ahead _ hu (fun _ => rfl)⟩
  · cases h
  · rename_i d hne hu
    cases h
    refine ⟨v', q1, done _ hu ?_, ahead _ hu (fun ⟨e, he⟩ => by subst he; exact absurd rfl (hne e))⟩
    simp only [receiverAt, Sem.run_bind, run_und hu, Result.andThen_ok]
    cases d <;> first | rfl | exact absurd rfl (hne _)
  · cases h

theorem depth_succ : ∃ n, P.types.size + Made.depth = n + 1 := ⟨P.types.size + 99, rfl⟩

theorem iNilCheck_ok {x : Operand} {d : Od} (ho : o.op = .nilCheck x) (hx : od x = some d) : Sound P o od (iNilCheck P d) := by
  intro call _ fr σ k hne ρ base w e hw hv
  have hvx := hv x d hx
  have hne' : nilCheckK P (d fr) σ k ≠ .no := hne
  show ∃ v σ', nilCheckK P (d fr) σ k = k v σ' ∧ _
  generalize hxx : e x = vx at hvx
  have fin : ∀ a, VR ρ a vx → (execOp e o).run P w = .ok (.value vx) w → Did P (execOp e o) w (Good ρ base w a σ) := fun a h1 h2 => .inl ⟨vx, w, .inl h2, Good.same hw h1⟩
  rw [nilCheckK_eq] at hne' ⊢
  split at hne'
  · rename_i b off hd
    rw [hd] at hvx
    refine ⟨_, σ, rfl, fin _ hvx ?_⟩
    cases hvx
    simp [execOp, ho, hxx]
  · rename_i f a c hd
    rw [hd] at hvx
    refine ⟨_, σ, rfl, fin _ hvx ?_⟩
    cases hvx
    simp [execOp, ho, hxx]
  · rename_i name t v c hd
    rw [hd] at hvx
    split at hne'
    case h_2 => exact absurd rfl hne'
    rename_i fx hm
    obtain ⟨f, y⟩ := fx
    refine ⟨_, σ, rfl, fin _ hvx ?_⟩
    cases hvx with
    | fn ha hc =>
      cases ha with
      | cons h1 h2 =>
        cases h2
        cases h1 with
        | ifc h3 =>
          obtain ⟨n, hn⟩ := depth_succ (P := P)
          obtain ⟨v', _, _, q⟩ := methodA_ok hm h3 w n
          simp [execOp, ho, hxx, hn, q]
  · exact absurd rfl hne'

end Go.AE

namespace Go.AE
open Go.RowKit
set_option linter.unusedVariables false
set_option linter.unusedSimpArgs false
variable {ρ : Rho} {base : Bs} {σ σ' : St} {w : World} {P : Program}
variable {o : Oper} {od : Operand → Option Od}

/-! calls -/
theorem bR_ne {r : R} {k : Kont} (h : bR r k ≠ .no) : ∃ v σ', r = .ok v σ' ∧ bR r k = k v σ' := by
  cases r with
  | ok v σ' => exact ⟨v, σ', rfl, rfl⟩
  | no => exact absurd rfl h

theorem called {call : Call} (hc : CallOK P call) {f : FuncId} {args : List AV} {k : Kont} (hne : bR (call f args σ) k ≠ .no) {args' : List Value} {s : Sem Next} (hw : WR ρ base σ w) (ha : VRs ρ args args')
    (hs : ∀ n, (callFunc f args'.toArray).run P w = .ok n w → s.run P w = .ok n w) : ∃ v σ', bR (call f args σ) k = k v σ' ∧ Did P s w (Good ρ base w v σ') := by
  obtain ⟨v, σ', h1, h2⟩ := bR_ne hne
  obtain ⟨h3, h4⟩ := hc f args σ v σ' h1
  exact ⟨v, σ', h2, .inr ⟨f, args'.toArray, hs _ (h3.run _ _), h4 ρ base w args' hw ha⟩⟩

theorem map_toArray {l : Array Operand} (e : Operand → Value) : (l.toList.map e).toArray = l.map e := by
  apply Array.ext'; simp

theorem iCall_ok {c : Go.Call} {f : FuncId} {ds : List Od} (ho : o.op = .call c) (hc : c.callee = .value (.func f)) (hf : od (.func f) = some (odV (.fn (.func f) [] []))) (ha : mapO od c.args.toList = some ds) : Sound P o od (iCall f ds) := by
  intro call hcall fr σ k hne ρ base w e hw hv
  have h1 := mapO_VRs (ρ := ρ) ha hv
  have h2 := hv _ _ hf
  refine called (args' := c.args.toList.map e) hcall hne hw h1 fun n hn => ?_
  have h3 : e (.func f) = .func (.func f) #[] #[] := by
    have h2' : VR ρ (.fn (.func f) [] []) (e (.func f)) := h2
    generalize e (.func f) = v at h2'
    cases h2' with
    | fn a b => cases a; cases b; rfl
  rw [map_toArray] at hn
  simp [execOp, ho, resolve, hc, h3, Deferred.ofValue, invoke, hn]

theorem iCallV_ok {c : Go.Call} {x : Operand} {d : Od} {ds : List Od} (ho : o.op = .call c) (hc : c.callee = .value x) (hx : od x = some d) (ha : mapO od c.args.toList = some ds) : Sound P o od (iCallV P d ds) := by
  intro call hcall fr σ k hne ρ base w e hw hv
  have h1 := mapO_VRs (ρ := ρ) ha hv
  have hvx := hv x d hx
  have hne' : calleeK P call (d fr) (evs fr ds) σ k ≠ .no := hne
  show ∃ v σ', calleeK P call (d fr) (evs fr ds) σ k = k v σ' ∧ _
  generalize hxx : e x = vx at hvx
  unfold calleeK at hne' ⊢
  split at hne'
  · rename_i f first caps hd
    rw [hd] at hvx
    cases hvx with
    | fn ha' hc' =>
      rename_i a' c'
      refine called (args' := a' ++ (c.args.toList.map e ++ c')) hcall hne' hw (ha'.append (h1.append hc')) fun n hn => ?_
      have e1 : (a' ++ (c.args.toList.map e ++ c')).toArray = a'.toArray ++ c.args.map e ++ c'.toArray := by
        rw [← map_toArray]; simp
      rw [e1] at hn
      simp only [execOp, ho, resolve, hc, hxx, Deferred.ofValue, Sem.run_bind, Sem.run_pure, Result.andThen_ok, invoke]
      exact hn
  · rename_i name t v first caps hd
    rw [hd] at hvx
    split at hne'
    case h_2 => exact absurd rfl hne'
    rename_i f x hm
    cases hvx with
    | fn ha' hc' =>
      cases ha' with
      | cons q1 q2 =>
        rename_i a'
        cases q1 with
        | ifc q3 =>
          rename_i v0
          obtain ⟨m, hmm⟩ := depth_succ (P := P)
          obtain ⟨v', p1, p2, _⟩ := methodA_ok hm q3 w m
          refine called (args' := v' :: (a' ++ c.args.toList.map e)) hcall hne' hw (.cons p1 (q2.append h1)) fun n hn => ?_
          have e1 : (v' :: (a' ++ c.args.toList.map e)).toArray = #[v'] ++ (a'.toArray ++ c.args.map e) := by
            rw [← map_toArray]; simp
          rw [e1] at hn
          have e2 : (((Value.iface t v0 :: a').toArray ++ c.args.map e).extract 1 ((Value.iface t v0 :: a').toArray ++ c.args.map e).size) = a'.toArray ++ c.args.map e := by
            rw [← map_toArray]; apply Array.ext'; simp [List.take_of_length_le]
          have e3 : ((Value.iface t v0 :: a').toArray ++ c.args.map e)[0]? = some (.iface t v0) := by
            rw [← Array.getElem?_toList, Array.toList_append]; rfl
          have hcm : (callMethod (.iface t v0) name (a'.toArray ++ c.args.map e)).run P w = .ok n w := by
            unfold callMethod
            simp only [Sem.run_bind, run_program, Result.andThen_ok, hmm, p2]
            exact hn
          simp only [execOp, ho, resolve, hc, hxx, Deferred.ofValue, Sem.run_bind, Sem.run_pure, Result.andThen_ok, invoke, e3, e2]
          exact hcm
  · exact absurd rfl hne'

theorem iInvoke_ok {c : Go.Call} {x : Operand} {name : String} {d : Od} {ds : List Od} (ho : o.op = .call c) (hc : c.callee = .invoke x name) (hx : od x = some d) (ha : mapO od c.args.toList = some ds) : Sound P o od (iInvoke P name d ds) := by
  intro call hcall fr σ k hne ρ base w e hw hv
  have h1 := mapO_VRs (ρ := ρ) ha hv
  have hvx := hv x d hx
  have hne' : invokeK P call name (d fr) (evs fr ds) σ k ≠ .no := hne
  show ∃ v σ', invokeK P call name (d fr) (evs fr ds) σ k = k v σ' ∧ _
  generalize hxx : e x = vx at hvx
  unfold invokeK at hne' ⊢
  split at hne'
  · rename_i t v hd
    rw [hd] at hvx
    split at hne'
    case h_2 => exact absurd rfl hne'
    rename_i f x hm
    cases hvx with
    | ifc q3 =>
      rename_i v0
      obtain ⟨m, hmm⟩ := depth_succ (P := P)
      obtain ⟨v', p1, p2, _⟩ := methodA_ok hm q3 w m
      refine called (args' := v' :: (c.args.toList.map e)) hcall hne' hw (.cons p1 h1) fun n hn => ?_
      have e1 : (v' :: (c.args.toList.map e)).toArray = #[v'] ++ c.args.map e := by
        rw [← map_toArray]; simp
      rw [e1] at hn
      have e2 : ((#[Value.iface t v0] ++ c.args.map e).extract 1 (#[Value.iface t v0] ++ c.args.map e).size) = c.args.map e := by
        rw [← map_toArray]; apply Array.ext'; simp [List.take_of_length_le]
      have e3 : (#[Value.iface t v0] ++ c.args.map e)[0]? = some (.iface t v0) := by
        rw [← Array.getElem?_toList, Array.toList_append]; rfl
      have hcm : (callMethod (.iface t v0) name (c.args.map e)).run P w = .ok n w := by
        unfold callMethod
        simp only [Sem.run_bind, run_program, Result.andThen_ok, hmm, p2]
        exact hn
      simp only [execOp, ho, resolve, hc, hxx, Sem.run_bind, Sem.run_pure, Result.andThen_ok, invoke, e3, e2]
      exact hcm
  · exact absurd rfl hne'

theorem len_did {c : Go.Call} {x : Operand} {t : TypeId} {e : Operand → Value} (ho : o.op = .call c) (hc : c.callee = .builtin .len) (ht : c.argTypes[0]? = some t) (hx : c.args.toList = [x]) {n : Nat} (hw : WR ρ base σ w)
    (hr : ∀ (f : TypeId → Array Value → Sem Value), (Builtin.len_ c.argTypes o.type #[e x]).run P w = .ok (goInt n) w) : Did P (execOp e o) w (Good ρ base w (.i (.ofNat n)) σ) := by
  have hx' : c.args = #[x] := by apply Array.ext'; simpa using hx
  have := did_pure (P := P) hw (hr (fun _ _ => stuck "")) (.i (n : Int))
  simpa [execOp, ho, resolve, hc, hx', invoke, builtin] using this

theorem iLenS_ok {c : Go.Call} {x : Operand} {t : TypeId} {d : Od} (ho : o.op = .call c) (hc : c.callee = .builtin .len) (ht : c.argTypes[0]? = some t) (hu : P.underlying t = some .string)
    (hx : c.args.toList = [x]) (hd : od x = some d) : Sound P o od (iLenS d) := by
  intro call hcall fr σ k hne ρ base w e hw hv
  have hvx := hv x d hd
  have hne' : lenSK (d fr) σ k ≠ .no := hne
  show ∃ v σ', lenSK (d fr) σ k = k v σ' ∧ _
  generalize hxx : e x = vx at hvx
  rw [lenSK_eq] at hne' ⊢
  split at hne'
  · rename_i l hdd
    rw [hdd] at hvx
    cases hvx
    refine ⟨_, σ, rfl, len_did ho hc ht hx hw fun _ => ?_⟩
    rw [hxx]
    simp [Builtin.len_, ht, run_und hu, mkStr_size]
  · exact absurd rfl hne'

theorem iLenL_ok {c : Go.Call} {x : Operand} {t e' : TypeId} {d : Od} (ho : o.op = .call c) (hc : c.callee = .builtin .len) (ht : c.argTypes[0]? = some t) (hu : P.underlying t = some (.slice e'))
    (hx : c.args.toList = [x]) (hd : od x = some d) : Sound P o od (iLenL d) := by
  intro call hcall fr σ k hne ρ base w e hw hv
  have hvx := hv x d hd
  have hne' : lenLK (d fr) σ k ≠ .no := hne
  show ∃ v σ', lenLK (d fr) σ k = k v σ' ∧ _
  generalize hxx : e x = vx at hvx
  rw [lenLK_eq] at hne' ⊢
  split at hne'
  · rename_i b off n c' e2 hdd
    rw [hdd] at hvx
    refine ⟨_, σ, rfl, len_did ho hc ht hx hw fun _ => ?_⟩
    rw [hxx]
    cases hvx <;> simp [Builtin.len_, ht, run_und hu]
  · rename_i a n c' hdd
    rw [hdd] at hvx
    refine ⟨_, σ, rfl, len_did ho hc ht hx hw fun _ => ?_⟩
    rw [hxx]
    cases hvx
    simp [Builtin.len_, ht, run_und hu]
  · exact absurd rfl hne'

theorem iLenM_ok {c : Go.Call} {x : Operand} {t k' e' : TypeId} {d : Od} (ho : o.op = .call c) (hc : c.callee = .builtin .len) (ht : c.argTypes[0]? = some t) (hu : P.underlying t = some (.map k' e'))
    (hx : c.args.toList = [x]) (hd : od x = some d) : Sound P o od (iLenM d) := by
  intro call hcall fr σ k hne ρ base w e hw hv
  have hvx := hv x d hd
  have hne' : lenMK (d fr) σ k ≠ .no := hne
  show ∃ v σ', lenMK (d fr) σ k = k v σ' ∧ _
  generalize hxx : e x = vx at hvx
  unfold lenMK at hne' ⊢
  split at hne'
  · rename_i b hdd
    rw [hdd] at hvx
    split at hne'
    case h_2 => exact absurd rfl hne'
    rename_i es hB
    refine ⟨_, σ, rfl, len_did ho hc ht hx hw fun _ => ?_⟩
    rw [hxx]
    cases hvx with
    | mp hρ =>
      obtain ⟨x', d', s', p1, p2, p3⟩ := hw.blk b (by rw [hB]; simp)
      rw [hρ] at p1; cases p1
      rw [hB] at p3
      obtain ⟨en, ck, k1, k2⟩ := p3
      have hl : es.length = en.size := by
        have : ∀ (es : List (AV × AV)) (en : List MapEntry), EntR ρ es en → es.length = en.length := by
          intro es en h
          induction h with
          | nil => rfl
          | cons _ _ _ ih => simp [ih]
        simpa using this _ _ k2
      simp [Builtin.len_, ht, run_und hu, run_getMap k1, hl]
  · rename_i hdd
    rw [hdd] at hvx
    refine ⟨_, σ, rfl, len_did (n := 0) ho hc ht hx hw fun _ => ?_⟩
    rw [hxx]
    cases hvx
    simp [Builtin.len_, ht, run_und hu]
  · exact absurd rfl hne'

end Go.AE

namespace Go.AE
open Go.RowKit
set_option linter.unusedVariables false
set_option linter.unusedSimpArgs false
variable {ρ : Rho} {base : Bs} {σ σ' : St} {w : World} {P : Program}
variable {o : Oper} {od : Operand → Option Od}

/-! values put together -/
theorem foldl_set (vs : List Value) : ∀ (k off : Nat) (cs : Array Value), ((vs.zipIdx k).foldl (fun (cs : Array Value) (p : Value × Nat) => cs.setIfInBounds (off + p.2) p.1) cs).toList = (vs.zipIdx k).foldl (fun (cs : List Value) (p : Value × Nat) => cs.set (off + p.2) p.1) cs.toList := by
  induction vs with
  | nil => intros; rfl
  | cons v vs ih =>
    intro k off cs
    simp only [List.zipIdx_cons, List.foldl_cons]
    rw [ih]
    simp
theorem foldl_put (vs : List Value) : ∀ (k off : Nat) (cs : List Value), off + k + vs.length ≤ cs.length → (vs.zipIdx k).foldl (fun (cs : List Value) (p : Value × Nat) => cs.set (off + p.2) p.1) cs = cs.take (off + k) ++ (vs ++ cs.drop (off + k + vs.length)) := by
  induction vs with
  | nil => intro k off cs h; simp
  | cons v vs ih =>
    intro k off cs h
    simp only [List.length_cons] at h
    simp only [List.zipIdx_cons, List.foldl_cons]
    rw [ih (k + 1) off _ (by simp; omega)]
    apply List.ext_getElem?
    intro i
    simp only [List.getElem?_append, List.length_take, List.length_set, List.getElem?_take, List.getElem?_drop, List.getElem?_set, List.length_cons, List.getElem?_cons]
    by_cases h1 : i < off + k
    · rw [show min (off + k) cs.length = off + k by omega, show min (off + (k + 1)) cs.length = off + (k + 1) by omega]
      simp [h1, show i < off + (k + 1) by omega, show ¬ off + k = i by omega]
    · by_cases h2 : i = off + k
      · subst h2
        simp [show off + k < off + (k + 1) by omega, show off + k < cs.length by omega, show min (off + k) cs.length = off + k by omega, show min (off + (k + 1)) cs.length = off + (k + 1) by omega]
      · have h3 : ¬ i < off + (k + 1) := by omega
        rw [show min (off + k) cs.length = off + k by omega, show min (off + (k + 1)) cs.length = off + (k + 1) by omega]
        simp only [h1, h3, if_false]
        obtain ⟨j, rfl⟩ : ∃ j, i = off + (k + 1) + j := ⟨i - (off + (k + 1)), by omega⟩
        rw [show off + (k + 1) + j - (off + (k + 1)) = j by omega, show off + (k + 1) + j - (off + k) = j + 1 by omega]
        by_cases h4 : j < vs.length
        · simp [h4]
        · simp [h4, show ¬ off + k = off + (k + 1) + vs.length + (j - vs.length) by omega]
          congr 1; omega

theorem VRs.put {cells vs : List AV} {cs ds : List Value} {off : Nat} (h : VRs ρ cells cs) (hv : VRs ρ vs ds) (hle : off + vs.length ≤ cells.length) : VRs ρ (putN off vs cells) (cs.take off ++ (ds ++ cs.drop (off + ds.length))) := by
  rw [putN_eq _ _ _ hle, ← hv.length]
  exact (h.take off).append (hv.append (h.drop _))

/-- parts and their places -/
inductive Parts (place : Nat → Option (Nat × Nat)) (od : Operand → Option Od) : List (Nat × Operand) → List (Nat × Nat × Od) → Prop where
  | nil : Parts place od [] []
  | cons {i : Nat} {y : Operand} {off sz : Nat} {x : Od} {ps : List (Nat × Operand)} {l : List (Nat × Nat × Od)} (h : place i = some (off, sz)) (hx : od y = some x) (r : Parts place od ps l) : Parts place od ((i, y) :: ps) ((off, sz, x) :: l)

/-- parts put in their places -/
theorem fill_ok {place : Nat → Option (Nat × Nat)} {e : Operand → Value} {fr : FT} (hv : ∀ x d, od x = some d → VR ρ (d fr) (e x)) :
    ∀ (ps : List (Nat × Operand)) (l : List (Nat × Nat × Od)) (cells out : List AV) (cs : Array Value),
      Parts place od ps l → inAll cells.length l = true → fillA fr cells l = some out →
      VRs ρ cells cs.toList → (∀ d ∈ cs.toList, d.oneCell' = true) →
      ∃ cs' : Array Value, Instr.fill place cs (ps.map fun p => (p.1, e p.2)) = some cs' ∧ VRs ρ out cs'.toList ∧ (∀ d ∈ cs'.toList, d.oneCell' = true) ∧ cs'.size = cs.size := by
  intro ps
  induction ps with
  | nil =>
    intro l cells out cs hp hi hf hc h1
    cases hp
    simp only [fillA] at hf; cases hf
    exact ⟨cs, rfl, hc, h1, rfl⟩
  | cons p ps ih =>
    intro l cells out cs hp hi hf hc h1
    cases hp with
    | cons q1 q2 hp =>
      rename_i i y off sz x l
      simp only [inAll, Bool.and_eq_true] at hi
      simp only [fillA] at hf
      split at hf
      · cases hf
      rename_i hb
      simp only [Bool.and_eq_true] at hb
      have hn := Nat.eq_of_beq_eq_true hb.1
      obtain ⟨c1, c2, c3, c4⟩ := cellsOf_VRs hb.2 (hv y x q2)
      have hle : off + sz ≤ cells.length := ble_le hi.1
      have hcl := hc.length
      have hle' : off + (cellsOf (x fr)).length ≤ cells.length := by omega
      let cs2 : Array Value := (e y).cells.zipIdx.foldl (fun cs (p : Value × Nat) => cs.setIfInBounds (off + p.2) p.1) cs
      have hcs2 : cs2.toList = cs.toList.take off ++ ((e y).cells.toList ++ cs.toList.drop (off + (e y).cells.toList.length)) := by
        have g1 := foldl_set (e y).cells.toList 0 off cs
        have g2 := foldl_put (e y).cells.toList 0 off cs.toList (by simp at hcl ⊢; omega)
        rw [g2] at g1
        simp only [Nat.add_zero] at g1
        rw [← g1]
        simp only [cs2]
        rw [← Array.foldl_toList, Array.toList_zipIdx]
      have hvr : VRs ρ (putN off (cellsOf (x fr)) cells) cs2.toList := by rw [hcs2]; exact hc.put c1 hle'
      have h1' : ∀ d ∈ cs2.toList, d.oneCell' = true := by
        rw [hcs2]
        intro d hd
        simp only [List.mem_append] at hd
        rcases hd with hd | hd | hd
        · exact h1 d (List.mem_of_mem_take hd)
        · exact c2 d hd
        · exact h1 d (List.mem_of_mem_drop hd)
      obtain ⟨cs', r1, r2, r3, r4⟩ := ih l (putN off (cellsOf (x fr)) cells) out cs2 hp (by rw [putN_length _ _ _ hle']; exact hi.2) hf hvr h1'
      refine ⟨cs', ?_, r2, r3, ?_⟩
      · simp only [List.map_cons, Instr.fill, q1]
        have t1 : ¬ ((e y).cells.size ≠ sz || off + (e y).cells.size > cs.size) = true := by
          simp at hcl
          simp; omega
        simp only [t1, if_false]
        exact r1
      · rw [r4]
        have := congrArg List.length hcs2
        simp at this hcl
        omega

theorem placesA_ok {sz : Nat} : ∀ (ps : List (Nat × Operand)) (l : List (Nat × Nat × Od)), placesA sz od ps = some l → Parts (fun i => some (i * sz, sz)) od ps l
  | [], l, h => by simp [placesA] at h; subst h; exact .nil
  | (i, x) :: r, l, h => by
    simp only [placesA] at h
    split at h
    case h_2 => cases h
    rename_i y l' h1 h2
    cases h
    exact .cons rfl h1 (placesA_ok r l' h2)
theorem placesS_ok {fs : Array Field} {pl : Array (Nat × Nat)} (hp : ∀ (i : Nat) (f : Field) (n : Nat), fs[i]? = some f → size P f.type = some n → pl[i]? = some (f.offset, n)) :
    ∀ (ps : List (Nat × Operand)) (l : List (Nat × Nat × Od)), placesS P fs od ps = some l → Parts (fun i => pl[i]?) od ps l
  | [], l, h => by simp [placesS] at h; subst h; exact .nil
  | (i, x) :: r, l, h => by
    simp only [placesS] at h
    split at h
    case h_2 => cases h
    rename_i f y l' h0 h1 h2
    split at h
    case h_2 => cases h
    rename_i n hn
    cases h
    exact .cons (hp i f n h0 hn) h1 (placesS_ok hp r l' h2)

theorem run_mapM_list {α β : Type} (g : α → Sem β) (r : α → β) (w : World) : ∀ (l : List α), (∀ a ∈ l, (g a).run P w = .ok (r a) w) → (l.mapM g).run P w = .ok (l.map r) w
  | [], _ => rfl
  | a :: l, h => by
    simp only [List.mapM_cons, Sem.run_bind, h a (by simp), Result.andThen_ok, run_mapM_list g r w l (fun x hx => h x (by simp [hx])), Sem.run_pure, List.map_cons]
theorem run_mapM_array {α β : Type} (g : α → Sem β) (r : α → β) (w : World) (a : Array α) (h : ∀ x ∈ a.toList, (g x).run P w = .ok (r x) w) : (a.mapM g).run P w = .ok (a.map r) w := by
  rw [Array.mapM_eq_mapM_toList]
  have := run_mapM_list (P := P) g r w a.toList h
  rw [← bind_pure_comp]
  simp only [Sem.run_bind, this, Result.andThen_ok, Sem.run_pure]
  congr 1
  apply Array.ext'; simp

theorem parts_map (ps : Array (Nat × Operand)) (e : Operand → Value) : (ps.map fun (i, x) => (i, e x)).toList = ps.toList.map fun p => (p.1, e p.2) := by
  simp

theorem zero_cells {t : TypeId} {z : AV} (h : zeroV P t = some z) (w : World) : ∃ v, (zeroValue t).run P w = .ok v w ∧ (∀ ρ, VRs ρ (cellsOf z) v.cells.toList) ∧ (∀ d ∈ v.cells.toList, d.oneCell' = true) ∧ v.cells.size = (cellsOf z).length ∧ numOf z = v.cells.size := by
  obtain ⟨v, h1, h2, h3⟩ := zero_run h w
  refine ⟨v, h1, fun ρ => (cellsOf_VRs h3 (h2 ρ)).1, ?_, ?_, ?_⟩
  all_goals obtain ⟨q1, q2, q3, q4⟩ := cellsOf_VRs h3 (h2 Rho0)
  · exact q2
  · omega
  · exact q3
theorem zero_eq {t : TypeId} {z : List AV} (h : zero P t = some z) : ∃ a, zeroV P t = some a ∧ z = cellsOf a := by
  unfold zero at h
  split at h
  · rename_i v hv; cases h; exact ⟨v, hv, rfl⟩
  · cases h

theorem iBuild_ok {t : TypeId} {ps : Array (Nat × Operand)} {z : List AV} {l : List (Nat × Nat × Od)} (ho : o.op = .build t ps) (hz : zero P t = some z) (hi : inAll z.length l = true)
    (hp : (∃ fs, P.underlying t = some (.struct fs) ∧ fs.toList.all (fun f => (size P f.type).isSome) = true ∧ placesS P fs od ps.toList = some l) ∨ (∃ n e sz, P.underlying t = some (.array n e) ∧ size P e = some sz ∧ placesA sz od ps.toList = some l)) :
    Sound P o od (iBuild z.length z l) := by
  intro call _ fr σ k hne ρ base w e hw hv
  have hne' : optK (fillA fr z l) (fun cs => k (.agg z.length cs) σ) ≠ .no := hne
  show ∃ v σ', optK (fillA fr z l) (fun cs => k (.agg z.length cs) σ) = k v σ' ∧ _
  obtain ⟨cs, g1, g2⟩ := optK_ne hne'
  rw [g2]
  refine ⟨_, σ, rfl, ?_⟩
  obtain ⟨a, ha, rfl⟩ := zero_eq hz
  obtain ⟨v, q1, q2, q3, q4, q5⟩ := zero_cells ha w
  have fin : ∀ (place : Nat → Option (Nat × Nat)), Parts place od ps.toList l → ∃ cs' : Array Value, Instr.fill place v.cells (ps.map fun (i, x) => (i, e x)).toList = some cs' ∧ VR ρ (.agg (cellsOf a).length cs) (.agg cs') := by
    intro place hpl
    obtain ⟨cs', r1, r2, r3, r4⟩ := fill_ok hv ps.toList l (cellsOf a) cs v.cells hpl hi g1 (q2 ρ) q3
    refine ⟨cs', by rw [parts_map]; exact r1, ?_⟩
    have := VR.agg (n := (cellsOf a).length) (by rw [r2.length]; simp; omega) r2 r3
    simpa using this
  rcases hp with ⟨fs, hu, hall, hpl⟩ | ⟨n, el, sz, hu, hs, hpl⟩
  · have hsz : ∀ x ∈ fs.toList, ((do pure (x.offset, ← sizeOf x.type) : Sem (Nat × Nat))).run P w = .ok (x.offset, (size P x.type).getD 0) w := by
      intro x hx
      have := List.all_eq_true.1 hall x hx
      cases hs : size P x.type with
      | none => rw [hs] at this; cases this
      | some n => simp [run_size hs]
    have hm := run_mapM_array (P := P) (fun (x : Field) => (do pure (x.offset, ← sizeOf x.type) : Sem (Nat × Nat))) (fun x => (x.offset, (size P x.type).getD 0)) w fs hsz
    obtain ⟨cs', r1, r2⟩ := fin _ (placesS_ok (pl := fs.map fun x => (x.offset, (size P x.type).getD 0)) (fun i f n h1 h2 => by simp [h1, h2]) ps.toList l hpl)
    have hr : (Instr.build t (ps.map fun (i, x) => (i, e x))).run P w = .ok (.agg cs') w := by
      simp only [Instr.build, Sem.run_bind, q1, Result.andThen_ok, run_und hu, hm, r1, Sem.run_pure]
    have := did_pure (P := P) hw hr r2
    simpa [execOp, ho] using this
  · obtain ⟨cs', r1, r2⟩ := fin _ (placesA_ok ps.toList l hpl)
    have hr : (Instr.build t (ps.map fun (i, x) => (i, e x))).run P w = .ok (.agg cs') w := by
      simp only [Instr.build, Sem.run_bind, q1, Result.andThen_ok, run_und hu, run_size hs, r1, Sem.run_pure]
    have := did_pure (P := P) hw hr r2
    simpa [execOp, ho] using this

end Go.AE

namespace Go.AE
open Go.RowKit
set_option linter.unusedVariables false
set_option linter.unusedSimpArgs false
variable {ρ : Rho} {base : Bs} {σ σ' : St} {w : World} {P : Program}
variable {o : Oper} {od : Operand → Option Od}

theorem rep_length (z : List AV) (n : Nat) : (rep z n).length = n * z.length := by
  induction n with
  | zero => simp [rep]
  | succ n ih => simp only [rep, List.length_append, ih]; rw [Nat.add_mul, Nat.one_mul]; omega
theorem rep_get (z : List AV) (n i : Nat) (h : i < n * z.length) : (rep z n)[i]? = z[i % z.length]? := by
  induction n generalizing i with
  | zero => omega
  | succ n ih =>
    simp only [rep, List.getElem?_append]
    split
    · rename_i h1; rw [Nat.mod_eq_of_lt h1]
    · rename_i h1
      rw [Nat.add_mul, Nat.one_mul] at h
      rw [ih (i - z.length) (by omega), ← Nat.mod_eq_sub_mod (by omega)]
theorem rep_VRs {z : List AV} {zs : Array Value} (h : VRs ρ z zs.toList) (n : Nat) : VRs ρ (rep z n) ((Array.range (n * z.length)).map fun i => zs[i % zs.size]!).toList := by
  have hl := h.length
  simp at hl
  apply VRs.of_get
  · simp [rep_length]
  · intro i a v h1 h2
    have hi : i < n * z.length := by
      have := (List.getElem?_eq_some_iff.1 h1).1
      rwa [rep_length] at this
    rw [rep_get z n i hi] at h1
    have hz : 0 < z.length := by
      rcases Nat.eq_zero_or_pos z.length with h0 | h0
      · rw [h0] at hi; simp at hi
      · exact h0
    obtain ⟨v', g1, g2⟩ := h.get h1
    have hlt : i % zs.size < zs.size := Nat.mod_lt _ (by omega)
    have h3 : v = zs[i % zs.size]! := by
      simp only [Array.toList_map, Array.toList_range, List.getElem?_map, List.getElem?_range hi, Option.map_some, Option.some.injEq] at h2
      exact h2.symm
    rw [h3, getElem!_pos zs _ hlt]
    rw [hl] at g1
    simp [hlt] at g1
    rw [g1]
    exact g2
theorem rep_one {z : List AV} {zs : Array Value} (h : z.length = zs.size) (h1 : ∀ d ∈ zs.toList, d.oneCell' = true) (n : Nat) : ∀ d ∈ ((Array.range (n * z.length)).map fun i => zs[i % zs.size]!).toList, d.oneCell' = true := by
  intro d hd
  simp at hd
  obtain ⟨i, hi, rfl⟩ := hd
  have hz : 0 < z.length := by
    rcases Nat.eq_zero_or_pos z.length with h0 | h0
    · rw [h0] at hi; simp at hi
    · exact h0
  have hlt : i % zs.size < zs.size := Nat.mod_lt _ (by omega)
  rw [getElem!_pos zs _ hlt]
  exact h1 _ (by simp)

theorem zeros_ok {e : TypeId} {sz len : Nat} {z : List AV} (h : zeros P e sz len = some z) (w : World) : ∃ zs : Array Value,
    (len * sz = 0 ∧ zs = #[] ∨ len * sz ≠ 0 ∧ ∃ v, (zeroValue e).run P w = .ok v w ∧ zs = v.cells) ∧ z.length = len * sz ∧
      (∀ ρ, VRs ρ z ((Array.range (len * sz)).map fun i => zs[i % zs.size]!).toList) ∧ (∀ d ∈ ((Array.range (len * sz)).map fun i => zs[i % zs.size]!).toList, d.oneCell' = true) := by
  unfold zeros at h
  split at h
  · rename_i hb
    have h0 := Nat.eq_of_beq_eq_true hb
    cases h
    refine ⟨#[], ?_, ?_, ?_, ?_⟩
    · exact .inl ⟨h0, rfl⟩
    · simp [h0]
    · rw [h0]; intro ρ; simpa using VRs.nil
    · rw [h0]; simp
  · rename_i hb
    have h0 : len * sz ≠ 0 := fun hh => by rw [hh] at hb; cases hb
    split at h
    case h_2 => cases h
    rename_i z0 hz0
    split at h
    case h_2 => cases h
    rename_i hb2
    have hl := Nat.eq_of_beq_eq_true hb2
    cases h
    obtain ⟨a, ha, rfl⟩ := zero_eq hz0
    obtain ⟨v, q1, q2, q3, q4, q5⟩ := zero_cells ha w
    refine ⟨v.cells, ?_, by rw [rep_length, hl], ?_, ?_⟩
    · exact .inr ⟨h0, v, q1, rfl⟩
    · intro ρ; rw [← hl]; exact rep_VRs (q2 ρ) len
    · rw [← hl]; exact rep_one (by omega) q3 len

theorem sliceElem_ok {t e : TypeId} {sz : Nat} (h : sliceElem P t = some (e, sz)) : P.underlying t = some (.slice e) ∧ size P e = some sz := by
  unfold sliceElem at h
  split at h
  · rename_i hu
    split at h
    · rename_i hs; cases h; exact ⟨hu, hs⟩
    · cases h
  · cases h

theorem iBuildSlice_ok {t : TypeId} {len : Nat} {ps : Array (Nat × Operand)} {el : TypeId} {sz : Nat} {z : List AV} {l : List (Nat × Nat × Od)} (ho : o.op = .buildSlice t len ps) (hs : sliceElem P t = some (el, sz))
    (hz : zeros P el sz len = some z) (hb : Nat.ble (len * sz) 16777216 = true) (hp : placesA sz od ps.toList = some l) (hi : inAll (len * sz) l = true) : Sound P o od (iBuildSlice z len sz l) := by
  intro call _ fr σ k hne ρ base w e hw hv
  have hne' : optK (fillA fr z l) (fun cs => σ.new (.row (len * sz) cs none 0) (fun b => .sl b 0 len len sz) k) ≠ .no := hne
  show ∃ v σ', optK (fillA fr z l) (fun cs => σ.new (.row (len * sz) cs none 0) (fun b => .sl b 0 len len sz) k) = k v σ' ∧ _
  obtain ⟨cs, g1, g2⟩ := optK_ne hne'
  rw [g2] at hne' ⊢
  obtain ⟨i, hin, heq⟩ := new_ne hne'
  refine ⟨_, _, heq, ?_⟩
  obtain ⟨hu, hsz⟩ := sliceElem_ok hs
  obtain ⟨zs, q1, q2, q3, q4⟩ := zeros_ok hz w
  obtain ⟨cs', r1, r2, r3, r4⟩ := fill_ok hv ps.toList l z cs ((Array.range (len * sz)).map fun i => zs[i % zs.size]!) (placesA_ok ps.toList l hp) (by rw [q2]; exact hi) g1 (q3 ρ) q4
  rw [← parts_map] at r1
  have hsize : cs'.size = len * sz := by rw [r4]; simp
  have g := good_new hw hin cs cs' el (by rw [r2.length]; simp) r2 r3 (v := .sl i 0 len len sz) (v' := .slice (some ⟨w.heap.size, 0, none⟩) len len) (fun ρ' h => by
    have := VR.sl (off := 0) (len := len) (cap := len) (cap' := len) (esz := sz) h (Nat.le_refl _) (Nat.le_refl _) (by omega)
    simpa using this)
  rw [hsize] at g
  have hle := ble_le hb
  have hnb : ¬ len * sz > 2 ^ 24 := by omega
  have hr : (Instr.buildSlice t len (ps.map fun (i, x) => (i, e x))).run P w = .ok (.slice (some ⟨w.heap.size, 0, none⟩) len len) (w.alloc (.cells cs' el)) := by
    have r1' : Instr.fill (fun i => some (i * sz, sz)) (Array.map (fun i => zs[i % zs.size]!) (Array.range (len * sz))) (Array.map (fun x => (x.fst, e x.snd)) ps).toList = some cs' := r1
    rcases q1 with ⟨h0, rfl⟩ | ⟨h0, v, q1, rfl⟩
    · simp only [h0] at r1'
      simp only [Instr.buildSlice, Sem.run_bind, run_und hu, run_size hsz, Result.andThen_ok, hnb, h0, if_true, if_false, show ¬ (0 > 2 ^ 24) by omega, Sem.run_bind, Sem.run_pure, r1']
      simp [newRow]
    · simp only [Instr.buildSlice, Sem.run_bind, run_und hu, run_size hsz, Result.andThen_ok, hnb, h0, if_false, q1, Sem.run_pure, r1']
      simp [newRow]
  have := Did.val (P := P) hr (Q := Good ρ base w _ _) g
  simpa [execOp, ho] using this

end Go.AE

namespace Go.AE
open Go.RowKit
set_option linter.unusedVariables false
set_option linter.unusedSimpArgs false
variable {ρ : Rho} {base : Bs} {σ σ' : St} {w : World} {P : Program}
variable {o : Oper} {od : Operand → Option Od}

theorem wrap_nat {n : Nat} (h : n ≤ 1000000) : IntKind.i64.wrap (n : Int) = n := by rw [IntKind.wrap_i64]; omega

theorem iMake_ok {t : TypeId} {l c : Operand} {el : TypeId} {sz : Nat} {z : AV} {inf : TypeInfo} {dl dc : Od} (ho : o.op = .makeSlice t l c) (hs : sliceElem P t = some (el, sz)) (hz : zeroV P el = some z) (hi : P.info? el = some inf)
    (hn : Nat.beq (numOf z) sz = true) (hl : od l = some dl) (hc : od c = some dc) : Sound P o od (iMake sz inf.bytes (cellsOf z) dl dc) := by
  intro call _ fr σ k hne ρ base w e hw hv
  have hvl := hv l dl hl
  have hvc := hv c dc hc
  have hne' : optK (asNat (dl fr)) (fun l => optK (asNat (dc fr)) fun c => makeK sz inf.bytes (cellsOf z) l c σ k) ≠ .no := hne
  show ∃ v σ', optK (asNat (dl fr)) (fun l => optK (asNat (dc fr)) fun c => makeK sz inf.bytes (cellsOf z) l c σ k) = k v σ' ∧ _
  obtain ⟨m, g1, g2⟩ := optK_ne hne'
  rw [g2] at hne' ⊢
  obtain ⟨n, g3, g4⟩ := optK_ne hne'
  rw [g4] at hne' ⊢
  unfold makeK at hne' ⊢
  obtain ⟨hb, g5⟩ := ite2_ne hne'
  rw [g5] at hne' ⊢
  obtain ⟨i, hin, heq⟩ := new_ne hne'
  refine ⟨_, _, heq, ?_⟩
  simp only [Bool.and_eq_true] at hb
  have b1 := ble_le hb.1
  have b2 := ble_le hb.2.1
  have b3 := ble_le hb.2.2
  obtain ⟨hu, hsz⟩ := sliceElem_ok hs
  obtain ⟨kl, el'⟩ := asNat_ok g1 hvl
  obtain ⟨kc, ec'⟩ := asNat_ok g3 hvc
  have hnum := Nat.eq_of_beq_eq_true hn
  obtain ⟨v, q1, q2, q3, q4, q5⟩ := zero_cells hz w
  have hzl : (cellsOf z).length = sz := by omega
  have hcells : ∃ zs : Array Value, (n * sz = 0 ∧ zs = #[] ∨ n * sz ≠ 0 ∧ zs = v.cells) ∧ (∀ ρ, VRs ρ (rep (cellsOf z) n) ((Array.range (n * sz)).map fun i => zs[i % zs.size]!).toList) ∧ (∀ d ∈ ((Array.range (n * sz)).map fun i => zs[i % zs.size]!).toList, d.oneCell' = true) := by
    by_cases h0 : n * sz = 0
    · refine ⟨#[], .inl ⟨h0, rfl⟩, ?_, ?_⟩
      · have : rep (cellsOf z) n = [] := by apply List.eq_nil_of_length_eq_zero; rw [rep_length, hzl, h0]
        rw [this, h0]; intro ρ; simpa using VRs.nil
      · rw [h0]; simp
    · refine ⟨v.cells, .inr ⟨h0, rfl⟩, ?_, ?_⟩
      · intro ρ; rw [← hzl]; exact rep_VRs (q2 ρ) n
      · rw [← hzl]; exact rep_one (by omega) q3 n
  obtain ⟨zs, z1, z2, z3⟩ := hcells
  have g := good_new hw hin (rep (cellsOf z) n) ((Array.range (n * sz)).map fun i => zs[i % zs.size]!) el (by rw [(z2 ρ).length]; simp) (z2 ρ) z3 (v := .sl i 0 m n sz) (v' := .slice (some ⟨w.heap.size, 0, none⟩) m n) (fun ρ' h => by
    have := VR.sl (off := 0) (len := m) (cap := n) (cap' := n) (esz := sz) h b1 (Nat.le_refl _) (by simp)
    simpa using this)
  have hsize : ((Array.range (n * sz)).map fun i => zs[i % zs.size]!).size = n * sz := by simp
  rw [hsize] at g
  have hr : (Instr.makeSlice t (e l) (e c)).run P w = .ok (.slice (some ⟨w.heap.size, 0, none⟩) m n) (w.alloc (.cells ((Array.range (n * sz)).map fun i => zs[i % zs.size]!) el)) := by
    rw [el', ec']
    have t1 : ¬ ((n : Int) < 0) := by omega
    have t2 : ¬ ((inf.bytes : Int) * (n : Int) > 2 ^ 48) := by
      have : (inf.bytes : Int) * (n : Int) = ((n * inf.bytes : Nat) : Int) := by rw [Int.natCast_mul, Int.mul_comm]
      rw [this]; omega
    have t3 : ¬ ((m : Int) < 0) := by omega
    have t4 : ¬ ((m : Int) > (n : Int)) := by omega
    have t5 : ¬ (n * inf.bytes > roomBytes) := by unfold roomBytes; omega
    simp only [Instr.makeSlice, Sem.run_bind, run_und hu, Result.andThen_ok, asInt, asIntOf, Sem.run_pure, typeInfo, run_program, hi, wrap_nat b2, wrap_nat (Nat.le_trans b1 b2), t1, t2, t3, t4, decide_false, Bool.or_false, Bool.false_eq_true, if_false, Int.toNat_natCast, askRoom, t5, run_size hsz]
    rcases z1 with ⟨h0, rfl⟩ | ⟨h0, rfl⟩
    · simp [h0, newRow]
    · simp [h0, q1, newRow]
  have := Did.val (P := P) hr (Q := Good ρ base w _ _) g
  simpa [execOp, ho] using this
end Go.AE

namespace Go.AE
open Go.RowKit
set_option linter.unusedVariables false
set_option linter.unusedSimpArgs false
variable {ρ : Rho} {base : Bs} {σ σ' : St} {w : World} {P : Program}
variable {o : Oper} {od : Operand → Option Od}

theorem o2_some {α : Type} {x y : Option Od} {k : Od → Od → Option α} {f : α} (h : o2 x y k = some f) : ∃ a b, x = some a ∧ y = some b ∧ k a b = some f := by
  unfold o2 at h
  split at h
  · exact ⟨_, _, rfl, rfl, h⟩
  · cases h
theorem map_some {α : Type} {x : Option Od} {k : Od → α} {f : α} (h : x.map k = some f) : ∃ a, x = some a ∧ k a = f := by
  cases x with
  | none => cases h
  | some a => exact ⟨a, rfl, by simpa using h⟩
theorem mapL_some {α β : Type} {x : Option β} {k : β → α} {f : α} (h : x.map k = some f) : ∃ a, x = some a ∧ k a = f := by
  cases x with
  | none => cases h
  | some a => exact ⟨a, rfl, by simpa using h⟩
theorem mapO_one {l : List Operand} {d : Od} (h : mapO od l = some [d]) : ∃ x, l = [x] ∧ od x = some d := by
  cases l with
  | nil => simp [mapO] at h
  | cons x l =>
    simp only [mapO] at h
    split at h
    case h_2 => cases h
    rename_i y l' h1 h2
    cases h
    cases l with
    | nil => exact ⟨x, rfl, h1⟩
    | cons y l =>
      simp only [mapO] at h2
      split at h2 <;> cases h2
theorem mapO_two {l : List Operand} {d d' : Od} (h : mapO od l = some [d, d']) : ∃ x y, l = [x, y] ∧ od x = some d ∧ od y = some d' := by
  cases l with
  | nil => simp [mapO] at h
  | cons x l =>
    simp only [mapO] at h
    split at h
    case h_2 => cases h
    rename_i y l' h1 h2
    cases h
    obtain ⟨z, rfl, h3⟩ := mapO_one h2
    exact ⟨x, z, rfl, h1, h3⟩

theorem cmpBin_ok {op : BinOp} {t : TypeId} {x y : Operand} {yt : TypeId} {a b : Od} {f : Ins} (ho : o.op = .binOp op t x y yt) (hx : od x = some a) (hy : od y = some b) (h : cmpBin P op t a b = some f) : Sound P o od f := by
  unfold cmpBin at h
  split at h
  · split at h
    · rename_i hq; cases h; exact iEq_ok (neg := false) ho hq hx hy
    · cases h
  · split at h
    · rename_i hq; cases h; exact iEq_ok (neg := true) ho hq hx hy
    · cases h
  · cases h; exact iCat_ok ho hx hy
  · cases h; exact iInt_ok ho (by simp) (by simp) (addF_ok t) hx hy
  · cases h; exact iInt_ok ho (by simp) (by simp) (subF_ok t) hx hy
  · cases h; exact iInt_ok ho (by simp) (by simp) (mulF_ok t) hx hy
  · cases h; exact iCmp_ok ho (by simp) (by simp) (ltF_okk t) hx hy
  · cases h; exact iCmp_ok ho (by simp) (by simp) (leF_okk t) hx hy
  · cases h; exact iCmp_ok ho (by simp) (by simp) (gtF_okk t) hx hy
  · cases h; exact iCmp_ok ho (by simp) (by simp) (geF_okk t) hx hy
  · cases h; exact iBin_ok ho (by simpa using ‹_›) (by simpa using ‹_›) hx hy

theorem cmpConv_ok {s d : TypeId} {x : Operand} {a : Od} {f : Ins} (ho : o.op = .convert s d x) (hx : od x = some a) (h : cmpConv P s d a = some f) : Sound P o od f := by
  unfold cmpConv at h
  split at h
  · split at h
    · cases h; exact iToBytes_ok ho ‹_› ‹_› ‹_› hx
    · cases h
  · split at h
    · cases h; exact iOfBytes_ok ho ‹_› ‹_› ‹_› hx
    · cases h
  · cases h; exact iPure1_ok hx (fun e => by simp [execOp, ho])
  · cases h

theorem zeroV_elem {t el : TypeId} {esz : Nat} {z : AV} {inf : TypeInfo} (hs : sliceElem P t = some (el, esz)) (hz : zeroV P el = some z) (hi : P.info? el = some inf) (hn : Nat.beq (numOf z) esz = true) : Nonempty (ElemOK P t el esz inf.bytes) := by
  obtain ⟨hu, hsz⟩ := sliceElem_ok hs
  unfold zeroV at hz
  rw [hi] at hz
  simp only at hz
  split at hz
  case h_2 => cases hz
  rename_i v hv
  split at hz
  case h_2 => cases hz
  rename_i hc
  cases hz
  simp only [Bool.and_eq_true] at hc
  obtain ⟨q1, q2, q3, q4⟩ := cellsOf_VRs (ρ := Rho0) hc.2 (VR_ofV v hc.1)
  have hn' := Nat.eq_of_beq_eq_true hn
  unfold size at hsz
  rw [hi] at hsz
  simp at hsz
  exact ⟨⟨inf, v, hu, hi, hsz, rfl, hv, by omega⟩⟩

theorem cmpOp_ok (hfun : ∀ g, od (.func g) = some (odV (.fn (.func g) [] []))) {f : Ins} (h : cmpOp P od o = some f) : Sound P o od f := by
  unfold cmpOp at h
  cases hop : o.op <;> rw [hop] at h <;> simp only at h <;> try (cases h; done)
  case move x => obtain ⟨a, h1, rfl⟩ := map_some h; exact iMove_ok (.inl hop) h1
  case assign x => obtain ⟨a, h1, rfl⟩ := map_some h; exact iMove_ok (.inr hop) h1
  case pick c a b =>
    split at h
    case h_2 => cases h
    obtain ⟨a', b', h1, h2, h3⟩ := o2_some h
    cases h3
    exact iPick_ok hop ‹_› h1 h2
  case alloc t => obtain ⟨a, h1, rfl⟩ := mapL_some h; exact iNew_ok hop h1
  case box t x => obtain ⟨a, h1, rfl⟩ := map_some h; exact iBox_ok hop h1
  case build t ps =>
    split at h
    · rename_i z fs hz hu
      split at h
      case h_2 => cases h
      rename_i l h1 h2
      split at h
      case h_2 => cases h
      cases h
      exact iBuild_ok hop hz ‹_› (.inl ⟨fs, hu, h1, h2⟩)
    · rename_i z n e hz hu
      split at h
      case h_2 => cases h
      split at h
      case h_2 => cases h
      split at h
      case h_2 => cases h
      cases h
      exact iBuild_ok hop hz ‹_› (.inr ⟨_, _, _, hu, ‹_›, ‹_›⟩)
    · cases h
  case buildSlice t len ps =>
    split at h
    case h_2 => cases h
    split at h
    case h_2 => cases h
    split at h
    case h_2 => cases h
    cases h
    exact iBuildSlice_ok hop ‹_› ‹_› ‹_› ‹_› ‹_›
  case load t a =>
    split at h
    · obtain ⟨a, h1, rfl⟩ := map_some h; exact iLoadN_ok hop ‹_› ‹_› h1
    · obtain ⟨a, h1, rfl⟩ := map_some h; exact iLoad1_ok hop ‹_› h1
    · cases h
  case store t a x =>
    split at h
    case h_2 => cases h
    obtain ⟨a', b', h1, h2, h3⟩ := o2_some h
    cases h3
    exact iStore_ok hop ‹_› h1 h2
  case nilCheck x => obtain ⟨a, h1, rfl⟩ := map_some h; exact iNilCheck_ok hop h1
  case binOp op t x y yt =>
    obtain ⟨a', b', h1, h2, h3⟩ := o2_some h
    exact cmpBin_ok hop h1 h2 h3
  case unOp op t x =>
    split at h
    · obtain ⟨a, h1, rfl⟩ := map_some h; exact iNot_ok hop h1
    · obtain ⟨a, h1, rfl⟩ := map_some h; exact iPure1_ok h1 (fun e => by simp [execOp, hop])
  case convert s d x =>
    split at h
    case h_2 => cases h
    exact cmpConv_ok hop ‹_› h
  case makeInterface t x =>
    split at h
    · cases h
    · obtain ⟨a, h1, rfl⟩ := map_some h
      rename_i u hne hu
      exact iIfc_ok hop hu (fun ms hh => hne ms hh) h1
    · cases h
  case makeFunc g first caps =>
    split at h
    case h_2 => cases h
    cases h
    exact iFn_ok hop ‹_› ‹_›
  case makeMap t r =>
    cases r with
    | none => cases h; exact iMap_ok hop
    | some r => cases h
  case makeSlice t l c =>
    split at h
    case h_2 => cases h
    split at h
    case h_2 => cases h
    split at h
    case h_2 => cases h
    obtain ⟨a', b', h1, h2, h3⟩ := o2_some h
    cases h3
    exact iMake_ok hop ‹_› ‹_› ‹_› ‹_› h1 h2
  case slice t x lo hi mx =>
    cases mx with
    | some m => cases h
    | none =>
      simp only at h
      split at h
      · cases h; exact iSubstr_ok hop ‹_› ‹_› ‹_› ‹_›
      · split at h
        case h_2 => cases h
        cases h
        exact iSlice_ok hop ‹_› ‹_› ‹_› ‹_› ‹_›
      · cases h
  case fieldAddr s x f =>
    split at h
    case h_2 => cases h
    obtain ⟨a, h1, rfl⟩ := map_some h
    exact iFieldAddr_ok hop ‹_› h1
  case field s x f =>
    split at h
    case h_2 => cases h
    obtain ⟨a, h1, rfl⟩ := map_some h
    exact iField_ok hop ‹_› h1
  case indexAddr t x i =>
    split at h
    · split at h
      case h_2 => cases h
      obtain ⟨a', b', h1, h2, h3⟩ := o2_some h
      cases h3
      exact iIdx_ok hop ‹_› ‹_› h1 h2
    · split at h
      case h_2 => cases h
      obtain ⟨a', b', h1, h2, h3⟩ := o2_some h
      cases h3
      exact iIdxA_ok hop ‹_› ‹_› h1 h2
    · cases h
  case index t x i =>
    split at h
    case h_2 => cases h
    obtain ⟨a', b', h1, h2, h3⟩ := o2_some h
    cases h3
    exact iIdxStr_ok hop ‹_› h1 h2
  case lookup t m key ok =>
    split at h
    case h_2 => cases h
    split at h
    case h_2 => cases h
    obtain ⟨a', b', h1, h2, h3⟩ := o2_some h
    cases h3
    exact iLookup_ok hop ‹_› ‹_› ‹_› h1 h2
  case mapUpdate t m key x =>
    split at h
    case h_2 => cases h
    split at h
    case h_2 => cases h
    obtain ⟨a', b', h1, h2, h3⟩ := o2_some h
    cases h3
    exact iMapSet_ok (.inl hop) ‹_› ‹_› h1 h2 ‹_›
  case insert t m key x =>
    split at h
    case h_2 => cases h
    split at h
    case h_2 => cases h
    obtain ⟨a', b', h1, h2, h3⟩ := o2_some h
    cases h3
    exact iMapSet_ok (.inr hop) ‹_› ‹_› h1 h2 ‹_›
  case typeAssert x t a ok => obtain ⟨d, h1, rfl⟩ := map_some h; exact iAssert_ok hop h1
  case extract x n => obtain ⟨d, h1, rfl⟩ := map_some h; exact iExtract_ok hop h1
  case call c =>
    split at h
    · rename_i g hc
      obtain ⟨ds, h1, rfl⟩ := mapL_some h
      exact iCall_ok hop hc (hfun g) h1
    · rename_i x hne hc
      split at h
      case h_2 => cases h
      obtain ⟨ds, h1, rfl⟩ := mapL_some h
      exact iCallV_ok hop hc ‹_› h1
    · rename_i x name hc
      split at h
      case h_2 => cases h
      obtain ⟨ds, h1, rfl⟩ := mapL_some h
      exact iInvoke_ok hop hc ‹_› h1
    · rename_i b hc
      split at h
      · rename_i d hds
        obtain ⟨x, hx, hd⟩ := mapO_one hds
        split at h
        case h_2 => cases h
        rename_i t ht
        split at h
        · cases h; exact iLenS_ok hop hc ht ‹_› hx hd
        · cases h; exact iLenL_ok hop hc ht ‹_› hx hd
        · cases h; exact iLenM_ok hop hc ht ‹_› hx hd
        · cases h
      · rename_i d1 d2 hds
        obtain ⟨x, y, hxy, hx, hy⟩ := mapO_two hds
        split at h
        case h_2 => cases h
        rename_i t tx hts
        split at h
        · cases h
        · rename_i el esz ut hne hs hu
          split at h
          case h_2 => cases h
          rename_i z inf hz hi
          split at h
          case h_2 => cases h
          rename_i hn
          cases h
          obtain ⟨E⟩ := zeroV_elem hs hz hi hn
          have hcc : c = { callee := .builtin .append, args := #[x, y], argTypes := #[t, tx] } := by
            obtain ⟨cal, args, ats⟩ := c
            simp only at hc hxy hts
            subst hc
            congr 1
            · apply Array.ext'; simpa using hxy
            · apply Array.ext'; simpa using hts
          exact iAppend_ok E (by rw [hop, hcc]) hu (fun k hk => hne k hk) hx hy
        · cases h
      · rename_i d1 d2 hds
        obtain ⟨x, y, hxy, hx, hy⟩ := mapO_two hds
        cases h
        have hca : c.args = #[x, y] := by apply Array.ext'; simpa using hxy
        exact iPure2_ok hx hy (fun e => by simp [execOp, hop, resolve, hc, hca, invoke, builtin])
      · rename_i d1 d2 hds
        obtain ⟨x, y, hxy, hx, hy⟩ := mapO_two hds
        cases h
        have hca : c.args = #[x, y] := by apply Array.ext'; simpa using hxy
        exact iPure2_ok hx hy (fun e => by simp [execOp, hop, resolve, hc, hca, invoke, builtin])
      · cases h
end Go.AE

namespace Go.AE
open Go.RowKit
set_option linter.unusedVariables false
set_option linter.unusedSimpArgs false
variable {ρ : Rho} {base : Bs} {σ σ' : St} {w : World} {P : Program}

/-- deferred calls -/
inductive DRs : List AV → List Deferred → Prop where
  | nil : DRs [] []
  | cons {g : FuncId} {a c : List AV} {cap args : Array Value} {l : List AV} {ds : List Deferred} (r : DRs l ds) : DRs (.fn (.func g) a c :: l) ({ target := .fn (.func g) cap, args } :: ds)

/-- what a frame holds -/
structure FR (ρ : Rho) (gs : List Nat) (nt : Nat) (fr : FT) (a : Act) : Prop where
  size : nt ≤ a.tmps.size
  slot : ∀ t x y, slotOf gs t = some (x, y) → VR ρ (odF x y fr) (a.tmps.getD t undef)
  defs : DRs fr.d a.defers
theorem FR.mono {ρ' : Rho} (hle : ρ.le ρ') {gs : List Nat} {nt : Nat} {fr : FT} {a : Act} (h : FR ρ gs nt fr a) : FR ρ' gs nt fr a :=
  ⟨h.size, fun t x y hs => (h.slot t x y hs).mono hle, h.defs⟩
/-- what stands for a region's temporaries -/
structure LocR (ρ : Rho) (gs : List Nat) (loc : List (Nat × L)) (fr : FT) (a : Act) : Prop where
  val : ∀ t l, (t, l) ∈ loc → VR ρ (L.od l fr) (a.tmps.getD t undef)
  out : ∀ t l, (t, l) ∈ loc → slotOf gs t = none
theorem LocR.mono {ρ' : Rho} (hle : ρ.le ρ') {gs : List Nat} {loc : List (Nat × L)} {fr : FT} {a : Act} (h : LocR ρ gs loc fr a) : LocR ρ' gs loc fr a :=
  ⟨fun t l hm => (h.val t l hm).mono hle, h.out⟩
theorem loc_mem {t : Nat} {l : L} : ∀ {loc : List (Nat × L)}, loc? t loc = some l → (t, l) ∈ loc
  | [], h => by simp [loc?] at h
  | (x, v) :: r, h => by
    simp only [loc?] at h
    split at h
    · rename_i hb; cases h; have := Nat.eq_of_beq_eq_true hb; subst this; simp
    · exact List.mem_cons.2 (.inr (loc_mem h))
theorem loc_none {t : Nat} : ∀ {loc : List (Nat × L)}, loc? t loc = none → ∀ l, (t, l) ∉ loc
  | [], _, l, h => by cases h
  | (x, v) :: r, h, l, hm => by
    simp only [loc?] at h
    split at h
    · cases h
    · rename_i hb
      rcases List.mem_cons.1 hm with hm | hm
      · cases hm; simp at hb
      · exact loc_none h l hm

theorem cod_ok {gs : List Nat} {nt : Nat} {loc : List (Nat × L)} {fr : FT} {a : Act} (hf : FR ρ gs nt fr a) (hl : LocR ρ gs loc fr a) (x : Operand) (d : Od) (h : cod gs loc x = some d) : VR ρ (d fr) (a.eval x) := by
  unfold cod at h
  obtain ⟨l, h1, rfl⟩ := mapL_some h
  unfold codL at h1
  split at h1
  · split at h1
    · rename_i t l' hl'; cases h1; exact hl.val _ _ (loc_mem hl')
    · split at h1
      · rename_i x y hs; cases h1; exact hf.slot _ _ _ hs
      · cases h1
  · obtain ⟨v, h2, rfl⟩ := mapL_some h1
    exact VR_ofR h2
  · cases h1
  · cases h1
    exact .fn .nil .nil
theorem cod_fun {gs : List Nat} {loc : List (Nat × L)} (g : FuncId) : cod gs loc (.func g) = some (odV (.fn (.func g) [] [])) := rfl

theorem d8_inj {a b : Nat} {d : D8} (h : d8 a = some d) (h' : d8 b = some d) : a = b := by
  unfold d8 at h h'
  split at h <;> cases h <;> (split at h' <;> first | rfl | cases h')
theorem idx_get {t : Nat} : ∀ {l : List Nat} {k i : Nat}, idx t l k = some i → k ≤ i ∧ l[i - k]? = some t
  | [], k, i, h => by simp [idx] at h
  | x :: r, k, i, h => by
    simp only [idx] at h
    split at h
    · rename_i hb; cases h; have := Nat.eq_of_beq_eq_true hb; subst this; simp
    · obtain ⟨h1, h2⟩ := idx_get h
      refine ⟨by omega, ?_⟩
      rw [show i - k = (i - (k + 1)) + 1 by omega]
      simpa using h2
theorem slot_inj {gs : List Nat} {t t' : Nat} {x y : D8} (h : slotOf gs t = some (x, y)) (h' : slotOf gs t' = some (x, y)) : t = t' := by
  unfold slotOf at h h'
  split at h
  case h_2 => cases h
  rename_i k hk
  split at h'
  case h_2 => cases h'
  rename_i k' hk'
  unfold slot at h h'
  split at h
  case h_2 => cases h
  rename_i a1 b1 e1 e2
  cases h
  split at h'
  case h_2 => cases h'
  rename_i a2 b2 e3 e4
  cases h'
  have := d8_inj e1 e3
  have := d8_inj e2 e4
  have hkk : k = k' := by omega
  subst hkk
  have g1 := (idx_get hk).2
  have g2 := (idx_get hk').2
  rw [g1] at g2; cases g2; rfl

theorem getD_set {a : Array Value} {d t : Nat} {v : Value} (h : d < a.size) : (a.setIfInBounds d v).getD t undef = if t = d then v else a.getD t undef := by
  simp only [Array.getD_eq_getD_getElem?, Array.getElem?_setIfInBounds]
  by_cases e : d = t
  · subst e; simp [h]
  · simp [e, Ne.symm e]

/-- a variable is set -/
theorem FR.put {gs : List Nat} {nt d : Nat} {fr : FT} {a : Act} {x y : D8} {v : AV} {v' : Value} (h : FR ρ gs nt fr a) (hd : d < nt) (hs : slotOf gs d = some (x, y)) (hv : VR ρ v v') : FR ρ gs nt (FT.set fr x y v) (a.put (some d) v') := by
  have hlt : d < a.tmps.size := Nat.lt_of_lt_of_le hd h.size
  refine ⟨by simpa [Act.put] using h.size, fun t x' y' ht => ?_, by rw [FT.set_d]; exact h.defs⟩
  show VR ρ _ ((a.tmps.setIfInBounds d v').getD t undef)
  rw [getD_set hlt, FT.get_set]
  by_cases e : t = d
  · subst e
    rw [hs] at ht; cases ht
    simpa using hv
  · have : ¬ (x = x' ∧ y = y') := by
      rintro ⟨rfl, rfl⟩
      exact e (slot_inj ht hs)
    simp only [this, e, if_false]
    exact h.slot t x' y' ht
theorem FR.putL {gs : List Nat} {nt d : Nat} {fr : FT} {a : Act} {v' : Value} (h : FR ρ gs nt fr a) (hd : d < nt) (hs : slotOf gs d = none) : FR ρ gs nt fr (a.put (some d) v') := by
  have hlt : d < a.tmps.size := Nat.lt_of_lt_of_le hd h.size
  refine ⟨by simpa [Act.put] using h.size, fun t x' y' ht => ?_, h.defs⟩
  show VR ρ _ ((a.tmps.setIfInBounds d v').getD t undef)
  rw [getD_set hlt]
  have e : t ≠ d := fun e => by subst e; rw [hs] at ht; cases ht
  simp only [e, if_false]
  exact h.slot t x' y' ht
theorem drops_mem {x y : D8} {t : Nat} {l : L} : ∀ {loc : List (Nat × L)}, (t, l) ∈ drops x y loc → (t, l) ∈ loc ∧ ∀ a b, l = .var a b → ¬ (a = x ∧ b = y)
  | [], h => by cases h
  | (u, .val v) :: r, h => by
    simp only [drops] at h
    rcases List.mem_cons.1 h with h | h
    · cases h; exact ⟨by simp, fun a b hh => by cases hh⟩
    · obtain ⟨h1, h2⟩ := drops_mem h
      exact ⟨List.mem_cons.2 (.inr h1), h2⟩
  | (u, .var a b) :: r, h => by
    simp only [drops] at h
    split at h
    · obtain ⟨h1, h2⟩ := drops_mem h
      exact ⟨List.mem_cons.2 (.inr h1), h2⟩
    · rename_i hb
      rcases List.mem_cons.1 h with h | h
      · cases h
        refine ⟨by simp, fun a' b' hh hc => ?_⟩
        cases hh
        obtain ⟨rfl, rfl⟩ := hc
        revert hb
        cases a <;> cases b <;> simp [D8.beq]
      · obtain ⟨h1, h2⟩ := drops_mem h
        exact ⟨List.mem_cons.2 (.inr h1), h2⟩
theorem LocR.put {gs : List Nat} {nt d : Nat} {loc : List (Nat × L)} {fr : FT} {a : Act} {x y : D8} {v : AV} {v' : Value} (h : LocR ρ gs loc fr a) (hd : d < a.tmps.size) (hs : slotOf gs d = some (x, y)) : LocR ρ gs (drops x y loc) (FT.set fr x y v) (a.put (some d) v') := by
  refine ⟨fun t l hm => ?_, fun t l hm => h.out t l (drops_mem hm).1⟩
  obtain ⟨h1, h2⟩ := drops_mem hm
  show VR ρ _ ((a.tmps.setIfInBounds d v').getD t undef)
  rw [getD_set hd]
  have e : t ≠ d := fun e => by subst e; have := h.out _ _ h1; rw [hs] at this; cases this
  simp only [e, if_false]
  have := h.val t l h1
  cases l with
  | val u => exact this
  | var p q =>
    show VR ρ (odF p q (FT.set fr x y v)) _
    rw [FT.get_set]
    have : ¬ (x = p ∧ y = q) := fun ⟨e1, e2⟩ => h2 p q rfl ⟨e1.symm, e2.symm⟩
    simp only [this, if_false]
    assumption
theorem LocR.add {gs : List Nat} {nt d : Nat} {loc : List (Nat × L)} {fr : FT} {a : Act} {l : L} {v' : Value} (h : LocR ρ gs loc fr a) (hd : d < a.tmps.size) (hs : slotOf gs d = none) (hn : loc? d loc = none) (hv : VR ρ (L.od l fr) v') : LocR ρ gs ((d, l) :: loc) fr (a.put (some d) v') := by
  refine ⟨fun t l' hm => ?_, fun t l' hm => ?_⟩
  · show VR ρ _ ((a.tmps.setIfInBounds d v').getD t undef)
    rw [getD_set hd]
    rcases List.mem_cons.1 hm with h1 | h1
    · cases h1; simpa using hv
    · have e : t ≠ d := fun e => by subst e; exact loc_none hn _ h1
      simp only [e, if_false]
      exact h.val t l' h1
  · rcases List.mem_cons.1 hm with hm | hm
    · cases hm; exact hs
    · exact h.out t l' hm

/-- an operation that did what is said, in the model's terms -/
theorem did_wp {o : Oper} {a : Act} {Q' : Value → World → Prop} {next : Act → World → Prop} {Q : Exit → Act → World → Prop} (h : Did P (execOp a.eval o) w Q') (hn : ∀ v' w', Q' v' w' → next (a.put o.dst v') w') : o.wp P a w next Q := by
  unfold Oper.wp
  rcases h with ⟨v', w', h1 | ⟨h1, rfl⟩, h2⟩ | ⟨f, args, h1, h2⟩
  · rw [h1]; exact hn _ _ h2
  · rw [h1]; exact hn _ _ h2
  · rw [h1]
    refine Calls.mono h2 ?_
    rintro e w' ⟨v', rfl, h3⟩
    exact hn _ _ h3
end Go.AE

namespace Go.AE
open Go.RowKit
set_option linter.unusedVariables false
set_option linter.unusedSimpArgs false
variable {ρ : Rho} {base : Bs} {σ σ' : St} {w : World} {P : Program}

theorem cmpI_ok {od : Operand → Option Od} {o : Oper} (hfun : ∀ g, od (.func g) = some (odV (.fn (.func g) [] []))) : Sound P o od (cmpI P od o) := by
  unfold cmpI
  split
  · rename_i f hf; exact cmpOp_ok hfun hf
  · intro call _ fr σ k hne
    exact absurd rfl hne

theorem op_step {call : Call} (hcall : CallOK P call) {gs : List Nat} {nt : Nat} {loc : List (Nat × L)} {o : Oper} {fr : FT} {a : Act} (hf : FR ρ gs nt fr a) (hl : LocR ρ gs loc fr a) (hw : WR ρ base σ w) {K : Kont}
    (hne : cmpI P (cod gs loc) o call fr σ K ≠ .no) {next : Act → World → Prop} {Q : Exit → Act → World → Prop}
    (hk : ∀ v σ', cmpI P (cod gs loc) o call fr σ K = K v σ' → ∀ ρ' v' w', ρ.le ρ' → VR ρ' v v' → WR ρ' base σ' w' → Kept base w w' → next (a.put o.dst v') w') : o.wp P a w next Q := by
  obtain ⟨v, σ', h1, h2⟩ := cmpI_ok (P := P) (o := o) (od := cod gs loc) (fun g => cod_fun g) call hcall fr σ K hne ρ base w a.eval hw (fun x d h => cod_ok hf hl x d h)
  exact did_wp h2 (fun v' w' ⟨ρ', a1, a2, a3, a4⟩ => hk v σ' h1 ρ' v' w' a1 a2 a3 a4)

/-- the frame after an operation's result has been put -/
theorem FR.put0 {gs : List Nat} {nt : Nat} {fr : FT} {a : Act} (h : FR ρ gs nt fr a) (v' : Value) : FR ρ gs nt fr (a.put none v') := h
theorem LocR.put0 {gs : List Nat} {loc : List (Nat × L)} {fr : FT} {a : Act} (h : LocR ρ gs loc fr a) (v' : Value) : LocR ρ gs loc fr (a.put none v') := h

theorem alias_eq {gs : List Nat} {loc : List (Nat × L)} {o : Oper} {r : List Oper} {l : L} (h : alias gs loc o r = some l) : ∃ x, o.op = .move x ∧ codL gs loc x = some l := by
  unfold alias at h
  split at h
  case h_2 => cases h
  rename_i x hx
  refine ⟨x, hx, ?_⟩
  split at h
  · rename_i h1; cases h; exact h1
  · split at h
    · cases h; assumption
    · cases h
  · cases h

theorem isB_ne {v : AV} {want : Bool} {x y : O} (h : isB v want x y ≠ .no) : (v = .b want ∧ isB v want x y = x) ∨ (((∃ t, v = .b t ∧ t ≠ want) ∨ ∃ l, v = .tup l) ∧ isB v want x y = y) := by
  cases v with
  | b t => cases t <;> cases want <;> first | exact .inl ⟨rfl, rfl⟩ | exact .inr ⟨.inl ⟨_, rfl, by simp⟩, rfl⟩
  | tup l => exact .inr ⟨.inr ⟨l, rfl⟩, rfl⟩
  | _ => exact absurd rfl h

theorem yielded_eq {ops : Array Oper} {j : Nat} {t : Nat} {a : Act} (ht : (ops[j]?).bind (·.dst) = some t) : yielded ops a.tmps j = match a.tmps.getD t undef with | .bool b => some b | _ => none := by
  unfold yielded
  rw [ht]
  simp only [Option.bind_some, Array.getD_eq_getD_getElem?]
  cases a.tmps[t]? with
  | none => rfl
  | some v => cases v <;> rfl

theorem isFn_ne {v : AV} {x : O} (h : isFn v x ≠ .no) : ∃ g a c, v = .fn (.func g) a c ∧ isFn v x = x := by
  unfold isFn at h ⊢
  split at h
  · exact ⟨_, _, _, rfl, rfl⟩
  · exact absurd rfl h

theorem exec_ok {call : Call} (hcall : CallOK P call) {gs : List Nat} {nt : Nat} {ops : Array Oper} : ∀ (l : List Oper) (i : Nat), ops.toList.drop i = l → ∀ (loc : List (Nat × L)) (fr : FT) (σ : St) (a : Act) (w : World) (ρ : Rho) (Q : Exit → Act → World → Prop),
    exec call (cmpOps P gs nt ops l loc) fr σ ≠ .no → WR ρ base σ w → FR ρ gs nt fr a → LocR ρ gs loc fr a →
    (∀ ρ' fr' σ' a' w', exec call (cmpOps P gs nt ops l loc) fr σ = .nrm fr' σ' → ρ.le ρ' → WR ρ' base σ' w' → FR ρ' gs nt fr' a' → Kept base w w' → Q .normal a' w') →
    wpOps P ops Q (List.range' i l.length) a w := by
  intro l
  induction l with
  | nil =>
    intro i hi loc fr σ a w ρ Q hne hw hf hl hq
    exact hq ρ fr σ a w rfl ρ.le_refl hw hf (Kept.refl _ _)
  | cons o r ih =>
    intro i hi loc fr σ a w ρ Q hne hw hf hl hq
    have hio : ops[i]? = some o := by
      have : (ops.toList.drop i)[0]? = some o := by rw [hi]; rfl
      simpa using this
    have hi' : ops.toList.drop (i + 1) = r := by
      rw [← List.drop_drop, hi]; rfl
    have unw : ∀ (K : Prop), (Region.wanted o (yielded ops a.tmps) = true → o.wp P a w (wpOps P ops Q (List.range' (i + 1) r.length)) Q) →
        (Region.wanted o (yielded ops a.tmps) = false → wpOps P ops Q (List.range' (i + 1) r.length) (a.put o.dst undef) w) → wpOps P ops Q (List.range' i (o :: r).length) a w := by
      intro _ h1 h2
      rw [List.length_cons, List.range'_succ, wpOps, hio]
      simp only
      split
      · rename_i h; exact .inl (h1 h)
      · rename_i h; exact h2 (by simpa using h)
    have goK : ∀ {fr' : FT} {σ' : St} {a' : Act} {w' : World} {ρ' : Rho} {loc' : List (Nat × L)}, exec call (cmpOps P gs nt ops (o :: r) loc) fr σ = exec call (cmpOps P gs nt ops r loc') fr' σ' →
        ρ.le ρ' → WR ρ' base σ' w' → FR ρ' gs nt fr' a' → LocR ρ' gs loc' fr' a' → Kept base w w' → wpOps P ops Q (List.range' (i + 1) r.length) a' w' := by
      intro fr' σ' a' w' ρ' loc' he h1 h2 h3 h4 h5
      refine ih (i + 1) hi' loc' fr' σ' a' w' ρ' Q (by rw [← he]; exact hne) h2 h3 h4 ?_
      intro ρ2 fr2 σ2 a2 w2 g1 g2 g3 g4 g5
      exact hq ρ2 fr2 σ2 a2 w2 (he.trans g1) (Rho.le_trans h1 g2) g3 g4 (h5.trans g5)
    clear hq
    generalize hE : cmpOps P gs nt ops (o :: r) loc = E at hne goK
    have bad : exec call (.x failI .nil) fr σ = .no := rfl
    rw [cmpOps] at hE
    split at hE
    · rename_i c hc
      split at hE
      case h_2 => subst hE; exact absurd bad hne
      rename_i f hcal
      split at hE
      case h_2 => subst hE; exact absurd bad hne
      rename_i d hcod hdst hgd
      subst hE
      have hex : exec call (.d d (cmpOps P gs nt ops r loc)) fr σ = isFn (d fr) (exec call (cmpOps P gs nt ops r loc) (pushD (d fr) fr) σ) := rfl
      rw [hex] at hne
      obtain ⟨g, a1, c1, h1, h2⟩ := isFn_ne hne
      have hv := cod_ok hf hl f d hcod
      rw [h1] at hv
      refine unw True (fun _ => ?_) (fun hu => by simp [Region.wanted, hgd] at hu)
      generalize hef : a.eval f = vf at hv
      cases hv with
      | fn ha hc' =>
        rename_i a2 c2
        have hr : (execOp a.eval o).run P w = .ok (.defer { target := .fn (.func g) c2.toArray, args := a2.toArray ++ c.args.map a.eval }) w := by
          simp [execOp, hc, resolve, hcal, hef, Deferred.ofValue]
        unfold Oper.wp
        rw [hr, Oper.upon_defer, hdst]
        refine goK (hex.trans h2) ρ.le_refl hw ?_ ?_ (Kept.refl _ _)
        · rw [h1]
          exact ⟨hf.size, fun t x y ht => hf.slot t x y ht, .cons hf.defs⟩
        · exact ⟨fun t l hm => by
            have := hl.val t l hm
            cases l <;> exact this, hl.out⟩
    · have okd : ∀ {d : Nat}, okD nt d loc = true → d < nt ∧ loc? d loc = none := by
        intro d h
        unfold okD at h
        simp only [Bool.and_eq_true, Option.isNone_iff_eq_none] at h
        refine ⟨?_, h.2⟩
        have := h.1
        simpa [Nat.blt_eq] using this
      split at hE
      · rename_i d hgd hdst
        refine unw True (fun _ => ?_) (fun hu => by simp [Region.wanted, hgd] at hu)
        split at hE
        · subst hE; exact absurd bad hne
        rename_i hok
        obtain ⟨hlt, hfresh⟩ := okd hok
        have hlt' : d < a.tmps.size := Nat.lt_of_lt_of_le hlt hf.size
        split at hE
        · rename_i x y hs
          subst hE
          refine op_step hcall hf hl hw (K := fun v σ' => exec call (cmpOps P gs nt ops r (drops x y loc)) (FT.set fr x y v) σ') hne fun v σ' he ρ' v' w' g1 g2 g3 g4 => ?_
          rw [hdst]
          exact goK he g1 g3 ((hf.mono g1).put hlt hs g2) ((hl.mono g1).put (nt := nt) hlt' hs) g4
        · rename_i hs
          split at hE
          · rename_i l hal
            obtain ⟨x, hmv, hcl⟩ := alias_eq hal
            have hv : VR ρ (L.od l fr) (a.eval x) := cod_ok hf hl x _ (by unfold cod; rw [hcl]; rfl)
            unfold Oper.wp
            have hr : (execOp a.eval o).run P w = .ok (.value (a.eval x)) w := by simp [execOp, hmv]
            rw [hr, Oper.upon_value, hdst]
            subst hE
            exact goK rfl ρ.le_refl hw (hf.putL hlt hs) (hl.add (nt := nt) hlt' hs hfresh hv) (Kept.refl _ _)
          · subst hE
            refine op_step hcall hf hl hw (K := fun v σ' => exec call (cmpOps P gs nt ops r ((d, .val v) :: loc)) fr σ') hne fun v σ' he ρ' v' w' g1 g2 g3 g4 => ?_
            rw [hdst]
            exact goK he g1 g3 ((hf.mono g1).putL hlt hs) ((hl.mono g1).add (nt := nt) hlt' hs hfresh g2) g4
      · rename_i hgd hdst
        refine unw True (fun _ => ?_) (fun hu => by simp [Region.wanted, hgd] at hu)
        subst hE
        refine op_step hcall hf hl hw (K := fun v σ' => exec call (cmpOps P gs nt ops r loc) fr σ') hne fun v σ' he ρ' v' w' g1 g2 g3 g4 => ?_
        rw [hdst]
        exact goK he g1 g3 ((hf.mono g1).put0 v') ((hl.mono g1).put0 v') g4
      · rename_i j want hgd
        split at hE
        · subst hE; exact absurd bad hne
        rename_i c hc0
        obtain ⟨t, ht, hct⟩ : ∃ t, (ops[j]?).bind (·.dst) = some t ∧ cod gs loc (.tmp t) = some c := by
          split at hc0
          · rename_i t h1; exact ⟨t, h1, hc0⟩
          · cases hc0
        have hvc : VR ρ (c fr) (a.tmps.getD t undef) := cod_ok hf hl (.tmp t) c hct
        have hy := yielded_eq (a := a) ht
        have wantT : c fr = .b want → Region.wanted o (yielded ops a.tmps) = true := by
          intro h
          rw [h] at hvc
          generalize a.tmps.getD t undef = v at hvc hy
          cases hvc
          simp [Region.wanted, hgd, hy]
        have wantF : ((∃ t, c fr = .b t ∧ t ≠ want) ∨ ∃ l, c fr = .tup l) → Region.wanted o (yielded ops a.tmps) = false := by
          rintro (⟨b, h, hb⟩ | ⟨l, h⟩)
          · rw [h] at hvc
            generalize a.tmps.getD t undef = v at hvc hy
            cases hvc
            simp [Region.wanted, hgd, hy, hb]
          · rw [h] at hvc
            generalize a.tmps.getD t undef = v at hvc hy
            cases hvc
            simp [Region.wanted, hgd, hy]
        split at hE
        · rename_i d hdst
          split at hE
          · subst hE; exact absurd bad hne
          rename_i hok
          obtain ⟨hlt, hfresh⟩ := okd hok
          have hlt' : d < a.tmps.size := Nat.lt_of_lt_of_le hlt hf.size
          split at hE
          · rename_i x y hs
            subst hE
            rcases isB_ne (show isB (c fr) want _ _ ≠ .no from hne) with ⟨h1, h2⟩ | ⟨h1, h2⟩
            · refine unw True (fun _ => ?_) (fun hu => by rw [wantT h1] at hu; cases hu)
              refine op_step hcall hf hl hw (K := fun v σ' => exec call (cmpOps P gs nt ops r (drops x y loc)) (FT.set fr x y v) σ') (fun hh => hne (h2.trans hh)) fun v σ' he ρ' v' w' g1 g2 g3 g4 => ?_
              rw [hdst]
              exact goK (h2.trans he) g1 g3 ((hf.mono g1).put hlt hs g2) ((hl.mono g1).put (nt := nt) hlt' hs) g4
            · refine unw True (fun hu => by rw [wantF h1] at hu; cases hu) (fun _ => ?_)
              rw [hdst]
              exact goK h2 ρ.le_refl hw (hf.put hlt hs (.tup .nil)) (hl.put (nt := nt) hlt' hs) (Kept.refl _ _)
          · rename_i hs
            subst hE
            rcases isB_ne (show isB (c fr) want _ _ ≠ .no from hne) with ⟨h1, h2⟩ | ⟨h1, h2⟩
            · refine unw True (fun _ => ?_) (fun hu => by rw [wantT h1] at hu; cases hu)
              refine op_step hcall hf hl hw (K := fun v σ' => exec call (cmpOps P gs nt ops r ((d, .val v) :: loc)) fr σ') (fun hh => hne (h2.trans hh)) fun v σ' he ρ' v' w' g1 g2 g3 g4 => ?_
              rw [hdst]
              exact goK (h2.trans he) g1 g3 ((hf.mono g1).putL hlt hs) ((hl.mono g1).add (nt := nt) hlt' hs hfresh g2) g4
            · refine unw True (fun hu => by rw [wantF h1] at hu; cases hu) (fun _ => ?_)
              rw [hdst]
              exact goK h2 ρ.le_refl hw (hf.putL hlt hs) (hl.add (nt := nt) (l := .val undefA) hlt' hs hfresh (.tup .nil)) (Kept.refl _ _)
        · rename_i hdst
          subst hE
          rcases isB_ne (show isB (c fr) want _ _ ≠ .no from hne) with ⟨h1, h2⟩ | ⟨h1, h2⟩
          · refine unw True (fun _ => ?_) (fun hu => by rw [wantT h1] at hu; cases hu)
            refine op_step hcall hf hl hw (K := fun v σ' => exec call (cmpOps P gs nt ops r loc) fr σ') (fun hh => hne (h2.trans hh)) fun v σ' he ρ' v' w' g1 g2 g3 g4 => ?_
            rw [hdst]
            exact goK (h2.trans he) g1 g3 ((hf.mono g1).put0 v') ((hl.mono g1).put0 v') g4
          · refine unw True (fun hu => by rw [wantF h1] at hu; cases hu) (fun _ => ?_)
            rw [hdst]
            exact goK h2 ρ.le_refl hw (hf.put0 undef) (hl.put0 undef) (Kept.refl _ _)
end Go.AE

namespace Go.AE
open Go.RowKit
set_option linter.unusedVariables false
set_option linter.unusedSimpArgs false
variable {ρ : Rho} {base : Bs} {σ σ' : St} {w : World} {P : Program}

/-- a state of the frame and the world, as the evaluator has it -/
structure At (gs : List Nat) (nt : Nat) (ρ : Rho) (base : Bs) (w : World) (fr : FT) (σ : St) (a : Act) (w' : World) : Prop where
  ex : ∃ ρ' : Rho, ρ.le ρ' ∧ WR ρ' base σ w' ∧ FR ρ' gs nt fr a
  kept : Kept base w w'
/-- what an outcome says -/
def OutR (gs : List Nat) (nt : Nat) (ρ : Rho) (base : Bs) (w : World) (x : O) : Exit → Act → World → Prop
  | .normal, a, w' => ∃ fr σ, x = .nrm fr σ ∧ At gs nt ρ base w fr σ a w'
  | .exit id, a, w' => ∃ fr σ, x = .ex id fr σ ∧ At gs nt ρ base w fr σ a w'
  | .ret, a, w' => ∃ fr σ, x = .ret fr σ ∧ At gs nt ρ base w fr σ a w'
  | _, _, _ => False

theorem At.trans {gs : List Nat} {nt : Nat} {ρ ρ' : Rho} {w w1 : World} {fr : FT} {a : Act} {w' : World} (hle : ρ.le ρ') (hk : Kept base w w1) (h : At gs nt ρ' base w1 fr σ a w') : At gs nt ρ base w fr σ a w' := by
  obtain ⟨⟨ρ2, h1, h2, h3⟩, h4⟩ := h
  exact ⟨⟨ρ2, Rho.le_trans hle h1, h2, h3⟩, hk.trans h4⟩
theorem OutR.trans {gs : List Nat} {nt : Nat} {ρ ρ' : Rho} {w w1 : World} {x y : O} (hxy : x = y) (hle : ρ.le ρ') (hk : Kept base w w1) {e : Exit} {a : Act} {w' : World} (h : OutR gs nt ρ' base w1 x e a w') : OutR gs nt ρ base w y e a w' := by
  subst hxy
  cases e <;> first | (obtain ⟨fr, σ, h1, h2⟩ := h; exact ⟨fr, σ, h1, h2.trans hle hk⟩) | exact h

/-- loops by their rounds -/
theorem wp_rounds {c : Code} {Q : Exit → Act → World → Prop} (J : Nat → Act → World → Prop) (round : ∀ n a w, J n a w → c.wp P (Exit.then (fun a' w' => ∃ m, m < n ∧ J m a' w') Q) a w) {n : Nat} {a : Act} {w : World} (h : J n a w) : (Code.loop c).wp P Q a w := by
  classical
  have least : ∀ a w, (∃ n, J n a w) → ∃ n, J n a w ∧ ∀ m, J m a w → n ≤ m := by
    intro a w ⟨n, hn⟩
    induction n using Nat.strongRecOn with
    | _ n ih =>
      by_cases hm : ∃ m, m < n ∧ J m a w
      · obtain ⟨m, h1, h2⟩ := hm; exact ih m h1 h2
      · exact ⟨n, hn, fun m h2 => Nat.le_of_not_lt fun h3 => hm ⟨m, h3, h2⟩⟩
  let μ : Act → World → Nat := fun a w => if h : ∃ n, J n a w then Classical.choose (least a w h) else 0
  have hμ : ∀ a w, (∃ n, J n a w) → J (μ a w) a w ∧ ∀ m, J m a w → μ a w ≤ m := by
    intro a w h
    simp only [μ, h, dif_pos]
    exact Classical.choose_spec (least a w h)
  refine wp_loop (fun a w => ∃ n, J n a w) μ ⟨n, h⟩ fun a w hI => ?_
  refine wp_mono (round _ a w (hμ a w hI).1) fun e a' w' he => ?_
  cases e with
  | normal =>
    obtain ⟨m, h1, h2⟩ := he
    exact ⟨⟨m, h2⟩, Nat.lt_of_le_of_lt ((hμ a' w' ⟨m, h2⟩).2 m h2) h1⟩
  | _ => exact he

theorem seqO_ne {x : O} {k : FT → St → O} (h : seqO x k ≠ .no) : x ≠ .no := fun e => by subst e; exact h rfl

theorem OutR.then {gs : List Nat} {nt : Nat} {x : O} {k : FT → St → O} {next : Act → World → Prop} {e : Exit} {a : Act} {w' : World} (h : OutR gs nt ρ base w x e a w')
    (hn : ∀ fr σ, x = .nrm fr σ → At gs nt ρ base w fr σ a w' → next a w') : Exit.then next (OutR gs nt ρ base w (seqO x k)) e a w' := by
  cases e with
  | normal => obtain ⟨fr, σ, h1, h2⟩ := h; exact hn fr σ h1 h2
  | exit id => obtain ⟨fr, σ, h1, h2⟩ := h; exact ⟨fr, σ, by rw [h1]; rfl, h2⟩
  | ret => obtain ⟨fr, σ, h1, h2⟩ := h; exact ⟨fr, σ, by rw [h1]; rfl, h2⟩
  | _ => exact h.elim
theorem At.refl {gs : List Nat} {nt : Nat} {fr : FT} {a : Act} (hw : WR ρ base σ w) (hf : FR ρ gs nt fr a) : At gs nt ρ base w fr σ a w := ⟨⟨ρ, ρ.le_refl, hw, hf⟩, Kept.refl _ _⟩

theorem iter_ok {call : Call} {gs : List Nat} {nt : Nat} {c : Code} {body : FT → St → O} (hb : ∀ (fr : FT) (σ : St) (a : Act) (w : World) (ρ : Rho), body fr σ ≠ .no → WR ρ base σ w → FR ρ gs nt fr a → c.wp P (OutR gs nt ρ base w (body fr σ)) a w) (N : Nat) {fr : FT} {a : Act} (hne : iter body N fr σ ≠ .no) (hw : WR ρ base σ w) (hf : FR ρ gs nt fr a) :
    (Code.loop c).wp P (OutR gs nt ρ base w (iter body N fr σ)) a w := by
  let J : Nat → Act → World → Prop := fun n a' w' => ∃ fr' σ', iter body n fr' σ' = iter body N fr σ ∧ At gs nt ρ base w fr' σ' a' w'
  refine wp_rounds J (fun n a' w' hJ => ?_) (n := N) ⟨fr, σ, rfl, At.refl hw hf⟩
  obtain ⟨fr', σ', he, ⟨⟨ρ', g1, g2, g3⟩, g4⟩⟩ := hJ
  cases n with
  | zero => exact absurd he.symm hne
  | succ n =>
    have e1 : iter body (n + 1) fr' σ' = seqO (body fr' σ') (iter body n) := rfl
    rw [e1] at he
    have hne' : seqO (body fr' σ') (iter body n) ≠ .no := by rw [he]; exact hne
    refine wp_mono (hb fr' σ' a' w' ρ' (seqO_ne hne') g2 g3) fun e a2 w2 ho => ?_
    have := OutR.then (k := iter body n) (next := fun a' w' => ∃ m, m < n + 1 ∧ J m a' w') ho (fun fr2 σ2 h1 h2 => ⟨n, Nat.lt_succ_self n, fr2, σ2, by rw [← he, h1]; rfl, h2.trans g1 g4⟩)
    cases e with
    | normal => exact this
    | exit id => exact OutR.trans (e := .exit id) he g1 g4 this
    | goto l => exact ho.elim
    | ret => exact OutR.trans (e := .ret) he g1 g4 this
    | panic ch => exact ho.elim
    | outgrown => exact ho.elim
end Go.AE
