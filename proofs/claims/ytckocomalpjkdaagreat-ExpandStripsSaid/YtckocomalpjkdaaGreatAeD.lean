/- The evaluator is right for regions whose order is open and for calls: where it comes to a value, every run of the call returns one in relation to it; of any program whose orders are all let in. -/
import Derived.Test.YtckocomalpjkdaaGreatAeC
import Derived.Orders
import Derived.Defers
import Derived.Recover
import Derived.ChangeSame
set_option linter.unusedVariables false
set_option linter.unusedSimpArgs false
set_option linter.unusedSectionVars false
namespace Go.AE
open Go.RowKit
set_option linter.unusedVariables false
set_option linter.unusedSimpArgs false
variable {ρ : Rho} {base : Bs} {σ σ' : St} {w : World} {P : Program}

/-! regions whose order is open: what is ahead of what, the temporaries, an operation -/
inductive Clo (ops : Array Oper) : Nat → Nat → Prop where
  | one {i k : Nat} {o : Oper} (h : ops[i]? = some o) (hk : k ∈ waits o) : Clo ops i k
  | more {i k j : Nat} {o : Oper} (h : ops[i]? = some o) (hk : k ∈ waits o) (r : Clo ops k j) : Clo ops i j

structure RegOk (ops : Array Oper) (nt : Nat) : Prop where
  dist : ∀ (i j : Nat) (o q : Oper) d, ops[i]? = some o → ops[j]? = some q → o.dst = some d → q.dst = some d → i = j
  lt : ∀ (i : Nat) (o : Oper) d, ops[i]? = some o → o.dst = some d → d < nt
  back : ∀ (i : Nat) (o : Oper) k, ops[i]? = some o → k ∈ waits o → k < i

structure Env (ops : Array Oper) (gs : List Nat) (nt : Nat) (ρ : Rho) (fr : FT) (D : Nat → Option AV) (L W : Nat → Prop) (a : Act) : Prop where
  size : nt ≤ a.tmps.size
  slot : ∀ t x y, slotOf gs t = some (x, y) → (∀ (i : Nat) (o : Oper), ops[i]? = some o → o.dst = some t → ¬ W i) → VR ρ (odF x y fr) (a.tmps.getD t undef)
  defs : DRs fr.d a.defers
  val : ∀ (i : Nat) (o : Oper) d, ops[i]? = some o → o.dst = some d → L i → ∃ u, D i = some u ∧ VR ρ u (a.tmps.getD d undef)

section
variable {ops : Array Oper} {gs : List Nat} {nt : Nat} {fr : FT} {D : Nat → Option AV} {L W : Nat → Prop} {a : Act}

theorem Env.sub {L' W' : Nat → Prop} (h : Env ops gs nt ρ fr D L W a) (hl : ∀ i, L' i → L i) (hw : ∀ i, W i → W' i) : Env ops gs nt ρ fr D L' W' a :=
  ⟨h.size, fun t x y hs hn => h.slot t x y hs fun i o hi hd hW => hn i o hi hd (hw i hW), h.defs, fun i o d hi hd hL => h.val i o d hi hd (hl i hL)⟩
theorem Env.mono {ρ' : Rho} (hle : ρ.le ρ') (h : Env ops gs nt ρ fr D L W a) : Env ops gs nt ρ' fr D L W a :=
  ⟨h.size, fun t x y hs hn => (h.slot t x y hs hn).mono hle, h.defs, fun i o d hi hd hL => let ⟨u, h1, h2⟩ := h.val i o d hi hd hL; ⟨u, h1, h2.mono hle⟩⟩
theorem Env.grow {D' : Nat → Option AV} (hD : ∀ i v, D i = some v → D' i = some v) (h : Env ops gs nt ρ fr D L W a) : Env ops gs nt ρ fr D' L W a :=
  ⟨h.size, h.slot, h.defs, fun i o d hi hd hL => let ⟨u, h1, h2⟩ := h.val i o d hi hd hL; ⟨u, hD _ _ h1, h2⟩⟩
theorem Env.put (hr : RegOk ops nt) (h : Env ops gs nt ρ fr D L W a) {i : Nat} {o : Oper} (hi : ops[i]? = some o) {v : AV} {v' : Value} (hD : D i = some v) (hv : VR ρ v v') :
    Env ops gs nt ρ fr D (fun k => L k ∨ k = i) (fun k => W k ∨ k = i) (a.put o.dst v') := by
  cases hd : o.dst with
  | none =>
    refine ⟨h.size, fun t x y hs hn => h.slot t x y hs fun k q hk hq hW => hn k q hk hq (.inl hW), h.defs, fun j q d hj hq hL => ?_⟩
    rcases hL with hL | rfl
    · exact h.val j q d hj hq hL
    · rw [hi] at hj; cases hj; rw [hd] at hq; cases hq
  | some d =>
    have hlt : d < a.tmps.size := Nat.lt_of_lt_of_le (hr.lt i o d hi hd) h.size
    refine ⟨by simpa [Act.put] using h.size, fun t x y hs hn => ?_, h.defs, fun j q d' hj hq hL => ?_⟩
    · show VR ρ _ ((a.tmps.setIfInBounds d v').getD t undef)
      rw [getD_set hlt]
      have e : t ≠ d := fun e => hn i o hi (e ▸ hd) (.inr rfl)
      simp only [e, if_false]
      exact h.slot t x y hs fun k q hk hq hW => hn k q hk hq (.inl hW)
    · show ∃ u, D j = some u ∧ VR ρ u ((a.tmps.setIfInBounds d v').getD d' undef)
      rw [getD_set hlt]
      by_cases e : d' = d
      · subst e
        have := hr.dist j i q o d' hj hi hq hd
        subst this
        exact ⟨v, hD, by simpa using hv⟩
      · simp only [e, if_false]
        rcases hL with hL | rfl
        · exact h.val j q d' hj hq hL
        · rw [hi] at hj; cases hj; rw [hd] at hq; cases hq; exact absurd rfl e

/-- an operation, or its being left out -/
def Exe (P : Program) (ops : Array Oper) (o : Oper) (a : Act) (w : World) (R : Value → World → Prop) : Prop :=
  (Region.wanted o (yielded ops a.tmps) = true ∧ Did P (execOp a.eval o) w R) ∨ (Region.wanted o (yielded ops a.tmps) = false ∧ R undef w)
theorem Exe.mono {o : Oper} {R R' : Value → World → Prop} (h : Exe P ops o a w R) (hk : ∀ v w', R v w' → R' v w') : Exe P ops o a w R' := by
  rcases h with ⟨h1, h2⟩ | ⟨h1, h2⟩
  · refine .inl ⟨h1, ?_⟩
    rcases h2 with ⟨v', w', h3, h4⟩ | ⟨f, args, h3, h4⟩
    · exact .inl ⟨v', w', h3, hk _ _ h4⟩
    · exact .inr ⟨f, args, h3, Calls.mono h4 fun e w' ⟨v', he, hq⟩ => ⟨v', he, hk _ _ hq⟩⟩
  · exact .inr ⟨h1, hk _ _ h2⟩
theorem Exe.wpOp {i : Nat} {o : Oper} (hi : ops[i]? = some o) {R : Value → World → Prop} {K : Act → World → Prop} {Q : Exit → Act → World → Prop} (h : Exe P ops o a w R) (hk : ∀ v' w', R v' w' → K (a.put o.dst v') w') : Go.wpOp P ops Q i K a w := by
  unfold Go.wpOp
  simp only [hi]
  rcases h with ⟨h1, h2⟩ | ⟨h1, h2⟩
  · simp only [h1, if_true]
    exact .inl (did_wp h2 hk)
  · simp only [h1, Bool.false_eq_true, if_false]
    exact hk _ _ h2

/-! memory: numbers that are set aside -/
theorem WR.anti {base' : Bs} (h : WR ρ base σ w) (h1 : ∀ k, base'.keep k → base.keep k) (h2 : ∀ b, base'.res b → base.res b) : WR ρ base' σ w :=
  ⟨fun k hk => h.hbase k (h1 k hk), h.fresh, fun b hb => h.res b (h2 b hb), fun b hb => let ⟨x, d, sz, g1, g2, g3⟩ := h.blk b hb; ⟨x, d, sz, g1, fun hk => g2 (h1 _ hk), g3⟩, h.fam, h.sep⟩
theorem WR.reserve (h : WR ρ base σ w) {b : Id} (hn : σ.next = some b) : WR ρ ⟨base.keep, fun c => base.res c ∨ c = b⟩ ⟨σ.h, inc b, σ.fams⟩ w := by
  refine ⟨h.hbase, fun i hi j hj => ?_, fun c hc => ?_, h.blk, h.fam, h.sep⟩
  · have := inc_nat hi
    exact h.fresh b hn j (by omega)
  · rcases hc with hc | rfl
    · obtain ⟨r1, r2⟩ := h.res c hc
      refine ⟨r1, fun i hi => ?_⟩
      have := inc_nat hi
      have := r2 b hn
      omega
    · refine ⟨h.fresh c hn c (Nat.le_refl _), fun i hi => ?_⟩
      have := inc_nat hi
      omega
theorem WR.early (h : WR ρ base σ w) {b : Id} (hb : base.res b) (ob : Obj) (n : Nat) :
    WR (upd ρ b (w.heap.size, 0, n)) ⟨fun k => base.keep k ∨ k = w.heap.size, fun c => base.res c ∧ c ≠ b⟩ σ (w.alloc ob) := by
  obtain ⟨r1, r2⟩ := h.res b hb
  have hle := upd_le (p := (w.heap.size, 0, n)) r1
  have live : ∀ c, σ.getB c ≠ .dead → c ≠ b := by
    rintro c hc rfl
    obtain ⟨x, d, sz, h1, _⟩ := h.blk c hc
    rw [r1] at h1; cases h1
  have same : ∀ c, c ≠ b → upd ρ b (w.heap.size, 0, n) c = ρ c := fun c hc => by simp [upd, hc]
  refine ⟨fun k hk => ?_, fun i hi j hj => ?_, fun c hc => ?_, fun c hc => ?_, h.fam, fun c c' x d s d' s' hne hc hc' hp hp' => ?_⟩
  · rcases hk with hk | rfl
    · have := h.hbase k hk; simp; omega
    · simp
  · have := r2 i hi
    rw [same j (fun e => by subst e; omega)]
    exact h.fresh i hi j hj
  · rw [same c hc.2]; exact h.res c hc.1
  · obtain ⟨x, d, sz, h1, h2, h3⟩ := h.blk c hc
    have hx := h3.lt hc
    refine ⟨x, d, sz, hle _ _ h1, fun hk => ?_, (h3.mono hle).of_block (Below.heap_alloc _ _ _ hx)⟩
    rcases hk with hk | hk
    · exact h2 hk
    · omega
  · rw [same c (live c hc)] at hp
    rw [same c' (live c' hc')] at hp'
    exact h.sep c c' x d s d' s' hne hc hc' hp hp'
theorem WR.mat (h : WR ρ base σ w) {base' : Bs} (h1 : ∀ k, base'.keep k → base.keep k) (h2 : ∀ c, base'.res c → base.res c) {b : Id} {x n : Nat} {cs : List AV} (hd : σ.getB b = .dead) (hρ : ρ b = some (x, 0, n)) (hx : base.keep x) (hx' : ¬ base'.keep x)
    (hB : BR ρ w x 0 n (.row n cs none 0)) : WR ρ base' (σ.setB b (.row n cs none 0)) w := by
  have hget : ∀ c, (σ.setB b (.row n cs none 0)).getB c = if b = c then .row n cs none 0 else σ.getB c := fun c => H.get_set _ _ _ _
  have live : ∀ c y d s, σ.getB c ≠ .dead → ρ c = some (y, d, s) → y ≠ x := by
    rintro c y d s hc hy rfl
    obtain ⟨y', d', s', g1, g2, _⟩ := h.blk c hc
    rw [hy] at g1; cases g1
    exact g2 hx
  refine ⟨fun k hk => h.hbase k (h1 k hk), h.fresh, fun c hc => h.res c (h2 c hc), fun c hc => ?_, fun c m cs' f fo hc => ?_, fun c c' y d s d' s' hne hc hc' hp hp' => ?_⟩
  · rw [hget] at hc ⊢
    by_cases e : b = c
    · subst e; simp only [if_true]; exact ⟨x, 0, n, hρ, hx', hB⟩
    · simp only [e, if_false] at hc ⊢
      obtain ⟨y, d, s, g1, g2, g3⟩ := h.blk c hc
      exact ⟨y, d, s, g1, fun hk => g2 (h1 _ hk), g3⟩
  · rw [hget] at hc
    by_cases e : b = c
    · subst e; simp at hc
    · simp only [e, if_false] at hc; exact h.fam c m cs' f fo hc
  · rw [hget] at hc hc'
    by_cases e : b = c
    · subst e
      have e' : ¬ b = c' := hne
      simp only [e', if_false] at hc'
      rw [hρ] at hp; cases hp
      exact absurd rfl (live c' _ _ _ hc' hp')
    · by_cases e' : b = c'
      · subst e'
        simp only [e, if_false] at hc
        rw [hρ] at hp'; cases hp'
        exact absurd rfl (live c _ _ _ hc hp)
      · simp only [e, if_false] at hc
        simp only [e', if_false] at hc'
        obtain ⟨m, cs1, m', cs2, f, fo, fo', g1, g2, g3⟩ := h.sep c c' y d s d' s' hne hc hc' hp hp'
        exact ⟨m, cs1, m', cs2, f, fo, fo', by rw [hget]; simp [e, g1], by rw [hget]; simp [e', g2], g3⟩
end
end Go.AE

namespace Go.AE
open Go.RowKit
set_option linter.unusedVariables false
set_option linter.unusedSimpArgs false
variable {ρ : Rho} {base : Bs} {σ σ' : St} {w : World} {P : Program}

/-- a block that is set aside: its operation, number, size, cells -/
structure Pend where
  i : Nat
  b : Id
  n : Nat
  cs : List AV
def Pend.B (p : Pend) : Blk := .row p.n p.cs none 0
noncomputable def matS : St → List Pend → St
  | σ, [] => σ
  | σ, p :: r => matS (σ.setB p.b p.B) r
def MatOK : St → List Pend → Prop
  | _, [] => True
  | σ, p :: r => σ.getB p.b = .dead ∧ MatOK (σ.setB p.b p.B) r
def ext (D : Nat → Option AV) (i : Nat) (v : AV) : Nat → Option AV := fun k => if k = i then some v else D k
theorem ext_le {D : Nat → Option AV} {i : Nat} (v : AV) (h : D i = none) : ∀ k u, D k = some u → ext D i v k = some u := by
  intro k u hk
  by_cases e : k = i
  · subst e; rw [h] at hk; cases hk
  · simp [ext, e, hk]
theorem ext_self (D : Nat → Option AV) (i : Nat) (v : AV) : ext D i v i = some v := by simp [ext]

def bsOf (base0 : Bs) (A : List Pend) (L : Nat → Prop) (X : Nat → Nat) : Bs :=
  ⟨fun k => base0.keep k ∨ ∃ p ∈ A, L p.i ∧ X p.i = k, fun c => base0.res c ∨ ∃ p ∈ A, ¬ L p.i ∧ p.b = c⟩

section
variable (P : Program) (ops : Array Oper) (gs : List Nat) (nt : Nat) (fr : FT)

/-- those that may be done when i comes -/
def Wi (i k : Nat) : Prop := ¬ Clo ops k i ∧ k ≠ i
/-- operation i, done at σ, comes to v, and to σ' -/
def EfOK (D : Nat → Option AV) (i : Nat) (σ : St) (v : AV) (σ' : St) : Prop := ∀ D' : Nat → Option AV, (∀ k u, D k = some u → D' k = some u) → ∀ (o : Oper), ops[i]? = some o → ∀ (ρ : Rho) (base : Bs) (w : World) (a : Act), WR ρ base σ w → Env ops gs nt ρ fr D' (Clo ops i) (Wi ops i) a →
  Exe P ops o a w (Good ρ base w v σ')
def AlOK (D : Nat → Option AV) (p : Pend) (v : AV) : Prop := ∀ D' : Nat → Option AV, (∀ k u, D k = some u → D' k = some u) → ∀ (o : Oper), ops[p.i]? = some o → ∀ (ρ : Rho) (w : World) (a : Act), Env ops gs nt ρ fr D' (Clo ops p.i) (Wi ops p.i) a →
  Exe P ops o a w fun v' w' => ∃ (c : Array Value) (t : TypeId), c.size = p.n ∧ p.cs.length = p.n ∧ VRs ρ p.cs c.toList ∧ (∀ d ∈ c.toList, d.oneCell' = true) ∧ w' = w.alloc (.cells c t) ∧
    ∀ ρ' : Rho, ρ' p.b = some (w.heap.size, 0, p.n) → VR ρ' v v'
/-- those that may still come -/
def Fl (D : Nat → Option AV) (S : Nat → Prop) (A : List Pend) (σ : St) : Prop := ∀ i v, D i = some v → ¬ S i → (∃ p ∈ A, p.i = i ∧ AlOK P ops gs nt fr D p v) ∨ ((∀ p ∈ A, p.i ≠ i) ∧ EfOK P ops gs nt fr D i σ v σ)
def Rdy (D : Nat → Option AV) (e : Nat) : Prop := ∃ o, ops[e]? = some o ∧ D e = none ∧ ∀ k ∈ waits o, (D k).isSome = true
def Apart (A : List Pend) : Prop := A.Pairwise fun p q => p.i ≠ q.i

/-- whatever comes next, the end is the same -/
inductive Cov (frF : FT) (σF : St) : (Nat → Option AV) → (Nat → Prop) → List Pend → St → Prop where
  | fin {D : Nat → Option AV} {S : Nat → Prop} {A : List Pend} {σ : St} (all : ∀ (i : Nat) (o : Oper), ops[i]? = some o → (D i).isSome = true) (fl : Fl P ops gs nt fr D S A σ) (hp : Apart A) (hA : ∀ p ∈ A, p.i < ops.size) (hm : MatOK σ A) (hσ : matS σ A = σF)
      (hfr : ∀ ρ a, Env ops gs nt ρ fr D (fun i => (ops[i]?).isSome = true) (fun _ => True) a → FR ρ gs nt frF a) : Cov frF σF D S A σ
  | grow {D D' : Nat → Option AV} {S : Nat → Prop} {A : List Pend} {σ : St} (hle : ∀ i v, D i = some v → D' i = some v) (r : Cov frF σF D' S A σ) : Cov frF σF D S A σ
  | resv {D : Nat → Option AV} {S : Nat → Prop} {A : List Pend} {σ : St} {p : Pend} {v : AV} (hn : σ.next = some p.b) (hD : D p.i = none) (r : Cov frF σF (ext D p.i v) S (p :: A) ⟨σ.h, inc p.b, σ.fams⟩) : Cov frF σF D S A σ
  | step {D : Nat → Option AV} {S : Nat → Prop} {A : List Pend} {σ : St} (ne : ∃ (i : Nat) (o : Oper), ops[i]? = some o ∧ D i = none) (fl : Fl P ops gs nt fr D S A σ) (hp : Apart A)
      (M A' : Nat → List Pend) (v : Nat → AV) (σ2 : Nat → St) (S2 : Nat → Nat → Prop)
      (hs : ∀ e, Rdy ops D e → (∀ p, p ∈ A ↔ p ∈ M e ∨ p ∈ A' e) ∧ Apart (M e ++ A' e) ∧ (∀ p ∈ M e, Clo ops e p.i) ∧ MatOK σ (M e) ∧ EfOK P ops gs nt fr D e (matS σ (M e)) (v e) (σ2 e) ∧ (∀ p ∈ A, p.i ≠ e) ∧ ∀ k, S2 e k → S k ∨ k = e ∨ Clo ops e k)
      (r : ∀ e, Rdy ops D e → Cov frF σF (ext D e (v e)) (S2 e) (A' e) (σ2 e)) : Cov frF σF D S A σ

structure Pe (base0 : Bs) (A : List Pend) (L : Nat → Prop) (X : Nat → Nat) (ρ : Rho) (w : World) : Prop where
  blk : ∀ p ∈ A, L p.i → ρ p.b = some (X p.i, 0, p.n) ∧ BR ρ w (X p.i) 0 p.n p.B ∧ ¬ base0.keep (X p.i)
  inj : ∀ p ∈ A, ∀ q ∈ A, L p.i → L q.i → X p.i = X q.i → p.i = q.i
  nres : ∀ p ∈ A, ¬ base0.res p.b
  binj : ∀ p ∈ A, ∀ q ∈ A, p.b = q.b → p.i = q.i
structure Inv (ρ0 : Rho) (base0 : Bs) (w0 : World) (D : Nat → Option AV) (S : Nat → Prop) (A : List Pend) (σ : St) (L : Nat → Prop) (a : Act) (w : World) : Prop where
  ex : ∃ (ρ : Rho) (X : Nat → Nat), ρ0.le ρ ∧ WR ρ (bsOf base0 A L X) σ w ∧ Env ops gs nt ρ fr D L L a ∧ Pe base0 A L X ρ w
  sub : ∀ i, L i → (D i).isSome = true
  sure : ∀ i, S i → L i
  down : ∀ (i : Nat) (o : Oper) k, L i → ops[i]? = some o → k ∈ waits o → L k
  kept : Kept base0.keep w0 w
end

variable {ops : Array Oper} {gs : List Nat} {nt : Nat} {fr : FT} {D : Nat → Option AV} {L S : Nat → Prop} {a : Act} {A : List Pend}

theorem Clo.listed {i : Nat} {o : Oper} (hd : ∀ (i : Nat) (o : Oper) k, L i → ops[i]? = some o → k ∈ waits o → L k) (hi : ops[i]? = some o) (hw : ∀ k ∈ waits o, L k) : ∀ k, Clo ops i k → L k := by
  intro k h
  have : ∀ {i k}, Clo ops i k → ∀ {o}, ops[i]? = some o → (∀ k ∈ waits o, L k) → L k := by
    intro i k h
    induction h with
    | one h hk => intro o hi hw; rw [h] at hi; cases hi; exact hw _ hk
    | more h hk r ih =>
      intro o hi hw
      rw [h] at hi; cases hi
      rename_i i k j o
      have hL := hw _ hk
      cases r with
      | one h2 hk2 => exact hd _ _ _ hL h2 hk2
      | more h2 hk2 r2 => exact ih h2 (fun k' hk' => hd _ _ _ hL h2 hk')
  exact this h hi hw

theorem Clo.back {k i : Nat} (hd : ∀ (i : Nat) (o : Oper) k, L i → ops[i]? = some o → k ∈ waits o → L k) (h : Clo ops k i) : L k → L i := by
  induction h with
  | one h hk => exact fun hL => hd _ _ _ hL h hk
  | more h hk r ih => exact fun hL => ih (hd _ _ _ hL h hk)
theorem Wi.of {i : Nat} (hd : ∀ (i : Nat) (o : Oper) k, L i → ops[i]? = some o → k ∈ waits o → L k) (hn : ¬ L i) : ∀ k, L k → Wi ops i k :=
  fun k hk => ⟨fun h => hn (Clo.back hd h hk), fun e => hn (e ▸ hk)⟩
theorem Pe.mono {base0 : Bs} {X : Nat → Nat} {ρ' : Rho} {w' : World} (hle : ρ.le ρ') (h : Pe base0 A L X ρ w) (hk : ∀ p ∈ A, L p.i → w'.heap[X p.i]? = w.heap[X p.i]?) : Pe base0 A L X ρ' w' :=
  ⟨fun p hp hL => let ⟨h1, h2, h3⟩ := h.blk p hp hL; ⟨hle _ _ h1, (h2.mono hle).of_block (hk p hp hL), h3⟩, h.inj, h.nres, h.binj⟩

theorem Pe.sub {base0 : Bs} {X : Nat → Nat} {A' : List Pend} (h : Pe base0 A L X ρ w) (hs : ∀ p, p ∈ A' → p ∈ A) : Pe base0 A' L X ρ w :=
  ⟨fun p hp => h.blk p (hs p hp), fun p hp q hq => h.inj p (hs p hp) q (hs q hq), fun p hp => h.nres p (hs p hp), fun p hp q hq => h.binj p (hs p hp) q (hs q hq)⟩
/-- those of M are there from here on -/
theorem mats_ok {base0 : Bs} {X : Nat → Nat} {A' : List Pend} : ∀ (M : List Pend) (σ : St), WR ρ (bsOf base0 (M ++ A') L X) σ w → Pe base0 (M ++ A') L X ρ w → Apart (M ++ A') → MatOK σ M → (∀ p ∈ M, L p.i) → WR ρ (bsOf base0 A' L X) (matS σ M) w
  | [], σ, hw, _, _, _, _ => hw
  | p :: M, σ, hw, hpe, hap, hm, hL => by
    have hap' := List.pairwise_cons.1 hap
    have hpL := hL p (by simp)
    obtain ⟨g1, g2, g3⟩ := hpe.blk p (by simp) hpL
    have hin : ∀ q, q ∈ M ++ A' → q ∈ (p :: M) ++ A' := fun q hq => by simp at hq ⊢; exact .inr hq
    refine mats_ok M (σ.setB p.b p.B) ?_ (hpe.sub hin) hap'.2 hm.2 (fun q hq => hL q (by simp [hq]))
    refine hw.mat (base' := bsOf base0 (M ++ A') L X) ?_ ?_ hm.1 g1 ?_ ?_ g2
    · rintro k (hk | ⟨q, hq, h1, h2⟩)
      · exact .inl hk
      · exact .inr ⟨q, by simp at hq ⊢; exact .inr hq, h1, h2⟩
    · rintro k (hk | ⟨q, hq, h1, h2⟩)
      · exact .inl hk
      · exact .inr ⟨q, by simp at hq ⊢; exact .inr hq, h1, h2⟩
    · exact .inr ⟨p, by simp, hpL, rfl⟩
    · rintro (hk | ⟨q, hq, h1, h2⟩)
      · exact g3 hk
      · have := hpe.inj q (by simp at hq ⊢; exact .inr hq) p (by simp) h1 hpL h2
        exact hap'.1 q hq this.symm

/-- a read -/
theorem inv_read {ρ0 : Rho} {base0 : Bs} {w0 : World} (hr : RegOk ops nt) (h : Inv ops gs nt fr ρ0 base0 w0 D S A σ L a w) {i : Nat} {o : Oper} (hi : ops[i]? = some o) (hnL : ¬ L i) (hw : ∀ k ∈ waits o, L k) {v : AV} (hD : D i = some v) (hA : ∀ p ∈ A, p.i ≠ i) {σ2 : St}
    (he : EfOK P ops gs nt fr D i σ v σ2) : Exe P ops o a w fun v' w' => Inv ops gs nt fr ρ0 base0 w0 D S A σ2 (fun k => L k ∨ k = i) (a.put o.dst v') w' := by
  obtain ⟨ρ, X, h1, h2, h3, h4⟩ := h.ex
  have hcl := Clo.listed h.down hi hw
  refine (he D (fun _ _ h => h) o hi ρ _ w a h2 (h3.sub hcl (Wi.of h.down hnL))).mono fun v' w' ⟨ρ', g1, g2, g3, g4⟩ => ?_
  have hsame : ∀ p ∈ A, ((L p.i ∨ p.i = i) ↔ L p.i) := fun p hp => ⟨fun h => h.resolve_right (hA p hp), .inl⟩
  have hpe := h4.mono g1 (w' := w') fun p hp hL => g4.block _ (.inr ⟨p, hp, hL, rfl⟩)
  refine ⟨⟨ρ', X, Rho.le_trans h1 g1, g3.anti ?_ ?_, (h3.mono g1).put hr hi hD g2, ⟨fun p hp hL => hpe.blk p hp ((hsame p hp).1 hL), fun p hp q hq hL hL' => hpe.inj p hp q hq ((hsame p hp).1 hL) ((hsame q hq).1 hL'), hpe.nres, hpe.binj⟩⟩, fun k hk => ?_, fun k hk => .inl (h.sure k hk), fun k q j hk hq hj => ?_, h.kept.trans ⟨g4.os, g4.tape, g4.output, g4.size, fun k hk => g4.block k (.inl hk)⟩⟩
  · rintro k (hk | ⟨p, hp, e1, e2⟩)
    · exact .inl hk
    · exact .inr ⟨p, hp, (hsame p hp).1 e1, e2⟩
  · rintro k (hk | ⟨p, hp, e1, e2⟩)
    · exact .inl hk
    · exact .inr ⟨p, hp, fun hL => e1 ((hsame p hp).2 hL), e2⟩
  · rcases hk with hk | rfl
    · exact h.sub k hk
    · rw [hD]; rfl
  · rcases hk with hk | rfl
    · exact .inl (h.down k q j hk hq hj)
    · rw [hi] at hq; cases hq; exact .inl (hw j hj)

/-- a block comes -/
theorem inv_al {ρ0 : Rho} {base0 : Bs} {w0 : World} (hr : RegOk ops nt) (h : Inv ops gs nt fr ρ0 base0 w0 D S A σ L a w) (hap : Apart A) {p : Pend} (hp : p ∈ A) {o : Oper} (hi : ops[p.i]? = some o) (hnL : ¬ L p.i) (hw : ∀ k ∈ waits o, L k) {v : AV} (hD : D p.i = some v)
    (he : AlOK P ops gs nt fr D p v) : Exe P ops o a w fun v' w' => Inv ops gs nt fr ρ0 base0 w0 D S A σ (fun k => L k ∨ k = p.i) (a.put o.dst v') w' := by
  obtain ⟨ρ, X, h1, h2, h3, h4⟩ := h.ex
  have hcl := Clo.listed h.down hi hw
  refine (he D (fun _ _ h => h) o hi ρ w a (h3.sub hcl (Wi.of h.down hnL))).mono fun v' w' ⟨c, t, c1, c2, c3, c4, c5, c6⟩ => ?_
  subst c5
  have hres : (bsOf base0 A L X).res p.b := .inr ⟨p, hp, hnL, rfl⟩
  have hle : ρ.le (upd ρ p.b (w.heap.size, 0, p.n)) := upd_le (h2.res p.b hres).1
  have only : ∀ q ∈ A, q.i = p.i → q = p := by
    intro q hq hqi
    refine Classical.byContradiction fun hne => ?_
    have : ∀ {l : List Pend}, Apart l → p ∈ l → q ∈ l → False := by
      intro l hl hpl hql
      induction l with
      | nil => cases hpl
      | cons x l ih =>
        obtain ⟨k1, k2⟩ := List.pairwise_cons.1 hl
        rcases List.mem_cons.1 hpl with e1 | e1 <;> rcases List.mem_cons.1 hql with e2 | e2
        · exact hne (e2.trans e1.symm)
        · subst e1; exact k1 q e2 hqi.symm
        · subst e2; exact k1 p e1 hqi
        · exact ih k2 e1 e2
    exact this hap hp hq
  have hheap : (w.alloc (.cells c t)).heap[w.heap.size]? = some (.cells c t) := by
    show (w.heap.push _)[w.heap.size]? = _
    simp
  have hold : ∀ k, k < w.heap.size → (w.alloc (.cells c t)).heap[k]? = w.heap[k]? := fun k hk => Below.heap_alloc _ _ _ hk
  have hlt : ∀ q ∈ A, L q.i → X q.i < w.heap.size := fun q hq hL => h2.hbase _ (.inr ⟨q, hq, hL, rfl⟩)
  have hnb : ¬ base0.keep w.heap.size := fun hk => Nat.lt_irrefl _ (h2.hbase _ (.inl hk))
  have hBR : BR (upd ρ p.b (w.heap.size, 0, p.n)) (w.alloc (.cells c t)) w.heap.size 0 p.n p.B := by
    refine ⟨c2, by omega, ⟨t, by unfold World.shape?; rw [hheap, ← c1]⟩, fun j hj => ?_, fun j x hx => ?_⟩
    · unfold World.frozen?
      dsimp only
      rw [hheap]
      simp
    · obtain ⟨u, g1, g2⟩ := (c3.mono hle).get hx
      refine ⟨u, ?_, g2, c4 u (List.mem_of_getElem? g1)⟩
      rw [getElem_toList] at g1
      unfold World.cell?
      dsimp only
      rw [hheap]
      simpa using g1
  let X' : Nat → Nat := fun k => if k = p.i then w.heap.size else X k
  have hX : ∀ q ∈ A, L q.i → X' q.i = X q.i := fun q hq hL => by
    have : q.i ≠ p.i := fun e => hnL (e ▸ hL)
    simp [X', this]
  have hXp : X' p.i = w.heap.size := by simp [X']
  have hpe := h4.mono hle (w' := w.alloc (.cells c t)) fun q hq hL => hold _ (hlt q hq hL)
  have hnew : ∀ q ∈ A, (L q.i ∨ q.i = p.i) → q ≠ p → L q.i := fun q hq hL hne => hL.resolve_right fun e => hne (only q hq e)
  refine ⟨⟨upd ρ p.b (w.heap.size, 0, p.n), X', Rho.le_trans h1 hle, (h2.early hres (.cells c t) p.n).anti ?_ ?_, (h3.mono hle).put hr hi hD (c6 _ (upd_same _ _ _)), ⟨fun q hq hL => ?_, fun q hq r hr' hL hL' hx => ?_, h4.nres, h4.binj⟩⟩, fun k hk => ?_, fun k hk => .inl (h.sure k hk), fun k q j hk hq hj => ?_, ?_⟩
  · rintro k (hk | ⟨q, hq, e1, e2⟩)
    · exact .inl (.inl hk)
    · by_cases hqp : q.i = p.i
      · right; rw [← e2, hqp, hXp]
      · have hL := e1.resolve_right hqp
        left; right; exact ⟨q, hq, hL, by rw [← hX q hq hL]; exact e2⟩
  · rintro k (hk | ⟨q, hq, e1, e2⟩)
    · exact ⟨.inl hk, fun e => h4.nres p hp (e ▸ hk)⟩
    · refine ⟨.inr ⟨q, hq, fun hL => e1 (.inl hL), e2⟩, fun e => e1 (.inr (h4.binj q hq p hp (e2.trans e)))⟩
  · by_cases hqp : q = p
    · subst hqp
      rw [hXp]
      exact ⟨upd_same _ _ _, hBR, hnb⟩
    · have hL' := hnew q hq hL hqp
      rw [hX q hq hL']
      exact hpe.blk q hq hL'
  · by_cases hqp : q = p
    · by_cases hrp : r = p
      · rw [hqp, hrp]
      · have hL2 := hnew r hr' hL' hrp
        rw [hqp, hXp, hX r hr' hL2] at hx
        have := hlt r hr' hL2
        omega
    · have hL1 := hnew q hq hL hqp
      by_cases hrp : r = p
      · rw [hrp, hXp, hX q hq hL1] at hx
        have := hlt q hq hL1
        omega
      · have hL2 := hnew r hr' hL' hrp
        rw [hX q hq hL1, hX r hr' hL2] at hx
        exact h4.inj q hq r hr' hL1 hL2 hx
  · rcases hk with hk | rfl
    · exact h.sub k hk
    · rw [hD]; rfl
  · rcases hk with hk | rfl
    · exact .inl (h.down k q j hk hq hj)
    · rw [hi] at hq; cases hq; exact .inl (hw j hj)
  · exact h.kept.alloc (fun k hk => h2.hbase k (.inl hk)) _
end Go.AE

namespace Go.AE
open Go.RowKit
set_option linter.unusedVariables false
set_option linter.unusedSimpArgs false
variable {ρ : Rho} {base : Bs} {σ σ' : St} {w : World} {P : Program}
variable {ops : Array Oper} {gs : List Nat} {nt : Nat} {fr : FT} {D : Nat → Option AV} {S : Nat → Prop} {a : Act} {A : List Pend}

def Lof (l : Array Bool) (i : Nat) : Prop := l.getD i false = true
theorem Lof_set {l : Array Bool} {i : Nat} (hi : i < l.size) : Lof (l.setIfInBounds i true) = fun k => Lof l k ∨ k = i := by
  funext k
  apply propext
  unfold Lof
  by_cases e : i = k
  · subst e; simp [hi]
  · rw [getD_set_ne false e]
    exact ⟨.inl, fun h => h.resolve_right (fun e' => e e'.symm)⟩
theorem all_listed (hr : RegOk ops nt) {l : Array Bool} (hs : l.size = ops.size) (h : Region.ready .any ops l = []) : ∀ (i : Nat), i < ops.size → Lof l i := by
  intro i
  induction i using Nat.strongRecOn with
  | _ i ih =>
    intro hi
    refine Classical.byContradiction fun hn => ?_
    have : i ∈ Region.ready .any ops l := by
      rw [mem_ready]
      refine ⟨?_, ops[i], Array.getElem?_eq_getElem hi, fun e he hb => ?_⟩
      · have : i < l.size := by omega
        unfold Lof at hn
        simp [this] at hn ⊢
        exact hn
      · have hk : e.on ∈ waits ops[i] := by
          unfold waits
          refine List.mem_map.2 ⟨e, List.mem_filter.2 ⟨Array.mem_toList_iff.2 he, hb⟩, rfl⟩
        have hlt := hr.back i _ _ (Array.getElem?_eq_getElem hi) hk
        exact ih e.on hlt (by omega)
    rw [h] at this; cases this
theorem ready_waits {l : Array Bool} {i : Nat} (h : i ∈ Region.ready .any ops l) : ¬ Lof l i ∧ i < ops.size ∧ ∃ o, ops[i]? = some o ∧ ∀ k ∈ waits o, Lof l k := by
  obtain ⟨h1, o, h2, h3⟩ := mem_ready.1 h
  have hlt : i < ops.size := (Array.getElem?_eq_some_iff.1 h2).1
  refine ⟨?_, hlt, o, h2, fun k hk => ?_⟩
  · unfold Lof
    intro hc
    rcases Nat.lt_or_ge i l.size with hl | hl
    · simp [hl] at h1 hc; rw [h1] at hc; cases hc
    · simp [Array.getElem?_eq_none hl] at hc
  · unfold waits at hk
    obtain ⟨e, he, rfl⟩ := List.mem_map.1 hk
    obtain ⟨he1, he2⟩ := List.mem_filter.1 he
    exact h3 e (Array.mem_toList_iff.1 he1) he2
def cntU (l : Array Bool) : Nat := l.toList.count false
theorem cntU_set {l : Array Bool} {i : Nat} (hi : i < l.size) (hn : ¬ Lof l i) : cntU l = cntU (l.setIfInBounds i true) + 1 := by
  unfold cntU Lof at *
  have hf : l.toList[i]'(by simpa using hi) = false := by
    simp [hi] at hn
    simpa using hn
  rw [Array.toList_setIfInBounds, List.count_set (by simpa using hi), hf]
  have : 0 < l.toList.count false := List.count_pos_iff.2 (hf ▸ List.getElem_mem _)
  simp only [beq_self_eq_true, if_true, show (true == false) = false from rfl, Bool.false_eq_true, if_false]
  omega
theorem cntU_zero {l : Array Bool} (h : cntU l = 0) : ∀ i, i < l.size → Lof l i := by
  intro i hi
  unfold cntU at h
  unfold Lof
  have h1 := List.count_eq_zero.1 h
  have : l[i] ≠ false := fun e => h1 (e ▸ (by simp))
  simp [hi]
  simpa using this

section
variable {frF : FT} {σF : St} {ρ0 : Rho} {base0 : Bs} {w0 : World}

theorem Inv.grow {D' : Nat → Option AV} {L : Nat → Prop} (hle : ∀ i v, D i = some v → D' i = some v) (h : Inv ops gs nt fr ρ0 base0 w0 D S A σ L a w) : Inv ops gs nt fr ρ0 base0 w0 D' S A σ L a w := by
  obtain ⟨ρ, X, h1, h2, h3, h4⟩ := h.ex
  refine ⟨⟨ρ, X, h1, h2, h3.grow hle, h4⟩, fun i hi => ?_, h.sure, h.down, h.kept⟩
  obtain ⟨v, hv⟩ := Option.isSome_iff_exists.1 (h.sub i hi)
  rw [hle _ _ hv]; rfl

theorem Inv.resv {p : Pend} {v : AV} {L : Nat → Prop} (hn : σ.next = some p.b) (hD : D p.i = none) (h : Inv ops gs nt fr ρ0 base0 w0 D S A σ L a w) :
    Inv ops gs nt fr ρ0 base0 w0 (ext D p.i v) S (p :: A) ⟨σ.h, inc p.b, σ.fams⟩ L a w := by
  obtain ⟨ρ, X, h1, h2, h3, h4⟩ := (h.grow (ext_le v hD)).ex
  have hnL : ¬ L p.i := fun hL => by have := h.sub _ hL; rw [hD] at this; cases this
  have hfresh := h2.fresh _ hn p.b (Nat.le_refl _)
  have hb : ∀ q ∈ A, q.b ≠ p.b := by
    intro q hq e
    by_cases hL : L q.i
    · have := (h4.blk q hq hL).1
      rw [e, hfresh] at this; cases this
    · have := (h2.res q.b (.inr ⟨q, hq, hL, rfl⟩)).2 _ hn
      rw [e] at this; omega
  refine ⟨⟨ρ, X, h1, (h2.reserve hn).anti ?_ ?_, h3, ⟨fun q hq hL => ?_, fun q hq r hr hL hL' => ?_, fun q hq => ?_, fun q hq r hr e => ?_⟩⟩, (h.grow (ext_le v hD)).sub, h.sure, h.down, h.kept⟩
  · rintro k (hk | ⟨q, hq, e1, e2⟩)
    · exact .inl hk
    · rcases List.mem_cons.1 hq with rfl | hq
      · exact absurd e1 hnL
      · exact .inr ⟨q, hq, e1, e2⟩
  · rintro k (hk | ⟨q, hq, e1, e2⟩)
    · exact .inl (.inl hk)
    · rcases List.mem_cons.1 hq with rfl | hq
      · exact .inr e2.symm
      · exact .inl (.inr ⟨q, hq, e1, e2⟩)
  · rcases List.mem_cons.1 hq with rfl | hq
    · exact absurd hL hnL
    · exact h4.blk q hq hL
  · rcases List.mem_cons.1 hq with rfl | hq
    · exact absurd hL hnL
    · rcases List.mem_cons.1 hr with rfl | hr
      · exact absurd hL' hnL
      · exact h4.inj q hq r hr hL hL'
  · rcases List.mem_cons.1 hq with rfl | hq
    · intro hk
      have := (h2.res _ (.inl hk)).2 _ hn
      omega
    · exact h4.nres q hq
  · rcases List.mem_cons.1 hq with hq1 | hq1 <;> rcases List.mem_cons.1 hr with hr1 | hr1
    · rw [hq1, hr1]
    · exact absurd (by rw [← e, hq1]) (hb r hr1)
    · exact absurd (by rw [e, hr1]) (hb q hq1)
    · exact h4.binj q hq1 r hr1 e

/-- one that may come comes -/
theorem fl_step (hr : RegOk ops nt) {l : Array Bool} (hls : l.size = ops.size) (h : Inv ops gs nt fr ρ0 base0 w0 D S A σ (Lof l) a w) (fl : Fl P ops gs nt fr D S A σ) (hp : Apart A) {i : Nat} (hi : i ∈ Region.ready .any ops l) {v : AV} (hD : D i = some v)
    {K : Act → World → Prop} {Q : Exit → Act → World → Prop} (hK : ∀ a' w', Inv ops gs nt fr ρ0 base0 w0 D S A σ (Lof (l.setIfInBounds i true)) a' w' → K a' w') : Go.wpOp P ops Q i K a w := by
  obtain ⟨h1, h2, o, h3, h4⟩ := ready_waits hi
  have hl := Lof_set (l := l) (i := i) (by omega)
  have hS : ¬ S i := fun hS => h1 (h.sure i hS)
  rcases fl i v hD hS with ⟨p, hpA, rfl, hal⟩ | ⟨hA, hef⟩
  · refine Exe.wpOp h3 (inv_al hr h hp hpA h3 h1 h4 hD hal) fun v' w' hI => hK _ _ ?_
    rw [hl]; exact hI
  · refine Exe.wpOp h3 (inv_read hr h h3 h1 h4 hD hA hef) fun v' w' hI => hK _ _ ?_
    rw [hl]; exact hI

theorem cov_ok (hr : RegOk ops nt) (h : Cov P ops gs nt fr frF σF D S A σ) : ∀ (fuel : Nat) (l : Array Bool) (a : Act) (w : World), Inv ops gs nt fr ρ0 base0 w0 D S A σ (Lof l) a w → l.size = ops.size → cntU l = fuel →
    wpAny P .any ops (OutR gs nt ρ0 base0 w0 (.nrm frF σF)) fuel l a w := by
  induction h with
  | grow hle r ih => intro fuel l a w hI hs hc; exact ih fuel l a w (hI.grow hle) hs hc
  | resv hn hD r ih => intro fuel l a w hI hs hc; exact ih fuel l a w (hI.resv hn hD) hs hc
  | @fin D S A σ all fl hp hA hm hσ hfr =>
    have done : ∀ (l : Array Bool) a w, Inv ops gs nt fr ρ0 base0 w0 D S A σ (Lof l) a w → (∀ i, i < ops.size → Lof l i) → OutR gs nt ρ0 base0 w0 (.nrm frF σF) .normal a w := by
      intro l a w hI hall
      obtain ⟨ρ, X, h1, h2, h3, h4⟩ := hI.ex
      have h5 := mats_ok (A' := []) A σ (by simpa using h2) (by simpa using h4) (by simpa using hp) hm (fun p hpA => ?_)
      · refine ⟨frF, σF, rfl, ⟨ρ, h1, ?_, hfr ρ a (h3.sub (fun i hi => ?_) fun i hi => ?_)⟩, hI.kept⟩
        · rw [← hσ]
          exact h5.anti (fun k hk => .inl hk) (fun k hk => .inl hk)
        · obtain ⟨o, ho⟩ := Option.isSome_iff_exists.1 hi
          exact hall i (Array.getElem?_eq_some_iff.1 ho).1
        · trivial
      · refine Classical.byContradiction fun hn => ?_
        exact hn (hall _ (hA p hpA))
    intro fuel
    induction fuel with
    | zero =>
      intro l a w hI hs hc
      have hall := cntU_zero hc
      refine ⟨?_, done l a w hI (fun i hi => hall i (by omega))⟩
      rw [List.eq_nil_iff_forall_not_mem]
      intro i hi
      obtain ⟨g1, g2, _⟩ := ready_waits hi
      exact g1 (hall i (by omega))
    | succ fuel ih =>
      intro l a w hI hs hc
      refine ⟨fun h0 => done l a w hI (all_listed hr hs h0), fun i hi => ?_⟩
      obtain ⟨g1, g2, o, g3, g4⟩ := ready_waits hi
      obtain ⟨v, hD⟩ := Option.isSome_iff_exists.1 (all i o g3)
      refine fl_step hr hs hI fl hp hi hD fun a' w' hI' => ih _ a' w' hI' (by simpa using hs) ?_
      have := cntU_set (l := l) (by omega) g1
      omega
  | @step D S A σ ne fl hp M A' v σ2 S2 hs' r ih =>
    have notall : ∀ (l : Array Bool) a w, Inv ops gs nt fr ρ0 base0 w0 D S A σ (Lof l) a w → ¬ (∀ i, i < ops.size → Lof l i) := by
      intro l a w hI hall
      obtain ⟨i, o, h1, h2⟩ := ne
      have := hI.sub i (hall i (Array.getElem?_eq_some_iff.1 h1).1)
      rw [h2] at this; cases this
    intro fuel
    induction fuel with
    | zero =>
      intro l a w hI hs hc
      have hall := cntU_zero hc
      exact absurd (fun i hi => hall i (by omega)) (notall l a w hI)
    | succ fuel ihf =>
      intro l a w hI hs hc
      refine ⟨fun h0 => absurd (all_listed hr hs h0) (notall l a w hI), fun i hi => ?_⟩
      obtain ⟨g1, g2, o, g3, g4⟩ := ready_waits hi
      have hcnt := cntU_set (l := l) (i := i) (by omega) g1
      cases hD : D i with
      | some u =>
        exact fl_step hr hs hI fl hp hi hD fun a' w' hI' => ihf _ a' w' hI' (by simpa using hs) (by omega)
      | none =>
        have hrdy : Rdy ops D i := ⟨o, g3, hD, fun k hk => hI.sub k (g4 k hk)⟩
        obtain ⟨q1, q2, q3, q4, q5, q6, q7⟩ := hs' i hrdy
        have hcl := Clo.listed hI.down g3 g4
        -- the blocks that must be there
        have hI2 : Inv ops gs nt fr ρ0 base0 w0 D S (A' i) (matS σ (M i)) (Lof l) a w := by
          obtain ⟨ρ, X, h1, h2, h3, h4⟩ := hI.ex
          have hsub : ∀ p, p ∈ M i ++ A' i → p ∈ A := fun p hp => (q1 p).2 (List.mem_append.1 hp)
          have h5 := mats_ok (A' := A' i) (M i) σ (h2.anti ?_ ?_) (h4.sub hsub) q2 q4 (fun p hp => hcl _ (q3 p hp))
          · exact ⟨⟨ρ, X, h1, h5, h3, h4.sub fun p hp => (q1 p).2 (.inr hp)⟩, hI.sub, hI.sure, hI.down, hI.kept⟩
          · rintro k (hk | ⟨q, hq, e1, e2⟩)
            · exact .inl hk
            · exact .inr ⟨q, hsub q hq, e1, e2⟩
          · rintro k (hk | ⟨q, hq, e1, e2⟩)
            · exact .inl hk
            · exact .inr ⟨q, hsub q hq, e1, e2⟩
        have hI3 := hI2.grow (ext_le (v i) hD)
        have hef : EfOK P ops gs nt fr (ext D i (v i)) i (matS σ (M i)) (v i) (σ2 i) := fun D' hD' => q5 D' fun k u hk => hD' k u (ext_le (v i) hD k u hk)
        refine Exe.wpOp g3 (inv_read hr hI3 g3 g1 g4 (ext_self D i (v i)) (fun p hp => q6 p ((q1 p).2 (.inr hp))) hef) fun v' w' hI4 => ?_
        refine ih i hrdy fuel _ _ _ ?_ (by simpa using hs) (by omega)
        have hl := Lof_set (l := l) (i := i) (by omega)
        rw [hl]
        obtain ⟨k1, k2, k3, k4, k5⟩ := hI4
        refine ⟨k1, k2, fun k hk => ?_, k4, k5⟩
        rcases q7 k hk with hk | hk | hk
        · exact .inl (hI.sure k hk)
        · exact .inr hk
        · exact .inl (hcl k hk)
end
end Go.AE

namespace Go.AE
open Go.RowKit
set_option linter.unusedVariables false
set_option linter.unusedSimpArgs false
variable {ρ : Rho} {base : Bs} {σ σ' : St} {w : World} {P : Program}

/-! reads leave the state as it is -/
theorem K0_inj {v : AV} {t : FT} (h : K0 v σ = .nrm t σ') : σ' = σ := by
  unfold K0 at h; cases h; rfl
theorem optK_nrm {α : Type} {x : Option α} {k : α → O} {t : FT} (h : optK x k = .nrm t σ') : ∃ a, x = some a ∧ k a = .nrm t σ' := by
  cases x with
  | none => cases h
  | some a => exact ⟨a, rfl, h⟩
theorem ite2_nrm {c : Bool} {x : O} {t : FT} (h : ite2 c x .no = .nrm t σ') : x = .nrm t σ' := by
  cases c with
  | false => cases h
  | true => exact h
theorem optV_nrm {x : Option AV} {t : FT} (h : optV x σ K0 = .nrm t σ') : σ' = σ := by
  cases x with
  | none => cases h
  | some a => exact K0_inj h
theorem ptrK_nrm {v : AV} {k : Id → Nat → O} {t : FT} (h : ptrK v k = .nrm t σ') : ∃ b o, k b o = .nrm t σ' := by
  cases v <;> first | cases h | exact ⟨_, _, h⟩
theorem rd1B_nrm {B : Blk} {o : Nat} {k : AV → O} {t : FT} (h : rd1B B o k .no = .nrm t σ') : ∃ v, k v = .nrm t σ' := by
  cases B with
  | row m cs f fo => exact ⟨_, ite2_nrm h⟩
  | _ => cases h
theorem rdB_nrm {B : Blk} {o n : Nat} {k : List AV → O} {t : FT} (h : rdB B o n k .no = .nrm t σ') : ∃ v, k v = .nrm t σ' := by
  cases B with
  | row m cs f fo => exact ⟨_, ite2_nrm h⟩
  | _ => cases h

def RdI (f : Ins) : Prop := ∀ call fr σ t σ', f call fr σ K0 = .nrm t σ' → σ' = σ
variable {x y z : Od}
theorem rd_move : RdI (iMove x) := fun call fr σ t σ' h => K0_inj h
theorem rd_pick : RdI (iPick x y z) := fun call fr σ t σ' h => by
  unfold iPick at h
  rw [pickK_eq] at h
  split at h
  · exact K0_inj h
  · cases h
theorem rd_build {n : Nat} {l : List AV} {ps : List (Nat × Nat × Od)} : RdI (iBuild n l ps) := fun call fr σ t σ' h => by
  obtain ⟨a, _, h⟩ := optK_nrm h; exact K0_inj h
theorem rd_load1 : RdI (iLoad1 x) := fun call fr σ t σ' h => by
  obtain ⟨b, o, h⟩ := ptrK_nrm h; obtain ⟨v, h⟩ := rd1B_nrm h; exact K0_inj h
theorem rd_loadN {n : Nat} : RdI (iLoadN n x) := fun call fr σ t σ' h => by
  obtain ⟨b, o, h⟩ := ptrK_nrm h; obtain ⟨v, h⟩ := rdB_nrm h; exact K0_inj h
theorem rd_nil : RdI (iNilCheck P x) := fun call fr σ t σ' h => by
  unfold iNilCheck at h
  rw [nilCheckK_eq] at h
  split at h
  · exact K0_inj h
  · exact K0_inj h
  · split at h
    · exact K0_inj h
    · cases h
  · cases h
theorem rd_bin {op : BinOp} {ty : TypeId} : RdI (iBin P op ty x y) := fun call fr σ t σ' h => optV_nrm h
theorem rd_int {f : Int → Int → AV} {op : BinOp} {ty : TypeId} : RdI (iInt P f op ty x y) := fun call fr σ t σ' h => by
  have h : intK (x fr) (y fr) f (binP P op ty (x fr) (y fr)) σ K0 = .nrm t σ' := h
  rcases intK_ne (by rw [h]; simp) with ⟨_, _, _, _, g⟩ | ⟨_, _, g⟩ <;> (rw [h] at g; exact K0_inj g.symm)
theorem rd_cmp {f : Int → Int → AV} {op : BinOp} {ty : TypeId} : RdI (iCmp P f op ty x y) := fun call fr σ t σ' h => by
  have h : cmpK (x fr) (y fr) f (binP P op ty (x fr) (y fr)) σ K0 = .nrm t σ' := h
  rcases cmpK_ne (ρ := Rho0) (by rw [h]; simp) with ⟨_, _, _, _, _, g⟩ | ⟨_, _, g⟩ <;> (rw [h] at g; exact K0_inj g.symm)
theorem rd_cat {ty : TypeId} : RdI (iCat P ty x y) := fun call fr σ t σ' h => by
  unfold iCat strCatK at h
  split at h
  · exact K0_inj (ite2_nrm h)
  · exact optV_nrm h
theorem rd_eq {n : Bool} {ty : TypeId} : RdI (iEq P n ty x y) := fun call fr σ t σ' h => by
  have h : eqK P n ty (x fr) (y fr) σ K0 = .nrm t σ' := h
  have gen : ∀ a b, eqG P n ty a b σ K0 = .nrm t σ' → σ' = σ := by
    intro a b h
    unfold eqG at h
    split at h
    · exact K0_inj h
    · cases h
  generalize x fr = a at h
  generalize y fr = b at h
  cases a <;> first
    | exact gen _ _ h
    | (cases b <;> first
        | exact gen _ _ h
        | exact K0_inj h
        | (rename_i ka u kb v
           have h : ite2 (Nat.beq (kN ka) (kN kb)) (K0 (.b (xor n (Int.beq' u v))) σ) (eqG P n ty (.k ka u) (.k kb v) σ K0) = .nrm t σ' := h
           cases hb : Nat.beq (kN ka) (kN kb) with
           | false => rw [hb] at h; exact gen _ _ h
           | true => rw [hb] at h; exact K0_inj h))
theorem rd_pure1 {f : Value → Sem Value} : RdI (iPure1 P f x) := fun call fr σ t σ' h => optV_nrm h
theorem rd_pure2 {f : Value → Value → Sem Value} : RdI (iPure2 P f x y) := fun call fr σ t σ' h => optV_nrm h
theorem rd_not : RdI (iNot x) := fun call fr σ t σ' h => by
  unfold iNot notK at h
  split at h
  · exact K0_inj h
  · cases h
theorem rd_ofBytes : RdI (iOfBytes x) := fun call fr σ t σ' h => by
  unfold iOfBytes ofBytesK at h
  split at h
  · obtain ⟨v, h⟩ := rdB_nrm h
    obtain ⟨a, _, h⟩ := optK_nrm h
    exact K0_inj h
  · exact K0_inj h
  · cases h
theorem rd_ifc {ty : TypeId} : RdI (iIfc ty x) := fun call fr σ t σ' h => K0_inj h
theorem rd_fn {f : Fn} {a b : List Od} : RdI (iFn f a b) := fun call fr σ t σ' h => K0_inj h
theorem rd_substr {lo hi : Option Od} : RdI (iSubstr x lo hi) := fun call fr σ t σ' h => by
  unfold iSubstr substrK at h
  split at h
  · obtain ⟨a, _, h⟩ := optK_nrm h
    obtain ⟨b, _, h⟩ := optK_nrm h
    exact K0_inj (ite2_nrm h)
  · cases h
theorem rd_slice {n : Nat} {lo hi : Option Od} : RdI (iSlice n x lo hi) := fun call fr σ t σ' h => by
  unfold iSlice sliceK2 at h
  split at h
  · have h := ite2_nrm h
    obtain ⟨a, _, h⟩ := optK_nrm h
    obtain ⟨b, _, h⟩ := optK_nrm h
    exact K0_inj (ite2_nrm h)
  · obtain ⟨a, _, h⟩ := optK_nrm h
    obtain ⟨b, _, h⟩ := optK_nrm h
    exact K0_inj (ite2_nrm h)
  · cases h
theorem rd_fieldAddr {d : Nat} : RdI (iFieldAddr d x) := fun call fr σ t σ' h => by
  obtain ⟨b, o, h⟩ := ptrK_nrm h; exact K0_inj h
theorem rd_field {ty : TypeId} {d : Nat} : RdI (iField P ty d x) := fun call fr σ t σ' h => by
  unfold iField at h
  rw [fieldK_eq] at h
  split at h
  · obtain ⟨a, _, h⟩ := optK_nrm h; exact K0_inj h
  · cases h
theorem rd_idx {n : Nat} : RdI (iIdx n x y) := fun call fr σ t σ' h => by
  obtain ⟨a, _, h⟩ := optK_nrm h
  generalize x fr = u at h
  cases u <;> first | (cases h; done) | exact K0_inj (ite2_nrm h)
theorem rd_idxA {n m : Nat} : RdI (iIdxA n m x y) := fun call fr σ t σ' h => by
  obtain ⟨a, _, h⟩ := optK_nrm h
  generalize x fr = u at h
  cases u <;> first | (cases h; done) | exact K0_inj (ite2_nrm h)
theorem rd_idxStr : RdI (iIdxStr x y) := fun call fr σ t σ' h => by
  unfold iIdxStr at h
  rw [idxStrK_eq] at h
  split at h
  · obtain ⟨a, _, h⟩ := optK_nrm h; exact K0_inj h
  · cases h
theorem rd_lookup {kk : KK} {ok : Bool} {v : AV} : RdI (iLookup kk ok v x y) := fun call fr σ t σ' h => by
  have h := ite2_nrm h
  obtain ⟨a, _, h⟩ := optK_nrm h
  obtain ⟨b, _, h⟩ := optK_nrm h
  unfold lookRes at h
  split at h <;> exact K0_inj h
theorem rd_assert {ty : TypeId} {ok : Bool} : RdI (iAssert P x ty ok) := fun call fr σ t σ' h => by
  unfold iAssert assertK at h
  split at h
  · split at h
    · split at h
      · exact K0_inj h
      · cases h
    · cases h
  · cases h
  · split at h
    · exact K0_inj h
    · cases h
  · cases h
theorem rd_extract {n : Nat} : RdI (iExtract n x) := fun call fr σ t σ' h => by
  unfold iExtract at h
  rw [extractK_eq] at h
  split at h
  · obtain ⟨a, _, h⟩ := optK_nrm h; exact K0_inj h
  · cases h
theorem rd_lenS : RdI (iLenS x) := fun call fr σ t σ' h => by
  unfold iLenS at h
  rw [lenSK_eq] at h
  split at h
  · exact K0_inj h
  · cases h
theorem rd_lenL : RdI (iLenL x) := fun call fr σ t σ' h => by
  unfold iLenL at h
  rw [lenLK_eq] at h
  split at h
  · exact K0_inj h
  · exact K0_inj h
  · cases h
theorem rd_lenM : RdI (iLenM x) := fun call fr σ t σ' h => by
  unfold iLenM lenMK at h
  split at h
  · split at h
    · exact K0_inj h
    · cases h
  · exact K0_inj h
  · cases h
theorem rd_fail : RdI failI := fun call fr σ t σ' h => by cases h

theorem map_rd {α β : Type} {o : Option α} {f : α → β} {r : β} (h : o.map f = some r) : ∃ d, r = f d := by
  cases o with
  | none => cases h
  | some d => exact ⟨d, by simpa using h.symm⟩
theorem o2_rd {a b : Option Od} {k : Od → Od → Option Ins} {f : Ins} (h : o2 a b k = some f) : ∃ x y, k x y = some f := by
  cases a with
  | none => cases h
  | some x => cases b with
    | none => cases h
    | some y => exact ⟨x, y, h⟩
theorem rd_cmpBin {op : BinOp} {ty : TypeId} {f : Ins} (h : cmpBin P op ty x y = some f) : RdI f := by
  unfold cmpBin at h
  split at h
  · split at h
    · cases h; exact rd_eq
    · cases h
  · split at h
    · cases h; exact rd_eq
    · cases h
  all_goals (cases h; first | exact rd_cat | exact rd_int | exact rd_cmp | exact rd_bin)

theorem cmpOp_rd {od : Operand → Option Od} {o : Oper} {f : Ins} (hr : isRd P o = true) (h : cmpOp P od o = some f) : RdI f := by
  unfold isRd at hr
  unfold cmpOp at h
  split at h
  case h_1 x hx => obtain ⟨d, rfl⟩ := map_rd h; exact rd_move
  case h_2 x hx => obtain ⟨d, rfl⟩ := map_rd h; exact rd_move
  case h_3 c a b hx =>
    split at h
    · obtain ⟨p, q, h⟩ := o2_rd h; cases h; exact rd_pick
    · cases h
  all_goals (first | (cases h; done) | (rename_i hx; rw [hx] at hr; try simp only [Bool.false_eq_true] at hr))
  all_goals (repeat' split at h)
  all_goals (first
    | (cases h; done)
    | (cases h; first | exact rd_build | exact rd_ifc | exact rd_fn | exact rd_substr | exact rd_slice | exact rd_pure2 | exact rd_lenS | exact rd_lenL | exact rd_lenM | exact rd_pure1 | exact rd_ofBytes)
    | (obtain ⟨d, rfl⟩ := map_rd h; first | exact rd_load1 | exact rd_loadN | exact rd_nil | exact rd_not | exact rd_pure1 | exact rd_ifc | exact rd_fieldAddr | exact rd_field | exact rd_assert | exact rd_extract)
    | (obtain ⟨p, q, h⟩ := o2_rd h; first | exact rd_cmpBin h | (cases h; first | exact rd_idx | exact rd_idxA | exact rd_idxStr | exact rd_lookup | exact rd_lenS))
    | skip)
  all_goals (first
    | (rename_i hcal _; exfalso; rw [hcal] at hr; simp at hr; done)
    | (rename_i hcal _ _ _; exfalso; rw [hcal] at hr; simp at hr; done)
    | (exfalso; simp_all; done)
    | skip)
  all_goals
    unfold cmpConv at h
    repeat' split at h
    all_goals (first | (cases h; done) | (cases h; first | exact rd_ofBytes | exact rd_pure1) | (exfalso; simp_all; done))
end Go.AE

namespace Go.AE
open Go.RowKit
set_option linter.unusedVariables false
set_option linter.unusedSimpArgs false
variable {ρ : Rho} {base : Bs} {σ σ' : St} {w : World} {P : Program}

/-! equality of values -/
theorem eqL_eq {f : AV → AV → Bool} (hf : ∀ a b, f a b = true → a = b) : ∀ {l m : List AV}, eqL f l m = true → l = m
  | [], [], _ => rfl
  | [], _ :: _, h => by cases h
  | _ :: _, [], h => by cases h
  | a :: l, b :: m, h => by
    simp only [eqL, Bool.and_eq_true] at h
    rw [hf _ _ h.1, eqL_eq hf h.2]
theorem eqSc_eq {a b : Value} (h : eqSc a b = true) : a = b := by
  unfold eqSc at h
  split at h <;> first | rfl | cases h
theorem eqFn_eq {a b : Fn} (h : eqFn a b = true) : a = b := by
  unfold eqFn at h
  split at h
  · rw [Nat.eq_of_beq_eq_true h]
  · rw [beq_iff_eq.1 h]
  · cases h
theorem eqInt_eq {a b : Int} (h : eqInt a b = true) : a = b := by
  unfold eqInt at h
  rw [Int.beq'_eq] at h
  exact h
theorem eqKind_eq {a b : IntKind} (h : eqKind a b = true) : a = b := by
  unfold eqKind at h; exact of_decide_eq_true h
theorem avEq_eq : ∀ (n : Nat) (a b : AV), avEq n a b = true → a = b
  | 0, _, _, h => by cases h
  | n + 1, a, b, h => by
    have ih := avEq_eq n
    unfold avEq at h
    split at h <;> first
      | rfl
      | (cases h; done)
      | (try simp only [Bool.and_eq_true] at h
         first
          | rw [eqInt_eq h]
          | rw [eqKind_eq h.1, eqInt_eq h.2]
          | rw [beq_iff_eq.1 h]
          | rw [sEq_iff.1 h]
          | rw [eqSc_eq h]
          | rw [Id.beq_iff.1 h.1, Nat.eq_of_beq_eq_true h.2]
          | rw [Id.beq_iff.1 h.1.1, Nat.eq_of_beq_eq_true h.1.2.1, Nat.eq_of_beq_eq_true h.1.2.2, Nat.eq_of_beq_eq_true h.2.1, Nat.eq_of_beq_eq_true h.2.2]
          | rw [Id.beq_iff.1 h]
          | rw [eqFn_eq h.1, eqL_eq ih h.2.1, eqL_eq ih h.2.2]
          | rw [Nat.eq_of_beq_eq_true h.1, ih _ _ h.2]
          | rw [Nat.eq_of_beq_eq_true h.1, eqL_eq ih h.2]
          | rw [eqL_eq ih h])

/-! what is ahead -/
variable {ops : Array Oper}
theorem nth_eq {l : List Oper} {i : Nat} : nth l i = l[i]? := by
  unfold nth; rw [headO_eq, dropN_eq, List.head?_drop]
theorem testBit_pow {k j : Nat} (h : Nat.testBit (2 ^ k) j = true) : j = k := by
  rw [Nat.testBit_two_pow] at h
  exact (of_decide_eq_true h).symm
theorem bitsU_ok {ms : List Nat} {R : Nat → Prop} (hms : ∀ i k, Nat.testBit (ms.getD i 0) k = true → Clo ops i k) {i : Nat} {o : Oper} (ho : ops[i]? = some o) : ∀ (l : List Nat), (∀ k ∈ l, k ∈ waits o) → ∀ k, Nat.testBit (bitsU ms l) k = true → Clo ops i k
  | [], _, k, h => by simp [bitsU] at h
  | j :: r, hl, k, h => by
    simp only [bitsU, Nat.testBit_or, Bool.or_eq_true] at h
    rcases h with (h | h) | h
    · have := testBit_pow h; subst this; exact .one ho (hl _ (by simp))
    · exact .more ho (hl _ (by simp)) (hms _ _ h)
    · exact bitsU_ok (R := R) hms ho r (fun k hk => hl k (by simp [hk])) k h
theorem cloM_ok : ∀ (l : List Oper) (ms : List Nat), ops.toList.drop ms.length = l → (∀ i k, Nat.testBit (ms.getD i 0) k = true → Clo ops i k) → ∀ i k, Nat.testBit ((cloM l ms).getD i 0) k = true → Clo ops i k
  | [], ms, _, h => h
  | o :: r, ms, hl, h => by
    have ho : ops[ms.length]? = some o := by
      have : (ops.toList.drop ms.length)[0]? = some o := by rw [hl]; rfl
      simpa using this
    refine cloM_ok r (ms ++ [bitsU ms (waits o)]) ?_ ?_
    · rw [List.length_append, ← List.drop_drop, hl]; rfl
    · intro i k hk
      rcases Nat.lt_trichotomy i ms.length with hi | hi | hi
      · rw [List.getD_eq_getElem?_getD, List.getElem?_append_left hi, ← List.getD_eq_getElem?_getD] at hk
        exact h i k hk
      · subst hi
        rw [List.getD_eq_getElem?_getD, List.getElem?_append_right (Nat.le_refl _)] at hk
        simp at hk
        exact bitsU_ok (R := fun _ => True) h ho _ (fun k hk => hk) k hk
      · rw [List.getD_eq_getElem?_getD, List.getElem?_eq_none (by simp; omega)] at hk
        simp at hk

/-! the region -/
theorem dstAt_some {t : Nat} : ∀ {l : List Oper} {i j : Nat}, dstAt t l i = some j → i ≤ j ∧ ∃ o, l[j - i]? = some o ∧ o.dst = some t
  | [], i, j, h => by cases h
  | o :: r, i, j, h => by
    have next : dstAt t r (i + 1) = some j → i ≤ j ∧ ∃ q, (o :: r)[j - i]? = some q ∧ q.dst = some t := by
      intro h
      obtain ⟨h1, q, h2, h3⟩ := dstAt_some h
      refine ⟨by omega, q, ?_, h3⟩
      rw [show j - i = (j - (i + 1)) + 1 by omega]
      simpa using h2
    simp only [dstAt] at h
    split at h
    · rename_i d hd
      split at h
      · rename_i hb; cases h; exact ⟨Nat.le_refl _, o, by simp, by rw [hd, Nat.eq_of_beq_eq_true hb]⟩
      · exact next h
    · exact next h
theorem dstAt_none {t : Nat} : ∀ {l : List Oper} {i : Nat}, dstAt t l i = none → ∀ o ∈ l, o.dst ≠ some t
  | [], i, h, o, ho => by cases ho
  | q :: r, i, h, o, ho => by
    simp only [dstAt] at h
    split at h
    · rename_i d hd
      split at h
      · cases h
      · rename_i hb
        rcases List.mem_cons.1 ho with rfl | ho
        · rw [hd]; intro e; cases e; simp at hb
        · exact dstAt_none h o ho
    · rename_i hd
      rcases List.mem_cons.1 ho with rfl | ho
      · rw [hd]; simp
      · exact dstAt_none h o ho
theorem regOk_all {nt : Nat} {all : List Oper} : ∀ (l : List Oper) (i : Nat), regOk nt all l i = true → ∀ (j : Nat) (o : Oper), l[j]? = some o → (∀ d, o.dst = some d → d < nt ∧ dstAt d all 0 = some (i + j)) ∧ ∀ k ∈ waits o, k < i + j
  | [], i, _, j, o, h => by simp at h
  | q :: r, i, hb, j, o, h => by
    simp only [regOk, Bool.and_eq_true] at hb
    obtain ⟨h1, h2, h3⟩ := hb
    cases j with
    | zero =>
      simp at h; subst h
      refine ⟨fun d hd => ?_, fun k hk => ?_⟩
      · rw [hd] at h1
        simp only [Bool.and_eq_true] at h1
        refine ⟨blt_lt h1.1, ?_⟩
        have h12 := h1.2
        split at h12
        · rename_i j hj; rw [hj, Nat.eq_of_beq_eq_true h12]; rfl
        · cases h12
      · have := List.all_eq_true.1 h2 k hk
        exact blt_lt this
    | succ j =>
      have := regOk_all r (i + 1) h3 j o (by simpa using h)
      rw [show i + (j + 1) = i + 1 + j by omega]
      exact this
theorem regOk_ok {nt : Nat} (h : regOk nt ops.toList ops.toList 0 = true) : RegOk ops nt := by
  have key : ∀ (i : Nat) (o : Oper), ops[i]? = some o → (∀ d, o.dst = some d → d < nt ∧ dstAt d ops.toList 0 = some i) ∧ ∀ k ∈ waits o, k < i := by
    intro i o ho
    have := regOk_all ops.toList 0 h i o (by simpa using ho)
    simpa using this
  refine ⟨fun i j o q d h1 h2 h3 h4 => ?_, fun i o d h1 h2 => ((key i o h1).1 d h2).1, fun i o k h1 h2 => (key i o h1).2 k h2⟩
  have a := ((key i o h1).1 d h3).2
  have b := ((key j q h2).1 d h4).2
  rw [a] at b; cases b; rfl

theorem vAt_cons {i k : Nat} {v : AV} {l : List (Nat × AV)} : vAt k ((i, v) :: l) = if k = i then some v else vAt k l := by
  simp only [vAt]
  by_cases e : i = k
  · subst e; simp
  · have : Nat.beq i k = false := by
      cases hb : Nat.beq i k
      · rfl
      · exact absurd (Nat.eq_of_beq_eq_true hb) e
    rw [this]
    have e' : ¬ k = i := fun h => e h.symm
    simp [e']

section
variable {gs : List Nat} {nt : Nat} {fr : FT} {D : Nat → Option AV} {a : Act}
/-- operands -/
theorem odD_ok (hr : RegOk ops nt) {loc : List (Nat × AV)} {ms : List Nat} {i : Nat} (hms : ∀ i k, Nat.testBit (ms.getD i 0) k = true → Clo ops i k) (hD : ∀ k v, vAt k loc = some v → D k = some v) (he : Env ops gs nt ρ fr D (Clo ops i) (Wi ops i) a) (x : Operand) (d : Od) (h : odD gs ops.toList loc ms i x = some d) : VR ρ (d fr) (a.eval x) := by
  have slot : ∀ t, odS gs t = some d → (∀ (k : Nat) (o : Oper), ops[k]? = some o → o.dst = some t → ¬ Wi ops i k) → VR ρ (d fr) (a.eval (.tmp t)) := by
    intro t h hw
    unfold odS at h
    split at h
    · rename_i x y hs
      cases h
      exact he.slot t x y hs hw
    · cases h
  unfold odD at h
  split at h
  · rename_i t
    split at h
    · rename_i k hk
      obtain ⟨_, o, h1, h2⟩ := dstAt_some hk
      have h1 : ops[k]? = some o := by simpa using h1
      split at h
      · rename_i hb
        split at h
        · rename_i v hv
          cases h
          obtain ⟨u, g1, g2⟩ := he.val k o t h1 h2 (hms i k hb)
          rw [hD k v hv] at g1; cases g1
          exact g2
        · cases h
      · split at h
        · rename_i hb
          refine slot t h fun j q hj hq hW => ?_
          have := hr.dist j k q o t hj h1 hq h2
          subst this
          rw [Bool.or_eq_true] at hb
          rcases hb with hb | hb
          · exact hW.2 (Nat.eq_of_beq_eq_true hb)
          · exact hW.1 (hms _ _ hb)
        · cases h
    · rename_i hk
      refine slot t h fun j q hj hq _ => dstAt_none hk q ?_ hq
      rw [← Array.getElem?_toList] at hj
      exact List.mem_of_getElem? hj
  · obtain ⟨v, h2, rfl⟩ := mapL_some h
    exact VR_ofR h2
  · cases h
  · cases h
    exact .fn .nil .nil

theorem reK_ne {x : O} {k : Kont} (h : reK x k ≠ .no) : ∃ v r s σ', x = .nrm ⟨v :: r, s⟩ σ' ∧ reK x k = k v σ' := by
  cases x with
  | nrm t σ' =>
    obtain ⟨d, s⟩ := t
    cases d with
    | nil => exact absurd rfl h
    | cons v r => exact ⟨v, r, s, σ', rfl, rfl⟩
  | ex _ _ _ => exact absurd rfl h
  | ret _ _ => exact absurd rfl h
  | no => exact absurd rfl h
theorem K0_eq {v u : AV} {r : List AV} {s : S8 (S8 AV)} (h : K0 v σ = .nrm ⟨u :: r, s⟩ σ') : v = u ∧ σ = σ' := by
  unfold K0 at h; cases h; exact ⟨rfl, rfl⟩

theorem insD_cases {od : Operand → Option Od} {l : List Oper} {o : Oper} : (o.guard = none ∧ insD P od l o = cmpI P od o) ∨
    (∃ j want g t c, o.guard = some (j, want) ∧ l[j]? = some g ∧ g.dst = some t ∧ od (.tmp t) = some c ∧ insD P od l o = iGd c want (cmpI P od o)) ∨ insD P od l o = failI := by
  unfold insD
  cases hg : o.guard with
  | none => exact .inl ⟨rfl, rfl⟩
  | some p =>
    obtain ⟨j, want⟩ := p
    right
    dsimp only
    cases hj : nth l j with
    | none => exact .inr rfl
    | some g =>
      dsimp only
      cases ht : g.dst with
      | none => exact .inr rfl
      | some t =>
        dsimp only
        cases hc : od (.tmp t) with
        | none => exact .inr rfl
        | some c => exact .inl ⟨j, want, g, t, c, rfl, by rw [← nth_eq]; exact hj, ht, hc, rfl⟩
/-- an operation under its guard -/
theorem insD_ok (hr : RegOk ops nt) {call : Call} (hcall : CallOK P call) {ms : List Nat} (hms : ∀ i k, Nat.testBit (ms.getD i 0) k = true → Clo ops i k) {loc : List (Nat × AV)} {i : Nat} {o : Oper} (hi : ops[i]? = some o) {k : Kont} (hD : ∀ k v, vAt k loc = some v → D k = some v)
    (hne : reK (insAt P gs ops.toList ms loc i o call fr σ K0) k ≠ .no) :
    ∃ v σ', reK (insAt P gs ops.toList ms loc i o call fr σ K0) k = k v σ' ∧ (∀ k', reK (insAt P gs ops.toList ms loc i o call fr σ K0) k' = k' v σ') ∧ EfOK P ops gs nt fr D i σ v σ' ∧ (isRd P o = true → σ' = σ) := by
  obtain ⟨v, r, s, σ', h1, h2⟩ := reK_ne hne
  refine ⟨v, σ', h2, fun k' => by rw [h1]; rfl, ?_, ?_⟩
  · intro D' hD' o' ho' ρ base w a hw he
    rw [hi] at ho'; cases ho'
    have hod : ∀ x d, odD gs ops.toList loc ms i x = some d → VR ρ (d fr) (a.eval x) := fun x d h => odD_ok hr hms (fun k v hv => hD' k v (hD k v hv)) he x d h
    have core : ∀ {K : Kont} {v : AV} {σ' : St}, cmpI P (odD gs ops.toList loc ms i) o call fr σ K0 = .nrm ⟨v :: r, s⟩ σ' → Did P (execOp a.eval o) w (Good ρ base w v σ') := by
      intro K v σ' h
      obtain ⟨v2, σ2, g1, g2⟩ := cmpI_ok (P := P) (o := o) (od := odD gs ops.toList loc ms i) (fun g => rfl) call hcall fr σ K0 (by rw [h]; simp) ρ base w a.eval hw hod
      rw [h] at g1
      obtain ⟨rfl, rfl⟩ := K0_eq g1.symm
      exact g2
    unfold insAt at h1
    rcases insD_cases (P := P) (od := odD gs ops.toList loc ms i) (l := ops.toList) (o := o) with ⟨hg, hins⟩ | ⟨j, want, g, t, c, hg, hgj, ht, hc, hins⟩ | hins
    · rw [hins] at h1
      exact .inl ⟨by simp [Region.wanted, hg], core (K := K0) h1⟩
    · rw [hins] at h1
      have hvc : VR ρ (c fr) (a.tmps.getD t undef) := hod _ c hc
      have hjt : (ops[j]?).bind (·.dst) = some t := by
        rw [Array.getElem?_toList] at hgj
        rw [hgj]; exact ht
      have hy := yielded_eq (a := a) hjt
      have h1' : isB (c fr) want (cmpI P (odD gs ops.toList loc ms i) o call fr σ K0) (K0 undefA σ) = .nrm ⟨v :: r, s⟩ σ' := h1
      rcases isB_ne (show isB (c fr) want _ _ ≠ .no by rw [h1']; simp) with ⟨e1, e2⟩ | ⟨e1, e2⟩
      · rw [e2] at h1'
        refine .inl ⟨?_, core (K := K0) h1'⟩
        rw [e1] at hvc
        generalize a.tmps.getD t undef = u at hvc hy
        cases hvc
        simp [Region.wanted, hg, hy]
      · rw [e2] at h1'
        obtain ⟨rfl, rfl⟩ := K0_eq h1'
        refine .inr ⟨?_, Good.same hw (.tup .nil)⟩
        rcases e1 with ⟨b, h, hb⟩ | ⟨l, h⟩
        · rw [h] at hvc
          generalize a.tmps.getD t undef = u at hvc hy
          cases hvc
          simp [Region.wanted, hg, hy, hb]
        · rw [h] at hvc
          generalize a.tmps.getD t undef = u at hvc hy
          cases hvc
          simp [Region.wanted, hg, hy]
    · rw [hins] at h1; cases h1
  · intro hrd
    have rdc : RdI (cmpI P (odD gs ops.toList loc ms i) o) := by
      unfold cmpI
      split
      · rename_i f hf; exact cmpOp_rd hrd hf
      · exact rd_fail
    unfold insAt at h1
    rcases insD_cases (P := P) (od := odD gs ops.toList loc ms i) (l := ops.toList) (o := o) with ⟨hg, hins⟩ | ⟨j, want, g, t, c, hg, hgj, ht, hc, hins⟩ | hins
    · rw [hins] at h1; exact rdc _ _ _ _ _ h1
    · rw [hins] at h1
      have h1' : isB (c fr) want (cmpI P (odD gs ops.toList loc ms i) o call fr σ K0) (K0 undefA σ) = .nrm ⟨v :: r, s⟩ σ' := h1
      rcases isB_ne (show isB (c fr) _ _ _ ≠ .no by rw [h1']; simp) with ⟨e1, e2⟩ | ⟨e1, e2⟩
      · rw [e2] at h1'; exact rdc _ _ _ _ _ h1'
      · rw [e2] at h1'; exact (K0_eq h1').2.symm
    · rw [hins] at h1; cases h1
end
end Go.AE

namespace Go.AE
open Go.RowKit
set_option linter.unusedVariables false
set_option linter.unusedSimpArgs false
variable {ρ : Rho} {base : Bs} {σ σ' : St} {w : World} {P : Program}

theorem S8.ext {α : Type} {s t : S8 α} (h : ∀ d, S8.get s d = S8.get t d) : s = t := by
  obtain ⟨a0, a1, a2, a3, a4, a5, a6, a7⟩ := s
  obtain ⟨b0, b1, b2, b3, b4, b5, b6, b7⟩ := t
  have h0 : a0 = b0 := h .d0
  have h1 : a1 = b1 := h .d1
  have h2 : a2 = b2 := h .d2
  have h3 : a3 = b3 := h .d3
  have h4 : a4 = b4 := h .d4
  have h5 : a5 = b5 := h .d5
  have h6 : a6 = b6 := h .d6
  have h7 : a7 = b7 := h .d7
  subst h0 h1 h2 h3 h4 h5 h6 h7
  rfl
theorem H.ext {α : Type} {h k : H α} (hh : ∀ i, H.get h i = H.get k i) : h = k :=
  S8.ext fun e => S8.ext fun d => S8.ext fun c => S8.ext fun b => S8.ext fun a => hh ⟨e, d, c, b, a⟩
theorem H.set_get {α : Type} (h : H α) (i : Id) : H.set h i (H.get h i) = h := H.ext fun j => by
  rw [H.get_set]; split
  · rename_i e; rw [e]
  · rfl
theorem H.set_comm {α : Type} (h : H α) {i j : Id} (hij : i ≠ j) (x y : α) : H.set (H.set h i x) j y = H.set (H.set h j y) i x := H.ext fun k => by
  rw [H.get_set, H.get_set, H.get_set, H.get_set]
  by_cases e : i = k
  · have : ¬ j = k := fun e' => hij (e.trans e'.symm)
    simp [e, this]
  · simp [e]

inductive PA (fr : FT) : List Sa → List Pend → Prop where
  | nil : PA fr [] []
  | cons {s : Sa} {p : Pend} {A : List Sa} {As : List Pend} (hi : s.i = p.i) (hal : ∃ to, s.al fr = some ⟨p.n, p.cs, to⟩) (hid : idOf s.v = some p.b) (r : PA fr A As) : PA fr (s :: A) (p :: As)

section
variable {ops : Array Oper} {gs : List Nat} {nt : Nat} {fr : FT} {a : Act}
theorem saAt_ok {i : Nat} {s : Sa} : ∀ {A : List Sa} {As : List Pend}, PA fr A As → saAt i A = some s →
    ∃ p As', p.i = i ∧ (∃ to, s.al fr = some ⟨p.n, p.cs, to⟩) ∧ idOf s.v = some p.b ∧ PA fr (saDrop i A) As' ∧ (∀ q, q ∈ As ↔ q = p ∨ q ∈ As') ∧ (Apart As → Apart (p :: As'))
  | _, _, .nil, h => by cases h
  | _, _, .cons (s := t) (p := p) (A := A) (As := As) hi hal hid r, h => by
    simp only [saAt] at h
    split at h
    · rename_i hb
      cases h
      refine ⟨p, As, by rw [← hi]; exact Nat.eq_of_beq_eq_true hb, hal, hid, ?_, fun q => by simp, id⟩
      simp only [saDrop, hb]; exact r
    · rename_i hb
      obtain ⟨q, As', h1, h2, h3, h4, h5, h6⟩ := saAt_ok r h
      refine ⟨q, p :: As', h1, h2, h3, ?_, fun x => ?_, fun hap => ?_⟩
      · simp only [saDrop, hb]; exact .cons hi hal hid h4
      · simp only [List.mem_cons, h5]
        constructor
        · rintro (h | h | h)
          · exact .inr (.inl h)
          · exact .inl h
          · exact .inr (.inr h)
        · rintro (h | h | h)
          · exact .inr (.inl h)
          · exact .inl h
          · exact .inr (.inr h)
      · obtain ⟨k1, k2⟩ := List.pairwise_cons.1 hap
        obtain ⟨k3, k4⟩ := List.pairwise_cons.1 (h6 k2)
        refine List.pairwise_cons.2 ⟨fun x hx => ?_, List.pairwise_cons.2 ⟨fun x hx => k1 x ((h5 x).2 (.inr hx)), k4⟩⟩
        rcases List.mem_cons.1 hx with rfl | hx
        · exact fun e => k1 q ((h5 q).2 (.inl rfl)) e.symm
        · exact k3 x hx
theorem saAt_some {i : Nat} {A : List Sa} {As : List Pend} (h : PA fr A As) : (saAt i A).isSome = true → ∃ p ∈ As, p.i = i := by
  intro hs
  obtain ⟨s, hs⟩ := Option.isSome_iff_exists.1 hs
  obtain ⟨p, As', h1, _, _, _, h5, _⟩ := saAt_ok h hs
  exact ⟨p, (h5 p).2 (.inl rfl), h1⟩

theorem alK_ne {x : Option AlR} {k : Nat → List AV → (Id → AV) → O} (h : alK x k ≠ .no) : ∃ n cs to, x = some ⟨n, cs, to⟩ ∧ alK x k = k n cs to := by
  cases x with
  | none => exact absurd rfl h
  | some r => obtain ⟨n, cs, to⟩ := r; exact ⟨n, cs, to, rfl, rfl⟩
theorem deadK_ne {B : Blk} {k : O} (h : deadK B k ≠ .no) : B = .dead ∧ deadK B k = k := by
  cases B with
  | dead => exact ⟨rfl, rfl⟩
  | _ => exact absurd rfl h
theorem iMt_ok {call : Call} {s : Sa} {p : Pend} {k : Kont} (hal : ∃ to, s.al fr = some ⟨p.n, p.cs, to⟩) (hid : idOf s.v = some p.b) (hne : iMt s.al s.v call fr σ k ≠ .no) : σ.getB p.b = .dead ∧ iMt s.al s.v call fr σ k = k undefA (σ.setB p.b p.B) := by
  obtain ⟨to, hal⟩ := hal
  have e : iMt s.al s.v call fr σ k = deadK (σ.getB p.b) (k undefA (σ.setB p.b p.B)) := by
    unfold iMt
    rw [hal, hid]
    rfl
  rw [e] at hne ⊢
  exact deadK_ne hne
theorem mats_run {call : Call} {k : List Sa → Ops} : ∀ (mt : List Nat) (A : List Sa) (As : List Pend) (σ : St), PA fr A As → Apart As → exec call (matsD k mt A) fr σ ≠ .no →
    ∃ M A' As', exec call (matsD k mt A) fr σ = exec call (k A') fr (matS σ M) ∧ PA fr A' As' ∧ (∀ p, p ∈ As ↔ p ∈ M ∨ p ∈ As') ∧ Apart (M ++ As') ∧ MatOK σ M ∧ ∀ p ∈ M, p.i ∈ mt
  | [], A, As, σ, hp, hap, hne => ⟨[], A, As, rfl, hp, by simp, by simpa using hap, trivial, by simp⟩
  | i :: r, A, As, σ, hp, hap, hne => by
    simp only [matsD] at hne ⊢
    split at hne
    case h_2 => exact absurd rfl hne
    rename_i al v hs
    obtain ⟨p, As1, h1, h2, h3, h4, h5, h6⟩ := saAt_ok hp hs
    have hne' : iMt al v call fr σ (fun _ σ' => exec call (matsD k r (saDrop i A)) fr σ') ≠ .no := hne
    obtain ⟨g1, g2⟩ := iMt_ok (s := ⟨i, al, v⟩) (p := p) h2 h3 hne'
    show ∃ M A' As', iMt al v call fr σ (fun _ σ' => exec call (matsD k r (saDrop i A)) fr σ') = _ ∧ _
    rw [g2] at hne' ⊢
    have hap1 := h6 hap
    obtain ⟨M, A', As', q1, q2, q3, q4, q5, q6⟩ := mats_run r (saDrop i A) As1 _ h4 (List.pairwise_cons.1 hap1).2 hne'
    refine ⟨p :: M, A', As', q1, q2, fun x => ?_, ?_, ⟨g1, q5⟩, fun x hx => ?_⟩
    · rw [h5, q3]; simp [or_assoc]
    · refine List.pairwise_cons.2 ⟨fun x hx => (List.pairwise_cons.1 hap1).1 x ((q3 x).2 (List.mem_append.1 hx)), q4⟩
    · rcases List.mem_cons.1 hx with rfl | hx
      · rw [h1]; simp
      · exact List.mem_cons.2 (.inr (q6 x hx))
theorem mats_all {call : Call} {k : List Sa → Ops} : ∀ (A : List Sa) (As : List Pend) (σ : St), PA fr A As → exec call (matsD k (A.map (·.i)) A) fr σ ≠ .no →
    exec call (matsD k (A.map (·.i)) A) fr σ = exec call (k []) fr (matS σ As) ∧ MatOK σ As
  | _, _, σ, .nil, hne => ⟨rfl, trivial⟩
  | _, _, σ, .cons (s := s) (p := p) (A := A) (As := As) hi hal hid r, hne => by
    have e0 : matsD k ((s :: A).map (·.i)) (s :: A) = .x (iMt s.al s.v) (matsD k (A.map (·.i)) A) := by
      simp [matsD, saAt, saDrop]
    rw [e0] at hne ⊢
    have hne' : iMt s.al s.v call fr σ (fun _ σ' => exec call (matsD k (A.map (·.i)) A) fr σ') ≠ .no := hne
    obtain ⟨g1, g2⟩ := iMt_ok hal hid hne'
    show iMt s.al s.v call fr σ (fun _ σ' => exec call (matsD k (A.map (·.i)) A) fr σ') = _ ∧ _
    rw [g2] at hne' ⊢
    obtain ⟨h1, h2⟩ := mats_all A As _ r hne'
    exact ⟨h1, g1, h2⟩

theorem vAt_mem {i : Nat} {v : AV} : ∀ {l : List (Nat × AV)}, vAt i l = some v → (i, v) ∈ l
  | [], h => by cases h
  | (k, u) :: r, h => by
    rw [vAt_cons] at h
    split at h
    · rename_i e; cases h; subst e; simp
    · exact List.mem_cons.2 (.inr (vAt_mem h))
theorem mem_vAt {i : Nat} {v : AV} : ∀ {l : List (Nat × AV)}, l.Pairwise (fun x y => x.1 ≠ y.1) → (i, v) ∈ l → vAt i l = some v
  | [], _, h => by cases h
  | (k, u) :: r, hd, h => by
    rw [vAt_cons]
    obtain ⟨h1, h2⟩ := List.pairwise_cons.1 hd
    rcases List.mem_cons.1 h with h | h
    · cases h; simp
    · have := h1 _ h
      rw [if_neg (fun e => this e.symm)]
      exact mem_vAt h2 h
theorem covers_ok {S : Nat} {A : List Sa} {cs : List Nat} : ∀ {l : List (Nat × AV)}, covers S A cs l = true → ∀ i v, (i, v) ∈ l → Nat.testBit S i = true ∨ (saAt i A).isSome = true ∨ i ∈ cs
  | [], _, i, v, h => by cases h
  | (k, u) :: r, hc, i, v, h => by
    simp only [covers, Bool.and_eq_true, Bool.or_eq_true] at hc
    rcases List.mem_cons.1 h with h | h
    · cases h
      rcases hc.1 with h | h | h
      · exact .inl h
      · exact .inr (.inl h)
      · obtain ⟨k, hk, hb⟩ := List.any_eq_true.1 h
        rw [Nat.eq_of_beq_eq_true hb] at hk
        exact .inr (.inr hk)
    · exact covers_ok hc.2 i v h
theorem blocked_ok {D : List (Nat × AV)} {e : Nat} : ∀ {l : List Oper} {i : Nat}, blocked D e l i = true → ∀ (j : Nat) (o : Oper), l[j]? = some o → i + j = e ∨ (vAt (i + j) D).isSome = true ∨ ∃ k ∈ waits o, vAt k D = none
  | [], _, _, j, o, h => by simp at h
  | q :: r, i, hb, j, o, h => by
    simp only [blocked, Bool.and_eq_true, Bool.or_eq_true] at hb
    cases j with
    | zero =>
      simp at h; subst h
      rcases hb.1 with h | h | h
      · exact .inl (Nat.eq_of_beq_eq_true h)
      · exact .inr (.inl h)
      · obtain ⟨k, hk, hn⟩ := List.any_eq_true.1 h
        exact .inr (.inr ⟨k, hk, by simpa using hn⟩)
    | succ j =>
      have := blocked_ok hb.2 j o (by simpa using h)
      rw [show i + (j + 1) = i + 1 + j by omega]
      exact this
theorem doneD_ok {D : List (Nat × AV)} : ∀ {l : List Oper} {i : Nat}, doneD D l i = true → ∀ (j : Nat), j < l.length → (vAt (i + j) D).isSome = true
  | [], _, _, j, h => by simp at h
  | q :: r, i, hb, j, h => by
    simp only [doneD, Bool.and_eq_true] at hb
    cases j with
    | zero => exact hb.1
    | succ j =>
      have := doneD_ok hb.2 j (by simpa using h)
      rw [show i + (j + 1) = i + 1 + j by omega]
      exact this
theorem ahead_ok {m : Nat} : ∀ {l : List Nat}, ahead m l = true → ∀ k ∈ l, Nat.testBit m k = true
  | [], _, k, h => by cases h
  | j :: r, hb, k, h => by
    simp only [ahead, Bool.and_eq_true] at hb
    rcases List.mem_cons.1 h with rfl | h
    · exact hb.1
    · exact ahead_ok hb.2 k h
theorem sure_ok {ms : List Nat} {S e k : Nat} : Nat.testBit (sure ms S e) k = true ↔ Nat.testBit S k = true ∨ k = e ∨ Nat.testBit (ms.getD e 0) k = true := by
  unfold sure
  rw [Nat.testBit_or, Nat.testBit_or, Bool.or_eq_true, Bool.or_eq_true, Nat.testBit_two_pow, decide_eq_true_iff, or_assoc]
  constructor
  · rintro (h | h | h)
    · exact .inl h
    · exact .inr (.inl h.symm)
    · exact .inr (.inr h)
  · rintro (h | h | h)
    · exact .inl h
    · exact .inr (.inl h.symm)
    · exact .inr (.inr h)

/-! the end -/
noncomputable def finF (gs : List Nat) (ops : List Oper) : List (Nat × AV) → FT → FT
  | [], fr => fr
  | (i, v) :: r, fr => match nth ops i with
    | some o => match o.dst with
      | some d => match slotOf gs d with
        | some (x, y) => finF gs ops r (FT.set fr x y v)
        | none => finF gs ops r fr
      | none => finF gs ops r fr
    | none => finF gs ops r fr
theorem finD_run {call : Call} {l : List Oper} : ∀ (loc : List (Nat × AV)) (fr : FT) (σ : St), exec call (finD gs l loc) fr σ = .nrm (finF gs l loc fr) σ
  | [], fr, σ => rfl
  | (i, v) :: r, fr, σ => by
    simp only [finD, finF]
    cases nth l i with
    | none => exact finD_run r fr σ
    | some o =>
      dsimp only
      cases o.dst with
      | none => exact finD_run r fr σ
      | some d =>
        dsimp only
        cases slotOf gs d with
        | none => exact finD_run r fr σ
        | some p => obtain ⟨x, y⟩ := p; exact finD_run r _ σ
theorem finF_d {l : List Oper} : ∀ (loc : List (Nat × AV)) (fr : FT), (finF gs l loc fr).d = fr.d
  | [], fr => rfl
  | (i, v) :: r, fr => by
    simp only [finF]
    cases nth l i with
    | none => exact finF_d r fr
    | some o =>
      dsimp only
      cases o.dst with
      | none => exact finF_d r fr
      | some d =>
        dsimp only
        cases slotOf gs d with
        | none => exact finF_d r fr
        | some p => obtain ⟨x, y⟩ := p; rw [finF_d r, FT.set_d]
theorem finF_get {l : List Oper} {t : Nat} {x y : D8} (ht : slotOf gs t = some (x, y)) : ∀ (loc : List (Nat × AV)) (fr : FT),
    (∃ i v o, (i, v) ∈ loc ∧ l[i]? = some o ∧ o.dst = some t ∧ odF x y (finF gs l loc fr) = v) ∨ ((∀ i v, (i, v) ∈ loc → ∀ o, l[i]? = some o → o.dst ≠ some t) ∧ odF x y (finF gs l loc fr) = odF x y fr)
  | [], fr => .inr ⟨fun i v h => (by cases h), rfl⟩
  | (i, v) :: r, fr => by
    have step : ∀ fr', finF gs l ((i, v) :: r) fr = finF gs l r fr' → ((∃ o, l[i]? = some o ∧ o.dst = some t) ∧ odF x y fr' = v) ∨ ((∀ o, l[i]? = some o → o.dst ≠ some t) ∧ odF x y fr' = odF x y fr) →
        (∃ i' v' o, (i', v') ∈ (i, v) :: r ∧ l[i']? = some o ∧ o.dst = some t ∧ odF x y (finF gs l ((i, v) :: r) fr) = v') ∨ ((∀ i' v', (i', v') ∈ (i, v) :: r → ∀ o, l[i']? = some o → o.dst ≠ some t) ∧ odF x y (finF gs l ((i, v) :: r) fr) = odF x y fr) := by
      intro fr' he hc
      rw [he]
      rcases finF_get ht r fr' with ⟨i', v', o, h1, h2, h3, h4⟩ | ⟨h1, h2⟩
      · exact .inl ⟨i', v', o, List.mem_cons.2 (.inr h1), h2, h3, h4⟩
      · rcases hc with ⟨⟨o, g1, g2⟩, g3⟩ | ⟨g1, g2⟩
        · exact .inl ⟨i, v, o, by simp, g1, g2, h2.trans g3⟩
        · refine .inr ⟨fun i' v' hm o ho => ?_, h2.trans g2⟩
          rcases List.mem_cons.1 hm with hm | hm
          · cases hm; exact g1 o ho
          · exact h1 i' v' hm o ho
    cases hn : nth l i with
    | none =>
      refine step fr (by simp only [finF, hn]) (.inr ⟨fun o ho => ?_, rfl⟩)
      rw [nth_eq] at hn; rw [hn] at ho; cases ho
    | some o =>
      have ho : l[i]? = some o := by rw [← nth_eq]; exact hn
      cases hd : o.dst with
      | none =>
        refine step fr (by simp only [finF, hn, hd]) (.inr ⟨fun o' ho' => ?_, rfl⟩)
        rw [ho] at ho'; cases ho'; rw [hd]; simp
      | some d =>
        cases hs : slotOf gs d with
        | none =>
          refine step fr (by simp only [finF, hn, hd, hs]) (.inr ⟨fun o' ho' => ?_, rfl⟩)
          rw [ho] at ho'; cases ho'; rw [hd]; intro e; cases e; rw [hs] at ht; cases ht
        | some p =>
          obtain ⟨x', y'⟩ := p
          refine step (FT.set fr x' y' v) (by simp only [finF, hn, hd, hs]) ?_
          by_cases e : d = t
          · subst e
            rw [hs] at ht; cases ht
            exact .inl ⟨⟨o, ho, hd⟩, by rw [FT.get_set]; simp⟩
          · refine .inr ⟨fun o' ho' => ?_, ?_⟩
            · rw [ho] at ho'; cases ho'; rw [hd]; intro e'; cases e'; exact e rfl
            · rw [FT.get_set, if_neg]
              rintro ⟨rfl, rfl⟩
              exact e (slot_inj hs ht)
theorem finF_ok {loc : List (Nat × AV)} (hnd : loc.Pairwise (fun x y => x.1 ≠ y.1)) (hall : ∀ (i : Nat) (o : Oper), ops[i]? = some o → (vAt i loc).isSome = true) (h : Env ops gs nt ρ fr (fun k => vAt k loc) (fun i => (ops[i]?).isSome = true) (fun _ => True) a) : FR ρ gs nt (finF gs ops.toList loc fr) a := by
  refine ⟨h.size, fun t x y ht => ?_, by rw [finF_d]; exact h.defs⟩
  rcases finF_get (l := ops.toList) ht loc fr with ⟨i, v, o, h1, h2, h3, h4⟩ | ⟨h1, h2⟩
  · rw [h4]
    rw [Array.getElem?_toList] at h2
    obtain ⟨u, g1, g2⟩ := h.val i o t h2 h3 (by rw [h2]; rfl)
    rw [mem_vAt hnd h1] at g1; cases g1
    exact g2
  · rw [h2]
    refine h.slot t x y ht fun i o ho hd _ => ?_
    obtain ⟨v, hv⟩ := Option.isSome_iff_exists.1 (hall i o ho)
    exact h1 i v (vAt_mem hv) o (by rw [Array.getElem?_toList]; exact ho) hd
end
end Go.AE

namespace Go.AE
open Go.RowKit
set_option linter.unusedVariables false
set_option linter.unusedSimpArgs false
variable {ρ : Rho} {base : Bs} {σ σ' : St} {w : World} {P : Program}
section
variable {ops : Array Oper} {gs : List Nat} {nt : Nat} {fr : FT} {a : Act} {D : Nat → Option AV}

/-- a new block, whatever its number -/
theorem al_ok (hr : RegOk ops nt) {loc : List (Nat × AV)} {ms : List Nat} {i : Nat} (hms : ∀ i k, Nat.testBit (ms.getD i 0) k = true → Clo ops i k) (hD : ∀ k v, vAt k loc = some v → D k = some v) {o : Oper} (hi : ops[i]? = some o) {al : Al} (h : alOf P (odD gs ops.toList loc ms i) o = some al) {n : Nat} {cs : List AV} {to : Id → AV}
    (hal : al fr = some ⟨n, cs, to⟩) (b : Id) : AlOK P ops gs nt fr D ⟨i, b, n, cs⟩ (to b) ∧ idOf (to b) = some b := by
  have core : ∀ (hg : o.guard = none), (∀ (ρ : Rho) (w : World) (a : Act), (∀ x d, odD gs ops.toList loc ms i x = some d → VR ρ (d fr) (a.eval x)) → Did P (execOp a.eval o) w fun v' w' => ∃ (c : Array Value) (t : TypeId), c.size = n ∧ cs.length = n ∧ VRs ρ cs c.toList ∧ (∀ d ∈ c.toList, d.oneCell' = true) ∧ w' = w.alloc (.cells c t) ∧
      ∀ ρ' : Rho, ρ' b = some (w.heap.size, 0, n) → VR ρ' (to b) v') → AlOK P ops gs nt fr D ⟨i, b, n, cs⟩ (to b) := by
    intro hg hc D' hD' o' ho' ρ w a he
    have ho' : ops[i]? = some o' := ho'
    rw [hi] at ho'; cases ho'
    exact .inl ⟨by simp [Region.wanted, hg], hc ρ w a fun x d hx => odD_ok hr hms (fun k v hv => hD' k v (hD k v hv)) he x d hx⟩
  unfold alOf at h
  cases hg : o.guard with
  | some g => rw [hg] at h; cases h
  | none =>
    rw [hg] at h
    dsimp only at h
    split at h
    · rename_i t ho
      obtain ⟨z, hz, rfl⟩ := mapL_some h
      unfold alNew at hal
      simp only [Option.some.injEq, AlR.mk.injEq] at hal
      obtain ⟨rfl, rfl, rfl⟩ := hal
      refine ⟨core hg fun ρ w a hv => ?_, rfl⟩
      obtain ⟨v, hrun, hvr, hok⟩ := zero_run hz w
      obtain ⟨q1, q2, q3, q4⟩ := cellsOf_VRs hok (hvr ρ)
      refine .inl ⟨.pointer (some ⟨w.heap.size, 0, none⟩), w.alloc (.cells v.cells t), .inl ?_, v.cells, t, q3.symm, q4, q1, q2, rfl, fun ρ' h => by have := VR.ptr (off := 0) h; simpa using this⟩
      simp [execOp, ho, Instr.alloc, hrun, newVar, newRow]
    · rename_i t x ho
      obtain ⟨d, hx, rfl⟩ := mapL_some h
      unfold alBox at hal
      split at hal
      case h_2 => cases hal
      rename_i hok
      simp only [Option.some.injEq, AlR.mk.injEq] at hal
      obtain ⟨rfl, rfl, rfl⟩ := hal
      refine ⟨core hg fun ρ w a hv => ?_, rfl⟩
      obtain ⟨q1, q2, q3, q4⟩ := cellsOf_VRs hok (hv x d hx)
      refine .inl ⟨.pointer (some ⟨w.heap.size, 0, none⟩), w.alloc (.cells (a.eval x).cells t), .inl ?_, (a.eval x).cells, t, q3.symm, q4, q1, q2, rfl, fun ρ' h => by have := VR.ptr (off := 0) h; simpa using this⟩
      simp [execOp, ho, Instr.box, newVar, newRow]
    · rename_i t len ps ho
      split at h
      case h_2 => cases h
      rename_i el sz hs
      split at h
      case h_2 => cases h
      rename_i z l hz hb hp
      split at h
      case h_2 => cases h
      rename_i hin
      simp only [Option.some.injEq] at h
      subst h
      unfold alSl at hal
      split at hal
      case h_2 => cases hal
      rename_i cs0 hfill
      simp only [Option.some.injEq, AlR.mk.injEq] at hal
      obtain ⟨rfl, rfl, rfl⟩ := hal
      refine ⟨core hg fun ρ w a hv => ?_, rfl⟩
      obtain ⟨hu, hsz⟩ := sliceElem_ok hs
      obtain ⟨zs, q1, q2, q3, q4⟩ := zeros_ok hz w
      obtain ⟨cs', r1, r2, r3, r4⟩ := fill_ok hv ps.toList l z cs0 ((Array.range (len * sz)).map fun i => zs[i % zs.size]!) (placesA_ok ps.toList l hp) (by rw [q2]; exact hin) hfill (q3 ρ) q4
      rw [← parts_map] at r1
      have hsize : cs'.size = len * sz := by rw [r4]; simp
      have hle := ble_le hb
      have hnb : ¬ len * sz > 2 ^ 24 := by omega
      have hr : (Instr.buildSlice t len (ps.map fun (i, x) => (i, a.eval x))).run P w = .ok (.slice (some ⟨w.heap.size, 0, none⟩) len len) (w.alloc (.cells cs' el)) := by
        have r1' : Instr.fill (fun i => some (i * sz, sz)) (Array.map (fun i => zs[i % zs.size]!) (Array.range (len * sz))) (Array.map (fun x => (x.fst, a.eval x.snd)) ps).toList = some cs' := r1
        rcases q1 with ⟨h0, rfl⟩ | ⟨h0, v, q1, rfl⟩
        · simp only [h0] at r1'
          simp only [Instr.buildSlice, Sem.run_bind, run_und hu, run_size hsz, Result.andThen_ok, hnb, h0, if_true, if_false, show ¬ (0 > 2 ^ 24) by omega, Sem.run_bind, Sem.run_pure, r1']
          simp [newRow]
        · simp only [Instr.buildSlice, Sem.run_bind, run_und hu, run_size hsz, Result.andThen_ok, hnb, h0, if_false, q1, Sem.run_pure, r1']
          simp [newRow]
      have := Did.val (P := P) hr (Q := fun v' w' => ∃ (c : Array Value) (t : TypeId), c.size = len * sz ∧ cs0.length = len * sz ∧ VRs ρ cs0 c.toList ∧ (∀ d ∈ c.toList, d.oneCell' = true) ∧ w' = w.alloc (.cells c t) ∧
        ∀ ρ' : Rho, ρ' b = some (w.heap.size, 0, len * sz) → VR ρ' (AV.sl b 0 len len sz) v') ⟨cs', el, hsize, by rw [r2.length]; simpa using hsize, r2, r3, rfl, fun ρ' h => by
          have := VR.sl (off := 0) (len := len) (cap := len) (cap' := len) (esz := sz) h (Nat.le_refl _) (Nat.le_refl _) (by omega)
          simpa using this⟩
      simpa [execOp, ho] using this
    · cases h

/-! two stores -/
theorem noHit_kill {h : H Blk} {b : Id} {p n : Nat} : ∀ {l : Fam}, noHit b p n l = true → killH h b p n l = h ∧ killL b p n l = l
  | [], _ => ⟨rfl, rfl⟩
  | (m, fo, sz) :: r, hh => by
    simp only [noHit, Bool.and_eq_true, Bool.not_eq_true'] at hh
    obtain ⟨h1, h2⟩ := noHit_kill (h := h) hh.2
    simp only [killH, killL, hh.1, h1, h2]
    exact ⟨trivial, trivial⟩
theorem killF_id {b f : Id} {p n : Nat} (h : noHit b p n (H.get σ.fams f) = true) : σ.killF b p n f = σ := by
  unfold St.killF
  obtain ⟨h1, h2⟩ := noHit_kill (h := σ.h) h
  rw [h1, h2, H.set_get]
theorem st_lone {call : Call} {od : Operand → Option Od} {o : Oper} {n : Nat} {d : Od} (hs : stOf P od o = some (n, d)) {b : Id} {off : Nat} (hd : d fr = .ptr b off) (hl : lone σ b off n = true) (hne : cmpI P od o call fr σ K0 ≠ .no) :
    ∃ R, ∀ σ' : St, σ'.getB b = σ.getB b → σ'.fams = σ.fams → cmpI P od o call fr σ' K0 = K0 undefA (σ'.setB b R) := by
  unfold stOf at hs
  split at hs
  case h_2 => cases hs
  rename_i t x1 x2 hst ho
  split at hs
  case h_2 => cases hs
  rename_i n' d' hn ha
  cases hs
  have hc : cmpI P od o = match od x2 with | some x => iStore n d x | none => failI := by
    unfold cmpI cmpOp
    rw [ho]
    dsimp only
    rw [hn, ha]
    cases od x2 <;> rfl
  cases hx : od x2 with
  | none => rw [hc, hx] at hne; exact absurd rfl hne
  | some x =>
    rw [hc, hx] at hne ⊢
    dsimp only at hne ⊢
    have e1 : ∀ σ', iStore n d x call fr σ' K0 = storeK σ' n (x fr) b off K0 := fun σ' => by unfold iStore ptrK; rw [hd]; rfl
    have key : ∀ m vs, (∀ σ', storeK σ' n (x fr) b off K0 = σ'.wr b off m vs fun σ' => K0 undefA σ') → m = n → ∃ R, ∀ σ' : St, σ'.getB b = σ.getB b → σ'.fams = σ.fams → iStore n d x call fr σ' K0 = K0 undefA (σ'.setB b R) := by
      rintro m vs hk rfl
      rw [e1, hk] at hne
      obtain ⟨m', cs, f, fo, hB, hle, heq⟩ := wrB_ne hne
      refine ⟨.row m' (ite2 (Nat.beq m m') vs (putN off vs cs)) f fo, fun σ' hb hf => ?_⟩
      rw [e1, hk]
      have hB' : σ'.getB b = .row m' cs f fo := hb.trans hB
      have e3 : σ'.wr b off m vs (fun σ' => K0 undefA σ') = K0 undefA (St.kill (σ'.setB b (.row m' (ite2 (Nat.beq m m') vs (putN off vs cs)) f fo)) f b (fo + off) m) := by
        unfold St.wr
        rw [hB']
        show ite2 (Nat.ble (off + m) m') _ _ = _
        rw [Nat.ble_eq_true_of_le hle]
        rfl
      rw [e3]
      congr 1
      cases f with
      | none => rfl
      | some f =>
        refine killF_id ?_
        unfold lone at hl
        rw [hB] at hl
        dsimp only at hl
        show noHit b (fo + off) m (H.get σ'.fams f) = true
        rw [hf]
        exact hl
    have e2 := hne
    rw [e1] at e2
    by_cases hag : ∃ m cs, x fr = .agg m cs
    · obtain ⟨m, cs, hx'⟩ := hag
      have e0 : ∀ σ', storeK σ' n (x fr) b off K0 = ite2 (Nat.beq m n) (σ'.wr b off m cs fun σ' => K0 undefA σ') .no := fun σ' => by rw [hx']; rfl
      rw [e0] at e2
      obtain ⟨g1, _⟩ := ite2_ne e2
      exact key m cs (fun σ' => by rw [e0, g1]; rfl) (Nat.eq_of_beq_eq_true g1)
    · have e0 : ∀ σ', storeK σ' n (x fr) b off K0 = ite2 (Nat.beq 1 n && isOne (x fr)) (σ'.wr b off 1 [x fr] fun σ' => K0 undefA σ') .no := fun σ' => by
        generalize x fr = u at hag
        cases u <;> first | rfl | exact absurd ⟨_, _, rfl⟩ hag
      rw [e0] at e2
      obtain ⟨g1, _⟩ := ite2_ne e2
      simp only [Bool.and_eq_true] at g1
      exact key 1 [x fr] (fun σ' => by rw [e0, g1.1, g1.2]; rfl) (Nat.eq_of_beq_eq_true g1.1)
end
end Go.AE

namespace Go.AE
open Go.RowKit
set_option linter.unusedVariables false
set_option linter.unusedSimpArgs false
variable {ρ : Rho} {base : Bs} {σ σ' : St} {w : World} {P : Program}
section
variable {ops : Array Oper} {gs : List Nat} {nt : Nat} {fr : FT}

abbrev Dl (loc : List (Nat × AV)) : Nat → Option AV := fun k => vAt k loc
abbrev Sb (S : Nat) : Nat → Prop := fun k => Nat.testBit S k = true
theorem Dl_cons (i : Nat) (v : AV) (loc : List (Nat × AV)) : Dl ((i, v) :: loc) = ext (Dl loc) i v := by
  funext k; exact vAt_cons
theorem isNone_eq {α : Type} {x : Option α} (h : x.isNone = true) : x = none := by simpa using h

theorem EfOK.mono {D D' : Nat → Option AV} (hD : ∀ k u, D k = some u → D' k = some u) {i : Nat} {v : AV} (h : EfOK P ops gs nt fr D i σ v σ') : EfOK P ops gs nt fr D' i σ v σ' :=
  fun D2 h2 => h D2 fun k u hk => h2 k u (hD k u hk)
theorem AlOK.mono {D D' : Nat → Option AV} (hD : ∀ k u, D k = some u → D' k = some u) {p : Pend} {v : AV} (h : AlOK P ops gs nt fr D p v) : AlOK P ops gs nt fr D' p v :=
  fun D2 h2 => h D2 fun k u hk => h2 k u (hD k u hk)
theorem Apart.uniq {p q : Pend} : ∀ {A : List Pend}, Apart A → p ∈ A → q ∈ A → p.i = q.i → p = q
  | [], _, h, _, _ => by cases h
  | x :: l, hl, hp, hq, he => by
    obtain ⟨k1, k2⟩ := List.pairwise_cons.1 hl
    rcases List.mem_cons.1 hp with e1 | e1 <;> rcases List.mem_cons.1 hq with e2 | e2
    · rw [e1, e2]
    · subst e1; exact absurd he (k1 q e2)
    · subst e2; exact absurd he.symm (k1 p e1)
    · exact Apart.uniq k2 e1 e2 he

structure Nd (P : Program) (ops : Array Oper) (gs : List Nat) (nt : Nat) (fr : FT) (loc : List (Nat × AV)) (S : Nat) (A : List Sa) (As : List Pend) (σ : St) : Prop where
  fl : Fl P ops gs nt fr (Dl loc) (Sb S) As σ
  pa : PA fr A As
  ap : Apart As
  lt : ∀ p ∈ As, p.i < ops.size
  inD : ∀ p ∈ As, (vAt p.i loc).isSome = true
  nd : loc.Pairwise fun x y => x.1 ≠ y.1

/-- a read is looked at again -/
theorem chk_ok (hr : RegOk ops nt) {call : Call} (hcall : CallOK P call) {ms : List Nat} (hms : ∀ i k, Nat.testBit (ms.getD i 0) k = true → Clo ops i k) {loc : List (Nat × AV)} {i : Nat} {f : Ins} {v : AV} (hf : rdAt P gs ops.toList ms loc i = some (f, v)) {k : Kont} (hne : iChk f v call fr σ k ≠ .no) :
    iChk f v call fr σ k = k undefA σ ∧ vAt i loc = some v ∧ EfOK P ops gs nt fr (Dl loc) i σ v σ := by
  unfold rdAt at hf
  split at hf
  case h_2 => cases hf
  rename_i o v' ho hv
  split at hf
  case h_2 => cases hf
  rename_i hrd
  cases hf
  rw [nth_eq, Array.getElem?_toList] at ho
  obtain ⟨u, σ2, h1, h2, h3, h4⟩ := insD_ok (nt := nt) (D := Dl loc) hr hcall hms ho (k := fun v' _ => ite2 (avEq 20 v v') (k undefA σ) .no) (fun k v h => h) hne
  have h4 := h4 hrd
  subst h4
  have hne' : ite2 (avEq 20 v u) (k undefA σ2) .no ≠ .no := fun e => hne (h1.trans e)
  obtain ⟨g1, g2⟩ := ite2_ne hne'
  have := avEq_eq _ _ _ g1
  subst this
  exact ⟨h1.trans g2, hv, h3⟩
theorem chks_ok (hr : RegOk ops nt) {call : Call} (hcall : CallOK P call) {ms : List Nat} (hms : ∀ i k, Nat.testBit (ms.getD i 0) k = true → Clo ops i k) {loc : List (Nat × AV)} {k : Ops} : ∀ (cs : List Nat), exec call (chksD (rdAt P gs ops.toList ms loc) k cs) fr σ ≠ .no →
    exec call (chksD (rdAt P gs ops.toList ms loc) k cs) fr σ = exec call k fr σ ∧ ∀ i ∈ cs, ∃ v, vAt i loc = some v ∧ EfOK P ops gs nt fr (Dl loc) i σ v σ
  | [], hne => ⟨rfl, by simp⟩
  | i :: r, hne => by
    simp only [chksD] at hne ⊢
    cases hf : rdAt P gs ops.toList ms loc i with
    | none => rw [hf] at hne; exact absurd rfl hne
    | some p =>
      obtain ⟨f, v⟩ := p
      rw [hf] at hne
      dsimp only at hne ⊢
      have hne' : iChk f v call fr σ (fun _ σ' => exec call (chksD (rdAt P gs ops.toList ms loc) k r) fr σ') ≠ .no := hne
      obtain ⟨h1, h2, h3⟩ := chk_ok (nt := nt) hr hcall hms hf hne'
      rw [h1] at hne'
      obtain ⟨g1, g2⟩ := chks_ok hr hcall hms r hne'
      refine ⟨(show iChk f v call fr σ (fun _ σ' => exec call (chksD (rdAt P gs ops.toList ms loc) k r) fr σ') = _ from h1.trans g1), fun j hj => ?_⟩
      rcases List.mem_cons.1 hj with rfl | hj
      · exact ⟨v, h2, h3⟩
      · exact g2 j hj
theorem chkL_ok (hr : RegOk ops nt) {call : Call} (hcall : CallOK P call) {ms : List Nat} (hms : ∀ i k, Nat.testBit (ms.getD i 0) k = true → Clo ops i k) {loc : List (Nat × AV)} {x : O} : ∀ (cs : List Nat) (l : List (Ins × AV)), chkO (rdAt P gs ops.toList ms loc) cs = some l → chkL call fr σ x l ≠ .no →
    chkL call fr σ x l = x ∧ ∀ i ∈ cs, ∃ v, vAt i loc = some v ∧ EfOK P ops gs nt fr (Dl loc) i σ v σ
  | [], l, h, hne => by cases h; exact ⟨rfl, by simp⟩
  | i :: r, l, h, hne => by
    simp only [chkO] at h
    split at h
    case h_2 => cases h
    rename_i p l' hf hrest
    cases h
    obtain ⟨f, v⟩ := p
    have hne' : iChk f v call fr σ (fun _ _ => chkL call fr σ x l') ≠ .no := hne
    obtain ⟨h1, h2, h3⟩ := chk_ok (nt := nt) hr hcall hms hf hne'
    rw [h1] at hne'
    obtain ⟨g1, g2⟩ := chkL_ok hr hcall hms r l' hrest hne'
    refine ⟨(show iChk f v call fr σ (fun _ _ => chkL call fr σ x l') = _ from h1.trans g1), fun j hj => ?_⟩
    rcases List.mem_cons.1 hj with rfl | hj
    · exact ⟨v, h2, h3⟩
    · exact g2 j hj

/-- those that may still come, behind a change -/
theorem fl_next {loc : List (Nat × AV)} {S S' : Nat → Prop} {A' : List Sa} {As As' : List Pend} {Sm : Nat} {cs : List Nat} {D' : Nat → Option AV} (fl : Fl P ops gs nt fr (Dl loc) S As σ) (hap : Apart As) (hsub : ∀ p ∈ As', p ∈ As) (hpa : PA fr A' As')
    (hc : covers Sm A' cs loc = true) (hSm : ∀ k, Nat.testBit Sm k = true → S' k) (hS : ∀ k, S k → S' k) (hchk : ∀ i ∈ cs, ∃ v, vAt i loc = some v ∧ EfOK P ops gs nt fr (Dl loc) i σ' v σ')
    (hD : ∀ k u, Dl loc k = some u → D' k = some u) (hD' : ∀ k u, D' k = some u → Dl loc k = some u ∨ S' k) : Fl P ops gs nt fr D' S' As' σ' := by
  intro i v hv hn
  have hv0 : vAt i loc = some v := (hD' i v hv).resolve_right hn
  by_cases hp : ∃ p ∈ As', p.i = i
  · obtain ⟨p, hp, rfl⟩ := hp
    rcases fl p.i v hv0 (fun h => hn (hS _ h)) with ⟨q, hq, hqi, hal⟩ | ⟨h, _⟩
    · have := Apart.uniq hap hq (hsub p hp) hqi
      subst this
      exact .inl ⟨q, hp, rfl, hal.mono hD⟩
    · exact absurd rfl (h p (hsub p hp))
  · rcases covers_ok hc i v (vAt_mem hv0) with h | h | h
    · exact absurd (hSm i h) hn
    · exact absurd (saAt_some hpa h) hp
    · obtain ⟨u, hu, he⟩ := hchk i h
      rw [hv0] at hu; cases hu
      exact .inr ⟨fun p hpA e => hp ⟨p, hpA, e⟩, he.mono hD⟩

theorem pair_ok {call : Call} {n1 n2 : Nat} {d1 d2 : Od} {k : Kont} (hne : iPair n1 d1 n2 d2 call fr σ k ≠ .no) :
    ∃ b1 o1 b2 o2, d1 fr = .ptr b1 o1 ∧ d2 fr = .ptr b2 o2 ∧ b1 ≠ b2 ∧ lone σ b1 o1 n1 = true ∧ lone σ b2 o2 n2 = true ∧ iPair n1 d1 n2 d2 call fr σ k = k undefA σ := by
  obtain ⟨b1, o1, hb1, hx1⟩ := ptrK_ne (show ptrK (d1 fr) _ ≠ .no from hne)
  have hne1 := hne
  rw [show iPair n1 d1 n2 d2 call fr σ k = _ from hx1] at hne1
  obtain ⟨b2, o2, hb2, hx2⟩ := ptrK_ne hne1
  rw [hx2] at hne1
  obtain ⟨g1, hx3⟩ := ite2_ne hne1
  simp only [Bool.and_eq_true, Bool.not_eq_true'] at g1
  obtain ⟨hbb, hl1, hl2⟩ := g1
  have hbne : b1 ≠ b2 := fun h => by
    rw [Id.beq_iff.2 h] at hbb
    cases hbb
  exact ⟨b1, o1, b2, o2, hb1, hb2, hbne, hl1, hl2, (show iPair n1 d1 n2 d2 call fr σ k = _ from hx1).trans (hx2.trans hx3)⟩
theorem inc_fams (b : Id) : St.fams ⟨σ.h, inc b, σ.fams⟩ = σ.fams := rfl

/-- the plan's course -/
theorem pl_ok (hr : RegOk ops nt) {call : Call} (hcall : CallOK P call) {ms : List Nat} (hms : ∀ i k, Nat.testBit (ms.getD i 0) k = true → Clo ops i k) : ∀ (plan : List Pl) (loc : List (Nat × AV)) (S : Nat) (A : List Sa) (As : List Pend) (σ : St), Nd P ops gs nt fr loc S A As σ →
    exec call (cmpPl P gs ops.toList ms plan loc S A) fr σ ≠ .no → ∃ frF σF, exec call (cmpPl P gs ops.toList ms plan loc S A) fr σ = .nrm frF σF ∧ Cov P ops gs nt fr frF σF (Dl loc) (Sb S) As σ
  | [], loc, S, A, As, σ, hN, hne => by
    simp only [cmpPl] at hne ⊢
    cases hd : doneD loc ops.toList 0 with
    | false => rw [hd] at hne; exact absurd rfl hne
    | true =>
      rw [hd] at hne
      dsimp only at hne ⊢
      obtain ⟨h1, h2⟩ := mats_all A As σ hN.pa hne
      rw [h1, finD_run]
      have hall : ∀ (i : Nat) (o : Oper), ops[i]? = some o → (vAt i loc).isSome = true := fun i o ho => by
        have := doneD_ok hd i (by have := (Array.getElem?_eq_some_iff.1 ho).1; simpa using this)
        simpa using this
      exact ⟨_, _, rfl, .fin hall hN.fl hN.ap hN.lt h2 rfl fun ρ a he => finF_ok hN.nd hall he⟩
  | .rd i :: r, loc, S, A, As, σ, hN, hne => by
    simp only [cmpPl] at hne ⊢
    cases ho : nth ops.toList i with
    | none => rw [ho] at hne; exact absurd rfl hne
    | some o =>
      rw [ho] at hne
      dsimp only at hne ⊢
      cases hc : isRd P o && (vAt i loc).isNone with
      | false => rw [hc] at hne; exact absurd rfl hne
      | true =>
        rw [hc] at hne
        dsimp only at hne ⊢
        simp only [Bool.and_eq_true] at hc
        have hnone := isNone_eq hc.2
        rw [nth_eq, Array.getElem?_toList] at ho
        have hne' : reK (insAt P gs ops.toList ms loc i o call fr σ K0) (fun v _ => exec call (cmpPl P gs ops.toList ms r ((i, v) :: loc) S A) fr σ) ≠ .no := hne
        obtain ⟨v, σ2, h1, _, h3, h4⟩ := insD_ok (nt := nt) (D := Dl loc) hr hcall hms ho (fun k v h => h) hne'
        have h4 := h4 hc.1
        subst h4
        rw [h1] at hne'
        have hext := ext_le (D := Dl loc) v hnone
        rw [← Dl_cons] at hext
        have hA : ∀ p ∈ As, p.i ≠ i := fun p hp e => by have := hN.inD p hp; rw [e, hnone] at this; cases this
        have hN' : Nd P ops gs nt fr ((i, v) :: loc) S A As σ2 := by
          refine ⟨fun k u hk hS => ?_, hN.pa, hN.ap, hN.lt, fun p hp => ?_, List.pairwise_cons.2 ⟨fun x hx e => ?_, hN.nd⟩⟩
          · rw [Dl_cons] at hk
            by_cases e : k = i
            · subst e
              simp [ext] at hk; subst hk
              exact .inr ⟨hA, h3.mono hext⟩
            · simp [ext, e] at hk
              rcases hN.fl k u hk hS with ⟨p, hp, hpi, hal⟩ | ⟨h, he⟩
              · exact .inl ⟨p, hp, hpi, hal.mono hext⟩
              · exact .inr ⟨h, he.mono hext⟩
          · obtain ⟨u, hu⟩ := Option.isSome_iff_exists.1 (hN.inD p hp)
            exact Option.isSome_iff_exists.2 ⟨_, hext _ _ hu⟩
          · obtain ⟨k, u⟩ := x
            have := mem_vAt hN.nd hx
            rw [← (show i = k from e), hnone] at this; cases this
        obtain ⟨frF, σF, q1, q2⟩ := pl_ok hr hcall hms r ((i, v) :: loc) S A As σ2 hN' hne'
        exact ⟨frF, σF, (show reK (insAt P gs ops.toList ms loc i o call fr σ2 K0) (fun v _ => exec call (cmpPl P gs ops.toList ms r ((i, v) :: loc) S A) fr σ2) = _ from h1.trans q1), .grow hext q2⟩
  | .rs i cs :: r, loc, S, A, As, σ, hN, hne => by
    simp only [cmpPl] at hne ⊢
    cases ho : nth ops.toList i with
    | none => rw [ho] at hne; exact absurd rfl hne
    | some o =>
      rw [ho] at hne
      dsimp only at hne ⊢
      cases hal : alOf P (odD gs ops.toList loc ms i) o with
      | none => rw [hal] at hne; exact absurd rfl hne
      | some al =>
        cases hc : (vAt i loc).isNone && covers S A cs loc with
        | false => rw [hal, hc] at hne; exact absurd rfl hne
        | true =>
          rw [hal, hc] at hne
          dsimp only at hne ⊢
          simp only [Bool.and_eq_true] at hc
          have hnone := isNone_eq hc.1
          rw [nth_eq, Array.getElem?_toList] at ho
          have hne' : alK (al fr) (fun _ _ mk => Option.rec .no (fun b => exec call (chksD (rdAt P gs ops.toList ms loc) (cmpPl P gs ops.toList ms r ((i, mk b) :: loc) S (⟨i, al, mk b⟩ :: A)) cs) fr ⟨σ.h, inc b, σ.fams⟩) σ.next) ≠ .no := hne
          obtain ⟨n, cells, to, ha, hae⟩ := alK_ne hne'
          rw [hae] at hne'
          cases hn : σ.next with
          | none => rw [hn] at hne'; exact absurd rfl hne'
          | some b =>
            rw [hn] at hne' hae
            have hne2 : exec call (chksD (rdAt P gs ops.toList ms loc) (cmpPl P gs ops.toList ms r ((i, to b) :: loc) S (⟨i, al, to b⟩ :: A)) cs) fr ⟨σ.h, inc b, σ.fams⟩ ≠ .no := hne'
            obtain ⟨c1, c2⟩ := chks_ok (nt := nt) hr hcall hms cs hne2
            have hext := ext_le (D := Dl loc) (to b) hnone
            rw [← Dl_cons] at hext
            obtain ⟨a1, a2⟩ := al_ok (nt := nt) (fr := fr) (D := Dl loc) hr hms (fun k v h => h) ho hal ha b
            have hlt : i < ops.size := (Array.getElem?_eq_some_iff.1 ho).1
            have hA : ∀ p ∈ As, p.i ≠ i := fun p hp e => by have := hN.inD p hp; rw [e, hnone] at this; cases this
            have fl' : Fl P ops gs nt fr (Dl loc) (Sb S) As ⟨σ.h, inc b, σ.fams⟩ := fl_next (S := Sb S) (As := As) (A' := A) (Sm := S) hN.fl hN.ap (fun p hp => hp) hN.pa hc.2 (fun k hk => hk) (fun k hk => hk) c2 (fun k u h => h) (fun k u h => .inl h)
            have hN' : Nd P ops gs nt fr ((i, to b) :: loc) S (⟨i, al, to b⟩ :: A) (⟨i, b, n, cells⟩ :: As) ⟨σ.h, inc b, σ.fams⟩ := by
              refine ⟨fun k u hk hS => ?_, .cons rfl ⟨to, ha⟩ a2 hN.pa, List.pairwise_cons.2 ⟨fun q hq e => hA q hq e.symm, hN.ap⟩, fun p hp => ?_, fun p hp => ?_, List.pairwise_cons.2 ⟨fun x hx e => ?_, hN.nd⟩⟩
              · rw [Dl_cons] at hk
                by_cases e : k = i
                · subst e
                  simp [ext] at hk; subst hk
                  exact .inl ⟨⟨k, b, n, cells⟩, by simp, rfl, a1.mono hext⟩
                · simp [ext, e] at hk
                  rcases fl' k u hk hS with ⟨p, hp, hpi, hal⟩ | ⟨h, he⟩
                  · exact .inl ⟨p, by simp [hp], hpi, hal.mono hext⟩
                  · refine .inr ⟨fun p hp => ?_, he.mono hext⟩
                    rcases List.mem_cons.1 hp with rfl | hp
                    · exact fun e' => e e'.symm
                    · exact h p hp
              · rcases List.mem_cons.1 hp with rfl | hp
                · exact hlt
                · exact hN.lt p hp
              · rcases List.mem_cons.1 hp with rfl | hp
                · show (vAt i ((i, to b) :: loc)).isSome = true
                  rw [vAt_cons]; simp
                · obtain ⟨u, hu⟩ := Option.isSome_iff_exists.1 (hN.inD p hp)
                  exact Option.isSome_iff_exists.2 ⟨_, hext _ _ hu⟩
              · obtain ⟨k, u⟩ := x
                have := mem_vAt hN.nd hx
                rw [← (show i = k from e), hnone] at this; cases this
            rw [c1] at hne2
            obtain ⟨frF, σF, q1, q2⟩ := pl_ok hr hcall hms r _ S _ _ _ hN' hne2
            refine ⟨frF, σF, ?_, ?_⟩
            · show alK (al fr) (fun _ _ mk => Option.rec .no (fun b => exec call (chksD (rdAt P gs ops.toList ms loc) (cmpPl P gs ops.toList ms r ((i, mk b) :: loc) S (⟨i, al, mk b⟩ :: A)) cs) fr ⟨σ.h, inc b, σ.fams⟩) σ.next) = _
              rw [hn, hae]
              exact c1.trans q1
            · refine .resv (p := ⟨i, b, n, cells⟩) (v := to b) hn hnone ?_
              have := q2
              rw [Dl_cons] at this
              exact this
  | .ef e mt cs :: r, loc, S, A, As, σ, hN, hne => by
    simp only [cmpPl] at hne ⊢
    cases ho : nth ops.toList e with
    | none => rw [ho] at hne; exact absurd rfl hne
    | some o =>
      rw [ho] at hne
      dsimp only at hne ⊢
      cases hc : (vAt e loc).isNone && (ahead (ms.getD e 0) mt && blocked loc e ops.toList 0) with
      | false => rw [hc] at hne; exact absurd rfl hne
      | true =>
        rw [hc] at hne
        dsimp only at hne ⊢
        simp only [Bool.and_eq_true] at hc
        have hnone := isNone_eq hc.1
        rw [nth_eq, Array.getElem?_toList] at ho
        obtain ⟨M, A', As', m1, m2, m3, m4, m5, m6⟩ := mats_run mt A As σ hN.pa hN.ap hne
        rw [m1] at hne ⊢
        cases hcv : covers (sure ms S e) A' cs loc with
        | false => rw [hcv] at hne; exact absurd rfl hne
        | true =>
          rw [hcv] at hne
          dsimp only at hne ⊢
          have hne' : reK (insAt P gs ops.toList ms loc e o call fr (matS σ M) K0) (fun v σ' => exec call (chksD (rdAt P gs ops.toList ms ((e, v) :: loc)) (cmpPl P gs ops.toList ms r ((e, v) :: loc) (sure ms S e) A') cs) fr σ') ≠ .no := hne
          obtain ⟨v, σ2, h1, _, h3, _⟩ := insD_ok (nt := nt) (D := Dl loc) hr hcall hms ho (fun k v h => h) hne'
          rw [h1] at hne'
          obtain ⟨c1, c2⟩ := chks_ok (nt := nt) hr hcall hms cs hne'
          rw [c1] at hne'
          have hext := ext_le (D := Dl loc) v hnone
          rw [← Dl_cons] at hext
          have hA : ∀ p ∈ As, p.i ≠ e := fun p hp h => by have := hN.inD p hp; rw [h, hnone] at this; cases this
          have hsub : ∀ p ∈ As', p ∈ As := fun p hp => (m3 p).2 (.inr hp)
          have hN' : Nd P ops gs nt fr ((e, v) :: loc) (sure ms S e) A' As' σ2 := by
            refine ⟨fun i u hk hS => ?_, m2, (List.pairwise_append.1 m4).2.1, fun p hp => hN.lt p (hsub p hp), fun p hp => ?_, List.pairwise_cons.2 ⟨fun x hx h => ?_, hN.nd⟩⟩
            · have hie : i ≠ e := fun h => hS (sure_ok.2 (.inr (.inl h)))
              have hk0 : vAt i loc = some u := by rw [Dl_cons] at hk; simpa [ext, hie] using hk
              by_cases hp : ∃ p ∈ As', p.i = i
              · obtain ⟨p, hp, rfl⟩ := hp
                rcases hN.fl p.i u hk0 (fun h => hS (sure_ok.2 (.inl h))) with ⟨q, hq, hqi, hal⟩ | ⟨h, _⟩
                · have := Apart.uniq hN.ap hq (hsub p hp) hqi
                  subst this
                  exact .inl ⟨q, hp, rfl, hal.mono hext⟩
                · exact absurd rfl (h p (hsub p hp))
              · rcases covers_ok hcv i u (vAt_mem hk0) with h | h | h
                · exact absurd h hS
                · exact absurd (saAt_some m2 h) hp
                · obtain ⟨u', hu, he⟩ := c2 i h
                  rw [vAt_cons, if_neg hie, hk0] at hu; cases hu
                  exact .inr ⟨fun p hpA e => hp ⟨p, hpA, e⟩, he⟩
            · obtain ⟨u, hu⟩ := Option.isSome_iff_exists.1 (hN.inD p (hsub p hp))
              exact Option.isSome_iff_exists.2 ⟨_, hext _ _ hu⟩
            · obtain ⟨k, u⟩ := x
              have := mem_vAt hN.nd hx
              rw [← (show e = k from h), hnone] at this; cases this
          obtain ⟨frF, σF, q1, q2⟩ := pl_ok hr hcall hms r _ _ A' As' σ2 hN' hne'
          refine ⟨frF, σF, (show reK (insAt P gs ops.toList ms loc e o call fr (matS σ M) K0) (fun v σ' => exec call (chksD (rdAt P gs ops.toList ms ((e, v) :: loc)) (cmpPl P gs ops.toList ms r ((e, v) :: loc) (sure ms S e) A') cs) fr σ') = _ from h1.trans (c1.trans q1)), ?_⟩
          rw [Dl_cons] at q2
          have only : ∀ e', Rdy ops (Dl loc) e' → e' = e := by
            rintro e' ⟨o', g1, g2, g3⟩
            rcases blocked_ok hc.2.2 e' o' (by rw [Array.getElem?_toList]; exact g1) with h | h | ⟨k, hk, hkn⟩
            · simpa using h
            · rw [Nat.zero_add, show vAt e' loc = none from g2] at h; cases h
            · have := g3 k hk; rw [show Dl loc k = none from hkn] at this; cases this
          refine .step ⟨e, o, ho, hnone⟩ hN.fl hN.ap (fun _ => M) (fun _ => As') (fun _ => v) (fun _ => σ2) (fun _ => Sb (sure ms S e)) (fun e' he' => ?_) (fun e' he' => ?_)
          · have := only e' he'; subst this
            refine ⟨m3, m4, fun p hp => hms _ _ (ahead_ok hc.2.1 _ (m6 p hp)), m5, h3, hA, fun k hk => ?_⟩
            rcases sure_ok.1 hk with h | h | h
            · exact .inl h
            · exact .inr (.inl h)
            · exact .inr (.inr (hms _ _ h))
          · have := only e' he'; subst this
            exact q2
  | .e2 e f mt c1 c2 c :: r, loc, S, A, As, σ, hN, hne => by
    simp only [cmpPl] at hne ⊢
    cases ho : nth ops.toList e with
    | none => rw [ho] at hne; exact absurd rfl hne
    | some o =>
    cases hq : nth ops.toList f with
    | none => rw [ho, hq] at hne; exact absurd rfl hne
    | some q =>
    rw [ho, hq] at hne
    dsimp only at hne ⊢
    cases hs1 : stOf P (odD gs ops.toList loc ms e) o with
    | none => rw [hs1] at hne; exact absurd rfl hne
    | some p1 =>
    cases hs2 : stOf P (odD gs ops.toList loc ms f) q with
    | none => rw [hs1, hs2] at hne; exact absurd rfl hne
    | some p2 =>
    obtain ⟨n1, d1⟩ := p1
    obtain ⟨n2, d2⟩ := p2
    rw [hs1, hs2] at hne
    dsimp only at hne ⊢
    cases hc : (((vAt e loc).isNone && (vAt f loc).isNone) && !(Nat.beq e f)) && ((ahead (ms.getD e 0) mt && ahead (ms.getD f 0) mt) && (blocked ((f, undefA) :: loc) e ops.toList 0 && blocked ((e, undefA) :: loc) f ops.toList 0)) with
    | false => rw [hc] at hne; exact absurd rfl hne
    | true =>
    rw [hc] at hne
    dsimp only at hne ⊢
    simp only [Bool.and_eq_true, Bool.not_eq_true'] at hc
    obtain ⟨⟨⟨he0, hf0⟩, hef⟩, ⟨hme, hmf⟩, hbe, hbf⟩ := hc
    have hen := isNone_eq he0
    have hfn := isNone_eq hf0
    have hne0 : e ≠ f := fun h => by subst h; simp at hef
    rw [nth_eq, Array.getElem?_toList] at ho hq
    obtain ⟨M, A', As', m1, m2, m3, m4, m5, m6⟩ := mats_run mt A As σ hN.pa hN.ap hne
    rw [m1] at hne ⊢
    generalize hσ0 : matS σ M = σ0 at hne ⊢
    cases hcv : covers (sure ms S e) A' c1 loc && (covers (sure ms S f) A' c2 loc && covers (sure ms (sure ms S e) f) A' c loc) with
    | false => rw [hcv] at hne; exact absurd rfl hne
    | true =>
    cases hl : chkO (rdAt P gs ops.toList ms loc) c2 with
    | none => rw [hcv, hl] at hne; exact absurd rfl hne
    | some l =>
    rw [hcv, hl] at hne
    dsimp only at hne ⊢
    simp only [Bool.and_eq_true] at hcv
    obtain ⟨hv1, hv2, hv3⟩ := hcv
    -- the two addresses
    let K1 : Ops := .x (iEf (insAt P gs ops.toList ms loc e o)) (chksD (rdAt P gs ops.toList ms loc) (.x (iEf (insAt P gs ops.toList ms loc f q))
              (chksD (rdAt P gs ops.toList ms loc) (cmpPl P gs ops.toList ms r ((f, undefA) :: (e, undefA) :: loc) (sure ms (sure ms S e) f) A') c)) c1)
    have hneP : iPair n1 d1 n2 d2 call fr σ0 (fun _ σ' => iSide (insAt P gs ops.toList ms loc f q) l call fr σ' (fun _ σ' => exec call K1 fr σ')) ≠ .no := hne
    obtain ⟨b1, o1, b2, o2, hb1, hb2, hbne, hl1, hl2, hP⟩ := pair_ok hneP
    rw [hP] at hneP
    have hneS : iSide (insAt P gs ops.toList ms loc f q) l call fr σ0 (fun _ σ' => exec call K1 fr σ') ≠ .no := hneP
    have insE : ∀ loc', insAt P gs ops.toList ms loc' e o = cmpI P (odD gs ops.toList loc' ms e) o := by
      intro loc'
      have : o.guard = none := by
        unfold stOf at hs1
        split at hs1
        · rename_i hst _
          unfold isSt at hst
          split at hst
          · assumption
          · cases hst
        · cases hs1
      unfold insAt insD; rw [this]
    have insF : ∀ loc', insAt P gs ops.toList ms loc' f q = cmpI P (odD gs ops.toList loc' ms f) q := by
      intro loc'
      have : q.guard = none := by
        unfold stOf at hs2
        split at hs2
        · rename_i hst _
          unfold isSt at hst
          split at hst
          · assumption
          · cases hst
        · cases hs2
      unfold insAt insD; rw [this]
    -- f at σ0
    have hneF : reK (insAt P gs ops.toList ms loc f q call fr σ0 K0) (fun _ σ2 => chkL call fr σ2 (exec call K1 fr σ0) l) ≠ .no := hneS
    obtain ⟨R2, hR2⟩ := st_lone (call := call) (fr := fr) hs2 hb2 hl2 (by
      rw [← insF]; intro h; rw [h] at hneF; exact hneF rfl)
    have hF0 := hR2 σ0 rfl rfl
    rw [← insF] at hF0
    obtain ⟨vF, σF2, hF1, hF2, hF3, _⟩ := insD_ok (nt := nt) (D := Dl loc) hr hcall hms hq (fun k v h => h) hneF
    have hvF : vF = undefA ∧ σF2 = σ0.setB b2 R2 := by
      have := hF2 K0
      rw [hF0] at this
      have h2 : K0 undefA (σ0.setB b2 R2) = K0 vF σF2 := this
      unfold K0 at h2; cases h2; exact ⟨rfl, rfl⟩
    obtain ⟨rfl, rfl⟩ := hvF
    rw [hF1] at hneF
    obtain ⟨k1, k2⟩ := chkL_ok (nt := nt) hr hcall hms c2 l hl hneF
    rw [k1] at hneF
    -- e at σ0
    have hneE : reK (insAt P gs ops.toList ms loc e o call fr σ0 K0) (fun _ σ' => exec call (chksD (rdAt P gs ops.toList ms loc) (.x (iEf (insAt P gs ops.toList ms loc f q))
              (chksD (rdAt P gs ops.toList ms loc) (cmpPl P gs ops.toList ms r ((f, undefA) :: (e, undefA) :: loc) (sure ms (sure ms S e) f) A') c)) c1) fr σ') ≠ .no := hneF
    obtain ⟨R1, hR1⟩ := st_lone (call := call) (fr := fr) hs1 hb1 hl1 (by
      rw [← insE]; intro h; rw [h] at hneE; exact hneE rfl)
    have hE0 := hR1 σ0 rfl rfl
    rw [← insE] at hE0
    obtain ⟨vE, σE2, hE1, hE2, hE3, _⟩ := insD_ok (nt := nt) (D := Dl loc) hr hcall hms ho (fun k v h => h) hneE
    have hvE : vE = undefA ∧ σE2 = σ0.setB b1 R1 := by
      have := hE2 K0
      rw [hE0] at this
      have h2 : K0 undefA (σ0.setB b1 R1) = K0 vE σE2 := this
      unfold K0 at h2; cases h2; exact ⟨rfl, rfl⟩
    obtain ⟨rfl, rfl⟩ := hvE
    rw [hE1] at hneE
    obtain ⟨j1, j2⟩ := chks_ok (nt := nt) hr hcall hms c1 hneE
    rw [j1] at hneE
    -- f at σ0, e done
    have hneFE : reK (insAt P gs ops.toList ms loc f q call fr (σ0.setB b1 R1) K0) (fun _ σ' => exec call
              (chksD (rdAt P gs ops.toList ms loc) (cmpPl P gs ops.toList ms r ((f, undefA) :: (e, undefA) :: loc) (sure ms (sure ms S e) f) A') c) fr σ') ≠ .no := hneE
    have hFE0 := hR2 (σ0.setB b1 R1) (H.get_set_ne _ _ hbne) rfl
    rw [← insF] at hFE0
    obtain ⟨vG, σG2, hG1, hG2, hG3, _⟩ := insD_ok (nt := nt) (D := Dl loc) hr hcall hms hq (fun k v h => h) hneFE
    have hvG : vG = undefA ∧ σG2 = (σ0.setB b1 R1).setB b2 R2 := by
      have := hG2 K0
      rw [hFE0] at this
      have h2 : K0 undefA ((σ0.setB b1 R1).setB b2 R2) = K0 vG σG2 := this
      unfold K0 at h2; cases h2; exact ⟨rfl, rfl⟩
    obtain ⟨rfl, rfl⟩ := hvG
    rw [hG1] at hneFE
    obtain ⟨i1, i2⟩ := chks_ok (nt := nt) hr hcall hms c hneFE
    rw [i1] at hneFE
    -- e at σ0, f done
    have hcomm : (σ0.setB b2 R2).setB b1 R1 = (σ0.setB b1 R1).setB b2 R2 := by
      unfold St.setB
      simp only [hput_eq]
      rw [H.set_comm _ (Ne.symm hbne)]
    have hEF0 := hR1 (σ0.setB b2 R2) (H.get_set_ne _ _ (Ne.symm hbne)) rfl
    rw [← insE] at hEF0
    obtain ⟨vH, σH2, hH1, hH2, hH3, _⟩ := insD_ok (nt := nt) (D := Dl loc) (fr := fr) (σ := σ0.setB b2 R2) (k := K0) hr hcall hms ho (fun k v h => h) (by rw [hEF0]; simp [reK, K0, reF, reL])
    have hvH : vH = undefA ∧ σH2 = (σ0.setB b1 R1).setB b2 R2 := by
      have := hH2 K0
      rw [hEF0, hcomm] at this
      have h2 : K0 undefA ((σ0.setB b1 R1).setB b2 R2) = K0 vH σH2 := this
      unfold K0 at h2; cases h2; exact ⟨rfl, rfl⟩
    obtain ⟨rfl, rfl⟩ := hvH
    -- what is known from here on
    have hsub : ∀ p ∈ As', p ∈ As := fun p hp => (m3 p).2 (.inr hp)
    have hapA' : Apart As' := (List.pairwise_append.1 m4).2.1
    have hAe : ∀ p ∈ As, p.i ≠ e := fun p hp h => by have := hN.inD p hp; rw [h, hen] at this; cases this
    have hAf : ∀ p ∈ As, p.i ≠ f := fun p hp h => by have := hN.inD p hp; rw [h, hfn] at this; cases this
    have hDe : ∀ k u, Dl loc k = some u → ext (Dl loc) e undefA k = some u := ext_le undefA hen
    have hDf : ∀ k u, Dl loc k = some u → ext (Dl loc) f undefA k = some u := ext_le undefA hfn
    have hfe : ext (Dl loc) e undefA f = none := by simp [ext, Ne.symm hne0]; exact hfn
    have hef' : ext (Dl loc) f undefA e = none := by simp [ext, hne0]; exact hen
    have hDef : ∀ k u, Dl loc k = some u → ext (ext (Dl loc) e undefA) f undefA k = some u := fun k u h => ext_le undefA hfe k u (hDe k u h)
    have hswap : ext (ext (Dl loc) f undefA) e undefA = ext (ext (Dl loc) e undefA) f undefA := by
      funext k
      unfold ext
      by_cases h1 : k = e
      · subst h1; simp [hne0]
      · simp [h1]
    have hD2 : Dl ((f, undefA) :: (e, undefA) :: loc) = ext (ext (Dl loc) e undefA) f undefA := by rw [Dl_cons, Dl_cons]
    have flE : Fl P ops gs nt fr (ext (Dl loc) e undefA) (Sb (sure ms S e)) As' (σ0.setB b1 R1) :=
      fl_next hN.fl hN.ap hsub m2 hv1 (fun k hk => hk) (fun k hk => sure_ok.2 (.inl hk)) j2 hDe (fun k u h => by
        by_cases hk : k = e
        · exact .inr (sure_ok.2 (.inr (.inl hk)))
        · simp [ext, hk] at h; exact .inl h)
    have flF : Fl P ops gs nt fr (ext (Dl loc) f undefA) (Sb (sure ms S f)) As' (σ0.setB b2 R2) :=
      fl_next hN.fl hN.ap hsub m2 hv2 (fun k hk => hk) (fun k hk => sure_ok.2 (.inl hk)) k2 hDf (fun k u h => by
        by_cases hk : k = f
        · exact .inr (sure_ok.2 (.inr (.inl hk)))
        · simp [ext, hk] at h; exact .inl h)
    have flEF : Fl P ops gs nt fr (ext (ext (Dl loc) e undefA) f undefA) (Sb (sure ms (sure ms S e) f)) As' ((σ0.setB b1 R1).setB b2 R2) :=
      fl_next hN.fl hN.ap hsub m2 hv3 (fun k hk => hk) (fun k hk => sure_ok.2 (.inl (sure_ok.2 (.inl hk)))) i2 hDef (fun k u h => by
        by_cases hk : k = f
        · exact .inr (sure_ok.2 (.inr (.inl hk)))
        · by_cases hk' : k = e
          · exact .inr (sure_ok.2 (.inl (sure_ok.2 (.inr (.inl hk')))))
          · simp [ext, hk, hk'] at h; exact .inl h)
    have hN' : Nd P ops gs nt fr ((f, undefA) :: (e, undefA) :: loc) (sure ms (sure ms S e) f) A' As' ((σ0.setB b1 R1).setB b2 R2) := by
      refine ⟨by rw [hD2]; exact flEF, m2, hapA', fun p hp => hN.lt p (hsub p hp), fun p hp => ?_, List.pairwise_cons.2 ⟨fun x hx h => ?_, List.pairwise_cons.2 ⟨fun x hx h => ?_, hN.nd⟩⟩⟩
      · obtain ⟨u, hu⟩ := Option.isSome_iff_exists.1 (hN.inD p (hsub p hp))
        have := hDef _ _ hu
        rw [← hD2] at this
        exact Option.isSome_iff_exists.2 ⟨_, this⟩
      · obtain ⟨k, u⟩ := x
        have h : f = k := h
        rcases List.mem_cons.1 hx with hx | hx
        · cases hx; exact hne0 h.symm
        · have := mem_vAt hN.nd hx
          rw [← h, hfn] at this; cases this
      · obtain ⟨k, u⟩ := x
        have h : e = k := h
        have := mem_vAt hN.nd hx
        rw [← h, hen] at this; cases this
    obtain ⟨frF, σF, q1, q2⟩ := pl_ok hr hcall hms r _ _ A' As' _ hN' hneFE
    rw [hD2] at q2
    refine ⟨frF, σF, ?_, ?_⟩
    · show iPair n1 d1 n2 d2 call fr σ0 (fun _ σ' => iSide (insAt P gs ops.toList ms loc f q) l call fr σ' (fun _ σ' => exec call K1 fr σ')) = _
      rw [hP]
      refine (show iSide (insAt P gs ops.toList ms loc f q) l call fr σ0 (fun _ σ' => exec call K1 fr σ') = _ from hF1.trans k1).trans ?_
      refine (show exec call K1 fr σ0 = _ from hE1.trans j1).trans ?_
      exact hG1.trans (i1.trans q1)
    · have isE : ∀ e', Rdy ops (Dl loc) e' → e' ≠ f → e' = e := by
        rintro e' ⟨o', g1, g2, g3⟩ hne'
        rcases blocked_ok hbe e' o' (by rw [Array.getElem?_toList]; exact g1) with h | h | ⟨k, hk, hkn⟩
        · simpa using h
        · rw [Nat.zero_add, vAt_cons, if_neg hne', show vAt e' loc = none from g2] at h; cases h
        · rw [vAt_cons] at hkn
          split at hkn
          · cases hkn
          · have := g3 k hk; rw [show Dl loc k = none from hkn] at this; cases this
      have isE2 : ∀ e', Rdy ops (ext (Dl loc) f undefA) e' → e' = e := by
        rintro e' ⟨o', g1, g2, g3⟩
        rcases blocked_ok hbe e' o' (by rw [Array.getElem?_toList]; exact g1) with h | h | ⟨k, hk, hkn⟩
        · simpa using h
        · rw [Nat.zero_add, show vAt e' ((f, undefA) :: loc) = none by rw [show vAt e' ((f, undefA) :: loc) = Dl ((f, undefA) :: loc) e' from rfl, Dl_cons]; exact g2] at h; cases h
        · have := g3 k hk
          rw [← Dl_cons, show Dl ((f, undefA) :: loc) k = none from hkn] at this; cases this
      have isF2 : ∀ e', Rdy ops (ext (Dl loc) e undefA) e' → e' = f := by
        rintro e' ⟨o', g1, g2, g3⟩
        rcases blocked_ok hbf e' o' (by rw [Array.getElem?_toList]; exact g1) with h | h | ⟨k, hk, hkn⟩
        · simpa using h
        · rw [Nat.zero_add, show vAt e' ((e, undefA) :: loc) = none by rw [show vAt e' ((e, undefA) :: loc) = Dl ((e, undefA) :: loc) e' from rfl, Dl_cons]; exact g2] at h; cases h
        · have := g3 k hk
          rw [← Dl_cons, show Dl ((e, undefA) :: loc) k = none from hkn] at this; cases this
      have covE : Cov P ops gs nt fr frF σF (ext (Dl loc) e undefA) (Sb (sure ms S e)) As' (σ0.setB b1 R1) := by
        refine .step ⟨f, q, hq, hfe⟩ flE hapA' (fun _ => []) (fun _ => As') (fun _ => undefA) (fun _ => (σ0.setB b1 R1).setB b2 R2) (fun _ => Sb (sure ms (sure ms S e) f)) (fun e' he' => ?_) (fun e' he' => ?_)
        · have := isF2 e' he'; subst this
          refine ⟨fun p => by simp, by simpa using hapA', by simp, trivial, hG3.mono hDe, fun p hp => hAf p (hsub p hp), fun k hk => ?_⟩
          rcases sure_ok.1 hk with h | h | h
          · exact .inl h
          · exact .inr (.inl h)
          · exact .inr (.inr (hms _ _ h))
        · have := isF2 e' he'; subst this
          exact q2
      have covF : Cov P ops gs nt fr frF σF (ext (Dl loc) f undefA) (Sb (sure ms S f)) As' (σ0.setB b2 R2) := by
        refine .step ⟨e, o, ho, hef'⟩ flF hapA' (fun _ => []) (fun _ => As') (fun _ => undefA) (fun _ => (σ0.setB b1 R1).setB b2 R2) (fun _ => Sb (sure ms (sure ms S e) f)) (fun e' he' => ?_) (fun e' he' => ?_)
        · have := isE2 e' he'; subst this
          refine ⟨fun p => by simp, by simpa using hapA', by simp, trivial, hH3.mono hDf, fun p hp => hAe p (hsub p hp), fun k hk => ?_⟩
          rcases sure_ok.1 hk with h | h | h
          · rcases sure_ok.1 h with h | h | h
            · exact .inl (sure_ok.2 (.inl h))
            · exact .inr (.inl h)
            · exact .inr (.inr (hms _ _ h))
          · exact .inl (sure_ok.2 (.inr (.inl h)))
          · exact .inl (sure_ok.2 (.inr (.inr h)))
        · have := isE2 e' he'; subst this
          rw [hswap]
          exact q2
      subst hσ0
      refine .step ⟨e, o, ho, hen⟩ hN.fl hN.ap (fun _ => M) (fun _ => As') (fun _ => undefA) (fun x => if x = f then (matS σ M).setB b2 R2 else (matS σ M).setB b1 R1) (fun x => if x = f then Sb (sure ms S f) else Sb (sure ms S e)) (fun e' he' => ?_) (fun e' he' => ?_)
      · by_cases h : e' = f
        · subst h
          simp only [if_true]
          refine ⟨m3, m4, fun p hp => hms _ _ (ahead_ok hmf _ (m6 p hp)), m5, hF3, hAf, fun k hk => ?_⟩
          rcases sure_ok.1 hk with h | h | h
          · exact .inl h
          · exact .inr (.inl h)
          · exact .inr (.inr (hms _ _ h))
        · have := isE e' he' h; subst this
          simp only [h, if_false]
          refine ⟨m3, m4, fun p hp => hms _ _ (ahead_ok hme _ (m6 p hp)), m5, hE3, hAe, fun k hk => ?_⟩
          rcases sure_ok.1 hk with h | h | h
          · exact .inl h
          · exact .inr (.inl h)
          · exact .inr (.inr (hms _ _ h))
      · by_cases h : e' = f
        · subst h
          simp only [if_true]
          exact covF
        · have := isE e' he' h; subst this
          simp only [h, if_false]
          exact covE
end
end Go.AE

namespace Go.AE
open Go.RowKit
set_option linter.unusedVariables false
set_option linter.unusedSimpArgs false
variable {ρ : Rho} {base : Bs} {σ σ' : St} {w : World} {P : Program}

theorem LocR.nil {gs : List Nat} {fr : FT} {a : Act} : LocR ρ gs [] fr a := ⟨fun _ _ h => (by cases h), fun _ _ h => (by cases h)⟩

theorem draw_ok (hm : P.follows .mixedOrders = true) {call : Call} (hcall : CallOK P call) {gs : List Nat} {nt : Nat} {id : Nat} {ops : Array Oper} {fr : FT} {a : Act} (hne : exec call (cmpDraw P gs nt ops.toList) fr σ ≠ .no) (hw : WR ρ base σ w) (hf : FR ρ gs nt fr a) :
    (Code.region id ops true).wp P (OutR gs nt ρ base w (exec call (cmpDraw P gs nt ops.toList) fr σ)) a w := by
  unfold cmpDraw at hne ⊢
  cases hr : regOk nt ops.toList ops.toList 0 with
  | false => rw [hr] at hne; exact absurd rfl hne
  | true =>
    rw [hr] at hne
    dsimp only at hne ⊢
    have hreg := regOk_ok hr
    have hms := cloM_ok (ops := ops) ops.toList [] (by simp) (fun i k h => by simp at h)
    have hN : Nd P ops gs nt fr [] 0 [] [] σ := ⟨fun i v hv => (by cases hv), .nil, List.Pairwise.nil, fun p hp => (by cases hp), fun p hp => (by cases hp), List.Pairwise.nil⟩
    obtain ⟨frF, σF, h1, h2⟩ := pl_ok (nt := nt) hreg hcall hms _ [] 0 [] [] σ hN hne
    rw [h1]
    refine wp_region_any hm ?_
    have hL : ∀ i, ¬ Lof (Array.replicate ops.size false) i := by
      intro i h
      unfold Lof at h
      by_cases hi : i < ops.size
      · simp [hi] at h
      · simp [hi] at h
    refine cov_ok hreg h2 ops.size _ a _ ⟨⟨ρ, fun _ => 0, ρ.le_refl, (hw.of_same (w' := { w with drawn := w.drawn + 1 }) (Nat.le_refl _) (fun x _ => rfl)).anti ?_ ?_, ⟨hf.size, fun t x y ht _ => hf.slot t x y ht, hf.defs, fun i o d _ _ h => absurd h (hL i)⟩, ⟨fun p hp => (by cases hp), fun p hp => (by cases hp), fun p hp => (by cases hp), fun p hp => (by cases hp)⟩⟩,
      fun i h => absurd h (hL i), fun i h => (by simp [Sb] at h), fun i o k h => absurd h (hL i), ((Kept.refl base.keep w).drew : _)⟩ (by simp) ?_
    · rintro k (hk | ⟨p, hp, _⟩)
      · exact hk
      · cases hp
    · rintro k (hk | ⟨p, hp, _⟩)
      · exact hk
      · cases hp
    · unfold cntU; simp

theorem evCC_ok (hm : P.follows .mixedOrders = true) {call : Call} (hcall : CallOK P call) (N : Nat) {gs : List Nat} {nt : Nat} : ∀ (c : Code) (fr : FT) (σ : St) (a : Act) (w : World) (ρ : Rho), evCC N call (cmpC P gs nt c) fr σ ≠ .no → WR ρ base σ w → FR ρ gs nt fr a →
    c.wp P (OutR gs nt ρ base w (evCC N call (cmpC P gs nt c) fr σ)) a w := by
  intro c
  induction c with
  | skip => intro fr σ a w ρ hne hw hf; exact wp_skip ⟨fr, σ, rfl, At.refl hw hf⟩
  | label l => intro fr σ a w ρ hne hw hf; exact wp_label ⟨fr, σ, rfl, At.refl hw hf⟩
  | exit id => intro fr σ a w ρ hne hw hf; exact wp_exit ⟨fr, σ, rfl, At.refl hw hf⟩
  | ret => intro fr σ a w ρ hne hw hf; exact wp_ret ⟨fr, σ, rfl, At.refl hw hf⟩
  | region id ops draw =>
    intro fr σ a w ρ hne hw hf
    cases draw with
    | false =>
      refine wp_region ?_
      have := exec_ok (base := base) hcall (gs := gs) (nt := nt) (ops := ops) ops.toList 0 rfl [] fr σ a w ρ (OutR gs nt ρ base w (evCC N call (cmpC P gs nt (.region id ops false)) fr σ)) hne hw hf LocR.nil
        (fun ρ' fr' σ' a' w' h1 h2 h3 h4 h5 => ⟨fr', σ', h1, ⟨ρ', h2, h3, h4⟩, h5⟩)
      simpa [List.range_eq_range'] using this
    | true => exact draw_ok hm hcall hne hw hf
  | seq x y ihx ihy =>
    intro fr σ a w ρ hne hw hf
    have e1 : evCC N call (cmpC P gs nt (.seq x y)) fr σ = seqO (evCC N call (cmpC P gs nt x) fr σ) (evCC N call (cmpC P gs nt y)) := rfl
    rw [e1] at hne ⊢
    refine wp_seq (wp_mono (ihx fr σ a w ρ (seqO_ne hne) hw hf) fun e a2 w2 ho => OutR.then ho fun fr2 σ2 h1 h2 => ?_)
    obtain ⟨⟨ρ', g1, g2, g3⟩, g4⟩ := h2
    have e2 : seqO (evCC N call (cmpC P gs nt x) fr σ) (evCC N call (cmpC P gs nt y)) = evCC N call (cmpC P gs nt y) fr2 σ2 := by rw [h1]; rfl
    rw [e2] at hne ⊢
    exact wp_mono (ihy fr2 σ2 a2 w2 ρ' hne g2 g3) fun e a3 w3 ho => ho.trans rfl g1 g4
  | loop b ih =>
    intro fr σ a w ρ hne hw hf
    exact iter_ok (call := call) (body := evCC N call (cmpC P gs nt b)) ih N hne hw hf
  | scope b ih =>
    intro fr σ a w ρ hne hw hf
    refine wp_scope_straight (wp_mono (ih fr σ a w ρ hne hw hf) fun e a2 w2 ho => ?_)
    cases e <;> first | exact ho | exact ho.elim
  | block id b ih =>
    intro fr σ a w ρ hne hw hf
    have e1 : evCC N call (cmpC P gs nt (.block id b)) fr σ = blockO id (evCC N call (cmpC P gs nt b) fr σ) := rfl
    rw [e1] at hne ⊢
    refine wp_block (wp_mono (ih fr σ a w ρ (fun e => by rw [e] at hne; exact hne rfl) hw hf) fun e a2 w2 ho => ?_)
    cases e with
    | normal => obtain ⟨fr2, σ2, h1, h2⟩ := ho; exact ⟨fr2, σ2, by rw [h1]; rfl, h2⟩
    | ret => obtain ⟨fr2, σ2, h1, h2⟩ := ho; exact ⟨fr2, σ2, by rw [h1]; rfl, h2⟩
    | exit j =>
      obtain ⟨fr2, σ2, h1, h2⟩ := ho
      have e2 : blockO id (evCC N call (cmpC P gs nt b) fr σ) = ite2 (Nat.beq j id) (.nrm fr2 σ2) (.ex j fr2 σ2) := by rw [h1]; rfl
      show if j = id then OutR gs nt ρ base w _ .normal a2 w2 else OutR gs nt ρ base w _ (.exit j) a2 w2
      rw [e2, ite2_eq]
      by_cases hj : j = id
      · have hb : Nat.beq j id = true := by rw [hj]; simp
        rw [if_pos hj, if_pos hb]; exact ⟨fr2, σ2, rfl, h2⟩
      · have hb : ¬ Nat.beq j id = true := fun h => hj (Nat.eq_of_beq_eq_true h)
        rw [if_neg hj, if_neg hb]; exact ⟨fr2, σ2, rfl, h2⟩
    | _ => exact ho.elim
  | cond c x y ihx ihy =>
    intro fr σ a w ρ hne hw hf
    have e0 : cmpC P gs nt (.cond c x y) = match cod gs [] c with | some c => .cond c (cmpC P gs nt x) (cmpC P gs nt y) | none => .bad := rfl
    cases hc : cod gs [] c with
    | none => rw [e0, hc] at hne; exact absurd rfl hne
    | some d =>
      rw [hc] at e0
      rw [e0] at hne ⊢
      have e1 : evCC N call (.cond d (cmpC P gs nt x) (cmpC P gs nt y)) fr σ = condO (d fr) (evCC N call (cmpC P gs nt x) fr σ) (evCC N call (cmpC P gs nt y) fr σ) := rfl
      rw [e1] at hne ⊢
      have hv := cod_ok hf LocR.nil c d hc
      cases hd : d fr with
      | b t =>
        rw [hd] at hv hne
        generalize hec : a.eval c = v at hv
        cases hv
        cases t with
        | true => exact wp_cond_true hec (ihx fr σ a w ρ hne hw hf)
        | false => exact wp_cond_false hec (ihy fr σ a w ρ hne hw hf)
      | _ => rw [hd] at hne; exact absurd rfl hne
  | _ => intro fr σ a w ρ hne hw hf; exact absurd rfl hne
end Go.AE

namespace Go.AE
open Go.RowKit
set_option linter.unusedVariables false
set_option linter.unusedSimpArgs false
variable {ρ : Rho} {base : Bs} {σ σ' : St} {w : World} {P : Program}

theorem ite2_neR {c : Bool} {x : R} (h : ite2 c x .no ≠ .no) : c = true ∧ ite2 c x .no = x := by
  cases c with
  | true => exact ⟨rfl, rfl⟩
  | false => exact absurd rfl h
theorem ptrR_ne {v : AV} {k : Id → Nat → R} (h : ptrR v k ≠ .no) : ∃ b o, v = .ptr b o ∧ ptrR v k = k b o := by
  cases v <;> first | exact absurd rfl h | exact ⟨_, _, rfl, rfl⟩
theorem rd1R_ne {B : Blk} {o : Nat} {k : AV → R} (h : rd1B B o k .no ≠ .no) : ∃ m cs f fo, B = .row m cs f fo ∧ o < m ∧ rd1B B o k .no = k (headA (dropN o cs)) := by
  cases B with
  | dead => exact absurd rfl h
  | map es => exact absurd rfl h
  | row m cs f fo =>
    obtain ⟨h1, h2⟩ := ite2_neR (x := k (headA (dropN o cs))) h
    exact ⟨m, cs, f, fo, rfl, blt_lt h1, h2⟩
theorem rdR_ne {B : Blk} {o n : Nat} {k : List AV → R} (hB : ∀ m cs f fo, B = .row m cs f fo → cs.length = m) (h : rdB B o n k .no ≠ .no) :
    ∃ m cs f fo, B = .row m cs f fo ∧ o + n ≤ m ∧ rdB B o n k .no = k ((cs.drop o).take n) := by
  cases B with
  | dead => exact absurd rfl h
  | map es => exact absurd rfl h
  | row m cs f fo =>
    have hm := hB _ _ _ _ rfl
    obtain ⟨h1, h2⟩ := ite2_neR (x := k (ite2 (Nat.beq n m) cs (takeN n (dropN o cs)))) h
    refine ⟨m, cs, f, fo, rfl, ble_le h1, h2.trans ?_⟩
    congr 1
    rw [ite2_eq, takeN_eq, dropN_eq]
    split
    · rename_i hb
      have hnm : n = m := Nat.eq_of_beq_eq_true hb
      have h0 := ble_le h1
      have : o = 0 := by omega
      subst this
      rw [List.drop_zero, List.take_of_length_le (by omega)]
    · rfl

/-- one result of a function, in the model -/
def resV (tmps : Array Value) : ResultVar → Sem Value
  | .tmp t => pure (tmps.getD t undef)
  | .cell a t => do loadVar t (← asAddr (tmps.getD a undef))
theorem resV_cell {tmps : Array Value} {t : Tmp} {ty : TypeId} {x : Addr} (h : tmps.getD t undef = .pointer (some x)) : (resV tmps (.cell t ty)).run P w = (loadVar ty x).run P w := by
  simp only [resV, h, asAddr, Sem.run_bind, Sem.run_pure, Result.andThen_ok]
/-- one result -/
theorem res_ok {gs : List Nat} {nt : Nat} {fr : FT} {a : Act} (hw : WR ρ base σ w) (hf : FR ρ gs nt fr a) {rv : ResultVar} {r : Res} (hr : cmpRes P gs rv = some r) {k : AV → R} (hne : resK σ fr r k ≠ .no) :
    ∃ x v, resK σ fr r k = k x ∧ VR ρ x v ∧ (resV a.tmps rv).run P w = .ok v w := by
  cases rv with
  | tmp t =>
    obtain ⟨d, h1, rfl⟩ := map_some hr
    exact ⟨d fr, a.tmps.getD t undef, rfl, cod_ok hf LocR.nil (.tmp t) d h1, rfl⟩
  | cell t ty =>
    simp only [cmpRes] at hr
    split at hr
    · rename_i d n h1 h2 h3
      cases hr
      have hv : VR ρ (d fr) (a.tmps.getD t undef) := cod_ok hf LocR.nil (.tmp t) d h1
      have hne' : ptrR (d fr) (fun b o => rdB (σ.getB b) o n (fun l => k (.agg n l)) .no) ≠ .no := hne
      obtain ⟨b, off, hp, heq⟩ := ptrR_ne hne'
      rw [heq] at hne'
      obtain ⟨m, cs, f, fo, hB, hle, heq2⟩ := rdR_ne (hw.len b) hne'
      obtain ⟨x, dd, sz, g1, g2, g3⟩ := hw.row hB
      rw [hp] at hv
      generalize hva : a.tmps.getD t undef = va at hv
      cases hv
      rename_i x' d' sz' hρ
      rw [g1] at hρ; cases hρ
      obtain ⟨ds, q1, q2, q3, q4⟩ := g3.cells hle
      refine ⟨_, .agg ds.toArray, heq.trans heq2, .agg (by rw [q1.length, q2]) q1 q3, ?_⟩
      rw [resV_cell hva]
      simp [loadVar, run_isAgg h2, run_size h3, run_cells (P := P) q2 q4]
    · rename_i d h1 h2
      cases hr
      have hv : VR ρ (d fr) (a.tmps.getD t undef) := cod_ok hf LocR.nil (.tmp t) d h1
      have hne' : ptrR (d fr) (fun b o => rd1B (σ.getB b) o k .no) ≠ .no := hne
      obtain ⟨b, off, hp, heq⟩ := ptrR_ne hne'
      rw [heq] at hne'
      obtain ⟨m, cs, f, fo, hB, hlt, heq2⟩ := rd1R_ne hne'
      obtain ⟨x, dd, sz, g1, g2, g3⟩ := hw.row hB
      rw [hp] at hv
      generalize hva : a.tmps.getD t undef = va at hv
      cases hv
      rename_i x' d' sz' hρ
      rw [g1] at hρ; cases hρ
      have hl : off < cs.length := by rw [g3.1]; exact hlt
      obtain ⟨v, k1, k2, k3⟩ := g3.2.2.2.2 off cs[off] (List.getElem?_eq_getElem hl)
      have hh : headA (dropN off cs) = cs[off] := by rw [headA_eq, dropN_eq, List.headD_eq_head?_getD, List.head?_drop, List.getElem?_eq_getElem hl]; rfl
      refine ⟨_, v, heq.trans heq2, by rw [hh]; exact k2, ?_⟩
      rw [resV_cell hva]
      simp [loadVar, run_isAgg h2, k1]
    · cases hr
end Go.AE

namespace Go.AE
open Go.RowKit
set_option linter.unusedVariables false
set_option linter.unusedSimpArgs false
variable {ρ : Rho} {base : Bs} {σ σ' : St} {w : World} {P : Program}

theorem resA_ok {gs : List Nat} {nt : Nat} {fr : FT} {a : Act} (hw : WR ρ base σ w) (hf : FR ρ gs nt fr a) : ∀ (rs : List ResultVar) (l : List Res), mapO (cmpRes P gs) rs = some l → ∀ (k : List AV → R), resA σ fr l k ≠ .no →
    ∃ xs vs, resA σ fr l k = k xs ∧ VRs ρ xs vs ∧ (rs.mapM (resV a.tmps)).run P w = .ok vs w
  | [], l, h, k, hne => by
    simp [mapO] at h; subst h
    exact ⟨[], [], rfl, .nil, rfl⟩
  | r :: rs, l, h, k, hne => by
    simp only [mapO] at h
    split at h
    case h_2 => cases h
    rename_i y l' h1 h2
    cases h
    have e1 : resA σ fr (y :: l') k = resK σ fr y fun v => resA σ fr l' fun vs => k (v :: vs) := rfl
    rw [e1] at hne
    obtain ⟨x, v, g1, g2, g3⟩ := res_ok hw hf h1 hne
    rw [g1] at hne
    obtain ⟨xs, vs, q1, q2, q3⟩ := resA_ok hw hf rs l' h2 _ hne
    refine ⟨x :: xs, v :: vs, by rw [e1, g1, q1], .cons g2 q2, ?_⟩
    simp only [List.mapM_cons, Sem.run_bind, g3, Result.andThen_ok, q3, Sem.run_pure]

theorem results_eq (fn : Func) (tmps : Array Value) : results fn tmps = (do let vs ← fn.results.mapM (resV tmps); pure (if h : vs.size = 1 then vs[0] else .tuple vs)) := by
  unfold results
  congr 2

theorem res1_ok {xs : List AV} {vs : List Value} (h : VRs ρ xs vs) : VR ρ (res1 xs) (if h : vs.toArray.size = 1 then vs.toArray[0] else .tuple vs.toArray) := by
  cases h with
  | nil => exact .tup .nil
  | cons h1 h2 =>
    cases h2 with
    | nil => simpa [res1] using h1
    | cons h3 h4 => simpa [res1] using VR.tup (.cons h1 (.cons h3 h4))

theorem results_ok {gs : List Nat} {nt : Nat} {fr : FT} {a : Act} {fn : Func} {l : List Res} (hw : WR ρ base σ w) (hf : FR ρ gs nt fr a) (hr : mapO (cmpRes P gs) fn.results.toList = some l) {k : List AV → R} (hne : resA σ fr l k ≠ .no) :
    ∃ xs v, resA σ fr l k = k xs ∧ VR ρ (res1 xs) v ∧ (results fn a.tmps).run P w = .ok v w := by
  obtain ⟨xs, vs, q1, q2, q3⟩ := resA_ok hw hf _ l hr k hne
  refine ⟨xs, _, q1, res1_ok q2, ?_⟩
  rw [results_eq, Array.mapM_eq_mapM_toList, ← bind_pure_comp]
  simp only [Sem.run_bind, q3, Result.andThen_ok, Sem.run_pure]
end Go.AE

namespace Go.AE
open Go.RowKit
set_option linter.unusedVariables false
set_option linter.unusedSimpArgs false
variable {ρ : Rho} {base : Bs} {σ σ' : St} {w : World} {P : Program}

/-- a deferred call of it does nothing where its caller returns -/
def IdleOK (P : Program) (f : FuncId) : Prop := Enters P f ∧ ∀ args w, CallsD P f args .returning w fun e u' w' => (∃ v, e = .returned v) ∧ u' = .returning ∧ w' = w
structure KnownOK (P : Program) (C : Cfg) : Prop where
  known : ∀ f args v, C.known f args = some v → Enters P f ∧ ∀ (ρ : Rho) (base : Bs) (σ : St) (w : World) args', WR ρ base σ w → VRs ρ args args' → Calls P f args'.toArray w fun e w' => ∃ v', e = .returned v' ∧ Good ρ base w v σ v' w'
  idle : ∀ f, C.idle.contains f = true → IdleOK P f

theorem leaves_ok {C : Cfg} (hC : KnownOK P C) {fn : Func} {tmps : Array Value} {R : Ending → World → Prop} {v : Value} (hr : (results fn tmps).run P w = .ok v w) (hR : R (.returned v) w) : ∀ (l : List AV) (ds : List Deferred), DRs l ds → idleAll C l = true → Leaves P fn tmps R ds .returning w
  | _, _, .nil, _ => ⟨v, hr, hR⟩
  | _, _, .cons (g := g) (l := l) (ds := ds) (cap := cap) (args := args) h, hi => by
    simp only [idleAll, Bool.and_eq_true] at hi
    obtain ⟨h1, h2⟩ := hC.idle g hi.1
    refine leaves_cons (f := g) (args := args ++ cap) (by simp) (h1.run _ _) ((h2 _ _).mono ?_)
    rintro e u' w' ⟨⟨v', rfl⟩, rfl, hw⟩
    show Leaves P fn tmps R ds (settle .returning) w'
    rw [hw]
    exact leaves_ok hC hr hR l ds h hi.2

theorem args0_ok {gs : List Nat} : ∀ (n : Nat) (m : Nat) (ps : List (D8 × D8)), mapO (slotOf gs) (List.range' m n) = some ps → ∀ (args : List AV) (args' : List Value), VRs ρ args args' → ∀ (fr : FT) (tmps : Nat → Value),
    (∀ t x y, slotOf gs t = some (x, y) → VR ρ (odF x y fr) (tmps t)) → ∀ t x y, slotOf gs t = some (x, y) → VR ρ (odF x y (args0 ps args fr)) (if m ≤ t ∧ t < m + n then (args'[t - m]?).getD (tmps t) else tmps t)
  | 0, m, ps, hp, args, args', ha, fr, tmps, hf, t, x, y, ht => by
    simp [mapO] at hp; subst hp
    rw [if_neg (by omega)]
    exact hf t x y ht
  | n + 1, m, ps, hp, args, args', ha, fr, tmps, hf, t, x, y, ht => by
    rw [List.range'_succ] at hp
    simp only [mapO] at hp
    split at hp
    case h_2 => cases hp
    rename_i p l hp1 hp2
    cases hp
    cases ha with
    | nil =>
      have : args0 (p :: l) [] fr = fr := rfl
      rw [this]
      split
      · simpa using hf t x y ht
      · exact hf t x y ht
    | cons h1 h2 =>
      rename_i a v la lv
      obtain ⟨px, py⟩ := p
      have e : args0 ((px, py) :: l) (a :: la) fr = args0 l la (FT.set fr px py a) := rfl
      rw [e]
      have := args0_ok n (m + 1) l hp2 la lv h2 (FT.set fr px py a) (fun t => if t = m then v else tmps t) (fun t x y ht => ?_) t x y ht
      · by_cases hm : t = m
        · subst hm
          rw [if_neg (by omega)] at this
          rw [if_pos (by omega)]
          simpa using this
        · by_cases hr : m ≤ t ∧ t < m + (n + 1)
          · rw [if_pos hr]
            rw [if_pos (by omega)] at this
            rw [show t - m = (t - (m + 1)) + 1 by omega]
            simpa [hm] using this
          · rw [if_neg hr]
            rw [if_neg (by omega)] at this
            simpa [hm] using this
      · rw [FT.get_set]
        by_cases hm : t = m
        · subst hm
          rw [hp1] at ht; cases ht
          simpa using h1
        · have : ¬ (px = x ∧ py = y) := by
            rintro ⟨rfl, rfl⟩
            exact hm (slot_inj ht hp1)
          simp only [this, hm, if_false]
          exact hf t x y ht

theorem FT.empty_get (x y : D8) : odF x y FT.empty = .any := by
  show S8.get (S8.get (S8.all (S8.all AV.any)) x) y = _
  rw [S8.get_all, S8.get_all]

/-- what is left of a body, by the evaluator -/
theorem rest_ok {C : Cfg} (hC : KnownOK P C) (hm : P.follows .mixedOrders = true) {call : Call} (hcall : CallOK P call) (N : Nat) {fn : Func} {gs : List Nat} {nt : Nat} {cc : CC} {rs : List Res} {ps : List (D8 × D8)} (hrs : mapO (cmpRes P gs) fn.results.toList = some rs) {c : Code} {fr : FT} {a : Act} {v : AV}
    (hv : outR C ⟨cc, ps, rs⟩ (evCC N call (cmpC P gs nt c) fr σ) = .ok v σ') (hw : WR ρ base σ w) (hF : FR ρ gs nt fr a) {R : Ending → World → Prop} (hR : ∀ v' w', Good ρ base w v σ' v' w' → R (.returned v') w') : c.wp P (bodyPostD P fn R) a w := by
  generalize hx : evCC N call (cmpC P gs nt c) fr σ = x at hv
  have fin : ∀ {fr : FT} {σ1 : St} {a : Act} {w1 : World}, leave C ⟨cc, ps, rs⟩ fr σ1 = .ok v σ' → At gs nt ρ base w fr σ1 a w1 →
      Leaves P fn a.tmps R a.defers .returning w1 := by
    intro fr σ1 a w1 hl ⟨⟨ρ', g1, g2, g3⟩, g4⟩
    have hl' : ite2 (idleAll C fr.d) (resA σ1 fr rs fun l => .ok (res1 l) σ1) .no = .ok v σ' := hl
    obtain ⟨k1, k2⟩ := ite2_neR (show ite2 (idleAll C fr.d) (resA σ1 fr rs fun l => .ok (res1 l) σ1) .no ≠ .no by rw [hl']; simp)
    rw [k2] at hl'
    obtain ⟨xs, u, q1, q2, q3⟩ := results_ok g2 g3 hrs (k := fun l => .ok (res1 l) σ1) (by rw [hl']; simp)
    rw [hl'] at q1
    simp only [Go.AE.R.ok.injEq] at q1
    obtain ⟨e1, e2⟩ := q1
    rw [← e1] at q2
    rw [← e2] at g2
    exact leaves_ok hC q3 (hR u _ ⟨ρ', g1, q2, g2, g4⟩) _ _ g3.defs k1
  refine wp_mono (evCC_ok hm hcall N c fr σ a w ρ (by rw [hx]; intro h; rw [h] at hv; cases hv) hw hF) fun e a w1 ho => ?_
  rw [hx] at ho
  cases e with
  | normal =>
    obtain ⟨fr, σ1, h1, h2⟩ := ho
    subst h1
    exact fin hv h2
  | ret =>
    obtain ⟨fr, σ1, h1, h2⟩ := ho
    subst h1
    exact fin hv h2
  | exit id =>
    obtain ⟨fr, σ1, h1, h2⟩ := ho
    subst h1
    cases hv
  | _ => exact ho.elim
/-- a first part of a body, by the evaluator, with calls of its own -/
theorem seq_ok (hm : P.follows .mixedOrders = true) {call : Call} (hcall : CallOK P call) (N : Nat) {gs : List Nat} {nt : Nat} {c d : Code} {fr fr1 : FT} {σ1 : St} {a : Act} {Q : Exit → Act → World → Prop}
    (hv : evCC N call (cmpC P gs nt c) fr σ = .nrm fr1 σ1) (hw : WR ρ base σ w) (hF : FR ρ gs nt fr a) (hd : ∀ ρ' a' w', ρ.le ρ' → WR ρ' base σ1 w' → FR ρ' gs nt fr1 a' → Kept base w w' → d.wp P Q a' w') : (Code.seq c d).wp P Q a w := by
  refine wp_seq (wp_mono (evCC_ok hm hcall N c fr σ a w ρ (by rw [hv]; simp) hw hF) fun e a2 w2 ho => ?_)
  rw [hv] at ho
  cases e with
  | normal =>
    obtain ⟨fr2, σ2, h1, ⟨⟨ρ', g1, g2, g3⟩, g4⟩⟩ := ho
    cases h1
    exact hd ρ' a2 w2 g1 g2 g3 g4
  | exit id => obtain ⟨fr2, σ2, h1, _⟩ := ho; cases h1
  | ret => obtain ⟨fr2, σ2, h1, _⟩ := ho; cases h1
  | _ => exact ho.elim
theorem entry_FR {gs : List Nat} {nt : Nat} {args : List AV} {args' : List Value} {ps : List (D8 × D8)} {n : Nat} (ha : VRs ρ args args') (hps : mapO (slotOf gs) (List.range n) = some ps) :
    FR ρ gs nt (args0 ps args FT.empty) { tmps := args'.toArray ++ Array.replicate (nt - args'.toArray.size) undef, defers := [] } := by
  refine ⟨by simp; omega, fun t x y ht => ?_, ?_⟩
  · rw [List.range_eq_range'] at hps
    have := args0_ok (ρ := ρ) _ 0 ps hps args args' ha FT.empty (fun t => (args'.toArray ++ Array.replicate (nt - args'.toArray.size) undef).getD t undef) (fun t x y _ => by rw [FT.empty_get]; exact .any _) t x y ht
    split at this
    · simp only [Nat.sub_zero] at this
      cases hq : args'[t]? with
      | none => rw [hq] at this; simpa using this
      | some u =>
        rw [hq] at this
        have hlt := (List.getElem?_eq_some_iff.1 hq).1
        have : VR ρ (odF x y (args0 ps args FT.empty)) u := this
        have e : (args'.toArray ++ Array.replicate (nt - args'.toArray.size) undef).getD t undef = u := by
          rw [Array.getD_eq_getD_getElem?, Array.getElem?_append_left (by simpa using hlt)]
          simp [hq]
        rw [e]; exact this
    · exact this
  · have : ∀ (ps : List (D8 × D8)) (args : List AV) (fr : FT), (args0 ps args fr).d = fr.d := by
      intro ps
      induction ps with
      | nil => intro args fr; rfl
      | cons p ps ih =>
        intro args fr
        cases args with
        | nil => rfl
        | cons a as =>
          have : args0 (p :: ps) (a :: as) fr = args0 ps as (FT.set fr p.1 p.2 a) := rfl
          rw [this, ih, FT.set_d]
    rw [this]
    exact .nil

theorem enter_ok {C : Cfg} (hC : KnownOK P C) (hm : P.follows .mixedOrders = true) {call : Call} (hcall : CallOK P call) (N : Nat) {f : FuncId} {cf : CFn} (hf : cmpFn P f = some cf) {args : List AV} {v : AV} (hv : enter C N cf call args σ = .ok v σ') :
    Enters P f ∧ ∀ (ρ : Rho) (base : Bs) (w : World) (args' : List Value), WR ρ base σ w → VRs ρ args args' → Calls P f args'.toArray w fun e w' => ∃ v', e = .returned v' ∧ Good ρ base w v σ' v' w' := by
  unfold cmpFn at hf
  split at hf
  case h_2 => cases hf
  rename_i fn hfn
  split at hf
  case h_2 => cases hf
  rename_i c hname hbody
  generalize hgs : globals fn c = gs at hf
  dsimp only at hf
  split at hf
  case h_2 => cases hf
  rename_i rs ps hrs hps
  cases hf
  refine ⟨⟨fn, c, hfn, hname, hbody⟩, fun ρ base w args' hw ha => ?_⟩
  exact calls_of_wp_defers hfn hbody (rest_ok hC hm hcall N hrs hv hw (entry_FR ha hps) fun v' w' hg => ⟨v', rfl, hg⟩)

theorem callN_ok {C : Cfg} (hC : KnownOK P C) (hm : P.follows .mixedOrders = true) {tab : Nat → Option CFn} (htab : ∀ f cf, tab f = some cf → cmpFn P f = some cf) (N : Nat) : ∀ n, CallOK P (callN C N tab n)
  | 0 => fun f args σ v σ' h => by cases h
  | n + 1 => by
    intro f args σ v σ' h
    have h' : callS C N tab n (callN C N tab n) f args σ = .ok v σ' := h
    unfold callS at h'
    cases hk : C.known f args with
    | some u =>
      rw [hk] at h'
      have h2 : R.ok u σ = .ok v σ' := h'
      obtain ⟨k1, k2⟩ := hC.known f args u hk
      simp only [R.ok.injEq] at h2
      obtain ⟨rfl, rfl⟩ := h2
      exact ⟨k1, fun ρ base w args' hw ha => k2 ρ base σ w args' hw ha⟩
    | none =>
      rw [hk] at h'
      have h2 : optR (tab f) (fun cf => enter C N cf (callN C N tab n) args σ) = .ok v σ' := h'
      cases ht : tab f with
      | none => rw [ht] at h2; cases h2
      | some cf =>
        rw [ht] at h2
        exact enter_ok hC hm (callN_ok hC hm htab N n) N (htab f cf ht) h2
end Go.AE

namespace Go.AE
open Go.RowKit
set_option linter.unusedVariables false
set_option linter.unusedSimpArgs false
variable {ρ : Rho} {base : Bs} {σ σ' : St} {w : World} {P : Program}

/-- at the beginning: nothing is known, all blocks are kept -/
def Bs.top (w : World) : Bs := ⟨fun k => k < w.heap.size, fun _ => False⟩
theorem WR.start (w : World) : WR Rho0 (Bs.top w) St.empty w := by
  have hdead : ∀ b, St.empty.getB b = .dead := fun b => H.get_all _ _
  refine ⟨fun k hk => hk, fun i hi j hj => rfl, fun b hb => hb.elim, fun b hb => absurd (hdead b) hb, fun b m cs f fo hb => ?_, fun b b' x d sz d' sz' _ hb => absurd (hdead b) hb⟩
  rw [hdead] at hb; cases hb
theorem isTrue_ok {r : R} (h : isTrue r = true) : ∃ σ', r = .ok (.b true) σ' := by
  unfold isTrue at h
  split at h
  · subst h; exact ⟨_, rfl⟩
  · cases h
theorem Good.true {v' : Value} {w' : World} (h : Good ρ base w (.b true) σ' v' w') : v' = .bool true ∧ Kept base.keep w w' := by
  obtain ⟨ρ', h1, h2, h3, h4⟩ := h
  cases h2
  exact ⟨rfl, h4⟩

/-- a recover that its caller's return does nothing to -/
theorem recoverD_returning {c₀ : Frame} {cs : List Frame} (h : c₀.mode = .returning) : recoverD (c₀ :: cs) = none := by
  simp only [recoverD, h]

/-! tables -/
def AllT (P : Program) : TT → Prop
  | .no => True
  | .leaf g c => cmpFn P g = some c
  | .node _ l r => AllT P l ∧ AllT P r
theorem tabFind_ok : ∀ {t : TT}, AllT P t → ∀ f cf, TT.find t f = some cf → cmpFn P f = some cf
  | .no, _, f, cf, h => by cases h
  | .leaf g c, ha, f, cf, h => by
    have h : ite2 (Nat.beq g f) (some c) none = some cf := h
    rw [ite2_eq] at h
    split at h
    · rename_i hb; cases h; rw [← Nat.eq_of_beq_eq_true hb]; exact ha
    · cases h
  | .node k l r, ha, f, cf, h => by
    have h : ite2 (Nat.blt f k) (TT.find l f) (TT.find r f) = some cf := h
    rw [ite2_eq] at h
    split at h
    · exact tabFind_ok ha.1 f cf h
    · exact tabFind_ok ha.2 f cf h

/-! one call that is known by its contract: of f, with these arguments -/
open Classical in
noncomputable def oracle (f : FuncId) (args : List AV) (r : AV) : Call := fun g as σ => if g = f ∧ as = args then .ok r σ else .no
theorem oracle_eq (f : FuncId) (args : List AV) (r : AV) (σ : St) : oracle f args r f args σ = .ok r σ := if_pos ⟨rfl, rfl⟩
theorem oracle_ok {f : FuncId} {args : List AV} {r : AV} (he : Enters P f) (h : ∀ (ρ : Rho) (base : Bs) (σ : St) w args', WR ρ base σ w → VRs ρ args args' → Calls P f args'.toArray w fun e w' => ∃ v', e = .returned v' ∧ Good ρ base w r σ v' w') : CallOK P (oracle f args r) := by
  intro g as σ v σ' hc
  unfold oracle at hc
  split at hc
  · rename_i hg
    obtain ⟨rfl, rfl⟩ := hg
    simp only [R.ok.injEq] at hc
    obtain ⟨rfl, rfl⟩ := hc
    exact ⟨he, fun ρ base w args' hw ha => h ρ base σ w args' hw ha⟩
  · cases hc

/-! what a row asks of the world -/
theorem keptBut_of {W w' : World} (h : Kept (Bs.top W).keep W w') (may : MemPlace → Prop) : W.keptBut w' may := by
  refine ⟨h.os, h.output, fun i hi => ?_⟩
  have hb := h.block i hi
  rw [hb]
  split
  · rename_i h1 h2
    rw [h1] at h2; cases h2
    exact ⟨rfl, rfl, rfl, fun _ _ => rfl⟩
  · rename_i h1 h2
    rw [h1] at h2; cases h2
    exact .inr ⟨rfl, rfl⟩
  · rfl
theorem frozen_of {W w' : World} (h : Kept (Bs.top W).keep W w') (a : Addr) (ha : a.block < W.heap.size) : w'.frozen? a = W.frozen? a :=
  World.frozen?_of_block (h.block _ ha)
end Go.AE

namespace Go.AE
open Go.RowKit Go.ChangeShapes
set_option linter.unusedVariables false
set_option linter.unusedSimpArgs false
section
variable {H : Type} {enc : TypeId × Value → H} {P : Program}
/-- the row's promise, where every block stayed as it was -/
theorem post_kept {f : Func} {s : ChangeSpec} {apart fresh handsOn again : Bool} {W W' : World} {args : Array Value} {v : Value} {ds gs : List (DataW H)} {before pa pv : List MemPlace}
    (hW : DataW.Whole enc P f.params.toList s.vars apart W args.toList ds gs before)
    (hres : ∀ (b : Nat) (sp : Nat → Bool) (hd : Bool), DataW.TrodAll enc P W' b sp hd f.resultTypes.toList (v.resultList f.resultTypes.size) (s.fn H (ds ++ gs)).results [])
    (hargs : ∀ sp : Nat → Bool, (∀ p ∈ before, sp p.block = true) → DataW.TrodAll enc P W' 0 sp true f.params.toList args.toList (s.fn H (ds ++ gs)).args pa)
    (hvars : ∀ sp : Nat → Bool, (∀ p ∈ before, sp p.block = true) → DataW.TrodVars enc P W' sp s.vars (s.fn H (ds ++ gs)).vars pv)
    (hps : before = pa ++ pv) (hk : Kept (Bs.top W).keep W W')
    (hok : ∀ (j : Nat) (t : TypeId) (r : Value), f.resultTypes[j]? = some t → (v.resultList f.resultTypes.size)[j]? = some r → Value.okWide P W' .any 0 t r) :
    s.post enc P f apart fresh handsOn again W args v W' := by
  have hlt := hW.lt
  have hold : ∀ p ∈ before, (fun b => decide (b < W.heap.size)) p.block = true := fun p hp => by simpa using hlt p hp
  refine ⟨ds, gs, before, [], pa, pv, hW, hres _ _ _, hargs _ hold, hvars _ hold, keptBut_of hk _, fun _ => ?_⟩
  obtain ⟨_, _, _, _, _, hz, hn⟩ := hW
  refine ⟨hok, _, _, ([] ++ pa) ++ pv, ⟨[] ++ pa, pv, trodAll_append (hargs _ (fun _ _ => rfl)) (hres _ _ _), hvars _ (fun _ _ => rfl), rfl, ?_, ?_⟩, ?_⟩
  · intro b off hp
    have hmem : MemPlace.cell b off ∈ before := by rw [hps]; simpa using hp
    have hb := hlt _ hmem
    rw [frozen_of hk _ hb]
    exact hz b off hmem
  · intro ha
    have := hn ha
    rw [hps] at this
    simpa using this
  · intro p hp _
    rw [hps]
    simpa using hp
end
end Go.AE
