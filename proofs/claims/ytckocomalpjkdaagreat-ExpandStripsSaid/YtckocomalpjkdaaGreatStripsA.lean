/- Data as trees, how they lie in memory, memory that grows: plain facts, of any world. -/
import Derived.WalkKit
import Derived.ProofKit
import Derived.Lib.Hide
import Derived.Maps.AppendAt
set_option linter.unusedVariables false
set_option linter.unusedSimpArgs false
set_option linter.unusedSectionVars false
namespace Strips
open Go Go.RowKit
set_option linter.unusedVariables false

/-- a datum -/
inductive T where
  | mk (k n : Int) (neg : Bool) (mag : List Int) (text : ByteArray) (items rest : List T)

/-- a slice's header, of n elements -/
def Hd (n : Nat) (v : Value) : Prop := (n = 0 ∧ v = .slice none 0 0) ∨ ∃ a cap, v = .slice (some a) n cap ∧ n ≤ cap ∧ (n = 0 ∨ ∃ b off, a = ⟨b, off, none⟩)
def adr : Value → Addr
  | .slice (some a) _ _ => a
  | _ => ⟨0, 0, none⟩
/-- limbs lie in memory, in a block that P says -/
def RepM (w : World) (P : Nat → Prop) (l : List Int) (v : Value) : Prop := Hd l.length v ∧ l.length * 4 ≤ 140737488351232 ∧ ∀ i n, l[i]? = some n → (P (adr v).block ∧ (adr v).block < w.heap.size) ∧ w.cell? ((adr v).add i) = some (.int .u32 n)
mutual
/-- a datum's cells, and what they lead to -/
def Rep (w : World) (P : Nat → Prop) : T → List Value → Prop
  | .mk k n neg mag text items rest, cs => ∃ vm vi vr, cs = [.int .i64 k, .int .i64 n, .bool neg, vm, .string text, vi, vr] ∧ RepM w P mag vm ∧
      (Hd items.length vi ∧ items.length * 112 ≤ 140737488351232 ∧ RepC w P (adr vi) 0 items) ∧ (Hd rest.length vr ∧ rest.length * 112 ≤ 140737488351232 ∧ RepC w P (adr vr) 0 rest)
/-- data, one behind the other -/
def RepC (w : World) (P : Nat → Prop) : Addr → Nat → List T → Prop
  | _, _, [] => True
  | a, i, t :: l => ((P a.block ∧ a.block < w.heap.size) ∧ ∃ cs, cs.length = 7 ∧ (∀ j u, cs[j]? = some u → w.cell? (a.add (i * 7 + j)) = some u) ∧ Rep w P t cs) ∧ RepC w P a (i + 1) l
end
def RepS (w : World) (P : Nat → Prop) (l : List T) (v : Value) : Prop := Hd l.length v ∧ l.length * 112 ≤ 140737488351232 ∧ RepC w P (adr v) 0 l

theorem rep_mk {w : World} {P : Nat → Prop} {k n : Int} {neg : Bool} {mag : List Int} {text : ByteArray} {items rest : List T} {cs : List Value} :
    Rep w P (.mk k n neg mag text items rest) cs ↔ ∃ vm vi vr, cs = [.int .i64 k, .int .i64 n, .bool neg, vm, .string text, vi, vr] ∧ RepM w P mag vm ∧ RepS w P items vi ∧ RepS w P rest vr := by
  simp only [Rep, RepS]
theorem repC_get {w : World} {P : Nat → Prop} {a : Addr} : ∀ {l : List T} {i : Nat}, RepC w P a i l → ∀ (j : Nat) (t : T), l[j]? = some t → (P a.block ∧ a.block < w.heap.size) ∧ ∃ cs, cs.length = 7 ∧ (∀ m u, cs[m]? = some u → w.cell? (a.add ((i + j) * 7 + m)) = some u) ∧ Rep w P t cs
  | [], _, _, j, t, h => by simp at h
  | x :: l, i, h, j, t, hj => by
    simp only [RepC] at h
    cases j with
    | zero => simp at hj; subst hj; exact h.1
    | succ j =>
      have := repC_get h.2 j t (by simpa using hj)
      rw [show i + (j + 1) = i + 1 + j by omega]
      exact this
theorem repC_of {w : World} {P : Nat → Prop} {a : Addr} : ∀ {l : List T} {i : Nat}, (∀ (j : Nat) (t : T), l[j]? = some t → (P a.block ∧ a.block < w.heap.size) ∧ ∃ cs, cs.length = 7 ∧ (∀ m u, cs[m]? = some u → w.cell? (a.add ((i + j) * 7 + m)) = some u) ∧ Rep w P t cs) → RepC w P a i l
  | [], _, _ => by simp only [RepC]
  | x :: l, i, h => by
    simp only [RepC]
    refine ⟨h 0 x rfl, repC_of fun j t hj => ?_⟩
    have := h (j + 1) t (by simpa using hj)
    rw [show i + 1 + j = i + (j + 1) by omega]
    exact this

/-! memory that turns, but not in these blocks -/
theorem add_block (a : Addr) (n : Nat) : (a.add n).block = a.block := by unfold Addr.add; split <;> rfl
/-- what P says stays, and P' says it too -/
def Keeps (w w' : World) (P P' : Nat → Prop) : Prop := ∀ b, P b → b < w.heap.size → P' b ∧ b < w'.heap.size ∧ w'.heap[b]? = w.heap[b]?
theorem keeps_cell {w w' : World} {P P' : Nat → Prop} (hk : Keeps w w' P P') {p : Addr} (h : P p.block ∧ p.block < w.heap.size) : w'.cell? p = w.cell? p := World.cell?_of_block (w := w) (hk _ h.1 h.2).2.2
theorem repM_keep {w w' : World} {P P' : Nat → Prop} (hk : Keeps w w' P P') {l : List Int} {v : Value} (h : RepM w P l v) : RepM w' P' l v :=
  ⟨h.1, h.2.1, fun i n hi => let ⟨h1, h2⟩ := h.2.2 i n hi; ⟨⟨(hk _ h1.1 h1.2).1, (hk _ h1.1 h1.2).2.1⟩, (keeps_cell hk (p := (adr v).add i) (by rw [add_block]; exact h1)).trans h2⟩⟩
mutual
theorem rep_keep {w w' : World} {P P' : Nat → Prop} (hk : Keeps w w' P P') : ∀ (t : T) (cs : List Value), Rep w P t cs → Rep w' P' t cs
  | .mk k n neg mag text items rest, cs, h => by
    simp only [Rep] at h ⊢
    obtain ⟨vm, vi, vr, h1, h2, ⟨h3, h4, h5⟩, h6, h7, h8⟩ := h
    exact ⟨vm, vi, vr, h1, repM_keep hk h2, ⟨h3, h4, repC_keep hk items _ _ h5⟩, h6, h7, repC_keep hk rest _ _ h8⟩
theorem repC_keep {w w' : World} {P P' : Nat → Prop} (hk : Keeps w w' P P') : ∀ (l : List T) (a : Addr) (i : Nat), RepC w P a i l → RepC w' P' a i l
  | [], a, i, h => by simp only [RepC]
  | t :: l, a, i, h => by
    simp only [RepC] at h ⊢
    obtain ⟨⟨h1, cs, h2, h3, h4⟩, h5⟩ := h
    exact ⟨⟨⟨(hk _ h1.1 h1.2).1, (hk _ h1.1 h1.2).2.1⟩, cs, h2, fun j u hj => (keeps_cell hk (p := a.add (i * 7 + j)) (by rw [add_block]; exact h1)).trans (h3 j u hj), rep_keep hk t cs h4⟩, repC_keep hk l a (i + 1) h5⟩
end
theorem repS_keep {w w' : World} {P P' : Nat → Prop} (hk : Keeps w w' P P') {l : List T} {v : Value} (h : RepS w P l v) : RepS w' P' l v := ⟨h.1, h.2.1, repC_keep hk _ _ _ h.2.2⟩
theorem keeps_below {w w' : World} {P : Nat → Prop} (hb : Below w.heap.size w w') : Keeps w w' P P := fun b hp hlt => ⟨hp, Nat.lt_of_lt_of_le hlt hb.size, hb.block b hlt⟩
theorem keeps_weak {w : World} {P P' : Nat → Prop} (h : ∀ b, P b → b < w.heap.size → P' b) : Keeps w w P P' := fun b hp hlt => ⟨h b hp hlt, hlt, rfl⟩

/-! marks taken away -/
mutual
def strip : T → T
  | .mk k n neg mag text items rest => .mk k (if k = 5 then 0 else n) neg mag text (stripL items) (stripL rest)
def stripL : List T → List T
  | [] => []
  | t :: l => strip t :: stripL l
end
theorem stripL_eq : ∀ l, stripL l = l.map strip
  | [] => by simp only [stripL, List.map_nil]
  | t :: l => by simp only [stripL, List.map_cons, stripL_eq l]
theorem strip_mk (k n : Int) (neg : Bool) (mag : List Int) (text : ByteArray) (items rest : List T) : strip (.mk k n neg mag text items rest) = .mk k (if k = 5 then 0 else n) neg mag text (items.map strip) (rest.map strip) := by
  simp only [strip, stripL_eq]
end Strips

namespace Strips
open Go Go.RowKit
set_option linter.unusedVariables false

theorem own_hd {w : World} {base : Nat} {e : TypeId} {size : Nat} {v : Value} {n : Nat} {xs : List Value} (h : w.ownsRow base e size v n xs) : Hd n v ∧
    (∀ (j : Nat) (u : Value), xs[j]? = some u → (base ≤ (adr v).block ∧ (adr v).block < w.heap.size) ∧ w.cell? ((adr v).add j) = some u) := by
  have hl := h.lt
  have hcs := fun g hg => h.cells (g := g) hg
  obtain ⟨h1, ⟨rfl, rfl⟩ | ⟨g, cap, cur, rfl, h2, h3, h4, h5, h6, h7⟩⟩ := h
  · refine ⟨.inl ⟨rfl, rfl⟩, fun j u hj => ?_⟩
    have : xs = [] := List.eq_nil_of_length_eq_zero (by simpa using h1)
    subst this
    simp at hj
  · exact ⟨.inr ⟨_, cap, rfl, h4, .inr ⟨g, 0, rfl⟩⟩, fun j u hj => ⟨⟨h2, (hl g rfl).2⟩, hcs g rfl j u hj⟩⟩
theorem own_blk {w : World} {base : Nat} {e : TypeId} {size : Nat} {v : Value} {n : Nat} {xs : List Value} (h : w.ownsRow base e size v n xs) {g : Nat} (hg : v.ownBlock = some g) : base ≤ g ∧ g < w.heap.size := by
  have hl := h.lt
  obtain ⟨h1, ⟨rfl, rfl⟩ | ⟨g', cap, cur, rfl, h2, h3, h4, h5, h6, h7⟩⟩ := h
  · cases hg
  · cases hg
    exact ⟨h2, (hl _ rfl).2⟩
theorem repM_own {w : World} {base : Nat} {v : Value} {l : List Int} {P : Nat → Prop} (h : w.ownsRow base 86 1 v l.length (l.map (Value.int .u32))) (hr : l.length * 4 ≤ 140737488351232) (hP : ∀ b, base ≤ b → P b) : RepM w P l v :=
  let ⟨h1, h2⟩ := own_hd h
  ⟨h1, hr, fun i n hi => let ⟨⟨a, b⟩, c⟩ := h2 i _ (by rw [List.getElem?_map, hi]; rfl); ⟨⟨hP _ a, b⟩, c⟩⟩
theorem rep_len {w : World} {P : Nat → Prop} {t : T} {cs : List Value} (h : Rep w P t cs) : cs.length = 7 := by
  cases t
  rw [rep_mk] at h
  obtain ⟨vm, vi, vr, rfl, _⟩ := h
  rfl
theorem hd_some {n : Nat} {a : Option Addr} {c : Nat} {m : Nat} (h : Hd n (.slice a m c)) (hn : 0 < n) : ∃ b off, a = some ⟨b, off, none⟩ ∧ n ≤ c := by
  rcases h with ⟨h0, e⟩ | ⟨a, cap, e, hcap, h0 | ⟨b, off, rfl⟩⟩
  · omega
  · omega
  · cases e; exact ⟨b, off, rfl, hcap⟩
theorem hd_one {n : Nat} {v : Value} (h : Hd n v) : v.oneCell' = true := by
  rcases h with ⟨_, rfl⟩ | ⟨a, cap, rfl, _⟩ <;> rfl
theorem rep_one {w : World} {P : Nat → Prop} {t : T} {cs : List Value} (h : Rep w P t cs) : ∀ u ∈ cs, u.oneCell' = true := by
  cases t
  rw [rep_mk] at h
  obtain ⟨vm, vi, vr, rfl, h1, h2, h3⟩ := h
  intro u hu
  simp only [List.mem_cons, List.not_mem_nil, or_false] at hu
  rcases hu with rfl | rfl | rfl | rfl | rfl | rfl | rfl <;> first | rfl | exact hd_one h1.1 | exact hd_one h2.1 | exact hd_one h3.1
theorem own_below {w w' : World} {base : Nat} {e : TypeId} {size : Nat} {v : Value} {n : Nat} {xs : List Value} (h : w.ownsRow base e size v n xs) (hb : Below w.heap.size w w') : w'.ownsRow base e size v n xs := by
  have hl := h.lt
  obtain ⟨h1, h2 | ⟨g, cap, cur, rfl, h2, h3, h4, h5, h6, h7⟩⟩ := h
  · exact ⟨h1, .inl h2⟩
  · exact ⟨h1, .inr ⟨g, cap, cur, rfl, h2, (hb.block g (hl g rfl).2).trans h3, h4, h5, h6, h7⟩⟩
/-- what has been gathered of a list: the first k, each as f says -/
def Got (w : World) (P : Nat → Prop) (f : T → T) (l : List T) (k : Nat) (xs : List Value) : Prop := ∀ (j : Nat) (t : T), j < k → l[j]? = some t → ∃ cs : List Value, cs.length = 7 ∧ Rep w P (f t) cs ∧ ∀ (m : Nat) (u : Value), cs[m]? = some u → xs[j * 7 + m]? = some u
theorem got_zero (w : World) (P : Nat → Prop) (f : T → T) (l : List T) : Got w P f l 0 [] := fun j t hj => absurd hj (Nat.not_lt_zero _)
theorem got_keep {w w' : World} {P P' : Nat → Prop} {f : T → T} {l : List T} {k : Nat} {xs : List Value} (hk : Keeps w w' P P') (h : Got w P f l k xs) : Got w' P' f l k xs :=
  fun j t hj ht => let ⟨cs, h1, h2, h3⟩ := h j t hj ht; ⟨cs, h1, rep_keep hk _ _ h2, h3⟩
theorem got_snoc {w : World} {P : Nat → Prop} {f : T → T} {l : List T} {k : Nat} {xs cs : List Value} {t : T} (h : Got w P f l k xs) (hl : xs.length = k * 7) (ht : l[k]? = some t) (hc : Rep w P (f t) cs) : Got w P f l (k + 1) (xs ++ cs) := by
  intro j u hj hu
  have h7 := rep_len hc
  rcases Nat.lt_succ_iff_lt_or_eq.1 hj with h1 | rfl
  · obtain ⟨ds, d1, d2, d3⟩ := h j u h1 hu
    refine ⟨ds, d1, d2, fun m v hm => ?_⟩
    have := d3 m v hm
    rw [List.getElem?_append_left (List.getElem?_eq_some_iff.1 this).1]
    exact this
  · rw [ht] at hu; cases hu
    refine ⟨cs, h7, hc, fun m v hm => ?_⟩
    rw [List.getElem?_append_right (by omega), hl, show j * 7 + m - j * 7 = m by omega]
    exact hm
/-- the blocks of what has been gathered: not the row's own -/
def PR (P : Nat → Prop) (base : Nat) (m : Value) (b : Nat) : Prop := ((P b ∧ b < base) ∨ base ≤ b) ∧ some b ≠ m.ownBlock
theorem got_done {w : World} {base : Nat} {v : Value} {f : T → T} {l : List T} {xs : List Value} {P Q : Nat → Prop} (h : Got w (PR P base v) f l l.length xs) (hown : w.ownsRow base 27 7 v l.length xs) (hr : l.length * 112 ≤ 140737488351232)
    (hQ : ∀ b, P b ∨ base ≤ b → Q b) : RepS w Q (l.map f) v := by
  obtain ⟨h1, h2⟩ := own_hd hown
  refine ⟨by simpa using h1, by simpa using hr, repC_of fun j t hj => ?_⟩
  rw [List.getElem?_map] at hj
  cases hu : l[j]? with
  | none => rw [hu] at hj; cases hj
  | some x =>
    rw [hu] at hj; cases hj
    obtain ⟨cs, c1, c2, c3⟩ := h j x (List.getElem?_eq_some_iff.1 hu).1 hu
    obtain ⟨u, hu⟩ : ∃ u, cs[0]? = some u := ⟨cs[0], List.getElem?_eq_getElem (by omega)⟩
    have := h2 _ _ (c3 0 u hu)
    exact ⟨⟨hQ _ (.inr this.1.1), this.1.2⟩, cs, c1, fun m u hm => by rw [Nat.zero_add]; exact (h2 _ _ (c3 m u hm)).2,
      rep_keep (keeps_weak fun b hb _ => hQ b (by rcases hb.1 with h | h; exact .inl h.1; exact .inr h)) _ _ c2⟩
/-- an element's cells -/
theorem repS_cells {w : World} {P : Nat → Prop} {l : List T} {b off : Nat} (h : RepC w P ⟨b, off, none⟩ 0 l) {k : Nat} {t : T} (ht : l[k]? = some t) : b < w.heap.size ∧ ∃ cs, Rep w P t cs ∧ ∀ (m : Nat) (u : Value), cs[m]? = some u → w.cell? ⟨b, off + k * 7 + m, none⟩ = some u := by
  obtain ⟨h1, cs, h2, h3, h4⟩ := repC_get h k t ht
  refine ⟨h1.2, cs, h4, fun m u hm => ?_⟩
  have := h3 m u hm
  rw [Nat.zero_add] at this
  have e : (⟨b, off, none⟩ : Addr).add (k * 7 + m) = ⟨b, off + k * 7 + m, none⟩ := by
    unfold Addr.add
    split
    · rename_i h0; simp only [Addr.mk.injEq, true_and, and_true]; omega
    · simp only [Addr.mk.injEq, true_and, and_true]; omega
  rw [← e]; exact this
theorem below_all {B : Nat} {w w1 w2 : World} (h : Below B w w1) (hb : Below w1.heap.size w1 w2) (hB : B ≤ w1.heap.size) : Below B w w2 := h.trans (hb.mono hB)
/-- what the elements are, in a round -/
theorem keeps_in {w wr : World} {P : Nat → Prop} (hb : Below w.heap.size w wr) : Keeps w wr P (fun b => P b ∧ b < w.heap.size) :=
  fun b hp hlt => ⟨⟨hp, hlt⟩, Nat.lt_of_lt_of_le hlt hb.size, hb.block b hlt⟩
theorem round_got {wr w1 w2 : World} {P : Nat → Prop} {base : Nat} {m v' : Value} {k : Nat} {xs cs : List Value} {f : T → T} {l : List T} {t : T} {o : Obj} (hown : wr.ownsRow base 27 7 m k xs)
    (hgot : Got wr (PR P base m) f l k xs) (hbase : base ≤ wr.heap.size) (ht : l[k]? = some t) (hb1 : Below wr.heap.size wr w1) (hrep : Rep w1 (fun b => (P b ∧ b < base) ∨ wr.heap.size ≤ b) (f t) cs)
    (hg : (w1.alloc o).grownBy w2 m.ownBlock) (hv : v'.ownBlock = m.ownBlock ∨ v'.ownBlock = some (w1.heap.size + 1)) : Got w2 (PR P base v') f l (k + 1) (xs ++ cs) := by
  have hs1 := hb1.size
  have hs2 := hg.size
  have ha : (w1.alloc o).heap.size = w1.heap.size + 1 := by simp
  have hblk : ∀ b, b < w1.heap.size → some b ≠ m.ownBlock → w2.heap[b]? = w1.heap[b]? := fun b hlt hne => (hg.block b (by omega) hne).trans (Below.heap_alloc w1 o b hlt)
  refine got_snoc (got_keep (w := wr) (P := PR P base m) (fun b hp hlt => ⟨⟨hp.1, ?_⟩, by omega, (hblk b (by omega) hp.2).trans (hb1.block b hlt)⟩) hgot) hown.1 ht
    (rep_keep (w := w1) (P := fun b => (P b ∧ b < base) ∨ wr.heap.size ≤ b) (fun b hp hlt => ?_) _ _ hrep)
  · rcases hv with h | h
    · rw [h]; exact hp.2
    · rw [h]; intro e; cases e; omega
  · have hne : some b ≠ m.ownBlock := by
      intro e
      have := own_blk hown e.symm
      rcases hp with hp | hp
      · omega
      · omega
    refine ⟨⟨?_, ?_⟩, by omega, hblk b hlt hne⟩
    · rcases hp with hp | hp
      · exact .inl hp
      · exact .inr (by omega)
    · rcases hv with h | h
      · rw [h]; exact hne
      · rw [h]; intro e; cases e; omega
theorem round_below {W wr w1 w2 : World} {base : Nat} {m : Value} {k : Nat} {xs : List Value} {o : Obj} (hown : wr.ownsRow base 27 7 m k xs) (hbel : Below base W wr) (hbase : base ≤ wr.heap.size) (hb1 : Below wr.heap.size wr w1) (hg : (w1.alloc o).grownBy w2 m.ownBlock) : Below base W w2 :=
  ((below_all hbel hb1 hbase).alloc (by have := hb1.size; omega) o).grown hg (by have := hb1.size; simp; omega) (fun k hk => (own_blk hown hk).1)
theorem new_cells {w1 : World} {vs : List Value} {t : TypeId} : ∀ (j : Nat) (u : Value), vs[j]? = some u → (w1.alloc (.cells vs.toArray t)).cell? ((⟨w1.heap.size, 0, none⟩ : Addr).add j) = some u := by
  intro j u hj
  have e : (⟨w1.heap.size, 0, none⟩ : Addr).add j = ⟨w1.heap.size, j, none⟩ := by
    unfold Addr.add
    split
    · rename_i h0; simp only [Addr.mk.injEq, true_and, and_true]; omega
    · simp only [Addr.mk.injEq, true_and, and_true]; omega
  rw [e]
  have e2 : (w1.alloc (.cells vs.toArray t)).heap[w1.heap.size]? = some (.cells vs.toArray t) := by show (w1.heap.push _)[w1.heap.size]? = _; simp
  unfold World.cell?
  simp only [e2]
  simp [hj]
end Strips

namespace Strips
open Go Go.RowKit
set_option linter.unusedVariables false
/-- a block, whole -/
def Loc (w : World) (B : Nat) (t : TypeId) (vs : List Value) : Prop := w.heap[B]? = some (.cells vs.toArray t (0, 0))
theorem loc_cell {w : World} {B : Nat} {t : TypeId} {vs : List Value} (h : Loc w B t vs) (j : Nat) (u : Value) (hj : vs[j]? = some u) : w.cell? ⟨B, j, none⟩ = some u := by
  unfold Loc at h
  unfold World.cell?
  simp only [h]
  simp [hj]
theorem loc_frozen {w : World} {B : Nat} {t : TypeId} {vs : List Value} (h : Loc w B t vs) (j : Nat) : w.frozen? ⟨B, j, none⟩ = false := by
  unfold Loc at h
  unfold World.frozen?
  simp only [h]
  simp
theorem loc_below {w w' : World} {B : Nat} {t : TypeId} {vs : List Value} (h : Loc w B t vs) (hB : B < w.heap.size) (hb : Below w.heap.size w w') : Loc w' B t vs := (hb.block B hB).trans h
theorem loc_alloc {w : World} {B : Nat} {t : TypeId} {vs : List Value} (h : Loc w B t vs) (hB : B < w.heap.size) (o : Obj) : Loc (w.alloc o) B t vs := (Below.heap_alloc w o B hB).trans h
theorem loc_new (w : World) (vs : List Value) (t : TypeId) : Loc (w.alloc (.cells vs.toArray t)) w.heap.size t vs := by
  show (w.heap.push _)[w.heap.size]? = _; simp
theorem size_alloc (w : World) (o : Obj) : (w.alloc o).heap.size = w.heap.size + 1 := by simp
theorem loc_new2 (w : World) (o : Obj) (vs : List Value) (t : TypeId) : Loc ((w.alloc o).alloc (.cells vs.toArray t)) (w.heap.size + 1) t vs := by
  have h := loc_new (w.alloc o) vs t
  rw [size_alloc] at h
  exact h
theorem size_alloc2 (w : World) (o o' : Obj) : ((w.alloc o).alloc o').heap.size = w.heap.size + 2 := by simp
theorem hd_slice {n : Nat} {v : Value} (h : Hd n v) : ∃ a c, v = .slice a n c := by
  rcases h with ⟨rfl, rfl⟩ | ⟨a, cap, rfl, _⟩ <;> exact ⟨_, _, rfl⟩
theorem loc_set {w : World} {B : Nat} {t : TypeId} {vs : List Value} (h : Loc w B t vs) (i : Nat) (x : Value) : Loc (w.setCell ⟨B, i, none⟩ x) B t (vs.set i x) := by
  unfold Loc at h ⊢
  simp only [World.setCell, Array.getElem?_modify, if_pos, h, Option.map_some]
  simp
theorem loc_far {w : World} {B : Nat} {t : TypeId} {vs : List Value} (h : Loc w B t vs) {a : Addr} (ha : B ≠ a.block) (x : Value) : Loc (w.setCell a x) B t vs := (Below.heap_setCell w a x B ha).trans h
theorem size_set (w : World) (a : Addr) (x : Value) : (w.setCell a x).heap.size = w.heap.size := by simp [World.setCell]
/-- blocks of old, and such as are made behind the two of the call's own -/
def PX (P : Nat → Prop) (S : Nat) (b : Nat) : Prop := (P b ∧ b < S) ∨ S + 2 ≤ b
theorem px_start {w wr : World} {P : Nat → Prop} (hb : Below w.heap.size w wr) : Keeps w wr P (PX P w.heap.size) :=
  fun b hp hlt => ⟨.inl ⟨hp, hlt⟩, Nat.lt_of_lt_of_le hlt hb.size, hb.block b hlt⟩
theorem px_call {w : World} {P : Nat → Prop} {S n : Nat} (h : S + 2 ≤ n) : Keeps w w (fun b => PX P S b ∨ n ≤ b) (PX P S) :=
  keeps_weak fun b hp _ => by rcases hp with hp | hp; exact hp; exact .inr (by omega)
theorem px_set {w : World} {P : Nat → Prop} {S : Nat} {a : Addr} (x : Value) (h : a.block = S ∨ a.block = S + 1) : Keeps w (w.setCell a x) (PX P S) (PX P S) :=
  fun b hp hlt => ⟨hp, by rw [size_set]; exact hlt, Below.heap_setCell w a x b (by intro e; subst e; rcases hp with hp | hp <;> omega)⟩
theorem px_end {w : World} {P : Nat → Prop} {S : Nat} : Keeps w w (PX P S) (fun b => P b ∨ S ≤ b) :=
  keeps_weak fun b hp _ => by rcases hp with hp | hp; exact .inl hp.1; exact .inr (by omega)
theorem keeps_refl (w : World) (P : Nat → Prop) : Keeps w w P P := fun b hp hlt => ⟨hp, hlt, rfl⟩
theorem px_then {w v : World} {P P0 : Nat → Prop} {S : Nat} {a : Addr} {x : Value} (h : Keeps w v P0 (PX P S)) (ha : a.block = S ∨ a.block = S + 1) : Keeps w (v.setCell a x) P0 (PX P S) :=
  fun b hp hlt => let ⟨h1, h2, h3⟩ := h b hp hlt; let ⟨g1, g2, g3⟩ := px_set (w := v) x ha b h1 h2; ⟨g1, g2, g3.trans h3⟩
theorem loc_drew {w : World} {B : Nat} {t : TypeId} {vs : List Value} (h : Loc w B t vs) : Loc w.drew B t vs := h
theorem keeps_drew (w : World) (P : Nat → Prop) : Keeps w w.drew P P := fun b hp hlt => ⟨hp, hlt, rfl⟩
theorem below_then {w v : World} {S : Nat} {a : Addr} {x : Value} (h : Below S w v) (ha : a.block = S ∨ a.block = S + 1) : Below S w (v.setCell a x) := h.setCell (by omega) x
theorem px_out {w v : World} {P P0 : Nat → Prop} {S : Nat} (h : Keeps w v P0 (PX P S)) : Keeps w v P0 (fun b => P b ∨ S ≤ b) :=
  fun b hp hlt => let ⟨h1, h2, h3⟩ := h b hp hlt; ⟨by rcases h1 with h1 | h1; exact .inl h1.1; exact .inr (by omega), h2, h3⟩
end Strips
