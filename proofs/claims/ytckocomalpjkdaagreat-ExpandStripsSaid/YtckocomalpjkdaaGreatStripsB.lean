/- What the row reads of the argument is a tree that lies in memory, of bounded lengths; condition: the row's reading and its weights. -/
import Derived.Test.YtckocomalpjkdaaGreatStripsA
import Derived.Deep.Slices
import Derived.SizedLaws
import Derived.KernelRfl
import Derived.Test.YtckocomalpjkdaaGreatProg
set_option linter.unusedVariables false
set_option linter.unusedSimpArgs false
set_option linter.unusedSectionVars false
open Go Go.Proofs Go.RowKit Strips
set_option linter.unusedVariables false
namespace Strips
theorem co27 : Tryz.prog.cellsOf 27 = 7 := by kernel_rfl
theorem co86 : Tryz.prog.cellsOf 86 = 1 := by kernel_rfl
theorem co24 : Tryz.prog.cellsOf 24 = 2 := by kernel_rfl
theorem co25 : Tryz.prog.cellsOf 25 = 1 := by kernel_rfl
theorem co22 : Tryz.prog.cellsOf 22 = 1 := by kernel_rfl
theorem co9 : Tryz.prog.cellsOf 9 = 1 := by kernel_rfl
theorem co4 : Tryz.prog.cellsOf 4 = 1 := by kernel_rfl
theorem co3 : Tryz.prog.cellsOf 3 = 1 := by kernel_rfl
theorem by27 : Tryz.prog.bytesOf 27 = 112 := by kernel_rfl
theorem by86 : Tryz.prog.bytesOf 86 = 4 := by kernel_rfl
variable {H : Type} {enc : TypeId × Value → H} {w : World} {held : Bool}
theorem list_of {α : Type} {Q : Nat → α → Prop} : ∀ n, (∀ i, i < n → ∃ t, Q i t) → ∃ l : List α, l.length = n ∧ ∀ i t, l[i]? = some t → Q i t
  | 0, _ => ⟨[], rfl, fun i t h => by simp at h⟩
  | n + 1, h => by
    obtain ⟨l, h1, h2⟩ := list_of n fun i hi => h i (by omega)
    obtain ⟨t, ht⟩ := h n (by omega)
    refine ⟨l ++ [t], by simp [h1], fun i u hu => ?_⟩
    rcases Nat.lt_trichotomy i n with hlt | rfl | hgt
    · rw [List.getElem?_append_left (by omega)] at hu; exact h2 i u hu
    · rw [List.getElem?_append_right (by omega), h1] at hu
      simp at hu; subst hu; exact ht
    · rw [List.getElem?_eq_none (by simp [h1]; omega)] at hu; cases hu
theorem spot_none {w : World} {a : Addr} {u : Value} (h : w.cell? a = some u) : ∃ b off, a = ⟨b, off, none⟩ := by
  obtain ⟨b, off, spot⟩ := a
  cases spot with
  | none => exact ⟨b, off, rfl⟩
  | some s =>
    unfold World.cell? at h
    split at h
    · simp at h
    · cases h
theorem weights_each {P : Program} {fs : List TypeId} {ds : List (DataW H)} {R : Nat → Prop} (h : ∀ n ∈ DataW.weightsEach P fs ds, R n) {j : Nat} {t : TypeId} {d : DataW H} (ht : fs[j]? = some t) (hd : ds[j]? = some d) : ∀ n ∈ d.weights P t, R n :=
  fun n hn => h n (DataW.weights_mem_each ht hd n hn)
theorem weights_all {P : Program} {e : TypeId} : ∀ {ds : List (DataW H)} {d : DataW H} (_ : d ∈ ds), ∀ n ∈ d.weights P e, n ∈ DataW.weightsAll P e ds
  | x :: ds, d, h, n, hn => by
    simp only [DataW.weightsAll, List.mem_append]
    rcases List.mem_cons.1 h with rfl | h
    · exact .inl hn
    · exact .inr (weights_all h n hn)
  | [], _, h, _, _ => by cases h
/-- limbs read -/
theorem open_limbs {fuel : Nat} {cs : List Value} {x : DataW H × List MemPlace} (h : DataW.trod enc Tryz.prog w 0 (fun _ => true) held fuel 22 cs = some x) (hwt : ∀ n ∈ x.1.weights Tryz.prog 22, n ≤ reachBytes) :
    ∃ v l, cs = [v] ∧ RepM w (fun _ => True) l v := by
  rcases DataW.trod_slice Tryz.underlying22 h with ⟨rfl, rfl⟩ | ⟨a, len, cap, elems, rest, n, _, rfl, rfl, _, hl, _, hlen, hel, _⟩
  · exact ⟨_, [], rfl, .inl ⟨rfl, rfl⟩, by simp, fun i n hi => by simp at hi⟩
  · have hq : ∀ i, i < len → ∃ q : Int, w.cell? (a.add i) = some (.int .u32 q) := by
      intro i hi
      have h1 := hel i hi
      rw [List.getElem?_eq_getElem (by omega), co86, Nat.mul_one] at h1
      obtain ⟨cs', h2, h3⟩ := Option.bind_eq_some_iff.1 h1
      obtain ⟨q, rfl, _, _⟩ := DataW.trod_int Tryz.underlying86 h3
      obtain ⟨_, _, h4⟩ := World.cells?_some h2
      exact ⟨q, by simpa [Addr.add] using h4 0 (by omega)⟩
    obtain ⟨l, h1, h2⟩ := list_of len hq
    refine ⟨_, l, rfl, .inr ⟨a, cap, by rw [h1], by omega, ?_⟩, ?_, fun i n hi => ⟨⟨trivial, ?_⟩, h2 i n hi⟩⟩
    · rcases Nat.eq_zero_or_pos len with h0 | h0
      · exact .inl (by omega)
      · obtain ⟨q, hq⟩ := hq 0 h0
        exact .inr (spot_none (by simpa [Addr.add] using hq))
    · have := hwt ((elems.length + rest.length) * 4) (by simp [DataW.weights, Tryz.underlying22, by86])
      unfold reachBytes at this
      omega
    · have := World.block_lt_of_cell? _ _ (h2 i n hi)
      rwa [add_block] at this
end Strips

open Go Go.Proofs Go.RowKit Strips
set_option linter.unusedVariables false
namespace Strips
variable {H : Type} {enc : TypeId × Value → H} {w : World} {held : Bool}
theorem uncons {α : Type _} {l : List α} {n : Nat} (h : l.length = n + 1) : ∃ a r, l = a :: r ∧ r.length = n := by
  cases l with
  | nil => simp at h
  | cons a r => exact ⟨a, r, rfl, by simpa using h⟩
theorem nil_of {α : Type _} {l : List α} (h : l.length = 0) : l = [] := List.eq_nil_of_length_eq_zero h
theorem len2 {α : Type _} {l : List α} (h : l.length = 2) : ∃ a b, l = [a, b] := by
  obtain ⟨a, l1, rfl, h1⟩ := uncons h
  obtain ⟨b, l2, rfl, h2⟩ := uncons h1
  obtain rfl := nil_of h2
  exact ⟨_, _, rfl⟩
theorem len6 {α : Type _} {l : List α} (h : l.length = 6) : ∃ a b c d e f, l = [a, b, c, d, e, f] := by
  obtain ⟨a, l1, rfl, h1⟩ := uncons h
  obtain ⟨b, l2, rfl, h2⟩ := uncons h1
  obtain ⟨c, l3, rfl, h3⟩ := uncons h2
  obtain ⟨d, l4, rfl, h4⟩ := uncons h3
  obtain ⟨e, f, rfl⟩ := len2 h4
  exact ⟨_, _, _, _, _, _, rfl⟩
theorem len7 {α : Type _} {l : List α} (h : l.length = 7) : ∃ a b c d e f g, l = [a, b, c, d, e, f, g] := by
  obtain ⟨a, l1, rfl, h1⟩ := uncons h
  obtain ⟨b, c, d, e, f, g, rfl⟩ := len6 h1
  exact ⟨_, _, _, _, _, _, _, rfl⟩
theorem weights27 (parts : List (DataW H)) : (DataW.agg parts).weights Tryz.prog 27 = DataW.weightsEach Tryz.prog [3, 3, 24, 9, 25, 25] parts := by
  rw [DataW.weights, Tryz.underlying27]; rfl
theorem weights24 (parts : List (DataW H)) : (DataW.agg parts).weights Tryz.prog 24 = DataW.weightsEach Tryz.prog [4, 22] parts := by
  rw [DataW.weights, Tryz.underlying24]; rfl
theorem add_zero (a : Addr) : a.add 0 = a := by simp [Addr.add]
theorem add_add' (a : Addr) (i j : Nat) : (a.add i).add j = a.add (i + j) := by
  unfold Addr.add
  by_cases hi : i = 0 <;> by_cases hj : j = 0 <;> simp [hi, hj, Nat.add_assoc]
/-- data read -/
theorem open_data {fuel : Nat} (ih : ∀ n, n < fuel → ∀ (cs : List Value) (x : DataW H × List MemPlace), DataW.trod enc Tryz.prog w 0 (fun _ => true) held n 27 cs = some x → (∀ n ∈ x.1.weights Tryz.prog 27, n ≤ reachBytes) → ∃ t, Rep w (fun _ => True) t cs)
    {cs : List Value} {x : DataW H × List MemPlace} (h : DataW.trod enc Tryz.prog w 0 (fun _ => true) held fuel 25 cs = some x) (hwt : ∀ n ∈ x.1.weights Tryz.prog 25, n ≤ reachBytes) :
    ∃ v l, cs = [v] ∧ RepS w (fun _ => True) l v := by
  rcases DataW.trod_slice Tryz.underlying25 h with ⟨rfl, rfl⟩ | ⟨a, len, cap, elems, rest, n, rfl, rfl, rfl, _, hl, _, hlen, hel, _⟩
  · exact ⟨_, [], rfl, .inl ⟨rfl, rfl⟩, by simp, by simp only [RepC]⟩
  · have hq : ∀ i, i < len → ∃ t : T, ∃ cs : List Value, cs.length = 7 ∧ (∀ m u, cs[m]? = some u → w.cell? (a.add (i * 7 + m)) = some u) ∧ Rep w (fun _ => True) t cs := by
      intro i hi
      have h1 := hel i hi
      have hm : i < elems.length := by omega
      rw [List.getElem?_eq_getElem hm, co27] at h1
      obtain ⟨cs', h2, h3⟩ := Option.bind_eq_some_iff.1 h1
      obtain ⟨_, h5, h4⟩ := World.cells?_some h2
      obtain ⟨t, ht⟩ := ih n (by omega) cs' _ h3 (fun q hq => hwt q (by
        have := weights_all (P := Tryz.prog) (e := 27) (ds := elems.map (·.1)) (d := elems[i].1) (List.mem_map.2 ⟨_, List.getElem_mem hm, rfl⟩) q hq
        simp only [DataW.weights, Tryz.underlying25, List.mem_cons, List.mem_append]
        exact .inr (.inl this)))
      refine ⟨t, cs', h5, fun m u hu => ?_, ht⟩
      have hm7 : m < 7 := by rw [← h5]; exact (List.getElem?_eq_some_iff.1 hu).1
      have := h4 m hm7
      rw [add_add', hu] at this
      exact this
    obtain ⟨l, h1, h2⟩ := list_of len hq
    have hblk : ∀ (i : Nat) (t : T), l[i]? = some t → a.block < w.heap.size := by
      intro i t hi
      obtain ⟨cs, c1, c2, _⟩ := h2 i t hi
      have := c2 0 _ (List.getElem?_eq_getElem (by omega))
      have := World.block_lt_of_cell? _ _ this
      rwa [add_block] at this
    refine ⟨_, l, rfl, .inr ⟨a, cap, by rw [h1], by omega, ?_⟩, ?_, repC_of fun i t hi => ⟨⟨trivial, hblk i t hi⟩, ?_⟩⟩
    · rcases Nat.eq_zero_or_pos len with h0 | h0
      · exact .inl (by omega)
      · obtain ⟨t, cs, c1, c2, _⟩ := hq 0 h0
        have := c2 0 _ (List.getElem?_eq_getElem (by omega))
        rw [Nat.zero_mul, Nat.zero_add, add_zero] at this
        exact .inr (spot_none this)
    · have := hwt ((elems.length + rest.length) * 112) (by simp [DataW.weights, Tryz.underlying25, by27])
      unfold reachBytes at this
      omega
    · rw [Nat.zero_add]
      exact h2 i t hi
theorem open_datum : ∀ (fuel : Nat) (cs : List Value) (x : DataW H × List MemPlace), DataW.trod enc Tryz.prog w 0 (fun _ => true) held fuel 27 cs = some x → (∀ n ∈ x.1.weights Tryz.prog 27, n ≤ reachBytes) → ∃ t, Rep w (fun _ => True) t cs := by
  intro fuel
  induction fuel using Nat.strongRecOn with
  | ind fuel ih =>
    intro cs x h hwt
    obtain ⟨xs, n, rfl, rfl, hl, hlen, hf⟩ := DataW.trod_struct Tryz.underlying27 h
    rw [co27] at hl
    obtain ⟨c0, c1, c2, c3, c4, c5, c6, rfl⟩ := len7 hl
    obtain ⟨x0, x1, x2, x3, x4, x5, rfl⟩ := len6 (l := xs) hlen
    have f0 : DataW.trod enc Tryz.prog w 0 (fun _ => true) held n 3 [c0] = some x0 := by
      have := hf 0 ⟨"Kind", 3, 0, false, "", "", 0⟩ rfl
      rw [co3] at this
      exact this
    have f1 : DataW.trod enc Tryz.prog w 0 (fun _ => true) held n 3 [c1] = some x1 := by
      have := hf 1 ⟨"N", 3, 1, false, "", "", 8⟩ rfl
      rw [co3] at this
      exact this
    have f2 : DataW.trod enc Tryz.prog w 0 (fun _ => true) held n 24 [c2, c3] = some x2 := by
      have := hf 2 ⟨"Num", 24, 2, false, "", "", 16⟩ rfl
      rw [co24] at this
      exact this
    have f3 : DataW.trod enc Tryz.prog w 0 (fun _ => true) held n 9 [c4] = some x3 := by
      have := hf 3 ⟨"Text", 9, 4, false, "", "", 48⟩ rfl
      rw [co9] at this
      exact this
    have f4 : DataW.trod enc Tryz.prog w 0 (fun _ => true) held n 25 [c5] = some x4 := by
      have := hf 4 ⟨"Items", 25, 5, false, "", "", 64⟩ rfl
      rw [co25] at this
      exact this
    have f5 : DataW.trod enc Tryz.prog w 0 (fun _ => true) held n 25 [c6] = some x5 := by
      have := hf 5 ⟨"Rest", 25, 6, false, "", "", 88⟩ rfl
      rw [co25] at this
      exact this
    have hwt' : ∀ n ∈ DataW.weightsEach Tryz.prog [3, 3, 24, 9, 25, 25] [x0.1, x1.1, x2.1, x3.1, x4.1, x5.1], n ≤ reachBytes := by
      intro q hq
      exact hwt q (by rw [weights27]; exact hq)
    obtain ⟨k, e, _, _⟩ := DataW.trod_int Tryz.underlying3 f0
    cases e
    obtain ⟨nn, e, _, _⟩ := DataW.trod_int Tryz.underlying3 f1
    cases e
    obtain ⟨s, e, _, _⟩ := DataW.trod_string Tryz.underlying9 f3
    cases e
    obtain ⟨ys, n2, rfl, e2, hl2, hlen2, hf2⟩ := DataW.trod_struct Tryz.underlying24 f2
    obtain ⟨y0, y1, rfl⟩ := len2 (l := ys) hlen2
    have g0 : DataW.trod enc Tryz.prog w 0 (fun _ => true) held n2 4 [c2] = some y0 := by
      have := hf2 0 ⟨"Neg", 4, 0, false, "", "", 0⟩ rfl
      rw [co4] at this
      exact this
    have g1 : DataW.trod enc Tryz.prog w 0 (fun _ => true) held n2 22 [c3] = some y1 := by
      have := hf2 1 ⟨"Mag", 22, 1, false, "", "", 8⟩ rfl
      rw [co22] at this
      exact this
    obtain ⟨neg, e, _⟩ := DataW.trod_bool Tryz.underlying4 g0
    cases e
    have w2 := weights_each (j := 2) hwt' rfl rfl
    rw [e2] at w2
    have w2' : ∀ n ∈ DataW.weightsEach Tryz.prog [4, 22] [y0.1, y1.1], n ≤ reachBytes := by
      intro q hq
      exact w2 q (by rw [weights24]; exact hq)
    obtain ⟨vm, mag, e, hm⟩ := open_limbs g1 (weights_each (j := 1) w2' rfl rfl)
    cases e
    obtain ⟨vi, items, e, hi⟩ := open_data (fun m hm => ih m (by omega)) f4 (weights_each (j := 4) hwt' rfl rfl)
    cases e
    obtain ⟨vr, rest, e, hr⟩ := open_data (fun m hm => ih m (by omega)) f5 (weights_each (j := 5) hwt' rfl rfl)
    cases e
    exact ⟨.mk k nn neg mag s items rest, rep_mk.2 ⟨_, _, _, rfl, hm, hi, hr⟩⟩
end Strips
