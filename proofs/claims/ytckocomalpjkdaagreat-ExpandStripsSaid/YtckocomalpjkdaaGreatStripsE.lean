/- Contracts: Same says true of one datum that lies twice in memory; the law's function says true; awake's contract is a premise here, paid in the last text. -/
import Derived.Test.YtckocomalpjkdaaGreatStripsC
import Derived.Deep.RegionHeld3
import Derived.Deep.RegionWith
import Derived.Test.YtckocomalpjkdaaGreatStripsD
set_option linter.unusedVariables false
set_option linter.unusedSimpArgs false
set_option linter.unusedSectionVars false
open Go Go.Proofs Go.RowKit Strips
theorem Strips.addr_add (b off j : Nat) : (⟨b, off, none⟩ : Addr).add j = ⟨b, off + j, none⟩ := by
  unfold Addr.add
  split
  · rename_i h0; simp only [Addr.mk.injEq, true_and, and_true]; omega
  · rfl
set_option maxRecDepth 100000 in
set_option maxHeartbeats 4000000 in
theorem limbsame_walk (l : List Int) (va vb : Value) (P Q : Nat → Prop) (w : World) (ha : RepM w P l va) (hb : RepM w Q l vb) : Calls Tryz.prog 33 #[va, vb] w fun e w' => e = .returned (.bool true) ∧ Below w.heap.size w w' := by
  obtain ⟨aa, ca, rfl⟩ := hd_slice ha.1
  obtain ⟨ab, cb, rfl⟩ := hd_slice hb.1
  have HA := Lib.hid ha
  have HB := Lib.hid hb
  have hr := ha.2.1
  clear ha hb
  go_enter Tryz.func33, Tryz.ntmps33
  go_wp2
  go_loopw [5] (fun i wr => ∃ j : Nat, j ≤ l.length ∧ i = .int .i64 j ∧ Hid (Below w.heap.size w wr))
    (fun i _ => l.length - (intOf i).toNat)
  case atStart => exact ⟨0, Nat.zero_le _, rfl, Below.refl _ _⟩
  case round =>
    obtain ⟨j, hj, rfl, hbel⟩ := hrel
    by_cases hlt : j < l.length
    · have hget := List.getElem?_eq_getElem hlt
      obtain ⟨b1, o1, rfl, hc1⟩ := hd_some HA.out.1 (by omega)
      obtain ⟨b2, o2, rfl, hc2⟩ := hd_some HB.out.1 (by omega)
      have e1 := (repM_keep (keeps_below hbel.out) HA.out).2.2 j _ hget
      have e2 := (repM_keep (keeps_below hbel.out) HB.out).2.2 j _ hget
      have f1 : wr.cell? ⟨b1, o1 + j, none⟩ = some (.int .u32 l[j]) := by rw [← addr_add]; exact e1.2
      have f2 : wr.cell? ⟨b2, o2 + j, none⟩ = some (.int .u32 l[j]) := by rw [← addr_add]; exact e2.2
      clear e1 e2
      generalize l[j] = q at hget f1 f2
      clear hget
      go_wp2
      go_region_held3 (fun w' => w'.cell? ⟨b1, o1 + j, none⟩ = some (.int .u32 q) ∧ w'.cell? ⟨b2, o2 + j, none⟩ = some (.int .u32 q)) (go_keep) (fail)
      go_wp2
      refine ⟨⟨j + 1, by omega, by go_num, hbel.out.drew⟩, ?_⟩
      simp [intOf]; omega
    · have hkl : j = l.length := by omega
      subst hkl
      go_wp2
      go_ret
      exact ⟨rfl, hbel.out⟩

open Go Go.Proofs Go.RowKit Strips
set_option maxRecDepth 100000 in
set_option maxHeartbeats 4000000 in
theorem numsame_walk (neg : Bool) (l : List Int) (va vb : Value) (P Q : Nat → Prop) (w : World) (ha : RepM w P l va) (hb : RepM w Q l vb) : Calls Tryz.prog 23 #[.agg #[.bool neg, va], .agg #[.bool neg, vb]] w fun e w' => e = .returned (.bool true) ∧ Below w.heap.size w w' := by
  obtain ⟨aa, ca, rfl⟩ := hd_slice ha.1
  obtain ⟨ab, cb, rfl⟩ := hd_slice hb.1
  have HA := Lib.hid ha
  have HB := Lib.hid hb
  clear ha hb
  go_enter Tryz.func23, Tryz.ntmps23
  go_wp2_with fail
  refine (limbsame_walk l _ _ P Q _ (repM_keep (keeps_below (((Below.refl _ w).alloc (Nat.le_refl _) _).alloc (by simp) _)) HA.out) (repM_keep (keeps_below (((Below.refl _ w).alloc (Nat.le_refl _) _).alloc (by simp) _)) HB.out)).mono ?_
  rintro e w1 ⟨rfl, hb1⟩
  go_wp2
  go_ret
  exact ⟨rfl, below_all (((Below.refl _ w).alloc (Nat.le_refl _) _).alloc (by simp) _) hb1 (by simp; omega)⟩
def SmOK (t : T) : Prop := ∀ (P Q : Nat → Prop) (w : World) (cs ds : List Value), Rep w P t cs → Rep w Q t ds → Calls Tryz.prog 9 #[.agg cs.toArray, .agg ds.toArray] w fun e w' => e = .returned (.bool true) ∧ Below w.heap.size w w'
set_option maxRecDepth 100000 in
set_option maxHeartbeats 4000000 in
theorem allsame_walk (l : List T) (hel : ∀ t ∈ l, SmOK t) (va vb : Value) (P Q : Nat → Prop) (w : World) (ha : RepS w P l va) (hb : RepS w Q l vb) : Calls Tryz.prog 24 #[va, vb] w fun e w' => e = .returned (.bool true) ∧ Below w.heap.size w w' := by
  obtain ⟨aa, ca, rfl⟩ := hd_slice ha.1
  obtain ⟨ab, cb, rfl⟩ := hd_slice hb.1
  have HA := Lib.hid ha
  have HB := Lib.hid hb
  have hr := ha.2.1
  have HE := Lib.hid hel
  clear ha hb hel
  go_enter Tryz.func24, Tryz.ntmps24
  go_wp2
  go_loopw [5] (fun i wr => ∃ j : Nat, j ≤ l.length ∧ i = .int .i64 j ∧ Hid (Below w.heap.size w wr))
    (fun i _ => l.length - (intOf i).toNat)
  case atStart => exact ⟨0, Nat.zero_le _, rfl, Below.refl _ _⟩
  case round =>
    obtain ⟨j, hj, rfl, hbel⟩ := hrel
    by_cases hlt : j < l.length
    · have hget := List.getElem?_eq_getElem hlt
      obtain ⟨b1, o1, rfl, hc1⟩ := hd_some HA.out.1 (by omega)
      obtain ⟨b2, o2, rfl, hc2⟩ := hd_some HB.out.1 (by omega)
      obtain ⟨hb0, cs, hrep, hcell⟩ := repS_cells (b := b1) (off := o1) (repC_keep (keeps_below hbel.out) _ _ _ HA.out.2.2) hget
      obtain ⟨hb0', ds, hrep2, hcell2⟩ := repS_cells (b := b2) (off := o2) (repC_keep (keeps_below hbel.out) _ _ _ HB.out.2.2) hget
      have R1 := Lib.hid hrep
      have R2 := Lib.hid hrep2
      have HE1 := Lib.hid (HE.out _ (List.mem_of_getElem? hget))
      generalize l[j] = q at hget hrep hrep2 R1 R2 HE1
      clear hget
      obtain ⟨kk, nn, neg, mag, text, items, rest⟩ := q
      rw [rep_mk] at hrep hrep2
      obtain ⟨vm, vi, vr, rfl, g1, g2, g3⟩ := hrep
      obtain ⟨am1, cm1, rfl⟩ := hd_slice g1.1
      obtain ⟨ai1, ci1, rfl⟩ := hd_slice g2.1
      obtain ⟨ar1, cr1, rfl⟩ := hd_slice g3.1
      obtain ⟨vm, vi, vr, rfl, g4, g5, g6⟩ := hrep2
      obtain ⟨am2, cm2, rfl⟩ := hd_slice g4.1
      obtain ⟨ai2, ci2, rfl⟩ := hd_slice g5.1
      obtain ⟨ar2, cr2, rfl⟩ := hd_slice g6.1
      clear g1 g2 g3 g4 g5 g6
      have c0 : wr.cell? ⟨b1, o1 + j * 7, none⟩ = some (.int .i64 kk) := hcell 0 _ rfl
      have c1 := hcell 1 _ rfl
      have c2 := hcell 2 _ rfl
      have c3 := hcell 3 _ rfl
      have c4 := hcell 4 _ rfl
      have c5 := hcell 5 _ rfl
      have c6 := hcell 6 _ rfl
      have d0 : wr.cell? ⟨b2, o2 + j * 7, none⟩ = some (.int .i64 kk) := hcell2 0 _ rfl
      have d1 := hcell2 1 _ rfl
      have d2 := hcell2 2 _ rfl
      have d3 := hcell2 3 _ rfl
      have d4 := hcell2 4 _ rfl
      have d5 := hcell2 5 _ rfl
      have d6 := hcell2 6 _ rfl
      clear hcell hcell2
      have R1d := Lib.hid (rep_keep (keeps_drew _ _) _ _ R1.out)
      have R2d := Lib.hid (rep_keep (keeps_drew _ _) _ _ R2.out)
      go_wp2
      go_region_with (
        (go_at_call 9
         refine (HE1.out _ _ _ _ _ R1d.out R2d.out).mono ?_
         rintro e w2 ⟨rfl, hb2⟩))
      all_goals
        have hb3 := Lib.hid (below_all hbel.out.drew hb2 hbel.out.size)
        clear hb2
        go_wp2
        refine ⟨⟨j + 1, by omega, by go_num, hb3.out⟩, ?_⟩
        simp [intOf]; omega
    · have hkl : j = l.length := by omega
      subst hkl
      go_wp2
      go_ret
      exact ⟨rfl, hbel.out⟩

open Go Go.Proofs Go.RowKit Strips
set_option maxRecDepth 100000 in
set_option maxHeartbeats 4000000 in
theorem same_walk (k n : Int) (neg : Bool) (mag : List Int) (text : ByteArray) (items rest : List T) (h1 : ∀ t ∈ items, SmOK t) (h2 : ∀ t ∈ rest, SmOK t) : SmOK (.mk k n neg mag text items rest) := by
  intro P Q w cs ds ha hb
  rw [rep_mk] at ha hb
  obtain ⟨vm, vi, vr, rfl, g1, g2, g3⟩ := ha
  obtain ⟨am1, cm1, rfl⟩ := hd_slice g1.1
  obtain ⟨ai1, ci1, rfl⟩ := hd_slice g2.1
  obtain ⟨ar1, cr1, rfl⟩ := hd_slice g3.1
  obtain ⟨vm, vi, vr, rfl, g4, g5, g6⟩ := hb
  obtain ⟨am2, cm2, rfl⟩ := hd_slice g4.1
  obtain ⟨ai2, ci2, rfl⟩ := hd_slice g5.1
  obtain ⟨ar2, cr2, rfl⟩ := hd_slice g6.1
  have A1 := Lib.hid g1
  have A2 := Lib.hid g2
  have A3 := Lib.hid g3
  have B1 := Lib.hid g4
  have B2 := Lib.hid g5
  have B3 := Lib.hid g6
  clear g1 g2 g3 g4 g5 g6
  have E1 := Lib.hid h1
  have E2 := Lib.hid h2
  clear h1 h2
  have K0 := Lib.hid (((Below.refl w.heap.size w).alloc (Nat.le_refl _) (.cells #[.int .i64 k, .int .i64 n, .bool neg, .slice am1 mag.length cm1, .string text, .slice ai1 items.length ci1, .slice ar1 rest.length cr1] 27)).alloc (by simp) (.cells #[.int .i64 k, .int .i64 n, .bool neg, .slice am2 mag.length cm2, .string text, .slice ai2 items.length ci2, .slice ar2 rest.length cr2] 27))
  have L0 := Lib.hid (loc_alloc (loc_new w [.int .i64 k, .int .i64 n, .bool neg, .slice am1 mag.length cm1, .string text, .slice ai1 items.length ci1, .slice ar1 rest.length cr1] 27) (by simp) (.cells #[.int .i64 k, .int .i64 n, .bool neg, .slice am2 mag.length cm2, .string text, .slice ai2 items.length ci2, .slice ar2 rest.length cr2] 27))
  have M0 := Lib.hid (loc_new2 w (.cells #[.int .i64 k, .int .i64 n, .bool neg, .slice am1 mag.length cm1, .string text, .slice ai1 items.length ci1, .slice ar1 rest.length cr1] 27) [.int .i64 k, .int .i64 n, .bool neg, .slice am2 mag.length cm2, .string text, .slice ai2 items.length ci2, .slice ar2 rest.length cr2] 27)
  have s0 : w.heap.size + 2 ≤ ((w.alloc (.cells #[.int .i64 k, .int .i64 n, .bool neg, .slice am1 mag.length cm1, .string text, .slice ai1 items.length ci1, .slice ar1 rest.length cr1] 27)).alloc (.cells #[.int .i64 k, .int .i64 n, .bool neg, .slice am2 mag.length cm2, .string text, .slice ai2 items.length ci2, .slice ar2 rest.length cr2] 27)).heap.size := Nat.le_of_eq (size_alloc2 w (.cells #[.int .i64 k, .int .i64 n, .bool neg, .slice am1 mag.length cm1, .string text, .slice ai1 items.length ci1, .slice ar1 rest.length cr1] 27) (.cells #[.int .i64 k, .int .i64 n, .bool neg, .slice am2 mag.length cm2, .string text, .slice ai2 items.length ci2, .slice ar2 rest.length cr2] 27)).symm
  go_enter Tryz.func9, Tryz.ntmps9
  go_wp2_with fail
  generalize (w.alloc (.cells #[.int .i64 k, .int .i64 n, .bool neg, .slice am1 mag.length cm1, .string text, .slice ai1 items.length ci1, .slice ar1 rest.length cr1] 27)).alloc (.cells #[.int .i64 k, .int .i64 n, .bool neg, .slice am2 mag.length cm2, .string text, .slice ai2 items.length ci2, .slice ar2 rest.length cr2] 27) = wa at K0 L0 M0 s0 ⊢
  refine (numsame_walk neg mag _ _ P Q _ (repM_keep (keeps_below K0.out) A1.out) (repM_keep (keeps_below K0.out) B1.out)).mono ?_
  rintro e w1 ⟨rfl, hb1⟩
  have K1 := Lib.hid (below_all K0.out hb1 (by omega))
  have L1 := Lib.hid (loc_below L0.out (by omega) hb1)
  have M1 := Lib.hid (loc_below M0.out (by omega) hb1)
  have s1 : w.heap.size + 2 ≤ w1.heap.size := Nat.le_trans s0 hb1.size
  clear hb1 L0 M0 K0 s0
  have c5 := loc_cell L1.out 5 _ rfl
  have d5 := loc_cell M1.out 5 _ rfl
  go_wp2_with fail
  refine (allsame_walk items E1.out _ _ P Q _ (repS_keep (keeps_below K1.out) A2.out) (repS_keep (keeps_below K1.out) B2.out)).mono ?_
  rintro e w2 ⟨rfl, hb2⟩
  have K2 := Lib.hid (below_all K1.out hb2 (by omega))
  have L2 := Lib.hid (loc_below L1.out (by omega) hb2)
  have M2 := Lib.hid (loc_below M1.out (by omega) hb2)
  have s2 : w.heap.size + 2 ≤ w2.heap.size := Nat.le_trans s1 hb2.size
  clear hb2 L1 M1 K1 s1 c5 d5
  have c6 := loc_cell L2.out 6 _ rfl
  have d6 := loc_cell M2.out 6 _ rfl
  go_wp2_with fail
  refine (allsame_walk rest E2.out _ _ P Q _ (repS_keep (keeps_below K2.out) A3.out) (repS_keep (keeps_below K2.out) B3.out)).mono ?_
  rintro e w3 ⟨rfl, hb3⟩
  have K3 := Lib.hid (below_all K2.out hb3 (by omega))
  clear hb3
  go_wp2
  go_ret
  exact ⟨rfl, K3.out⟩

open Go Go.Proofs Go.RowKit Strips
theorem Strips.T.ind {C : T → Prop} (h : ∀ k n neg mag text items rest, (∀ t ∈ items, C t) → (∀ t ∈ rest, C t) → C (.mk k n neg mag text items rest)) : ∀ t, C t := fun t =>
  T.rec (motive_1 := C) (motive_2 := fun l => ∀ t ∈ l, C t) (fun k n neg mag text items rest h1 h2 => h k n neg mag text items rest h1 h2)
    (fun t ht => by cases ht) (fun x l hx hl t ht => by rcases List.mem_cons.1 ht with rfl | ht; exact hx; exact hl t ht) t
theorem copy_ok : ∀ t, ElOK 11 id t := T.ind fun k n neg mag text items rest h1 h2 => copy_walk k n neg mag text items rest (copyAll_walk items h1) (copyAll_walk rest h2)
theorem strip_ok : ∀ t, ElOK 10 strip t := T.ind fun k n neg mag text items rest h1 h2 => strip_walk k n neg mag text items rest (stripped_walk items h1) (stripped_walk rest h2)
theorem rstrip_ok : ∀ t, ElOK 12 strip t := T.ind fun k n neg mag text items rest h1 h2 => rstrip_walk k n neg mag text items rest h1 h2
theorem same_ok : ∀ t, SmOK t := T.ind fun k n neg mag text items rest h1 h2 => same_walk k n neg mag text items rest h1 h2

open Go Go.Proofs Go.RowKit Strips
set_option maxRecDepth 100000 in
set_option maxHeartbeats 8000000 in
theorem root_walk (aw : ∀ w : World, Calls Tryz.prog 13 #[] w fun e w' => e = .returned (.bool true) ∧ Below w.heap.size w w') (t : T) (cs : List Value) (w : World) (h : Rep w (fun _ => True) t cs) :
    Calls Tryz.prog 3 #[.agg cs.toArray] w fun e w' => e = .returned (.bool true) ∧ Below w.heap.size w w' := by
  have h' := h
  obtain ⟨kk, nn, neg, mag, text, items, rest⟩ := t
  rw [rep_mk] at h'
  obtain ⟨vm, vi, vr, rfl, g1, g2, g3⟩ := h'
  obtain ⟨am, cm, rfl⟩ := hd_slice g1.1
  obtain ⟨ai, ci, rfl⟩ := hd_slice g2.1
  obtain ⟨ar, cr, rfl⟩ := hd_slice g3.1
  clear g1 g2 g3
  generalize (T.mk kk nn neg mag text items rest) = t at h
  have K0 := Lib.hid ((Below.refl w.heap.size w).alloc (Nat.le_refl _) (.cells #[.int .i64 kk, .int .i64 nn, .bool neg, .slice am mag.length cm, .string text, .slice ai items.length ci, .slice ar rest.length cr] 27)).drew
  have L0 := Lib.hid (loc_drew (loc_new w [.int .i64 kk, .int .i64 nn, .bool neg, .slice am mag.length cm, .string text, .slice ai items.length ci, .slice ar rest.length cr] 27))
  have R0 := Lib.hid (rep_keep (keeps_below K0.out) _ _ h)
  have s0 : w.heap.size + 1 = (w.alloc (.cells #[.int .i64 kk, .int .i64 nn, .bool neg, .slice am mag.length cm, .string text, .slice ai items.length ci, .slice ar rest.length cr] 27)).drew.heap.size := (size_alloc w _).symm
  go_enter Tryz.func3, Tryz.ntmps3
  go_wp2
  go_region_with (first
    | (go_at_call 11
       refine (copy_ok t (fun _ => True) _ _ ?_).mono ?_
       exact R0.out
       rintro e w1 ⟨cs1, rfl, hr1, hb1⟩
       have K1 := Lib.hid (below_all K0.out hb1 (by omega))
       have s1 : w.heap.size + 1 ≤ w1.heap.size := Nat.le_trans (Nat.le_of_eq s0) hb1.size
       have L1 := Lib.hid (loc_below L0.out (by omega) hb1)
       have R1 := Lib.hid (rep_keep (keeps_below hb1) _ _ R0.out)
       have X1 := Lib.hid hr1
       have c01 := loc_cell L1.out 0 _ rfl
       have c11 := loc_cell L1.out 1 _ rfl
       have c21 := loc_cell L1.out 2 _ rfl
       have c31 := loc_cell L1.out 3 _ rfl
       have c41 := loc_cell L1.out 4 _ rfl
       have c51 := loc_cell L1.out 5 _ rfl
       have c61 := loc_cell L1.out 6 _ rfl
       clear hr1 hb1)
    | (go_at_call 10
       refine (strip_ok t _ _ _ X1.out).mono ?_
       rintro e w2 ⟨cs2, rfl, hr2, hb2⟩
       have K2 := Lib.hid (below_all K1.out hb2 (by omega))
       have s2 : w.heap.size + 1 ≤ w2.heap.size := Nat.le_trans s1 hb2.size
       have L2 := Lib.hid (loc_below L1.out (by omega) hb2)
       have R2 := Lib.hid (rep_keep (keeps_below hb2) _ _ R1.out)
       have X2 := Lib.hid hr2
       have c02 := loc_cell L2.out 0 _ rfl
       have c12 := loc_cell L2.out 1 _ rfl
       have c22 := loc_cell L2.out 2 _ rfl
       have c32 := loc_cell L2.out 3 _ rfl
       have c42 := loc_cell L2.out 4 _ rfl
       have c52 := loc_cell L2.out 5 _ rfl
       have c62 := loc_cell L2.out 6 _ rfl
       clear hr2 hb2)
    | (go_at_call 12
       refine (rstrip_ok t _ _ _ R2.out).mono ?_
       rintro e w3 ⟨cs3, rfl, hr3, hb3⟩
       have K3 := Lib.hid (below_all K2.out hb3 (by omega))
       have s3 : w.heap.size + 1 ≤ w3.heap.size := Nat.le_trans s2 hb3.size
       have X3 := Lib.hid (rep_keep (keeps_below hb3) _ _ X2.out)
       have Y3 := Lib.hid hr3
       clear hr3 hb3)
    | (go_at_call 9
       refine (same_ok _ _ _ _ _ _ X3.out Y3.out).mono ?_
       rintro e w4 ⟨rfl, hb4⟩
       have K4 := Lib.hid (below_all K3.out hb4 (by omega))
       have s4 : w.heap.size + 1 ≤ w4.heap.size := Nat.le_trans s3 hb4.size
       clear hb4)
    | (go_at_call 13
       refine (aw _).mono ?_
       rintro e w5 ⟨rfl, hb5⟩
       have K5 := Lib.hid (below_all K4.out hb5 (by omega))
       clear hb5))
  all_goals
    go_wp2
    go_ret
    exact ⟨rfl, K5.out⟩
