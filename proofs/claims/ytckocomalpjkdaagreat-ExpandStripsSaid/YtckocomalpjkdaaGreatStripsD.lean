/- The contract of the document's Strip: the datum without marks; old memory stays; of any world in which the datum lies. -/
import Derived.Test.YtckocomalpjkdaaGreatStripsC
set_option linter.unusedVariables false
set_option linter.unusedSimpArgs false
set_option linter.unusedSectionVars false
open Go Go.Proofs Go.RowKit Strips
set_option maxRecDepth 100000 in
set_option maxHeartbeats 8000000 in
theorem rstrip_walk (k n : Int) (neg : Bool) (mag : List Int) (text : ByteArray) (items rest : List T) (h1 : ∀ t ∈ items, ElOK 12 strip t) (h2 : ∀ t ∈ rest, ElOK 12 strip t) : ElOK 12 strip (.mk k n neg mag text items rest) := by
  intro P w cs h
  rw [rep_mk] at h
  obtain ⟨vm, vi, vr, rfl, hm, hi, hr⟩ := h
  obtain ⟨am, cm, rfl⟩ := hd_slice hm.1
  obtain ⟨ai, ci, rfl⟩ := hd_slice hi.1
  obtain ⟨ar, cr, rfl⟩ := hd_slice hr.1
  have HM := Lib.hid hm
  have HI := Lib.hid hi
  have HR := Lib.hid hr
  have bi := hi.2.1
  have br := hr.2.1
  clear hm hi hr
  have E1 := Lib.hid h1
  have E2 := Lib.hid h2
  clear h1 h2
  obtain ⟨i0, hi, hz0, hz1, hz2⟩ := info_parts info27
  rw [strip_mk]
  by_cases hk : k = 5
  · subst hk
    simp only [if_pos]
    have B0 := Lib.hid (((Below.refl w.heap.size w).alloc (Nat.le_refl _) (.cells #[.int .i64 5, .int .i64 0, .bool neg, .slice am mag.length cm, .string text, .slice ai items.length ci, .slice ar rest.length cr] 27)).alloc (by simp) (.cells #[.int .i64 0, .int .i64 0, .bool false, .slice none 0 0, .string ⟨#[]⟩, .slice none 0 0, .slice none 0 0] 27))
    have L0 := Lib.hid (loc_alloc (loc_new w [.int .i64 5, .int .i64 0, .bool neg, .slice am mag.length cm, .string text, .slice ai items.length ci, .slice ar rest.length cr] 27) (by simp) (.cells #[.int .i64 0, .int .i64 0, .bool false, .slice none 0 0, .string ⟨#[]⟩, .slice none 0 0, .slice none 0 0] 27))
    have M0 := Lib.hid (loc_new2 w (.cells #[.int .i64 5, .int .i64 0, .bool neg, .slice am mag.length cm, .string text, .slice ai items.length ci, .slice ar rest.length cr] 27) [.int .i64 0, .int .i64 0, .bool false, .slice none 0 0, .string ⟨#[]⟩, .slice none 0 0, .slice none 0 0] 27)
    have HM0 := Lib.hid (repM_keep (px_start B0.out) HM.out)
    have HI0 := Lib.hid (repS_keep (px_start B0.out) HI.out)
    have HR0 := Lib.hid (repS_keep (px_start B0.out) HR.out)
    have s0 : w.heap.size + 2 ≤ ((w.alloc (.cells #[.int .i64 5, .int .i64 0, .bool neg, .slice am mag.length cm, .string text, .slice ai items.length ci, .slice ar rest.length cr] 27)).alloc (.cells #[.int .i64 0, .int .i64 0, .bool false, .slice none 0 0, .string ⟨#[]⟩, .slice none 0 0, .slice none 0 0] 27)).heap.size := Nat.le_of_eq (size_alloc2 w (.cells #[.int .i64 5, .int .i64 0, .bool neg, .slice am mag.length cm, .string text, .slice ai items.length ci, .slice ar rest.length cr] 27) (.cells #[.int .i64 0, .int .i64 0, .bool false, .slice none 0 0, .string ⟨#[]⟩, .slice none 0 0, .slice none 0 0] 27)).symm
    clear HM HI HR
    go_enter Tryz.func12, Tryz.ntmps12
    go_wp2_with fail
    generalize (w.alloc (.cells #[.int .i64 5, .int .i64 0, .bool neg, .slice am mag.length cm, .string text, .slice ai items.length ci, .slice ar rest.length cr] 27)).alloc (.cells #[.int .i64 0, .int .i64 0, .bool false, .slice none 0 0, .string ⟨#[]⟩, .slice none 0 0, .slice none 0 0] 27) = wa at B0 L0 M0 HM0 HI0 HR0 s0 ⊢
    go_loopw [3, 4] (fun m i wr => ∃ j : Nat, j ≤ items.length ∧ i = .int .i64 j ∧ ∃ xs, wr.ownsRow wa.heap.size 27 7 m j xs ∧ Hid (Got wr (PR (PX P w.heap.size) wa.heap.size m) strip items j xs) ∧ Hid (Below wa.heap.size wa wr))
      (fun _ i _ => items.length - (intOf i).toNat)
    case atStart => exact ⟨0, Nat.zero_le _, rfl, [], World.ownsRow_nil _ _ _ _, got_zero _ _ _ _, Below.refl _ _⟩
    case round =>
      obtain ⟨j, hj, rfl, xs, hown, hgot, hbel⟩ := hrel
      have Lr := Lib.hid (loc_below L0.out (by omega) hbel.out)
      have fr := loc_frozen Lr.out
      have cc := loc_cell Lr.out 5 _ rfl
      by_cases hlt : j < items.length
      · have hget := List.getElem?_eq_getElem hlt
        obtain ⟨b, off, e, hcap⟩ := hd_some HI0.out.1 (by omega)
        subst e
        obtain ⟨hb0, cs, hrep, hcell⟩ := repS_cells (b := b) (off := off) (repC_keep (keeps_in hbel.out) _ _ _ HI0.out.2.2) hget
        have hrep' := hrep
        generalize ht : items[j] = t at hget hrep hrep'
        have hmem : t ∈ items := List.mem_of_getElem? hget
        have HE := Lib.hid (E1.out _ hmem)
        have HG := Lib.hid hget
        obtain ⟨kk, nn, neg1, mag1, text1, items1, rest1⟩ := t
        rw [rep_mk] at hrep
        obtain ⟨vm, vi, vr, rfl, g1, g2, g3⟩ := hrep
        obtain ⟨am1, cm1, rfl⟩ := hd_slice g1.1
        obtain ⟨ai1, ci1, rfl⟩ := hd_slice g2.1
        obtain ⟨ar1, cr1, rfl⟩ := hd_slice g3.1
        clear g1 g2 g3
        have c0 : wr.cell? ⟨b, off + j * 7, none⟩ = some (.int .i64 kk) := hcell 0 _ rfl
        have c1 := hcell 1 _ rfl
        have c2 := hcell 2 _ rfl
        have c3 := hcell 3 _ rfl
        have c4 := hcell 4 _ rfl
        have c5 := hcell 5 _ rfl
        have c6 := hcell 6 _ rfl
        clear hcell
        have HC := Lib.hid hrep'
        clear hget ht hrep' hmem
        go_wp2_with fail
        refine (HE.out (fun b => PX P w.heap.size b ∧ b < wa.heap.size) _ [.int .i64 kk, .int .i64 nn, .bool neg1, .slice am1 mag1.length cm1, .string text1, .slice ai1 items1.length ci1, .slice ar1 rest1.length cr1] ?r1).mono ?_
        case r1 => exact HC.out
        rintro e w1 ⟨cs', rfl, hrep1, hb1⟩
        have hR1 := Lib.hid hrep1
        generalize strip (T.mk kk nn neg1 mag1 text1 items1 rest1) = t2 at hrep1
        have hrep2 := hrep1
        obtain ⟨k2, n2, neg2, mag2, text2, items2, rest2⟩ := t2
        rw [rep_mk] at hrep2
        obtain ⟨vm1, vi1, vr1, rfl, q1, q2, q3⟩ := hrep2
        have hone := rep_one hrep1
        have hown1 := own_below hown hb1
        have HO := Lib.hid hown
        have hsz : wa.heap.size ≤ wr.heap.size := hbel.out.size
        have hsz1 : wr.heap.size ≤ w1.heap.size := hb1.size
        clear cc fr c0 c1 c2 c3 c4 c5 c6 HC HE hown hrep1 q1 q2 q3
        have HN : Hid (∀ u ∈ [Value.int .i64 k2, .int .i64 n2, .bool neg2, vm1, .string text2, vi1, vr1], u.oneCell' = true) := hone
        clear hone
        go_wp2_with (first
          | (at_builtin; refine wpList_append_own_at _ rfl _ _ 25 rfl wa.heap.size 27 i0 (.agg #[.int .i64 0, .int .i64 0, .bool false, .slice none 0 0, .string ByteArray.empty, .slice none 0 0, .slice none 0 0]) 7 112 Tryz.underlying25 hi hz0 hz1 hz2 rfl (by decide) _ j xs rfl (hown1.alloc _) ⟨w1.heap.size, 0, none⟩ 1 1 [.int .i64 k2, .int .i64 n2, .bool neg2, vm1, .string text2, vi1, vr1] rfl rfl ?x1 ?x2 ?x3 ?x4 ?x5 ?_)
          | fail)
        case x1 => exact new_cells
        case x2 => exact HN.out
        case x3 => unfold maxLen; omega
        case x4 => omega
        case x5 => simp; omega
        intro v' w2 hown' hgrow _ hblk
        have HG2 := Lib.hid (round_got HO.out hgot.out hsz HG.out hb1 hR1.out hgrow hblk)
        have HB2 := Lib.hid (round_below HO.out hbel.out hsz hb1 hgrow)
        have HO2 := Lib.hid hown'
        clear hown' hgrow hblk hR1 HG hgot HO hown1 hb1 hbel
        go_wp2
        go_roundw
        case rel =>
          exact ⟨j + 1, by omega, by go_num, _, HO2.out, HG2.out, HB2.out⟩
        case measure => simp [intOf]; omega
      · have hkl : j = items.length := by omega
        subst hkl
        obtain ⟨ao, co, rfl⟩ := hd_slice (own_hd hown).1
        have hs : wa.heap.size ≤ wr.heap.size := hbel.out.size
        have z1 := size_set wr ⟨w.heap.size, 5, none⟩ (.slice ao items.length co)
        have L1 : Hid (Loc (wr.setCell ⟨w.heap.size, 5, none⟩ (.slice ao items.length co)) w.heap.size 27 [.int .i64 5, .int .i64 0, .bool neg, .slice am mag.length cm, .string text, .slice ao items.length co, .slice ar rest.length cr]) := loc_set Lr.out 5 (.slice ao items.length co)
        have M1 := Lib.hid (loc_far (loc_below M0.out (by omega) hbel.out) (a := ⟨w.heap.size, 5, none⟩) (by simp) (.slice ao items.length co))
        have B1 := Lib.hid (below_then (a := ⟨w.heap.size, 5, none⟩) (x := .slice ao items.length co) (below_all B0.out hbel.out (by omega)) (.inl rfl))
        have HM1 := Lib.hid (repM_keep (px_set (S := w.heap.size) (a := ⟨w.heap.size, 5, none⟩) (.slice ao items.length co) (.inl rfl)) (repM_keep (keeps_below hbel.out) HM0.out))
        have HR1 := Lib.hid (repS_keep (px_set (S := w.heap.size) (a := ⟨w.heap.size, 5, none⟩) (.slice ao items.length co) (.inl rfl)) (repS_keep (keeps_below hbel.out) HR0.out))
        have HI1 : Hid (RepS (wr.setCell ⟨w.heap.size, 5, none⟩ (.slice ao items.length co)) (PX P w.heap.size) (items.map strip) (.slice ao items.length co)) := repS_keep (px_set (S := w.heap.size) (a := ⟨w.heap.size, 5, none⟩) (.slice ao items.length co) (.inl rfl)) (got_done hgot.out hown bi (fun b hb => by rcases hb with hb | hb; exact hb; exact .inr (by omega)))
        have s1 : w.heap.size + 2 ≤ (wr.setCell ⟨w.heap.size, 5, none⟩ (.slice ao items.length co)).heap.size := by omega
        clear hown hgot z1
        go_wp2_with fail
        clear Lr fr cc
        generalize wr.setCell ⟨w.heap.size, 5, none⟩ (.slice ao items.length co) = wb at L1 M1 B1 HM1 HR1 HI1 s1 ⊢
        clear hbel hs L0 M0 B0 HM0 HR0 HI0 s0
        go_loopw [5, 6] (fun m i wr => ∃ j : Nat, j ≤ rest.length ∧ i = .int .i64 j ∧ ∃ xs, wr.ownsRow wb.heap.size 27 7 m j xs ∧ Hid (Got wr (PR (PX P w.heap.size) wb.heap.size m) strip rest j xs) ∧ Hid (Below wb.heap.size wb wr))
          (fun _ i _ => rest.length - (intOf i).toNat)
        case atStart => exact ⟨0, Nat.zero_le _, rfl, [], World.ownsRow_nil _ _ _ _, got_zero _ _ _ _, Below.refl _ _⟩
        case round =>
          obtain ⟨j, hj, rfl, xs, hown, hgot, hbel⟩ := hrel
          have Lr := Lib.hid (loc_below L1.out (by omega) hbel.out)
          have fr := loc_frozen Lr.out
          have cc := loc_cell Lr.out 6 _ rfl
          by_cases hlt : j < rest.length
          · have hget := List.getElem?_eq_getElem hlt
            obtain ⟨b, off, e, hcap⟩ := hd_some HR1.out.1 (by omega)
            subst e
            obtain ⟨hb0, cs, hrep, hcell⟩ := repS_cells (b := b) (off := off) (repC_keep (keeps_in hbel.out) _ _ _ HR1.out.2.2) hget
            have hrep' := hrep
            generalize ht : rest[j] = t at hget hrep hrep'
            have hmem : t ∈ rest := List.mem_of_getElem? hget
            have HE := Lib.hid (E2.out _ hmem)
            have HG := Lib.hid hget
            obtain ⟨kk, nn, neg1, mag1, text1, items1, rest1⟩ := t
            rw [rep_mk] at hrep
            obtain ⟨vm, vi, vr, rfl, g1, g2, g3⟩ := hrep
            obtain ⟨am1, cm1, rfl⟩ := hd_slice g1.1
            obtain ⟨ai1, ci1, rfl⟩ := hd_slice g2.1
            obtain ⟨ar1, cr1, rfl⟩ := hd_slice g3.1
            clear g1 g2 g3
            have c0 : wr.cell? ⟨b, off + j * 7, none⟩ = some (.int .i64 kk) := hcell 0 _ rfl
            have c1 := hcell 1 _ rfl
            have c2 := hcell 2 _ rfl
            have c3 := hcell 3 _ rfl
            have c4 := hcell 4 _ rfl
            have c5 := hcell 5 _ rfl
            have c6 := hcell 6 _ rfl
            clear hcell
            have HC := Lib.hid hrep'
            clear hget ht hrep' hmem
            go_wp2_with fail
            refine (HE.out (fun b => PX P w.heap.size b ∧ b < wb.heap.size) _ [.int .i64 kk, .int .i64 nn, .bool neg1, .slice am1 mag1.length cm1, .string text1, .slice ai1 items1.length ci1, .slice ar1 rest1.length cr1] ?r1).mono ?_
            case r1 => exact HC.out
            rintro e w1 ⟨cs', rfl, hrep1, hb1⟩
            have hR1 := Lib.hid hrep1
            generalize strip (T.mk kk nn neg1 mag1 text1 items1 rest1) = t2 at hrep1
            have hrep2 := hrep1
            obtain ⟨k2, n2, neg2, mag2, text2, items2, rest2⟩ := t2
            rw [rep_mk] at hrep2
            obtain ⟨vm1, vi1, vr1, rfl, q1, q2, q3⟩ := hrep2
            have hone := rep_one hrep1
            have hown1 := own_below hown hb1
            have HO := Lib.hid hown
            have hsz : wb.heap.size ≤ wr.heap.size := hbel.out.size
            have hsz1 : wr.heap.size ≤ w1.heap.size := hb1.size
            clear cc fr c0 c1 c2 c3 c4 c5 c6 HC HE hown hrep1 q1 q2 q3
            have HN : Hid (∀ u ∈ [Value.int .i64 k2, .int .i64 n2, .bool neg2, vm1, .string text2, vi1, vr1], u.oneCell' = true) := hone
            clear hone
            go_wp2_with (first
              | (at_builtin; refine wpList_append_own_at _ rfl _ _ 25 rfl wb.heap.size 27 i0 (.agg #[.int .i64 0, .int .i64 0, .bool false, .slice none 0 0, .string ByteArray.empty, .slice none 0 0, .slice none 0 0]) 7 112 Tryz.underlying25 hi hz0 hz1 hz2 rfl (by decide) _ j xs rfl (hown1.alloc _) ⟨w1.heap.size, 0, none⟩ 1 1 [.int .i64 k2, .int .i64 n2, .bool neg2, vm1, .string text2, vi1, vr1] rfl rfl ?x1 ?x2 ?x3 ?x4 ?x5 ?_)
              | fail)
            case x1 => exact new_cells
            case x2 => exact HN.out
            case x3 => unfold maxLen; omega
            case x4 => omega
            case x5 => simp; omega
            intro v' w2 hown' hgrow _ hblk
            have HG2 := Lib.hid (round_got HO.out hgot.out hsz HG.out hb1 hR1.out hgrow hblk)
            have HB2 := Lib.hid (round_below HO.out hbel.out hsz hb1 hgrow)
            have HO2 := Lib.hid hown'
            clear hown' hgrow hblk hR1 HG hgot HO hown1 hb1 hbel
            go_wp2
            go_roundw
            case rel =>
              exact ⟨j + 1, by omega, by go_num, _, HO2.out, HG2.out, HB2.out⟩
            case measure => simp [intOf]; omega
          · have hkl : j = rest.length := by omega
            subst hkl
            obtain ⟨ao2, co2, rfl⟩ := hd_slice (own_hd hown).1
            have hs : wb.heap.size ≤ wr.heap.size := hbel.out.size
            have HO := Lib.hid hown
            clear hown
            have Mr := Lib.hid (loc_below M1.out (by omega) hbel.out)
            have fs := loc_frozen Mr.out
            have c0 := loc_cell Lr.out 0 _ rfl
            have c1 := loc_cell Lr.out 1 _ rfl
            have c2 := loc_cell Lr.out 2 _ rfl
            have c3 := loc_cell Lr.out 3 _ rfl
            have c4 := loc_cell Lr.out 4 _ rfl
            have c5 := loc_cell Lr.out 5 _ rfl
            have d0 := loc_cell Mr.out 0 _ rfl
            have d1 := loc_cell Mr.out 1 _ rfl
            have d2 := loc_cell Mr.out 2 _ rfl
            have d3 := loc_cell Mr.out 3 _ rfl
            have d4 := loc_cell Mr.out 4 _ rfl
            have d5 := loc_cell Mr.out 5 _ rfl
            have d6 := loc_cell Mr.out 6 _ rfl
            have HM3 := Lib.hid (repM_keep (keeps_below hbel.out) HM1.out)
            have HI3 := Lib.hid (repS_keep (keeps_below hbel.out) HI1.out)
            have HR3 : Hid (RepS wr (PX P w.heap.size) (rest.map strip) (.slice ao2 rest.length co2)) := got_done hgot.out HO.out br (fun b hb => by rcases hb with hb | hb; exact hb; exact .inr (by omega))
            have B3 := Lib.hid (below_all B1.out hbel.out (by omega))
            clear HO hgot
            go_wp2
            refine bodyPost_ret (results_cell_row rfl _ _ (w.heap.size + 1) 27 #[.int .i64 5, .int .i64 0, .bool neg, .slice am mag.length cm, .string text, .slice ao items.length co, .slice ao2 rest.length co2] (0, 0) _ rfl ?lf Tryz.underlying27 rfl size27) rfl ?_
            case lf => exact loc_set (loc_set (loc_set (loc_set (loc_set (loc_set (loc_set (loc_far Mr.out (a := ⟨w.heap.size, 6, none⟩) (by simp) _) 0 _) 1 _) 2 _) 3 _) 4 _) 5 _) 6 _
            refine ⟨[_, _, _, _, _, _, _], rfl, rep_mk.2 ⟨_, _, _, rfl, repM_keep ?y1 HM3.out, repS_keep ?y2 (by simpa using HI3.out), repS_keep ?y3 (by simpa using HR3.out)⟩, ?b⟩
            case y1 | y2 | y3 =>
              refine px_out ?_
              repeat (refine px_then ?_ (by first | exact .inl rfl | exact .inr rfl))
              exact keeps_refl _ _
            case b =>
              repeat (refine below_then ?_ (by first | exact .inl rfl | exact .inr rfl))
              exact B3.out
  · simp only [if_neg hk]
    have hkb : (k == 5) = false := by simpa using hk
    have B0 := Lib.hid (((Below.refl w.heap.size w).alloc (Nat.le_refl _) (.cells #[.int .i64 k, .int .i64 n, .bool neg, .slice am mag.length cm, .string text, .slice ai items.length ci, .slice ar rest.length cr] 27)).alloc (by simp) (.cells #[.int .i64 0, .int .i64 0, .bool false, .slice none 0 0, .string ⟨#[]⟩, .slice none 0 0, .slice none 0 0] 27))
    have L0 := Lib.hid (loc_alloc (loc_new w [.int .i64 k, .int .i64 n, .bool neg, .slice am mag.length cm, .string text, .slice ai items.length ci, .slice ar rest.length cr] 27) (by simp) (.cells #[.int .i64 0, .int .i64 0, .bool false, .slice none 0 0, .string ⟨#[]⟩, .slice none 0 0, .slice none 0 0] 27))
    have M0 := Lib.hid (loc_new2 w (.cells #[.int .i64 k, .int .i64 n, .bool neg, .slice am mag.length cm, .string text, .slice ai items.length ci, .slice ar rest.length cr] 27) [.int .i64 0, .int .i64 0, .bool false, .slice none 0 0, .string ⟨#[]⟩, .slice none 0 0, .slice none 0 0] 27)
    have HM0 := Lib.hid (repM_keep (px_start B0.out) HM.out)
    have HI0 := Lib.hid (repS_keep (px_start B0.out) HI.out)
    have HR0 := Lib.hid (repS_keep (px_start B0.out) HR.out)
    have s0 : w.heap.size + 2 ≤ ((w.alloc (.cells #[.int .i64 k, .int .i64 n, .bool neg, .slice am mag.length cm, .string text, .slice ai items.length ci, .slice ar rest.length cr] 27)).alloc (.cells #[.int .i64 0, .int .i64 0, .bool false, .slice none 0 0, .string ⟨#[]⟩, .slice none 0 0, .slice none 0 0] 27)).heap.size := Nat.le_of_eq (size_alloc2 w (.cells #[.int .i64 k, .int .i64 n, .bool neg, .slice am mag.length cm, .string text, .slice ai items.length ci, .slice ar rest.length cr] 27) (.cells #[.int .i64 0, .int .i64 0, .bool false, .slice none 0 0, .string ⟨#[]⟩, .slice none 0 0, .slice none 0 0] 27)).symm
    clear HM HI HR
    go_enter Tryz.func12, Tryz.ntmps12
    go_wp2_with fail
    generalize (w.alloc (.cells #[.int .i64 k, .int .i64 n, .bool neg, .slice am mag.length cm, .string text, .slice ai items.length ci, .slice ar rest.length cr] 27)).alloc (.cells #[.int .i64 0, .int .i64 0, .bool false, .slice none 0 0, .string ⟨#[]⟩, .slice none 0 0, .slice none 0 0] 27) = wa at B0 L0 M0 HM0 HI0 HR0 s0 ⊢
    go_loopw [3, 4] (fun m i wr => ∃ j : Nat, j ≤ items.length ∧ i = .int .i64 j ∧ ∃ xs, wr.ownsRow wa.heap.size 27 7 m j xs ∧ Hid (Got wr (PR (PX P w.heap.size) wa.heap.size m) strip items j xs) ∧ Hid (Below wa.heap.size wa wr))
      (fun _ i _ => items.length - (intOf i).toNat)
    case atStart => exact ⟨0, Nat.zero_le _, rfl, [], World.ownsRow_nil _ _ _ _, got_zero _ _ _ _, Below.refl _ _⟩
    case round =>
      obtain ⟨j, hj, rfl, xs, hown, hgot, hbel⟩ := hrel
      have Lr := Lib.hid (loc_below L0.out (by omega) hbel.out)
      have fr := loc_frozen Lr.out
      have cc := loc_cell Lr.out 5 _ rfl
      by_cases hlt : j < items.length
      · have hget := List.getElem?_eq_getElem hlt
        obtain ⟨b, off, e, hcap⟩ := hd_some HI0.out.1 (by omega)
        subst e
        obtain ⟨hb0, cs, hrep, hcell⟩ := repS_cells (b := b) (off := off) (repC_keep (keeps_in hbel.out) _ _ _ HI0.out.2.2) hget
        have hrep' := hrep
        generalize ht : items[j] = t at hget hrep hrep'
        have hmem : t ∈ items := List.mem_of_getElem? hget
        have HE := Lib.hid (E1.out _ hmem)
        have HG := Lib.hid hget
        obtain ⟨kk, nn, neg1, mag1, text1, items1, rest1⟩ := t
        rw [rep_mk] at hrep
        obtain ⟨vm, vi, vr, rfl, g1, g2, g3⟩ := hrep
        obtain ⟨am1, cm1, rfl⟩ := hd_slice g1.1
        obtain ⟨ai1, ci1, rfl⟩ := hd_slice g2.1
        obtain ⟨ar1, cr1, rfl⟩ := hd_slice g3.1
        clear g1 g2 g3
        have c0 : wr.cell? ⟨b, off + j * 7, none⟩ = some (.int .i64 kk) := hcell 0 _ rfl
        have c1 := hcell 1 _ rfl
        have c2 := hcell 2 _ rfl
        have c3 := hcell 3 _ rfl
        have c4 := hcell 4 _ rfl
        have c5 := hcell 5 _ rfl
        have c6 := hcell 6 _ rfl
        clear hcell
        have HC := Lib.hid hrep'
        clear hget ht hrep' hmem
        go_wp2_with fail
        refine (HE.out (fun b => PX P w.heap.size b ∧ b < wa.heap.size) _ [.int .i64 kk, .int .i64 nn, .bool neg1, .slice am1 mag1.length cm1, .string text1, .slice ai1 items1.length ci1, .slice ar1 rest1.length cr1] ?r1).mono ?_
        case r1 => exact HC.out
        rintro e w1 ⟨cs', rfl, hrep1, hb1⟩
        have hR1 := Lib.hid hrep1
        generalize strip (T.mk kk nn neg1 mag1 text1 items1 rest1) = t2 at hrep1
        have hrep2 := hrep1
        obtain ⟨k2, n2, neg2, mag2, text2, items2, rest2⟩ := t2
        rw [rep_mk] at hrep2
        obtain ⟨vm1, vi1, vr1, rfl, q1, q2, q3⟩ := hrep2
        have hone := rep_one hrep1
        have hown1 := own_below hown hb1
        have HO := Lib.hid hown
        have hsz : wa.heap.size ≤ wr.heap.size := hbel.out.size
        have hsz1 : wr.heap.size ≤ w1.heap.size := hb1.size
        clear cc fr c0 c1 c2 c3 c4 c5 c6 HC HE hown hrep1 q1 q2 q3
        have HN : Hid (∀ u ∈ [Value.int .i64 k2, .int .i64 n2, .bool neg2, vm1, .string text2, vi1, vr1], u.oneCell' = true) := hone
        clear hone
        go_wp2_with (first
          | (at_builtin; refine wpList_append_own_at _ rfl _ _ 25 rfl wa.heap.size 27 i0 (.agg #[.int .i64 0, .int .i64 0, .bool false, .slice none 0 0, .string ByteArray.empty, .slice none 0 0, .slice none 0 0]) 7 112 Tryz.underlying25 hi hz0 hz1 hz2 rfl (by decide) _ j xs rfl (hown1.alloc _) ⟨w1.heap.size, 0, none⟩ 1 1 [.int .i64 k2, .int .i64 n2, .bool neg2, vm1, .string text2, vi1, vr1] rfl rfl ?x1 ?x2 ?x3 ?x4 ?x5 ?_)
          | fail)
        case x1 => exact new_cells
        case x2 => exact HN.out
        case x3 => unfold maxLen; omega
        case x4 => omega
        case x5 => simp; omega
        intro v' w2 hown' hgrow _ hblk
        have HG2 := Lib.hid (round_got HO.out hgot.out hsz HG.out hb1 hR1.out hgrow hblk)
        have HB2 := Lib.hid (round_below HO.out hbel.out hsz hb1 hgrow)
        have HO2 := Lib.hid hown'
        clear hown' hgrow hblk hR1 HG hgot HO hown1 hb1 hbel
        go_wp2
        go_roundw
        case rel =>
          exact ⟨j + 1, by omega, by go_num, _, HO2.out, HG2.out, HB2.out⟩
        case measure => simp [intOf]; omega
      · have hkl : j = items.length := by omega
        subst hkl
        obtain ⟨ao, co, rfl⟩ := hd_slice (own_hd hown).1
        have hs : wa.heap.size ≤ wr.heap.size := hbel.out.size
        have z1 := size_set wr ⟨w.heap.size, 5, none⟩ (.slice ao items.length co)
        have L1 : Hid (Loc (wr.setCell ⟨w.heap.size, 5, none⟩ (.slice ao items.length co)) w.heap.size 27 [.int .i64 k, .int .i64 n, .bool neg, .slice am mag.length cm, .string text, .slice ao items.length co, .slice ar rest.length cr]) := loc_set Lr.out 5 (.slice ao items.length co)
        have M1 := Lib.hid (loc_far (loc_below M0.out (by omega) hbel.out) (a := ⟨w.heap.size, 5, none⟩) (by simp) (.slice ao items.length co))
        have B1 := Lib.hid (below_then (a := ⟨w.heap.size, 5, none⟩) (x := .slice ao items.length co) (below_all B0.out hbel.out (by omega)) (.inl rfl))
        have HM1 := Lib.hid (repM_keep (px_set (S := w.heap.size) (a := ⟨w.heap.size, 5, none⟩) (.slice ao items.length co) (.inl rfl)) (repM_keep (keeps_below hbel.out) HM0.out))
        have HR1 := Lib.hid (repS_keep (px_set (S := w.heap.size) (a := ⟨w.heap.size, 5, none⟩) (.slice ao items.length co) (.inl rfl)) (repS_keep (keeps_below hbel.out) HR0.out))
        have HI1 : Hid (RepS (wr.setCell ⟨w.heap.size, 5, none⟩ (.slice ao items.length co)) (PX P w.heap.size) (items.map strip) (.slice ao items.length co)) := repS_keep (px_set (S := w.heap.size) (a := ⟨w.heap.size, 5, none⟩) (.slice ao items.length co) (.inl rfl)) (got_done hgot.out hown bi (fun b hb => by rcases hb with hb | hb; exact hb; exact .inr (by omega)))
        have s1 : w.heap.size + 2 ≤ (wr.setCell ⟨w.heap.size, 5, none⟩ (.slice ao items.length co)).heap.size := by omega
        clear hown hgot z1
        go_wp2_with fail
        clear Lr fr cc
        generalize wr.setCell ⟨w.heap.size, 5, none⟩ (.slice ao items.length co) = wb at L1 M1 B1 HM1 HR1 HI1 s1 ⊢
        clear hbel hs L0 M0 B0 HM0 HR0 HI0 s0
        go_loopw [5, 6] (fun m i wr => ∃ j : Nat, j ≤ rest.length ∧ i = .int .i64 j ∧ ∃ xs, wr.ownsRow wb.heap.size 27 7 m j xs ∧ Hid (Got wr (PR (PX P w.heap.size) wb.heap.size m) strip rest j xs) ∧ Hid (Below wb.heap.size wb wr))
          (fun _ i _ => rest.length - (intOf i).toNat)
        case atStart => exact ⟨0, Nat.zero_le _, rfl, [], World.ownsRow_nil _ _ _ _, got_zero _ _ _ _, Below.refl _ _⟩
        case round =>
          obtain ⟨j, hj, rfl, xs, hown, hgot, hbel⟩ := hrel
          have Lr := Lib.hid (loc_below L1.out (by omega) hbel.out)
          have fr := loc_frozen Lr.out
          have cc := loc_cell Lr.out 6 _ rfl
          by_cases hlt : j < rest.length
          · have hget := List.getElem?_eq_getElem hlt
            obtain ⟨b, off, e, hcap⟩ := hd_some HR1.out.1 (by omega)
            subst e
            obtain ⟨hb0, cs, hrep, hcell⟩ := repS_cells (b := b) (off := off) (repC_keep (keeps_in hbel.out) _ _ _ HR1.out.2.2) hget
            have hrep' := hrep
            generalize ht : rest[j] = t at hget hrep hrep'
            have hmem : t ∈ rest := List.mem_of_getElem? hget
            have HE := Lib.hid (E2.out _ hmem)
            have HG := Lib.hid hget
            obtain ⟨kk, nn, neg1, mag1, text1, items1, rest1⟩ := t
            rw [rep_mk] at hrep
            obtain ⟨vm, vi, vr, rfl, g1, g2, g3⟩ := hrep
            obtain ⟨am1, cm1, rfl⟩ := hd_slice g1.1
            obtain ⟨ai1, ci1, rfl⟩ := hd_slice g2.1
            obtain ⟨ar1, cr1, rfl⟩ := hd_slice g3.1
            clear g1 g2 g3
            have c0 : wr.cell? ⟨b, off + j * 7, none⟩ = some (.int .i64 kk) := hcell 0 _ rfl
            have c1 := hcell 1 _ rfl
            have c2 := hcell 2 _ rfl
            have c3 := hcell 3 _ rfl
            have c4 := hcell 4 _ rfl
            have c5 := hcell 5 _ rfl
            have c6 := hcell 6 _ rfl
            clear hcell
            have HC := Lib.hid hrep'
            clear hget ht hrep' hmem
            go_wp2_with fail
            refine (HE.out (fun b => PX P w.heap.size b ∧ b < wb.heap.size) _ [.int .i64 kk, .int .i64 nn, .bool neg1, .slice am1 mag1.length cm1, .string text1, .slice ai1 items1.length ci1, .slice ar1 rest1.length cr1] ?r1).mono ?_
            case r1 => exact HC.out
            rintro e w1 ⟨cs', rfl, hrep1, hb1⟩
            have hR1 := Lib.hid hrep1
            generalize strip (T.mk kk nn neg1 mag1 text1 items1 rest1) = t2 at hrep1
            have hrep2 := hrep1
            obtain ⟨k2, n2, neg2, mag2, text2, items2, rest2⟩ := t2
            rw [rep_mk] at hrep2
            obtain ⟨vm1, vi1, vr1, rfl, q1, q2, q3⟩ := hrep2
            have hone := rep_one hrep1
            have hown1 := own_below hown hb1
            have HO := Lib.hid hown
            have hsz : wb.heap.size ≤ wr.heap.size := hbel.out.size
            have hsz1 : wr.heap.size ≤ w1.heap.size := hb1.size
            clear cc fr c0 c1 c2 c3 c4 c5 c6 HC HE hown hrep1 q1 q2 q3
            have HN : Hid (∀ u ∈ [Value.int .i64 k2, .int .i64 n2, .bool neg2, vm1, .string text2, vi1, vr1], u.oneCell' = true) := hone
            clear hone
            go_wp2_with (first
              | (at_builtin; refine wpList_append_own_at _ rfl _ _ 25 rfl wb.heap.size 27 i0 (.agg #[.int .i64 0, .int .i64 0, .bool false, .slice none 0 0, .string ByteArray.empty, .slice none 0 0, .slice none 0 0]) 7 112 Tryz.underlying25 hi hz0 hz1 hz2 rfl (by decide) _ j xs rfl (hown1.alloc _) ⟨w1.heap.size, 0, none⟩ 1 1 [.int .i64 k2, .int .i64 n2, .bool neg2, vm1, .string text2, vi1, vr1] rfl rfl ?x1 ?x2 ?x3 ?x4 ?x5 ?_)
              | fail)
            case x1 => exact new_cells
            case x2 => exact HN.out
            case x3 => unfold maxLen; omega
            case x4 => omega
            case x5 => simp; omega
            intro v' w2 hown' hgrow _ hblk
            have HG2 := Lib.hid (round_got HO.out hgot.out hsz HG.out hb1 hR1.out hgrow hblk)
            have HB2 := Lib.hid (round_below HO.out hbel.out hsz hb1 hgrow)
            have HO2 := Lib.hid hown'
            clear hown' hgrow hblk hR1 HG hgot HO hown1 hb1 hbel
            go_wp2
            go_roundw
            case rel =>
              exact ⟨j + 1, by omega, by go_num, _, HO2.out, HG2.out, HB2.out⟩
            case measure => simp [intOf]; omega
          · have hkl : j = rest.length := by omega
            subst hkl
            obtain ⟨ao2, co2, rfl⟩ := hd_slice (own_hd hown).1
            have hs : wb.heap.size ≤ wr.heap.size := hbel.out.size
            have HO := Lib.hid hown
            clear hown
            have Mr := Lib.hid (loc_below M1.out (by omega) hbel.out)
            have fs := loc_frozen Mr.out
            have c0 := loc_cell Lr.out 0 _ rfl
            have c1 := loc_cell Lr.out 1 _ rfl
            have c2 := loc_cell Lr.out 2 _ rfl
            have c3 := loc_cell Lr.out 3 _ rfl
            have c4 := loc_cell Lr.out 4 _ rfl
            have c5 := loc_cell Lr.out 5 _ rfl
            have d0 := loc_cell Mr.out 0 _ rfl
            have d1 := loc_cell Mr.out 1 _ rfl
            have d2 := loc_cell Mr.out 2 _ rfl
            have d3 := loc_cell Mr.out 3 _ rfl
            have d4 := loc_cell Mr.out 4 _ rfl
            have d5 := loc_cell Mr.out 5 _ rfl
            have d6 := loc_cell Mr.out 6 _ rfl
            have HM3 := Lib.hid (repM_keep (keeps_below hbel.out) HM1.out)
            have HI3 := Lib.hid (repS_keep (keeps_below hbel.out) HI1.out)
            have HR3 : Hid (RepS wr (PX P w.heap.size) (rest.map strip) (.slice ao2 rest.length co2)) := got_done hgot.out HO.out br (fun b hb => by rcases hb with hb | hb; exact hb; exact .inr (by omega))
            have B3 := Lib.hid (below_all B1.out hbel.out (by omega))
            clear HO hgot
            go_wp2
            refine bodyPost_ret (results_cell_row rfl _ _ (w.heap.size + 1) 27 #[.int .i64 k, .int .i64 n, .bool neg, .slice am mag.length cm, .string text, .slice ao items.length co, .slice ao2 rest.length co2] (0, 0) _ rfl ?lf Tryz.underlying27 rfl size27) rfl ?_
            case lf => exact loc_set (loc_set (loc_set (loc_set (loc_set (loc_set (loc_set (loc_far Mr.out (a := ⟨w.heap.size, 6, none⟩) (by simp) _) 0 _) 1 _) 2 _) 3 _) 4 _) 5 _) 6 _
            refine ⟨[_, _, _, _, _, _, _], rfl, rep_mk.2 ⟨_, _, _, rfl, repM_keep ?y1 HM3.out, repS_keep ?y2 (by simpa using HI3.out), repS_keep ?y3 (by simpa using HR3.out)⟩, ?b⟩
            case y1 | y2 | y3 =>
              refine px_out ?_
              repeat (refine px_then ?_ (by first | exact .inl rfl | exact .inr rfl))
              exact keeps_refl _ _
            case b =>
              repeat (refine below_then ?_ (by first | exact .inl rfl | exact .inr rfl))
              exact B3.out
