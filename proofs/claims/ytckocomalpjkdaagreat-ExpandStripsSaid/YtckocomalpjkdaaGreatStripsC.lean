/- Contracts: Copy, CopyAll, CopyLimbs hand back the same datum, Strip the datum without marks, in memory of their own; old memory stays; of any world in which the datum lies. -/
import Derived.Test.YtckocomalpjkdaaGreatStripsA
import Derived.Test.YtckocomalpjkdaaGreatProg
import Derived.Deep.RegionWith
set_option linter.unusedVariables false
set_option linter.unusedSimpArgs false
set_option linter.unusedSectionVars false
open Go Go.Proofs Go.RowKit Strips
theorem info86 : (Tryz.prog.info? 86).map (fun i => (i.zero, i.size, i.bytes)) = some (some (.int .u32 0), 1, 4) := by kernel_rfl
/-- CopyLimbs -/
theorem limbs_walk (l : List Int) (v : Value) (w : World) (P : Nat → Prop) (h : RepM w P l v) : Calls Tryz.prog 26 #[v] w fun e w' => ∃ v', e = .returned v' ∧ RepM w' (fun b => P b ∨ w.heap.size ≤ b) l v' ∧ Below w.heap.size w w' := by
  have hr := h.2.1
  rcases h with ⟨⟨h0, rfl⟩ | ⟨ad, cap, rfl, hcap, _⟩, _, hc⟩
  · have : l = [] := List.eq_nil_of_length_eq_zero h0
    subst this
    go_enter Tryz.func26, Tryz.ntmps26
    go_wp2
    go_ret
    exact ⟨_, rfl, ⟨.inl ⟨rfl, rfl⟩, by simp, by simp⟩, Below.refl _ _⟩
  · obtain ⟨i0, hi, hz0, hz1, hz2⟩ := info_parts info86
    have hc1 : ∀ (j : Nat) (u : Value), (l.map (Value.int .u32))[j]? = some u → w.cell? (ad.add j) = some u := by
      intro j u hj
      rw [List.getElem?_map] at hj
      cases hn : l[j]? with
      | none => rw [hn] at hj; cases hj
      | some n => rw [hn] at hj; cases hj; exact (hc j n hn).2
    have H : Hid (∀ (j : Nat) (u : Value), (l.map (Value.int .u32))[j]? = some u → w.cell? (ad.add j) = some u) := hc1
    clear hc hc1
    go_enter Tryz.func26, Tryz.ntmps26
    go_wp2_with (first
      | (at_builtin; refine wpList_append_own _ rfl _ _ 22 rfl w.heap.size 86 i0 (.int .u32 0) 1 4 Tryz.underlying22 hi hz0 hz1 hz2 rfl (by decide) _ 0 [] rfl (World.ownsRow_nil _ _ _ _) ad l.length cap (l.map (Value.int .u32)) rfl ?c0 ?c1 ?c2 ?c3 ?c4 ?c5 ?_)
      | go_in)
    case c0 => simp
    case c1 => exact H.out
    case c2 => intro u hu; simp at hu; obtain ⟨n, _, rfl⟩ := hu; rfl
    case c3 => unfold maxLen; omega
    case c4 => omega
    case c5 => omega
    · intro v' w1 hown hgrow _
      go_wp2
      go_ret
      refine ⟨_, rfl, repM_own (base := w.heap.size) (by simpa using hown) hr (fun _ => .inr), (Below.refl _ _).grown hgrow (Nat.le_refl _) (fun k hk => by cases hk)⟩

open Go Go.Proofs Go.RowKit Strips
theorem info27 : (Tryz.prog.info? 27).map (fun i => (i.zero, i.size, i.bytes)) = some (some (.agg #[.int .i64 0, .int .i64 0, .bool false, .slice none 0 0, .string ByteArray.empty, .slice none 0 0, .slice none 0 0]), 7, 112) := by kernel_rfl
def ElOK (F : Nat) (f : T → T) (t : T) : Prop := ∀ (P : Nat → Prop) (w : World) (cs : List Value), Rep w P t cs → Calls Tryz.prog F #[.agg cs.toArray] w fun e w' => ∃ cs', e = .returned (.agg cs'.toArray) ∧ Rep w' (fun b => P b ∨ w.heap.size ≤ b) (f t) cs' ∧ Below w.heap.size w w'
def SlOK (F : Nat) (f : T → T) (l : List T) : Prop := ∀ (P : Nat → Prop) (w : World) (v : Value), RepS w P l v → Calls Tryz.prog F #[v] w fun e w' => ∃ v', e = .returned v' ∧ RepS w' (fun b => P b ∨ w.heap.size ≤ b) (l.map f) v' ∧ Below w.heap.size w w'
set_option maxRecDepth 100000 in
set_option maxHeartbeats 1000000 in
theorem copyAll_walk (l : List T) (hel : ∀ t ∈ l, ElOK 11 id t) : SlOK 19 id l := by
  intro P w v h
  have hr := h.2.1
  rcases h with ⟨⟨h0, rfl⟩ | ⟨a, cap, rfl, hcap, h0 | ⟨b, off, rfl⟩⟩, _, hc⟩
  · have : l = [] := List.eq_nil_of_length_eq_zero h0
    subst this
    go_enter Tryz.func19, Tryz.ntmps19
    go_wp2
    refine wp_loop_rounds 1 ?_
    rw [rounds_succ]
    go_wp2
    go_ret
    exact ⟨_, rfl, ⟨.inl ⟨rfl, rfl⟩, by simp, by simp only [List.map_nil, RepC]⟩, Below.refl _ _⟩
  · have : l = [] := List.eq_nil_of_length_eq_zero h0
    subst this
    go_enter Tryz.func19, Tryz.ntmps19
    go_wp2
    refine wp_loop_rounds 1 ?_
    rw [rounds_succ]
    go_wp2
    go_ret
    exact ⟨_, rfl, ⟨.inl ⟨rfl, rfl⟩, by simp, by simp only [List.map_nil, RepC]⟩, Below.refl _ _⟩
  · obtain ⟨i0, hi, hz0, hz1, hz2⟩ := info_parts info27
    have H : Hid (RepC w P ⟨b, off, none⟩ 0 l) := hc
    clear hc
    go_enter Tryz.func19, Tryz.ntmps19
    go_wp2
    go_loopw [3, 4] (fun m i wr => ∃ k : Nat, k ≤ l.length ∧ i = .int .i64 k ∧ ∃ xs, wr.ownsRow w.heap.size 27 7 m k xs ∧ Hid (Got wr (PR P w.heap.size m) id l k xs) ∧ Below w.heap.size w wr)
      (fun _ i _ => l.length - (intOf i).toNat)
    case atStart => exact ⟨0, Nat.zero_le _, rfl, [], World.ownsRow_nil _ _ _ _, got_zero _ _ _ _, Below.refl _ _⟩
    case round =>
      obtain ⟨k, hk, rfl, xs, hown, hgot, hbel⟩ := hrel
      by_cases hlt : k < l.length
      · have hget := List.getElem?_eq_getElem hlt
        obtain ⟨hb0, cs, hrep, hcell⟩ := repS_cells (repC_keep (keeps_in hbel) _ _ _ H.out) hget
        have hrep' := hrep
        generalize ht : l[k] = t at hget hrep hrep'
        have hmem : t ∈ l := List.mem_of_getElem? hget
        obtain ⟨kk, nn, neg, mag, text, items, rest⟩ := t
        rw [rep_mk] at hrep
        obtain ⟨vm, vi, vr, rfl, _, _, _⟩ := hrep
        have c0 : wr.cell? ⟨b, off + k * 7, none⟩ = some (.int .i64 kk) := hcell 0 _ rfl
        have c1 := hcell 1 _ rfl
        have c2 := hcell 2 _ rfl
        have c3 := hcell 3 _ rfl
        have c4 := hcell 4 _ rfl
        have c5 := hcell 5 _ rfl
        have c6 := hcell 6 _ rfl
        clear hcell
        have HC := hel _ hmem _ wr _ hrep'
        have HG : Hid (l[k]? = some (T.mk kk nn neg mag text items rest)) := hget
        clear hget ht hrep' hmem hel
        go_wp2_with fail
        refine HC.mono ?_
        rintro e w1 ⟨cs', rfl, hrep1, hb1⟩
        have hR1 : Hid (Rep w1 (fun b => (P b ∧ b < w.heap.size) ∨ wr.heap.size ≤ b) (id (T.mk kk nn neg mag text items rest)) cs') := hrep1
        have hrep2 := hrep1
        simp only [id] at hrep2
        rw [rep_mk] at hrep2
        obtain ⟨vm1, vi1, vr1, rfl, q1, q2, q3⟩ := hrep2
        have hone := rep_one hrep1
        have hown1 := own_below hown hb1
        have HO := Lib.hid hown
        have hsz : w.heap.size ≤ wr.heap.size := hbel.size
        have hsz1 : wr.heap.size ≤ w1.heap.size := hb1.size
        clear c0 c1 c2 c3 c4 c5 c6 HC hown hrep1 q1 q2 q3
        have HN : Hid (∀ u ∈ [Value.int .i64 kk, .int .i64 nn, .bool neg, vm1, .string text, vi1, vr1], u.oneCell' = true) := hone
        clear hone
        go_wp2_with (first
          | (at_builtin; refine wpList_append_own_at _ rfl _ _ 25 rfl w.heap.size 27 i0 (.agg #[.int .i64 0, .int .i64 0, .bool false, .slice none 0 0, .string ByteArray.empty, .slice none 0 0, .slice none 0 0]) 7 112 Tryz.underlying25 hi hz0 hz1 hz2 rfl (by decide) _ k xs rfl (hown1.alloc _) ⟨w1.heap.size, 0, none⟩ 1 1 [.int .i64 kk, .int .i64 nn, .bool neg, vm1, .string text, vi1, vr1] rfl rfl ?x1 ?x2 ?x3 ?x4 ?x5 ?_)
          | fail)
        case x1 => exact new_cells
        case x2 => exact HN.out
        case x3 => unfold maxLen; omega
        case x4 => omega
        case x5 => simp; omega
        intro v' w2 hown' hgrow _ hblk
        have HG2 := Lib.hid (round_got HO.out hgot.out hsz HG.out hb1 hR1.out hgrow hblk)
        have HB2 := Lib.hid (round_below HO.out hbel hsz hb1 hgrow)
        have HO2 := Lib.hid hown'
        clear hown' hgrow hblk hR1 HG hgot HO hown1 hb1 hbel
        go_wp2
        go_roundw
        case rel => exact ⟨k + 1, by omega, by go_num, _, HO2.out, HG2.out, HB2.out⟩
        case measure => simp [intOf]; omega
      · have hkl : k = l.length := by omega
        subst hkl
        have HO := Lib.hid hown
        clear hown
        go_wp2
        go_ret
        exact ⟨_, rfl, got_done hgot.out HO.out hr (fun _ => id), hbel⟩

open Go Go.Proofs Go.RowKit Strips
theorem size27 : (Tryz.prog.info? 27).map (·.size) = some 7 := by kernel_rfl
set_option maxRecDepth 100000 in
set_option maxHeartbeats 1000000 in
theorem copy_walk (k n : Int) (neg : Bool) (mag : List Int) (text : ByteArray) (items rest : List T) (h1 : SlOK 19 id items) (h2 : SlOK 19 id rest) : ElOK 11 id (.mk k n neg mag text items rest) := by
  intro P w cs h
  rw [rep_mk] at h
  obtain ⟨vm, vi, vr, rfl, hm, hi, hr⟩ := h
  have B0 := Lib.hid (((Below.refl w.heap.size w).alloc (Nat.le_refl _) (.cells #[.int .i64 k, .int .i64 n, .bool neg, vm, .string text, vi, vr] 27)).alloc (by simp) (.cells #[.int .i64 0, .int .i64 0, .bool false, .slice none 0 0, .string ⟨#[]⟩, .slice none 0 0, .slice none 0 0] 27))
  have L0 := Lib.hid (loc_alloc (loc_new w [.int .i64 k, .int .i64 n, .bool neg, vm, .string text, vi, vr] 27) (by simp) (.cells #[.int .i64 0, .int .i64 0, .bool false, .slice none 0 0, .string ⟨#[]⟩, .slice none 0 0, .slice none 0 0] 27))
  have M0 := Lib.hid (loc_new2 w (.cells #[.int .i64 k, .int .i64 n, .bool neg, vm, .string text, vi, vr] 27) [.int .i64 0, .int .i64 0, .bool false, .slice none 0 0, .string ⟨#[]⟩, .slice none 0 0, .slice none 0 0] 27)
  have HM := Lib.hid hm
  have HI := Lib.hid hi
  have HR := Lib.hid hr
  clear hm hi hr
  go_enter Tryz.func11, Tryz.ntmps11
  go_wp2_with fail
  refine (limbs_walk mag vm _ (PX P w.heap.size) (repM_keep (px_start B0.out) HM.out)).mono ?_
  rintro e w1 ⟨vm1, rfl, hm1, hb1⟩
  have s0 := size_alloc2 w (.cells #[.int .i64 k, .int .i64 n, .bool neg, vm, .string text, vi, vr] 27) (.cells #[.int .i64 0, .int .i64 0, .bool false, .slice none 0 0, .string ⟨#[]⟩, .slice none 0 0, .slice none 0 0] 27)
  have s1 : w.heap.size + 2 ≤ w1.heap.size := by have := hb1.size; omega
  have L1 := Lib.hid (loc_below L0.out (by omega) hb1)
  have M1 := Lib.hid (loc_below M0.out (by omega) hb1)
  have B1 := Lib.hid (below_all B0.out hb1 (by omega))
  have HM1 := Lib.hid (repM_keep (px_call (by omega)) hm1)
  clear L0 M0 B0 HM hm1 hb1 s0
  have fr1 := loc_frozen L1.out
  obtain ⟨am, cm, rfl⟩ := hd_slice HM1.out.1
  have c3 := loc_cell L1.out 3 _ rfl
  have c5 := loc_cell L1.out 5 _ rfl
  have c6 := loc_cell L1.out 6 _ rfl
  go_wp2_with fail
  refine (h1 (PX P w.heap.size) _ vi ?r1).mono ?_
  case r1 => exact repS_keep (px_set (a := ⟨w.heap.size, 3, none⟩) _ (.inl rfl)) (repS_keep (px_start B1.out) HI.out)
  rintro e w2 ⟨vi1, rfl, hi1, hb2⟩
  have z1 := size_set w1 ⟨w.heap.size, 3, none⟩ (.slice am mag.length cm)
  have s2 : w.heap.size + 2 ≤ w2.heap.size := by have := hb2.size; omega
  have L2 := Lib.hid (loc_below (loc_set L1.out 3 (.slice am mag.length cm) ) (by omega) hb2)
  have M2 := Lib.hid (loc_below (loc_far M1.out (a := ⟨w.heap.size, 3, none⟩) (by simp) (.slice am mag.length cm)) (by omega) hb2)
  have B2 := Lib.hid (below_all (B1.out.setCell (p := ⟨w.heap.size, 3, none⟩) (Nat.le_refl _) (.slice am mag.length cm)) hb2 (by omega))
  have HM2 := Lib.hid (repM_keep (keeps_below hb2) (repM_keep (px_set (a := ⟨w.heap.size, 3, none⟩) (.slice am mag.length cm) (.inl rfl)) HM1.out))
  have HI2 := Lib.hid (repS_keep (px_call (by omega)) hi1)
  have fr2 := loc_frozen L2.out
  obtain ⟨ai, ci, rfl⟩ := hd_slice HI2.out.1
  clear fr1 L1 M1 B1 HM1 hi1 hb2 z1 HI c3 c5 c6 h1
  have c5 := loc_cell L2.out 5 _ rfl
  have c6 := loc_cell L2.out 6 _ rfl
  go_wp2_with fail
  refine (h2 (PX P w.heap.size) _ vr ?r2).mono ?_
  case r2 => exact repS_keep (px_set (a := ⟨w.heap.size, 5, none⟩) _ (.inl rfl)) (repS_keep (px_start B2.out) HR.out)
  rintro e w3 ⟨vr1, rfl, hr1, hb3⟩
  have z2 := size_set w2 ⟨w.heap.size, 5, none⟩ (.slice ai items.length ci)
  simp only [List.length_map] at *
  have s3 : w.heap.size + 2 ≤ w3.heap.size := by have := hb3.size; omega
  have L3 := Lib.hid (loc_below (loc_set L2.out 5 (.slice ai items.length ci) ) (by omega) hb3)
  have M3 := Lib.hid (loc_below (loc_far M2.out (a := ⟨w.heap.size, 5, none⟩) (by simp) (.slice ai items.length ci)) (by omega) hb3)
  have B3 := Lib.hid (below_all (B2.out.setCell (p := ⟨w.heap.size, 5, none⟩) (Nat.le_refl _) (.slice ai items.length ci)) hb3 (by omega))
  have HM3 := Lib.hid (repM_keep (keeps_below hb3) (repM_keep (px_set (a := ⟨w.heap.size, 5, none⟩) (.slice ai items.length ci) (.inl rfl)) HM2.out))
  have HI3 := Lib.hid (repS_keep (keeps_below hb3) (repS_keep (px_set (a := ⟨w.heap.size, 5, none⟩) (.slice ai items.length ci) (.inl rfl)) HI2.out))
  have HR3 := Lib.hid (repS_keep (px_call (by omega)) hr1)
  have fr := loc_frozen L3.out
  have fs := loc_frozen M3.out
  obtain ⟨ar, cr, rfl⟩ := hd_slice HR3.out.1
  clear fr2 L2 M2 B2 HM2 HI2 hr1 hb3 z2 HR c5 c6 h2
  have c0 := loc_cell L3.out 0 _ rfl
  have c1 := loc_cell L3.out 1 _ rfl
  have c2 := loc_cell L3.out 2 _ rfl
  have c3 := loc_cell L3.out 3 _ rfl
  have c4 := loc_cell L3.out 4 _ rfl
  have c5 := loc_cell L3.out 5 _ rfl
  have c6 := loc_cell L3.out 6 _ rfl
  have d0 := loc_cell M3.out 0 _ rfl
  have d1 := loc_cell M3.out 1 _ rfl
  have d2 := loc_cell M3.out 2 _ rfl
  have d3 := loc_cell M3.out 3 _ rfl
  have d4 := loc_cell M3.out 4 _ rfl
  have d5 := loc_cell M3.out 5 _ rfl
  have d6 := loc_cell M3.out 6 _ rfl
  go_wp2
  refine bodyPost_ret (results_cell_row rfl _ _ (w.heap.size + 1) 27 #[.int .i64 k, .int .i64 n, .bool neg, .slice am mag.length cm, .string text, .slice ai items.length ci, .slice ar rest.length cr] (0, 0) _ rfl ?lf Tryz.underlying27 rfl size27) rfl ?_
  case lf => exact loc_set (loc_set (loc_set (loc_set (loc_set (loc_set (loc_set (loc_far M3.out (a := ⟨w.heap.size, 6, none⟩) (by simp) _) 0 _) 1 _) 2 _) 3 _) 4 _) 5 _) 6 _
  refine ⟨[_, _, _, _, _, _, _], rfl, rep_mk.2 ⟨_, _, _, rfl, repM_keep ?y1 HM3.out, repS_keep ?y2 (by simpa using HI3.out), repS_keep ?y3 (by simpa using HR3.out)⟩, ?b⟩
  case y1 | y2 | y3 =>
    refine px_out ?_
    repeat (refine px_then ?_ (by first | exact .inl rfl | exact .inr rfl))
    exact keeps_refl _ _
  case b =>
    repeat (refine below_then ?_ (by first | exact .inl rfl | exact .inr rfl))
    exact B3.out

open Go Go.Proofs Go.RowKit Strips
set_option maxRecDepth 100000 in
set_option maxHeartbeats 2000000 in
theorem stripped_walk (l : List T) (hel : ∀ t ∈ l, ElOK 10 strip t) : SlOK 25 strip l := by
  intro P w v h
  have hr := h.2.1
  rcases h with ⟨⟨h0, rfl⟩ | ⟨a, cap, rfl, hcap, h0 | ⟨b, off, rfl⟩⟩, _, hc⟩
  · have : l = [] := List.eq_nil_of_length_eq_zero h0
    subst this
    go_enter Tryz.func25, Tryz.ntmps25
    go_wp2
    refine wp_loop_rounds 1 ?_
    rw [rounds_succ]
    go_wp2
    go_ret
    exact ⟨_, rfl, ⟨.inl ⟨rfl, rfl⟩, by simp, by simp only [List.map_nil, RepC]⟩, Below.refl _ _⟩
  · have : l = [] := List.eq_nil_of_length_eq_zero h0
    subst this
    go_enter Tryz.func25, Tryz.ntmps25
    go_wp2
    refine wp_loop_rounds 1 ?_
    rw [rounds_succ]
    go_wp2
    go_ret
    exact ⟨_, rfl, ⟨.inl ⟨rfl, rfl⟩, by simp, by simp only [List.map_nil, RepC]⟩, Below.refl _ _⟩
  · obtain ⟨i0, hi, hz0, hz1, hz2⟩ := info_parts info27
    have H : Hid (RepC w P ⟨b, off, none⟩ 0 l) := hc
    clear hc
    go_enter Tryz.func25, Tryz.ntmps25
    go_wp2
    go_loopw [3, 8] (fun m i wr => ∃ k : Nat, k ≤ l.length ∧ i = .int .i64 k ∧ ∃ xs, wr.ownsRow w.heap.size 27 7 m k xs ∧ Hid (Got wr (PR P w.heap.size m) strip l k xs) ∧ Below w.heap.size w wr)
      (fun _ i _ => l.length - (intOf i).toNat)
    case atStart => exact ⟨0, Nat.zero_le _, rfl, [], World.ownsRow_nil _ _ _ _, got_zero _ _ _ _, Below.refl _ _⟩
    case round =>
      obtain ⟨k, hk, rfl, xs, hown, hgot, hbel⟩ := hrel
      by_cases hlt : k < l.length
      · have hget := List.getElem?_eq_getElem hlt
        obtain ⟨hb0, cs, hrep, hcell⟩ := repS_cells (repC_keep (keeps_in hbel) _ _ _ H.out) hget
        have hrep' := hrep
        generalize ht : l[k] = t at hget hrep hrep'
        have hmem : t ∈ l := List.mem_of_getElem? hget
        obtain ⟨kk, nn, neg, mag, text, items, rest⟩ := t
        rw [rep_mk] at hrep
        obtain ⟨vm, vi, vr, rfl, g1, g2, g3⟩ := hrep
        obtain ⟨am, cm, rfl⟩ := hd_slice g1.1
        obtain ⟨ai, ci, rfl⟩ := hd_slice g2.1
        obtain ⟨ar, cr, rfl⟩ := hd_slice g3.1
        clear g1 g2 g3
        have c0 : wr.cell? ⟨b, off + k * 7, none⟩ = some (.int .i64 kk) := hcell 0 _ rfl
        have c1 := hcell 1 _ rfl
        have c2 := hcell 2 _ rfl
        have c3 := hcell 3 _ rfl
        have c4 := hcell 4 _ rfl
        have c5 := hcell 5 _ rfl
        have c6 := hcell 6 _ rfl
        clear hcell
        have HC := Lib.hid hrep'
        have HE := Lib.hid (hel _ hmem)
        have HG : Hid (l[k]? = some (T.mk kk nn neg mag text items rest)) := hget
        clear hget ht hrep' hmem hel
        go_wp2_with fail
        refine (HE.out (fun b => P b ∧ b < w.heap.size) _ [.int .i64 kk, .int .i64 nn, .bool neg, .slice am mag.length cm, .string text, .slice ai items.length ci, .slice ar rest.length cr] ?r1).mono ?_
        case r1 => exact rep_keep (keeps_below ((Below.refl _ wr).alloc (Nat.le_refl _) _)) _ _ HC.out
        rintro e w1 ⟨cs', rfl, hrep0, hb0⟩
        have sA := size_alloc wr (.cells #[.int .i64 kk, .int .i64 nn, .bool neg, .slice am mag.length cm, .string text, .slice ai items.length ci, .slice ar rest.length cr] 27)
        have hb1 : Below wr.heap.size wr w1 := below_all ((Below.refl _ wr).alloc (Nat.le_refl _) _) hb0 (by omega)
        have hrep1 : Rep w1 (fun b => (P b ∧ b < w.heap.size) ∨ wr.heap.size ≤ b) (strip (T.mk kk nn neg mag text items rest)) cs' := rep_keep (keeps_weak fun b hp _ => by rcases hp with hp | hp; exact .inl hp; exact .inr (by omega)) _ _ hrep0
        have hR1 := Lib.hid hrep1
        generalize strip (T.mk kk nn neg mag text items rest) = t2 at hrep1
        have hrep2 := hrep1
        obtain ⟨k2, n2, neg2, mag2, text2, items2, rest2⟩ := t2
        rw [rep_mk] at hrep2
        obtain ⟨vm1, vi1, vr1, rfl, q1, q2, q3⟩ := hrep2
        have hone := rep_one hrep1
        have hown1 := own_below hown hb1
        have HO := Lib.hid hown
        have hsz : w.heap.size ≤ wr.heap.size := hbel.size
        have hsz1 : wr.heap.size ≤ w1.heap.size := hb1.size
        clear c0 c1 c2 c3 c4 c5 c6 HC HE hown hrep0 hb0 sA hrep1 q1 q2 q3
        have HN : Hid (∀ u ∈ [Value.int .i64 k2, .int .i64 n2, .bool neg2, vm1, .string text2, vi1, vr1], u.oneCell' = true) := hone
        clear hone
        go_wp2_with (first
          | (at_builtin; refine wpList_append_own_at _ rfl _ _ 25 rfl w.heap.size 27 i0 (.agg #[.int .i64 0, .int .i64 0, .bool false, .slice none 0 0, .string ByteArray.empty, .slice none 0 0, .slice none 0 0]) 7 112 Tryz.underlying25 hi hz0 hz1 hz2 rfl (by decide) _ k xs rfl (hown1.alloc _) ⟨w1.heap.size, 0, none⟩ 1 1 [.int .i64 k2, .int .i64 n2, .bool neg2, vm1, .string text2, vi1, vr1] rfl rfl ?x1 ?x2 ?x3 ?x4 ?x5 ?_)
          | fail)
        case x1 => exact new_cells
        case x2 => exact HN.out
        case x3 => unfold maxLen; omega
        case x4 => omega
        case x5 => simp; omega
        intro v' w2 hown' hgrow _ hblk
        have HG2 := Lib.hid (round_got HO.out hgot.out hsz HG.out hb1 hR1.out hgrow hblk)
        have HB2 := Lib.hid (round_below HO.out hbel hsz hb1 hgrow)
        have HO2 := Lib.hid hown'
        clear hown' hgrow hblk hR1 HG hgot HO hown1 hb1 hbel
        go_wp2
        go_roundw
        case rel => exact ⟨k + 1, by omega, by go_num, _, HO2.out, HG2.out, HB2.out⟩
        case measure => simp [intOf]; omega
      · have hkl : k = l.length := by omega
        subst hkl
        have HO := Lib.hid hown
        clear hown
        go_wp2
        go_ret
        exact ⟨_, rfl, got_done hgot.out HO.out hr (fun _ => id), hbel⟩

open Go Go.Proofs Go.RowKit Strips
set_option maxRecDepth 100000 in
set_option maxHeartbeats 4000000 in
theorem strip_walk (k n : Int) (neg : Bool) (mag : List Int) (text : ByteArray) (items rest : List T) (h1 : SlOK 25 strip items) (h2 : SlOK 25 strip rest) : ElOK 10 strip (.mk k n neg mag text items rest) := by
  intro P w cs h
  rw [rep_mk] at h
  obtain ⟨vm, vi, vr, rfl, hm, hi, hr⟩ := h
  obtain ⟨am, cm, rfl⟩ := hd_slice hm.1
  obtain ⟨ai, ci, rfl⟩ := hd_slice hi.1
  obtain ⟨ar, cr, rfl⟩ := hd_slice hr.1
  have HM := Lib.hid hm
  have HI := Lib.hid hi
  have HR := Lib.hid hr
  clear hm hi hr
  have E1 := Lib.hid h1
  have E2 := Lib.hid h2
  clear h1 h2
  rw [strip_mk]
  by_cases hk : k = 5
  · subst hk
    simp only [if_pos]
    have B0 := Lib.hid (((Below.refl w.heap.size w).alloc (Nat.le_refl _) (.cells #[.int .i64 5, .int .i64 0, .bool neg, .slice am mag.length cm, .string text, .slice ai items.length ci, .slice ar rest.length cr] 27)).alloc (by simp) (.cells #[.int .i64 0, .int .i64 0, .bool false, .slice none 0 0, .string ⟨#[]⟩, .slice none 0 0, .slice none 0 0] 27))
    have L0 := Lib.hid (loc_alloc (loc_new w [.int .i64 5, .int .i64 0, .bool neg, .slice am mag.length cm, .string text, .slice ai items.length ci, .slice ar rest.length cr] 27) (by simp) (.cells #[.int .i64 0, .int .i64 0, .bool false, .slice none 0 0, .string ⟨#[]⟩, .slice none 0 0, .slice none 0 0] 27))
    have M0 := Lib.hid (loc_new2 w (.cells #[.int .i64 5, .int .i64 0, .bool neg, .slice am mag.length cm, .string text, .slice ai items.length ci, .slice ar rest.length cr] 27) [.int .i64 0, .int .i64 0, .bool false, .slice none 0 0, .string ⟨#[]⟩, .slice none 0 0, .slice none 0 0] 27)
    have HM0 := Lib.hid (repM_keep (px_start B0.out) HM.out)
    have HI0 := Lib.hid (repS_keep (px_start B0.out) HI.out)
    have HR0 := Lib.hid (repS_keep (px_start B0.out) HR.out)
    have s0 := size_alloc2 w (.cells #[.int .i64 5, .int .i64 0, .bool neg, .slice am mag.length cm, .string text, .slice ai items.length ci, .slice ar rest.length cr] 27) (.cells #[.int .i64 0, .int .i64 0, .bool false, .slice none 0 0, .string ⟨#[]⟩, .slice none 0 0, .slice none 0 0] 27)
    go_enter Tryz.func10, Tryz.ntmps10
    go_wp2_with fail
    generalize (w.alloc (.cells #[.int .i64 5, .int .i64 0, .bool neg, .slice am mag.length cm, .string text, .slice ai items.length ci, .slice ar rest.length cr] 27)).alloc (.cells #[.int .i64 0, .int .i64 0, .bool false, .slice none 0 0, .string ⟨#[]⟩, .slice none 0 0, .slice none 0 0] 27) = wa at B0 L0 M0 HM0 HI0 HR0 s0 ⊢
    have fr0 := loc_frozen L0.out
    have c50 := loc_cell L0.out 5 _ rfl
    have c60 := loc_cell L0.out 6 _ rfl
    have B1 := Lib.hid B0.out.drew
    have L1 := Lib.hid (loc_drew L0.out)
    have M1 := Lib.hid (loc_drew M0.out)
    have HM1 := Lib.hid (repM_keep (keeps_drew _ _) HM0.out)
    have HI1 := Lib.hid (repS_keep (keeps_drew _ _) HI0.out)
    have HR1 := Lib.hid (repS_keep (keeps_drew _ _) HR0.out)
    have s1 : wa.drew.heap.size = w.heap.size + 2 := s0
    go_region_with (first
      | (go_at_call_of 25 ai
         refine (E1.out (PX P w.heap.size) _ (.slice ai items.length ci) ?_).mono ?_
         exact HI1.out
         rintro e w2 ⟨vi1, rfl, hi1, hb2⟩
         have s2 : w.heap.size + 2 ≤ w2.heap.size := Nat.le_trans (Nat.le_of_eq s1.symm) hb2.size
         have L2 := Lib.hid (loc_below L1.out (by omega) hb2)
         have M2 := Lib.hid (loc_below M1.out (by omega) hb2)
         have B2 := Lib.hid (below_all B1.out hb2 (by omega))
         have HM2 := Lib.hid (repM_keep (keeps_below hb2) HM1.out)
         have HR2 := Lib.hid (repS_keep (keeps_below hb2) HR1.out)
         have HI2 := Lib.hid (repS_keep (px_call (Nat.le_of_eq s1.symm)) hi1)
         obtain ⟨ai2, ci2, rfl⟩ := hd_slice HI2.out.1
         have fr2 := loc_frozen L2.out
         have c62 := loc_cell L2.out 6 _ rfl
         clear hi1 hb2)
      | (go_at_call_of 25 ar
         refine (E2.out (PX P w.heap.size) _ (.slice ar rest.length cr) ?_).mono ?_
         exact HR2.out
         rintro e w3 ⟨vr1, rfl, hr1, hb3⟩
         have s3 : w.heap.size + 2 ≤ w3.heap.size := Nat.le_trans s2 hb3.size
         have L3 := Lib.hid (loc_below L2.out (by omega) hb3)
         have M3 := Lib.hid (loc_below M2.out (by omega) hb3)
         have B3 := Lib.hid (below_all B2.out hb3 (by omega))
         have HM3 := Lib.hid (repM_keep (keeps_below hb3) HM2.out)
         have HI3 := Lib.hid (repS_keep (keeps_below hb3) HI2.out)
         have HR3 := Lib.hid (repS_keep (px_call s2) hr1)
         obtain ⟨ar2, cr2, rfl⟩ := hd_slice HR3.out.1
         have fr3 := loc_frozen L3.out
         have fs3 := loc_frozen M3.out
         have c03 := loc_cell L3.out 0 _ rfl
         have c13 := loc_cell L3.out 1 _ rfl
         have c23 := loc_cell L3.out 2 _ rfl
         have c33 := loc_cell L3.out 3 _ rfl
         have c43 := loc_cell L3.out 4 _ rfl
         have c53 := loc_cell L3.out 5 _ rfl
         have c63 := loc_cell L3.out 6 _ rfl
         have d03 := loc_cell M3.out 0 _ rfl
         have d13 := loc_cell M3.out 1 _ rfl
         have d23 := loc_cell M3.out 2 _ rfl
         have d33 := loc_cell M3.out 3 _ rfl
         have d43 := loc_cell M3.out 4 _ rfl
         have d53 := loc_cell M3.out 5 _ rfl
         have d63 := loc_cell M3.out 6 _ rfl
         clear hr1 hb3))
    all_goals
      go_wp2
      refine bodyPost_ret (results_cell_row rfl _ _ (w.heap.size + 1) 27 #[.int .i64 5, .int .i64 0, .bool neg, .slice am mag.length cm, .string text, .slice ai2 items.length ci2, .slice ar2 rest.length cr2] (0, 0) _ rfl ?lf Tryz.underlying27 rfl size27) rfl ?_
      case lf => exact loc_set (loc_set (loc_set (loc_set (loc_set (loc_set (loc_set (loc_far (loc_far M3.out (a := ⟨w.heap.size, 5, none⟩) (by simp) _) (a := ⟨w.heap.size, 6, none⟩) (by simp) _) 0 _) 1 _) 2 _) 3 _) 4 _) 5 _) 6 _
      refine ⟨[_, _, _, _, _, _, _], rfl, rep_mk.2 ⟨_, _, _, rfl, repM_keep ?y1 HM3.out, repS_keep ?y2 (by simpa using HI3.out), repS_keep ?y3 (by simpa using HR3.out)⟩, ?b⟩
      case y1 | y2 | y3 =>
        refine px_out ?_
        repeat (refine px_then ?_ (by first | exact .inl rfl | exact .inr rfl))
        exact keeps_refl _ _
      case b =>
        repeat (refine below_then ?_ (by first | exact .inl rfl | exact .inr rfl))
        exact B3.out
  · simp only [if_neg hk]
    have B0 := Lib.hid (((Below.refl w.heap.size w).alloc (Nat.le_refl _) (.cells #[.int .i64 k, .int .i64 n, .bool neg, .slice am mag.length cm, .string text, .slice ai items.length ci, .slice ar rest.length cr] 27)).alloc (by simp) (.cells #[.int .i64 0, .int .i64 0, .bool false, .slice none 0 0, .string ⟨#[]⟩, .slice none 0 0, .slice none 0 0] 27))
    have L0 := Lib.hid (loc_alloc (loc_new w [.int .i64 k, .int .i64 n, .bool neg, .slice am mag.length cm, .string text, .slice ai items.length ci, .slice ar rest.length cr] 27) (by simp) (.cells #[.int .i64 0, .int .i64 0, .bool false, .slice none 0 0, .string ⟨#[]⟩, .slice none 0 0, .slice none 0 0] 27))
    have M0 := Lib.hid (loc_new2 w (.cells #[.int .i64 k, .int .i64 n, .bool neg, .slice am mag.length cm, .string text, .slice ai items.length ci, .slice ar rest.length cr] 27) [.int .i64 0, .int .i64 0, .bool false, .slice none 0 0, .string ⟨#[]⟩, .slice none 0 0, .slice none 0 0] 27)
    have HM0 := Lib.hid (repM_keep (px_start B0.out) HM.out)
    have HI0 := Lib.hid (repS_keep (px_start B0.out) HI.out)
    have HR0 := Lib.hid (repS_keep (px_start B0.out) HR.out)
    have s0 := size_alloc2 w (.cells #[.int .i64 k, .int .i64 n, .bool neg, .slice am mag.length cm, .string text, .slice ai items.length ci, .slice ar rest.length cr] 27) (.cells #[.int .i64 0, .int .i64 0, .bool false, .slice none 0 0, .string ⟨#[]⟩, .slice none 0 0, .slice none 0 0] 27)
    go_enter Tryz.func10, Tryz.ntmps10
    go_wp2_with fail
    generalize (w.alloc (.cells #[.int .i64 k, .int .i64 n, .bool neg, .slice am mag.length cm, .string text, .slice ai items.length ci, .slice ar rest.length cr] 27)).alloc (.cells #[.int .i64 0, .int .i64 0, .bool false, .slice none 0 0, .string ⟨#[]⟩, .slice none 0 0, .slice none 0 0] 27) = wa at B0 L0 M0 HM0 HI0 HR0 s0 ⊢
    have fr0 := loc_frozen L0.out
    have c50 := loc_cell L0.out 5 _ rfl
    have c60 := loc_cell L0.out 6 _ rfl
    have B1 := Lib.hid B0.out.drew
    have L1 := Lib.hid (loc_drew L0.out)
    have M1 := Lib.hid (loc_drew M0.out)
    have HM1 := Lib.hid (repM_keep (keeps_drew _ _) HM0.out)
    have HI1 := Lib.hid (repS_keep (keeps_drew _ _) HI0.out)
    have HR1 := Lib.hid (repS_keep (keeps_drew _ _) HR0.out)
    have s1 : wa.drew.heap.size = w.heap.size + 2 := s0
    go_region_with (first
      | (go_at_call_of 25 ai
         refine (E1.out (PX P w.heap.size) _ (.slice ai items.length ci) ?_).mono ?_
         exact HI1.out
         rintro e w2 ⟨vi1, rfl, hi1, hb2⟩
         have s2 : w.heap.size + 2 ≤ w2.heap.size := Nat.le_trans (Nat.le_of_eq s1.symm) hb2.size
         have L2 := Lib.hid (loc_below L1.out (by omega) hb2)
         have M2 := Lib.hid (loc_below M1.out (by omega) hb2)
         have B2 := Lib.hid (below_all B1.out hb2 (by omega))
         have HM2 := Lib.hid (repM_keep (keeps_below hb2) HM1.out)
         have HR2 := Lib.hid (repS_keep (keeps_below hb2) HR1.out)
         have HI2 := Lib.hid (repS_keep (px_call (Nat.le_of_eq s1.symm)) hi1)
         obtain ⟨ai2, ci2, rfl⟩ := hd_slice HI2.out.1
         have fr2 := loc_frozen L2.out
         have c62 := loc_cell L2.out 6 _ rfl
         clear hi1 hb2)
      | (go_at_call_of 25 ar
         refine (E2.out (PX P w.heap.size) _ (.slice ar rest.length cr) ?_).mono ?_
         exact HR2.out
         rintro e w3 ⟨vr1, rfl, hr1, hb3⟩
         have s3 : w.heap.size + 2 ≤ w3.heap.size := Nat.le_trans s2 hb3.size
         have L3 := Lib.hid (loc_below L2.out (by omega) hb3)
         have M3 := Lib.hid (loc_below M2.out (by omega) hb3)
         have B3 := Lib.hid (below_all B2.out hb3 (by omega))
         have HM3 := Lib.hid (repM_keep (keeps_below hb3) HM2.out)
         have HI3 := Lib.hid (repS_keep (keeps_below hb3) HI2.out)
         have HR3 := Lib.hid (repS_keep (px_call s2) hr1)
         obtain ⟨ar2, cr2, rfl⟩ := hd_slice HR3.out.1
         have fr3 := loc_frozen L3.out
         have fs3 := loc_frozen M3.out
         have c03 := loc_cell L3.out 0 _ rfl
         have c13 := loc_cell L3.out 1 _ rfl
         have c23 := loc_cell L3.out 2 _ rfl
         have c33 := loc_cell L3.out 3 _ rfl
         have c43 := loc_cell L3.out 4 _ rfl
         have c53 := loc_cell L3.out 5 _ rfl
         have c63 := loc_cell L3.out 6 _ rfl
         have d03 := loc_cell M3.out 0 _ rfl
         have d13 := loc_cell M3.out 1 _ rfl
         have d23 := loc_cell M3.out 2 _ rfl
         have d33 := loc_cell M3.out 3 _ rfl
         have d43 := loc_cell M3.out 4 _ rfl
         have d53 := loc_cell M3.out 5 _ rfl
         have d63 := loc_cell M3.out 6 _ rfl
         clear hr1 hb3))
    all_goals
      go_wp2
      refine bodyPost_ret (results_cell_row rfl _ _ (w.heap.size + 1) 27 #[.int .i64 k, .int .i64 n, .bool neg, .slice am mag.length cm, .string text, .slice ai2 items.length ci2, .slice ar2 rest.length cr2] (0, 0) _ rfl ?lf Tryz.underlying27 rfl size27) rfl ?_
      case lf => exact loc_set (loc_set (loc_set (loc_set (loc_set (loc_set (loc_set (loc_far (loc_far M3.out (a := ⟨w.heap.size, 5, none⟩) (by simp) _) (a := ⟨w.heap.size, 6, none⟩) (by simp) _) 0 _) 1 _) 2 _) 3 _) 4 _) 5 _) 6 _
      refine ⟨[_, _, _, _, _, _, _], rfl, rep_mk.2 ⟨_, _, _, rfl, repM_keep ?y1 HM3.out, repS_keep ?y2 (by simpa using HI3.out), repS_keep ?y3 (by simpa using HR3.out)⟩, ?b⟩
      case y1 | y2 | y3 =>
        refine px_out ?_
        repeat (refine px_then ?_ (by first | exact .inl rfl | exact .inr rfl))
        exact keeps_refl _ _
      case b =>
        repeat (refine below_then ?_ (by first | exact .inl rfl | exact .inr rfl))
        exact B3.out
