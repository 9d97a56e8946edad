-- Walks made by a program (wip/givenprint.sh); Lean checks them.
import Derived.Test.YtfpbohfefliljaaMDeltaPatchesx0
import Derived.Test.YtfpbohfefliljaaMDeltaPatchesx2
namespace Go.Proofs.Ytfpbohfefliljaa.MDeltaPatches
open Go.RowKit Go.Proofs.YtfpbohfefliljaaW.PrintWords Go.Proofs.YtfpbohfefliljaaW.PrintLast Go.Proofs.YtfpbohfefliljaaW.PrintMore
attribute [local go_sem] max2_int min2_int max_two min_two max_three min_three max_four min_four   -- for this text's walks alone
set_option linter.unusedVariables false
set_option linter.unusedSimpArgs false

/-! ### delta_Diff_string: function 8 -/
mutual
def delta_Diff_string.j1 : Nat → List ByteArray → List ByteArray → Int → Option (Int × Int × List ByteArray)
  | 0, _, _, _ => none
  | k + 1, x0, x1, x5 => delta_Diff_string.l1 k x0 x1 x5 0
def delta_Diff_string.l1 : Nat → List ByteArray → List ByteArray → Int → Int → Option (Int × Int × List ByteArray)
  | 0, _, _, _, _ => none
  | k + 1, x0, x1, x5, x6 => if x6 < (wrap64 ((x0.length : Int) - x5)) then (if x6 < (wrap64 ((x1.length : Int) - x5)) then (if 0 ≤ (wrap64 ((wrap64 ((x0.length : Int) - 1)) - x6)) then (if (wrap64 ((wrap64 ((x0.length : Int) - 1)) - x6)) < (x0.length : Int) then (if 0 ≤ (wrap64 ((wrap64 ((x1.length : Int) - 1)) - x6)) then (if (wrap64 ((wrap64 ((x1.length : Int) - 1)) - x6)) < (x1.length : Int) then (if (rdOf ByteArray.empty x0 (wrap64 ((wrap64 ((x0.length : Int) - 1)) - x6))).toList = (rdOf ByteArray.empty x1 (wrap64 ((wrap64 ((x1.length : Int) - 1)) - x6))).toList then (delta_Diff_string.l1 k x0 x1 x5 (wrap64 (x6 + 1))) else (if x5 = (x0.length : Int) then (if x5 = (x1.length : Int) then (some (0, 0, ([] : List ByteArray))) else (if 0 ≤ x5 then (if x5 ≤ (wrap64 ((x1.length : Int) - x6)) then (if (wrap64 ((x1.length : Int) - x6)) ≤ (x1.length : Int) then ((slices_Clone_string_string.f ((x1.take ((wrap64 ((x1.length : Int) - x6)) : Int).toNat).drop (x5 : Int).toNat)).bind fun t175 => (some (x5, wrap64 ((wrap64 ((x0.length : Int) - x5)) - x6), t175))) else (none)) else (none)) else (none))) else (if 0 ≤ x5 then (if x5 ≤ (wrap64 ((x1.length : Int) - x6)) then (if (wrap64 ((x1.length : Int) - x6)) ≤ (x1.length : Int) then ((slices_Clone_string_string.f ((x1.take ((wrap64 ((x1.length : Int) - x6)) : Int).toNat).drop (x5 : Int).toNat)).bind fun t179 => (some (x5, wrap64 ((wrap64 ((x0.length : Int) - x5)) - x6), t179))) else (none)) else (none)) else (none)))) else (none)) else (none)) else (none)) else (none)) else (if x5 = (x0.length : Int) then (if x5 = (x1.length : Int) then (some (0, 0, ([] : List ByteArray))) else (if 0 ≤ x5 then (if x5 ≤ (wrap64 ((x1.length : Int) - x6)) then (if (wrap64 ((x1.length : Int) - x6)) ≤ (x1.length : Int) then ((slices_Clone_string_string.f ((x1.take ((wrap64 ((x1.length : Int) - x6)) : Int).toNat).drop (x5 : Int).toNat)).bind fun t183 => (some (x5, wrap64 ((wrap64 ((x0.length : Int) - x5)) - x6), t183))) else (none)) else (none)) else (none))) else (if 0 ≤ x5 then (if x5 ≤ (wrap64 ((x1.length : Int) - x6)) then (if (wrap64 ((x1.length : Int) - x6)) ≤ (x1.length : Int) then ((slices_Clone_string_string.f ((x1.take ((wrap64 ((x1.length : Int) - x6)) : Int).toNat).drop (x5 : Int).toNat)).bind fun t187 => (some (x5, wrap64 ((wrap64 ((x0.length : Int) - x5)) - x6), t187))) else (none)) else (none)) else (none)))) else (if x5 = (x0.length : Int) then (if x5 = (x1.length : Int) then (some (0, 0, ([] : List ByteArray))) else (if 0 ≤ x5 then (if x5 ≤ (wrap64 ((x1.length : Int) - x6)) then (if (wrap64 ((x1.length : Int) - x6)) ≤ (x1.length : Int) then ((slices_Clone_string_string.f ((x1.take ((wrap64 ((x1.length : Int) - x6)) : Int).toNat).drop (x5 : Int).toNat)).bind fun t191 => (some (x5, wrap64 ((wrap64 ((x0.length : Int) - x5)) - x6), t191))) else (none)) else (none)) else (none))) else (if 0 ≤ x5 then (if x5 ≤ (wrap64 ((x1.length : Int) - x6)) then (if (wrap64 ((x1.length : Int) - x6)) ≤ (x1.length : Int) then ((slices_Clone_string_string.f ((x1.take ((wrap64 ((x1.length : Int) - x6)) : Int).toNat).drop (x5 : Int).toNat)).bind fun t195 => (some (x5, wrap64 ((wrap64 ((x0.length : Int) - x5)) - x6), t195))) else (none)) else (none)) else (none)))
def delta_Diff_string.l0 : Nat → List ByteArray → List ByteArray → Int → Option (Int × Int × List ByteArray)
  | 0, _, _, _ => none
  | k + 1, x0, x1, x5 => if x5 < (x0.length : Int) then (if x5 < (x1.length : Int) then (if 0 ≤ x5 then (if (rdOf ByteArray.empty x0 x5).toList = (rdOf ByteArray.empty x1 x5).toList then (delta_Diff_string.l0 k x0 x1 (wrap64 (x5 + 1))) else (delta_Diff_string.j1 k x0 x1 x5)) else (none)) else (delta_Diff_string.j1 k x0 x1 x5)) else (delta_Diff_string.j1 k x0 x1 x5)
end
def delta_Diff_string.f (k : Nat) (l0 : List ByteArray) (l1 : List ByteArray) : Option (Int × Int × List ByteArray) := delta_Diff_string.l0 k l0 l1 0
theorem delta_Diff_string.mono_l : ∀ k, (∀ y0 y1 y2, LeO (delta_Diff_string.j1 k y0 y1 y2) (delta_Diff_string.j1 (k + 1) y0 y1 y2)) ∧ (∀ y0 y1 y2 y3, LeO (delta_Diff_string.l1 k y0 y1 y2 y3) (delta_Diff_string.l1 (k + 1) y0 y1 y2 y3)) ∧ (∀ y0 y1 y2, LeO (delta_Diff_string.l0 k y0 y1 y2) (delta_Diff_string.l0 (k + 1) y0 y1 y2))
  | 0 => ⟨fun _ _ _ r h => by simp [delta_Diff_string.j1] at h, fun _ _ _ _ r h => by simp [delta_Diff_string.l1] at h, fun _ _ _ r h => by simp [delta_Diff_string.l0] at h⟩
  | k + 1 => by
    obtain ⟨ih0, ih1, ih2⟩ := delta_Diff_string.mono_l k
    refine ⟨?_, ?_, ?_⟩
    · intro y0 y1 y2
      unfold delta_Diff_string.j1
      repeat' first
      | (with_reducible exact ih0 _ _ _)
      | (with_reducible exact ih1 _ _ _ _)
      | (with_reducible exact ih2 _ _ _)
      | (with_reducible exact LeO.refl _)
      | (with_reducible exact LeO.none _)
      | (with_reducible refine LeO.ite ?_ ?_)
      | (with_reducible refine LeO.bind ?_ (fun _ => ?_))
      | exact ih0 _ _ _
      | exact ih1 _ _ _ _
      | exact ih2 _ _ _
      | exact LeO.none _
      | refine LeO.ite ?_ ?_
      | refine LeO.bind ?_ (fun _ => ?_)
    · intro y0 y1 y2 y3
      unfold delta_Diff_string.l1
      repeat' first
      | (with_reducible exact ih0 _ _ _)
      | (with_reducible exact ih1 _ _ _ _)
      | (with_reducible exact ih2 _ _ _)
      | (with_reducible exact LeO.refl _)
      | (with_reducible exact LeO.none _)
      | (with_reducible refine LeO.ite ?_ ?_)
      | (with_reducible refine LeO.bind ?_ (fun _ => ?_))
      | exact ih0 _ _ _
      | exact ih1 _ _ _ _
      | exact ih2 _ _ _
      | exact LeO.none _
      | refine LeO.ite ?_ ?_
      | refine LeO.bind ?_ (fun _ => ?_)
    · intro y0 y1 y2
      unfold delta_Diff_string.l0
      repeat' first
      | (with_reducible exact ih0 _ _ _)
      | (with_reducible exact ih1 _ _ _ _)
      | (with_reducible exact ih2 _ _ _)
      | (with_reducible exact LeO.refl _)
      | (with_reducible exact LeO.none _)
      | (with_reducible refine LeO.ite ?_ ?_)
      | (with_reducible refine LeO.bind ?_ (fun _ => ?_))
      | exact ih0 _ _ _
      | exact ih1 _ _ _ _
      | exact ih2 _ _ _
      | exact LeO.none _
      | refine LeO.ite ?_ ?_
      | refine LeO.bind ?_ (fun _ => ?_)
theorem delta_Diff_string.mono : ∀ a0 a1 k, LeO (delta_Diff_string.f k a0 a1) (delta_Diff_string.f (k + 1) a0 a1) := by
  intro a0 a1 k
  obtain ⟨ih0, ih1, ih2⟩ := delta_Diff_string.mono_l k
  unfold delta_Diff_string.f
  repeat' first
      | (with_reducible exact ih0 _ _ _)
      | (with_reducible exact ih1 _ _ _ _)
      | (with_reducible exact ih2 _ _ _)
      | (with_reducible exact LeO.refl _)
      | (with_reducible exact LeO.none _)
      | (with_reducible refine LeO.ite ?_ ?_)
      | (with_reducible refine LeO.bind ?_ (fun _ => ?_))
      | exact ih0 _ _ _
      | exact ih1 _ _ _ _
      | exact ih2 _ _ _
      | exact LeO.none _
      | refine LeO.ite ?_ ?_
      | refine LeO.bind ?_ (fun _ => ?_)
set_option maxHeartbeats 8000000 in
set_option maxRecDepth 100000 in
theorem delta_Diff_string.calls (k : Nat) (A0 : Option Addr) (c0 : Nat) (l0 : List ByteArray) (A1 : Option Addr) (c1 : Nat) (l1 : List ByteArray) (r1 : Int) (r2 : Int) (r3 : List ByteArray) (w : World) (hr0 : Kd.C Kd.string w A0 l0.length l0) (hc0 : l0.length ≤ c0) (hr1 : Kd.C Kd.string w A1 l1.length l1) (hc1 : l1.length ≤ c1) (h : delta_Diff_string.f k l0 l1 = some (r1, r2, r3)) :
    Calls Try.prog 8 #[.slice A0 l0.length c0, .slice A1 l1.length c1] w fun e w' => ∃ v2_ : Value, e = .returned (.agg #[.int .i64 r1, .int .i64 r2, v2_]) ∧ Kd.R Kd.string 9 w' w.heap.size (fun _ => True) v2_ r3 ∧ Below w.heap.size w w' := by
  have hu25 := Try.underlying25
  have HR0 := Aside0.mk hr0
  have HC0 := Aside0.mk hc0
  clear hr0 hc0
  have HR1 := Aside0.mk hr1
  have HC1 := Aside0.mk hc1
  clear hr1 hc1
  have HB := Aside0.mk (Below.refl w.heap.size w)
  have H : (delta_Diff_string.l0 k l0 l1 0) = some (r1, r2, r3) := h
  clear h
  have HC3 := Aside0.mk H
  clear H
  go_enter Try.func8, Try.ntmps8
  go_upto_block 0 with (first | ((with_reducible refine gate_dst (N := 4) rfl ?_); (try (refine gate_guard (by rfl) ?_; dsimp only)); refine box_event ?hg (N := 4) ?hd (cs := #[.int .i64 0, .int .i64 0, .slice none 0 0]) (t := 25) ?hr ?_; (case hd => rfl); (case hg => rfl); (case hr => first | (go_simp; done) | (go_simp; rfl)); intro gb169 hg w4 hbox hb; have n0_ := Aside0.mk (below_step (by repeat (first | (with_reducible first | exact HB.out | apply below_alloc | apply pw_below_drewN | apply below_drew1) | exact HB.out)) hb); have n1_ := Aside0.mk (hbox); have n2_ := Aside0.mk ((by rw [hg]; exact (below_size (by repeat (first | (with_reducible first | exact HB.out | apply below_alloc | apply pw_below_drewN | apply below_drew1) | exact HB.out))) : w.heap.size ≤ gb169)); have n3_ := Aside0.mk ((by rw [hg]; exact (below_size (by repeat (first | (with_reducible first | exact HB.out | apply below_alloc | apply pw_below_drewN | apply below_drew1) | exact HB.out))) : w.heap.size ≤ gb169)); clear HB; have HB := n0_; have BK169 := n1_; have GW169 := n2_; have GE169 := n3_; clear n0_ n1_ n2_ n3_; clear hb hbox hg))
  repeat (go_quiet (first | ((with_reducible refine gate_dst (N := 4) rfl ?_); (try (refine gate_guard (by rfl) ?_; dsimp only)); refine box_event ?hg (N := 4) ?hd (cs := #[.int .i64 0, .int .i64 0, .slice none 0 0]) (t := 25) ?hr ?_; (case hd => rfl); (case hg => rfl); (case hr => first | (go_simp; done) | (go_simp; rfl)); intro gb169 hg w4 hbox hb; have n0_ := Aside0.mk (below_step (by repeat (first | (with_reducible first | exact HB.out | apply below_alloc | apply pw_below_drewN | apply below_drew1) | exact HB.out)) hb); have n1_ := Aside0.mk (hbox); have n2_ := Aside0.mk ((by rw [hg]; exact (below_size (by repeat (first | (with_reducible first | exact HB.out | apply below_alloc | apply pw_below_drewN | apply below_drew1) | exact HB.out))) : w.heap.size ≤ gb169)); have n3_ := Aside0.mk ((by rw [hg]; exact (below_size (by repeat (first | (with_reducible first | exact HB.out | apply below_alloc | apply pw_below_drewN | apply below_drew1) | exact HB.out))) : w.heap.size ≤ gb169)); clear HB; have HB := n0_; have BK169 := n1_; have GW169 := n2_; have GE169 := n3_; clear n0_ n1_ n2_ n3_; clear hb hbox hg)); go_upto_block 0 with (first | ((with_reducible refine gate_dst (N := 4) rfl ?_); (try (refine gate_guard (by rfl) ?_; dsimp only)); refine box_event ?hg (N := 4) ?hd (cs := #[.int .i64 0, .int .i64 0, .slice none 0 0]) (t := 25) ?hr ?_; (case hd => rfl); (case hg => rfl); (case hr => first | (go_simp; done) | (go_simp; rfl)); intro gb169 hg w4 hbox hb; have n0_ := Aside0.mk (below_step (by repeat (first | (with_reducible first | exact HB.out | apply below_alloc | apply pw_below_drewN | apply below_drew1) | exact HB.out)) hb); have n1_ := Aside0.mk (hbox); have n2_ := Aside0.mk ((by rw [hg]; exact (below_size (by repeat (first | (with_reducible first | exact HB.out | apply below_alloc | apply pw_below_drewN | apply below_drew1) | exact HB.out))) : w.heap.size ≤ gb169)); have n3_ := Aside0.mk ((by rw [hg]; exact (below_size (by repeat (first | (with_reducible first | exact HB.out | apply below_alloc | apply pw_below_drewN | apply below_drew1) | exact HB.out))) : w.heap.size ≤ gb169)); clear HB; have HB := n0_; have BK169 := n1_; have GW169 := n2_; have GE169 := n3_; clear n0_ n1_ n2_ n3_; clear hb hbox hg)))
  (try simp only [Act.put, List.setIfInBounds_toArray, List.set_cons_zero, List.set_cons_succ])
  go_cut [5] (fun v5 wc => ∃ (kq : Nat) (x5_2 : Int), v5 = .int .i64 x5_2 ∧ Aside0 (delta_Diff_string.j1 kq l0 l1 x5_2 = some (r1, r2, r3)) ∧ Aside0 (kq ≤ k) ∧ Aside0 (wc.heap[gb169]? = some (.cells #[.int .i64 0, .int .i64 0, (.slice none 0 0)] 25 (0, 0))) ∧ Aside0 (Below w.heap.size w wc))
  case first =>
    have H := HC3.out
    clear HC3
    have H' := Aside0.mk H
    clear H
    go_wp2
    repeat (go_quiet (fail); try go_wp2)
    go_loopg [5] k (fun kq v5 w' => ∃ (x5_1 : Int), v5 = .int .i64 x5_1 ∧ Aside0 (delta_Diff_string.l0 kq l0 l1 x5_1 = some (r1, r2, r3)) ∧ Aside0 (kq ≤ k) ∧ Aside0 (w'.heap[gb169]? = some (.cells #[.int .i64 0, .int .i64 0, (.slice none 0 0)] 25 (0, 0))) ∧ Aside0 (Below w.heap.size w w'))
    case atStart => exact ⟨(0), (by first | rfl | (simp; done) | (simp [*]; done)), H', ⟨Nat.le_refl _⟩, ⟨by (with_reducible repeat (first | refine blk_drewN ?_ _ | refine blk_drew ?_ | refine blk_alloc ?_ _)); exact BK169.out⟩, ⟨by repeat (first | (with_reducible first | exact HB.out | apply below_alloc | apply pw_below_drewN | apply below_drew1 | refine below_set ?_ GE169.out) | exact HB.out)⟩⟩
    case round =>
      clear H'
      try clear c1
      try clear p2
      obtain ⟨x5_1, rfl, HA, HK1, BK169, HB⟩ := hrel
      cases gk with
      | zero => exact absurd HA.out (by simp [delta_Diff_string.l0])
      | succ k1 =>
        have H := HA.out
        clear HA
        simp only [delta_Diff_string.l0] at H
        by_cases c5 : x5_1 < (l0.length : Int)
        · rw [if_pos c5] at H
          have c5b0 : decide (x5_1 < (l0.length : Int)) = true := decide_eq_true c5
          clear c5
          (first | rw [c5b0] | (simp only [i64_w, i32_w]; rw [c5b0]) | skip)
          by_cases c6 : x5_1 < (l1.length : Int)
          · rw [if_pos c6] at H
            have c6b0 : decide (x5_1 < (l1.length : Int)) = true := decide_eq_true c6
            clear c6
            by_cases c7 : 0 ≤ x5_1
            · rw [if_pos c7] at H
              have c7b0 : decide (0 ≤ x5_1) = true := decide_eq_true c7
              clear c7
              by_cases c8 : (rdOf ByteArray.empty l0 x5_1).toList = (rdOf ByteArray.empty l1 x5_1).toList
              · rw [if_pos c8] at H
                have c8b0 : ((rdOf ByteArray.empty l0 x5_1).toList == (rdOf ByteArray.empty l1 x5_1).toList) = true := beq_iff_eq.mpr c8
                have c8b1 : ((rdOf ByteArray.empty l0 x5_1).toList != (rdOf ByteArray.empty l1 x5_1).toList) = false := bne_eq_false_iff_eq.mpr c8
                clear c8
                have H' := Aside0.mk H
                clear H
                have p170 : 0 ≤ (x5_1 : Int) := of_decide_eq_true (by first | (with_reducible assumption) | assumption)
                have q170 : x5_1 < (l0.length : Int) := of_decide_eq_true (by first | (with_reducible assumption) | assumption)
                obtain ⟨ad170, e170, hx170_0⟩ := Kd.at_string HR0.out x5_1 p170 q170
                cases e170
                replace hx170_0 := (HB.out.cell (World.block_lt_of_cell? w _ hx170_0)).trans hx170_0
                replace p170 := eq_true p170
                replace q170 := eq_true q170
                have p171 : 0 ≤ (x5_1 : Int) := of_decide_eq_true (by first | (with_reducible assumption) | assumption)
                have q171 : x5_1 < (l1.length : Int) := of_decide_eq_true (by first | (with_reducible assumption) | assumption)
                obtain ⟨ad171, e171, hx171_0⟩ := Kd.at_string HR1.out x5_1 p171 q171
                cases e171
                replace hx171_0 := (HB.out.cell (World.block_lt_of_cell? w _ hx171_0)).trans hx171_0
                replace p171 := eq_true p171
                replace q171 := eq_true q171
                go_wp2
                repeat (go_quiet (fail); try go_wp2)
                go_roundg k1
                case measure => have := HK1.out; omega
                case rel => exact ⟨(wrap64 (x5_1 + 1)), (by first | rfl | (simp; done) | (simp [*]; done)), H', ⟨by have := HK1.out; omega⟩, ⟨by (with_reducible repeat (first | refine blk_drewN ?_ _ | refine blk_drew ?_ | refine blk_alloc ?_ _)); exact BK169.out⟩, ⟨by repeat (first | (with_reducible first | exact HB.out | apply below_alloc | apply pw_below_drewN | apply below_drew1 | refine below_set ?_ GE169.out) | exact HB.out)⟩⟩
              · rw [if_neg c8] at H
                have c8b0 : ((rdOf ByteArray.empty l0 x5_1).toList == (rdOf ByteArray.empty l1 x5_1).toList) = false := beq_eq_false_iff_ne.mpr c8
                have c8b1 : ((rdOf ByteArray.empty l0 x5_1).toList != (rdOf ByteArray.empty l1 x5_1).toList) = true := bne_iff_ne.mpr c8
                have H' := Aside0.mk H
                clear H
                have p170 : 0 ≤ (x5_1 : Int) := of_decide_eq_true (by first | (with_reducible assumption) | assumption)
                have q170 : x5_1 < (l0.length : Int) := of_decide_eq_true (by first | (with_reducible assumption) | assumption)
                obtain ⟨ad170, e170, hx170_0⟩ := Kd.at_string HR0.out x5_1 p170 q170
                cases e170
                replace hx170_0 := (HB.out.cell (World.block_lt_of_cell? w _ hx170_0)).trans hx170_0
                replace p170 := eq_true p170
                replace q170 := eq_true q170
                have p171 : 0 ≤ (x5_1 : Int) := of_decide_eq_true (by first | (with_reducible assumption) | assumption)
                have q171 : x5_1 < (l1.length : Int) := of_decide_eq_true (by first | (with_reducible assumption) | assumption)
                obtain ⟨ad171, e171, hx171_0⟩ := Kd.at_string HR1.out x5_1 p171 q171
                cases e171
                replace hx171_0 := (HB.out.cell (World.block_lt_of_cell? w _ hx171_0)).trans hx171_0
                replace p171 := eq_true p171
                replace q171 := eq_true q171
                go_wp2
                repeat (go_quiet (fail); try go_wp2)
                go_meet
                case rel => exact ⟨_, (x5_1), (by first | rfl | (simp; done) | (simp [*]; done)), H', ⟨by have := HK1.out; first | omega | exact Nat.le_refl _⟩, ⟨by (with_reducible repeat (first | refine blk_drewN ?_ _ | refine blk_drew ?_ | refine blk_alloc ?_ _)); exact BK169.out⟩, ⟨by repeat (first | (with_reducible first | exact HB.out | apply below_alloc | apply pw_below_drewN | apply below_drew1 | refine below_set ?_ GE169.out) | exact HB.out)⟩⟩
            · rw [if_neg c7] at H
              exact absurd H (by simp)
          · rw [if_neg c6] at H
            have c6b0 : decide (x5_1 < (l1.length : Int)) = false := decide_eq_false c6
            clear c6
            have H' := Aside0.mk H
            clear H
            go_wp2
            repeat (go_quiet (fail); try go_wp2)
            go_meet
            case rel => exact ⟨_, (x5_1), (by first | rfl | (simp; done) | (simp [*]; done)), H', ⟨by have := HK1.out; first | omega | exact Nat.le_refl _⟩, ⟨by (with_reducible repeat (first | refine blk_drewN ?_ _ | refine blk_drew ?_ | refine blk_alloc ?_ _)); exact BK169.out⟩, ⟨by repeat (first | (with_reducible first | exact HB.out | apply below_alloc | apply pw_below_drewN | apply below_drew1 | refine below_set ?_ GE169.out) | exact HB.out)⟩⟩
        · rw [if_neg c5] at H
          have c5b0 : decide (x5_1 < (l0.length : Int)) = false := decide_eq_false c5
          clear c5
          (first | rw [c5b0] | (simp only [i64_w, i32_w]; rw [c5b0]) | skip)
          have H' := Aside0.mk H
          clear H
          go_wp2
          repeat (go_quiet (fail); try go_wp2)
          go_meet
          case rel => exact ⟨_, (x5_1), (by first | rfl | (simp; done) | (simp [*]; done)), H', ⟨by have := HK1.out; first | omega | exact Nat.le_refl _⟩, ⟨by (with_reducible repeat (first | refine blk_drewN ?_ _ | refine blk_drew ?_ | refine blk_alloc ?_ _)); exact BK169.out⟩, ⟨by repeat (first | (with_reducible first | exact HB.out | apply below_alloc | apply pw_below_drewN | apply below_drew1 | refine below_set ?_ GE169.out) | exact HB.out)⟩⟩
  case rest =>
    clear HC3
    try clear c1
    try clear p1
    try clear q1
    try clear hx1
    try clear p2
    try clear c5
    try clear c5b0
    try clear c6
    try clear c6b0
    try clear p6
    try clear c7
    try clear c7b0
    try clear c8
    try clear c8b0
    try clear c8b1
    try clear hx170_0
    try clear hx171_0
    try clear p170
    try clear p171
    try clear p2
    try clear q170
    try clear q171
    obtain ⟨kq, x5_2, rfl, HA, HJ2, BK169, HB⟩ := hcut
    cases kq with
    | zero => exact absurd HA.out (by simp [delta_Diff_string.j1])
    | succ kj2 =>
      have H := HA.out
      clear HA
      simp only [delta_Diff_string.j1] at H
      have H' := Aside0.mk H
      clear H
      go_wp2
      repeat (go_quiet (fail); try go_wp2)
      go_loopg [6] kj2 (fun kq v6 w' => ∃ (x6_2 : Int), v6 = .int .i64 x6_2 ∧ Aside0 (delta_Diff_string.l1 kq l0 l1 x5_2 x6_2 = some (r1, r2, r3)) ∧ Aside0 (kq ≤ kj2) ∧ Aside0 (w'.heap[gb169]? = some (.cells #[.int .i64 0, .int .i64 0, (.slice none 0 0)] 25 (0, 0))) ∧ Aside0 (Below w.heap.size w w'))
      case atStart => exact ⟨(0), (by first | rfl | (simp; done) | (simp [*]; done)), H', ⟨Nat.le_refl _⟩, ⟨by (with_reducible repeat (first | refine blk_drewN ?_ _ | refine blk_drew ?_ | refine blk_alloc ?_ _)); exact BK169.out⟩, ⟨by repeat (first | (with_reducible first | exact HB.out | apply below_alloc | apply pw_below_drewN | apply below_drew1 | refine below_set ?_ GE169.out) | exact HB.out)⟩⟩
      case round =>
        clear H'
        try clear c1
        try clear p1
        try clear q1
        try clear hx1
        try clear p2
        try clear c5
        try clear c5b0
        try clear c6
        try clear c6b0
        try clear p6
        try clear c7
        try clear c7b0
        try clear c8
        try clear c8b0
        try clear c8b1
        try clear hx170_0
        try clear hx171_0
        try clear p1
        try clear p170
        try clear p171
        try clear p2
        try clear p6
        try clear q1
        try clear q170
        try clear q171
        obtain ⟨x6_2, rfl, HA, HK2, BK169, HB⟩ := hrel
        cases gk with
        | zero => exact absurd HA.out (by simp [delta_Diff_string.l1])
        | succ k2 =>
          have H := HA.out
          clear HA
          simp only [delta_Diff_string.l1] at H
          by_cases c9 : x6_2 < (wrap64 ((l0.length : Int) - x5_2))
          · rw [if_pos c9] at H
            have c9b0 : decide (x6_2 < (wrap64 ((l0.length : Int) - x5_2))) = true := decide_eq_true c9
            clear c9
            by_cases c10 : x6_2 < (wrap64 ((l1.length : Int) - x5_2))
            · rw [if_pos c10] at H
              have c10b0 : decide (x6_2 < (wrap64 ((l1.length : Int) - x5_2))) = true := decide_eq_true c10
              clear c10
              obtain ⟨ji11, hji11⟩ : ∃ j_ : Int, (wrap64 ((wrap64 ((l0.length : Int) - 1)) - x6_2)) = j_ := ⟨_, rfl⟩
              replace H : (if 0 ≤ (ji11) then (if (ji11) < (l0.length : Int) then (if 0 ≤ (wrap64 ((wrap64 ((l1.length : Int) - 1)) - x6_2)) then (if (wrap64 ((wrap64 ((l1.length : Int) - 1)) - x6_2)) < (l1.length : Int) then (if (rdOf ByteArray.empty l0 (ji11)).toList = (rdOf ByteArray.empty l1 (wrap64 ((wrap64 ((l1.length : Int) - 1)) - x6_2))).toList then (delta_Diff_string.l1 k2 l0 l1 x5_2 (wrap64 (x6_2 + 1))) else (if x5_2 = (l0.length : Int) then (if x5_2 = (l1.length : Int) then (some (0, 0, ([] : List ByteArray))) else (if 0 ≤ x5_2 then (if x5_2 ≤ (wrap64 ((l1.length : Int) - x6_2)) then (if (wrap64 ((l1.length : Int) - x6_2)) ≤ (l1.length : Int) then ((slices_Clone_string_string.f ((l1.take ((wrap64 ((l1.length : Int) - x6_2)) : Int).toNat).drop (x5_2 : Int).toNat)).bind fun t175 => (some (x5_2, wrap64 ((wrap64 ((l0.length : Int) - x5_2)) - x6_2), t175))) else (none)) else (none)) else (none))) else (if 0 ≤ x5_2 then (if x5_2 ≤ (wrap64 ((l1.length : Int) - x6_2)) then (if (wrap64 ((l1.length : Int) - x6_2)) ≤ (l1.length : Int) then ((slices_Clone_string_string.f ((l1.take ((wrap64 ((l1.length : Int) - x6_2)) : Int).toNat).drop (x5_2 : Int).toNat)).bind fun t179 => (some (x5_2, wrap64 ((wrap64 ((l0.length : Int) - x5_2)) - x6_2), t179))) else (none)) else (none)) else (none)))) else (none)) else (none)) else (none)) else (none)) = some (r1, r2, r3) := by first | (rw [hji11] at H; exact H) | (simp only [hji11] at H ⊢; exact H)
              have hji11w : (IntKind.i64.wrap ((wrap64 ((l0.length : Int) - 1)) - x6_2)) = ji11 := (i64_w _).trans hji11
              by_cases c12 : 0 ≤ (ji11)
              · rw [if_pos c12] at H
                have c12b0 : decide (0 ≤ (ji11)) = true := decide_eq_true c12
                clear c12
                by_cases c13 : (ji11) < (l0.length : Int)
                · rw [if_pos c13] at H
                  have c13b0 : decide ((ji11) < (l0.length : Int)) = true := decide_eq_true c13
                  clear c13
                  obtain ⟨ji14, hji14⟩ : ∃ j_ : Int, (wrap64 ((wrap64 ((l1.length : Int) - 1)) - x6_2)) = j_ := ⟨_, rfl⟩
                  replace H : (if 0 ≤ (ji14) then (if (ji14) < (l1.length : Int) then (if (rdOf ByteArray.empty l0 (ji11)).toList = (rdOf ByteArray.empty l1 (ji14)).toList then (delta_Diff_string.l1 k2 l0 l1 x5_2 (wrap64 (x6_2 + 1))) else (if x5_2 = (l0.length : Int) then (if x5_2 = (l1.length : Int) then (some (0, 0, ([] : List ByteArray))) else (if 0 ≤ x5_2 then (if x5_2 ≤ (wrap64 ((l1.length : Int) - x6_2)) then (if (wrap64 ((l1.length : Int) - x6_2)) ≤ (l1.length : Int) then ((slices_Clone_string_string.f ((l1.take ((wrap64 ((l1.length : Int) - x6_2)) : Int).toNat).drop (x5_2 : Int).toNat)).bind fun t175 => (some (x5_2, wrap64 ((wrap64 ((l0.length : Int) - x5_2)) - x6_2), t175))) else (none)) else (none)) else (none))) else (if 0 ≤ x5_2 then (if x5_2 ≤ (wrap64 ((l1.length : Int) - x6_2)) then (if (wrap64 ((l1.length : Int) - x6_2)) ≤ (l1.length : Int) then ((slices_Clone_string_string.f ((l1.take ((wrap64 ((l1.length : Int) - x6_2)) : Int).toNat).drop (x5_2 : Int).toNat)).bind fun t179 => (some (x5_2, wrap64 ((wrap64 ((l0.length : Int) - x5_2)) - x6_2), t179))) else (none)) else (none)) else (none)))) else (none)) else (none)) = some (r1, r2, r3) := by first | (rw [hji14] at H; exact H) | (simp only [hji14] at H ⊢; exact H)
                  have hji14w : (IntKind.i64.wrap ((wrap64 ((l1.length : Int) - 1)) - x6_2)) = ji14 := (i64_w _).trans hji14
                  by_cases c15 : 0 ≤ (ji14)
                  · rw [if_pos c15] at H
                    have c15b0 : decide (0 ≤ (ji14)) = true := decide_eq_true c15
                    clear c15
                    by_cases c16 : (ji14) < (l1.length : Int)
                    · rw [if_pos c16] at H
                      have c16b0 : decide ((ji14) < (l1.length : Int)) = true := decide_eq_true c16
                      clear c16
                      by_cases c17 : (rdOf ByteArray.empty l0 (ji11)).toList = (rdOf ByteArray.empty l1 (ji14)).toList
                      · rw [if_pos c17] at H
                        have c17b0 : ((rdOf ByteArray.empty l0 (ji11)).toList == (rdOf ByteArray.empty l1 (ji14)).toList) = true := beq_iff_eq.mpr c17
                        have c17b1 : ((rdOf ByteArray.empty l0 (ji11)).toList != (rdOf ByteArray.empty l1 (ji14)).toList) = false := bne_eq_false_iff_eq.mpr c17
                        clear c17
                        have H' := Aside0.mk H
                        clear H
                        have p172 : 0 ≤ ((ji11) : Int) := of_decide_eq_true (by first | (with_reducible assumption) | assumption)
                        have q172 : (ji11) < (l0.length : Int) := of_decide_eq_true (by first | (with_reducible assumption) | assumption)
                        obtain ⟨ad172, e172, hx172_0⟩ := Kd.at_string HR0.out (ji11) p172 q172
                        cases e172
                        replace hx172_0 := (HB.out.cell (World.block_lt_of_cell? w _ hx172_0)).trans hx172_0
                        replace p172 := eq_true p172
                        replace q172 := eq_true q172
                        have p173 : 0 ≤ ((ji14) : Int) := of_decide_eq_true (by first | (with_reducible assumption) | assumption)
                        have q173 : (ji14) < (l1.length : Int) := of_decide_eq_true (by first | (with_reducible assumption) | assumption)
                        obtain ⟨ad173, e173, hx173_0⟩ := Kd.at_string HR1.out (ji14) p173 q173
                        cases e173
                        replace hx173_0 := (HB.out.cell (World.block_lt_of_cell? w _ hx173_0)).trans hx173_0
                        replace p173 := eq_true p173
                        replace q173 := eq_true q173
                        go_wp2
                        repeat (go_quiet (fail); try go_wp2)
                        go_roundg k2
                        case measure => have := HJ2.out; have := HK2.out; omega
                        case rel => exact ⟨(wrap64 (x6_2 + 1)), (by first | rfl | (simp; done) | (simp [*]; done)), H', ⟨by have := HJ2.out; have := HK2.out; omega⟩, ⟨by (with_reducible repeat (first | refine blk_drewN ?_ _ | refine blk_drew ?_ | refine blk_alloc ?_ _)); exact BK169.out⟩, ⟨by repeat (first | (with_reducible first | exact HB.out | apply below_alloc | apply pw_below_drewN | apply below_drew1 | refine below_set ?_ GE169.out) | exact HB.out)⟩⟩
                      · rw [if_neg c17] at H
                        have c17b0 : ((rdOf ByteArray.empty l0 (ji11)).toList == (rdOf ByteArray.empty l1 (ji14)).toList) = false := beq_eq_false_iff_ne.mpr c17
                        have c17b1 : ((rdOf ByteArray.empty l0 (ji11)).toList != (rdOf ByteArray.empty l1 (ji14)).toList) = true := bne_iff_ne.mpr c17
                        by_cases c18 : x5_2 = (l0.length : Int)
                        · rw [if_pos c18] at H
                          have c18b0 : (x5_2 == (l0.length : Int)) = true := beq_iff_eq.mpr c18
                          have c18b1 : (x5_2 != (l0.length : Int)) = false := bne_eq_false_iff_eq.mpr c18
                          clear c18
                          by_cases c19 : x5_2 = (l1.length : Int)
                          · rw [if_pos c19] at H
                            have c19b0 : (x5_2 == (l1.length : Int)) = true := beq_iff_eq.mpr c19
                            have c19b1 : (x5_2 != (l1.length : Int)) = false := bne_eq_false_iff_eq.mpr c19
                            clear c19
                            simp only [Option.some.injEq, Prod.mk.injEq] at H
                            obtain ⟨rfl, rfl, rfl⟩ := H
                            have p172 : 0 ≤ ((ji11) : Int) := of_decide_eq_true (by first | (with_reducible assumption) | assumption)
                            have q172 : (ji11) < (l0.length : Int) := of_decide_eq_true (by first | (with_reducible assumption) | assumption)
                            obtain ⟨ad172, e172, hx172_0⟩ := Kd.at_string HR0.out (ji11) p172 q172
                            cases e172
                            replace hx172_0 := (HB.out.cell (World.block_lt_of_cell? w _ hx172_0)).trans hx172_0
                            replace p172 := eq_true p172
                            replace q172 := eq_true q172
                            have p173 : 0 ≤ ((ji14) : Int) := of_decide_eq_true (by first | (with_reducible assumption) | assumption)
                            have q173 : (ji14) < (l1.length : Int) := of_decide_eq_true (by first | (with_reducible assumption) | assumption)
                            obtain ⟨ad173, e173, hx173_0⟩ := Kd.at_string HR1.out (ji14) p173 q173
                            cases e173
                            replace hx173_0 := (HB.out.cell (World.block_lt_of_cell? w _ hx173_0)).trans hx173_0
                            replace p173 := eq_true p173
                            replace q173 := eq_true q173
                            have hcz20_0 : wr.cell? ⟨gb169, 0, none⟩ = some (.int .i64 0) := (blk_cell BK169.out 0).trans rfl
                            have hcz20_1 : wr.cell? ⟨gb169, 1, none⟩ = some (.int .i64 0) := (blk_cell BK169.out 1).trans rfl
                            have hcz20_2 : wr.cell? ⟨gb169, 2, none⟩ = some (.slice none 0 0) := (blk_cell BK169.out 2).trans rfl
                            have hfz20_0 := blk_frozen BK169.out 0
                            have hfz20_1 := blk_frozen BK169.out 1
                            have hfz20_2 := blk_frozen BK169.out 2
                            go_wp2
                            repeat (go_quiet (fail); try go_wp2)
                            refine bodyPost_ret (results_cell_row rfl _ _ gb169 25 #[.int .i64 0, .int .i64 0, .slice none 0 0] (0, 0) _ rfl (by (with_reducible repeat (first | refine blk_drewN ?_ _ | refine blk_drew ?_ | refine blk_alloc ?_ _)); refine blk_put (cs := #[.int .i64 0, .int .i64 0, .slice none 0 0]) ?_ 2 _ rfl; (with_reducible repeat (first | refine blk_drewN ?_ _ | refine blk_drew ?_ | refine blk_alloc ?_ _)); refine blk_put (cs := #[.int .i64 0, .int .i64 0, .slice none 0 0]) ?_ 1 _ rfl; (with_reducible repeat (first | refine blk_drewN ?_ _ | refine blk_drew ?_ | refine blk_alloc ?_ _)); refine blk_put (cs := #[.int .i64 0, .int .i64 0, .slice none 0 0]) ?_ 0 _ rfl; (with_reducible repeat (first | refine blk_drewN ?_ _ | refine blk_drew ?_ | refine blk_alloc ?_ _)); exact BK169.out) Try.underlying25 rfl (by kernel_rfl)) rfl ?_
                            exact ⟨_, by first | rfl | (simp [errW_none, errW_some] <;> rfl) | (simp only [← hji11, ← hji14]; first | rfl | (simp [errW_none, errW_some] <;> rfl)) | (simp [*, errW_none, errW_some] <;> rfl), by first | exact Kd.R_nil _ _ _ _ _ | exact Kd.N_nil _ _ _ _ _ | exact Kd.V_nil _ _ _ _ _ | exact Kd.Q_nil _ _ _ _ _ | exact Kd.S_nil _ _ _ _ _, by repeat (first | (with_reducible first | exact HB.out | apply below_alloc | apply pw_below_drewN | apply below_drew1 | refine below_set ?_ GE169.out) | exact HB.out)⟩
                          · rw [if_neg c19] at H
                            have c19b0 : (x5_2 == (l1.length : Int)) = false := beq_eq_false_iff_ne.mpr c19
                            have c19b1 : (x5_2 != (l1.length : Int)) = true := bne_iff_ne.mpr c19
                            by_cases c21 : 0 ≤ x5_2
                            · rw [if_pos c21] at H
                              have c21b0 := eq_true c21
                              have c21b1 : decide (0 ≤ x5_2) = true := decide_eq_true c21
                              clear c21
                              by_cases c22 : x5_2 ≤ (wrap64 ((l1.length : Int) - x6_2))
                              · rw [if_pos c22] at H
                                have c22b0 := eq_true c22
                                have c22b1 : decide (x5_2 ≤ (wrap64 ((l1.length : Int) - x6_2))) = true := decide_eq_true c22
                                clear c22
                                by_cases c23 : (wrap64 ((l1.length : Int) - x6_2)) ≤ (l1.length : Int)
                                · rw [if_pos c23] at H
                                  have c23b0 := eq_true c23
                                  have c23b1 : decide ((wrap64 ((l1.length : Int) - x6_2)) ≤ (l1.length : Int)) = true := decide_eq_true c23
                                  clear c23
                                  replace H := Option.bind_eq_some_iff.mp H
                                  obtain ⟨t175, A240, H⟩ := H
                                  replace H : (some (x5_2, wrap64 ((wrap64 ((l0.length : Int) - x5_2)) - x6_2), t175)) = some (r1, r2, r3) := H
                                  have A24 := Aside0.mk A240
                                  clear A240
                                  simp only [Option.some.injEq, Prod.mk.injEq] at H
                                  obtain ⟨rfl, rfl, rfl⟩ := H
                                  have p172 : 0 ≤ ((ji11) : Int) := of_decide_eq_true (by first | (with_reducible assumption) | assumption)
                                  have q172 : (ji11) < (l0.length : Int) := of_decide_eq_true (by first | (with_reducible assumption) | assumption)
                                  obtain ⟨ad172, e172, hx172_0⟩ := Kd.at_string HR0.out (ji11) p172 q172
                                  cases e172
                                  replace hx172_0 := (HB.out.cell (World.block_lt_of_cell? w _ hx172_0)).trans hx172_0
                                  replace p172 := eq_true p172
                                  replace q172 := eq_true q172
                                  have p173 : 0 ≤ ((ji14) : Int) := of_decide_eq_true (by first | (with_reducible assumption) | assumption)
                                  have q173 : (ji14) < (l1.length : Int) := of_decide_eq_true (by first | (with_reducible assumption) | assumption)
                                  obtain ⟨ad173, e173, hx173_0⟩ := Kd.at_string HR1.out (ji14) p173 q173
                                  cases e173
                                  replace hx173_0 := (HB.out.cell (World.block_lt_of_cell? w _ hx173_0)).trans hx173_0
                                  replace p173 := eq_true p173
                                  replace q173 := eq_true q173
                                  obtain ⟨i025, hi025, _, hsz25, _⟩ := info_parts info9
                                  obtain ⟨A25, hcut25, hA25, hC25⟩ := print_mid_of (P := Try.prog) Value.string (⟨#[]⟩ : ByteArray) 22 9 .i64 .i64 Try.underlying22 hi025 hsz25 (some ad173) c1 l1 x5_2 (wrap64 ((l1.length : Int) - x6_2)) (of_decide_eq_true (by first | (with_reducible assumption) | assumption)) (by first | omega | exact of_decide_eq_true (by first | (with_reducible assumption) | assumption)) (of_decide_eq_true (by first | (with_reducible assumption) | assumption)) HC1.out
                                  have HR174 := Aside0.mk (Kd.C_of_reads (h1 := fun _ => rfl) (hA25 _ (Kd.reads_of_C HR1.out)))
                                  have HC174 := Aside0.mk hC25
                                  clear hA25 hC25 hi025 hsz25
                                  go_wp2_with fail
                                  repeat (go_quiet (fail); go_wp2_with fail)
                                  go_wp2_with (first | (go_at_call 26; (with_reducible refine (slices_Clone_string_string.callsn _ _ ((l1.take ((wrap64 ((l1.length : Int) - x6_2)) : Int).toNat).drop (x5_2 : Int).toNat) t175 _ ?side1 ?side2 A24.out _ ?side3).mono ?_); (case side3 => (rw [List.length_drop, List.length_take]; have q_ := of_decide_eq_true (show decide (((wrap64 ((l1.length : Int) - x6_2)) : Int) ≤ (l1.length : Int)) = true by first | (with_reducible assumption) | assumption); omega)); (case side1 => repeat (first | exact (Kd.C_below HR174.out HB.out) | (with_reducible refine Kd.C_alloc ?_ _) | (with_reducible refine Kd.C_drewN ?_ _) | (with_reducible refine Kd.C_drew ?_))); (case side2 => exact HC174.out); rintro e w26 ⟨v176, rfl, ho0, hb⟩; have n0_ := Aside0.mk (Kd.R_lower ho0 (below_size (by repeat (first | (with_reducible first | exact HB.out | apply below_alloc | apply pw_below_drewN | apply below_drew1 | refine below_set ?_ GE169.out) | exact HB.out)))); have n1_ := Aside0.mk (blk_below (g := gb169) (o := .cells #[.int .i64 0, .int .i64 0, .slice none 0 0] 25 (0, 0)) (by (with_reducible repeat (first | refine blk_drewN ?_ _ | refine blk_drew ?_ | refine blk_alloc ?_ _)); exact BK169.out) hb); have n2_ := Aside0.mk (below_step (by repeat (first | (with_reducible first | exact HB.out | apply below_alloc | apply pw_below_drewN | apply below_drew1 | refine below_set ?_ GE169.out) | exact HB.out)) hb); clear BK169; clear HB; have HO177 := n0_; have BK169 := n1_; have HB := n2_; clear n0_ n1_ n2_; (try clear hb); (try clear hb2); (try clear hk); (try clear hi); (try clear ho0); obtain ⟨Ao27, co27, eo27⟩ := Kd.R_slice HO177.out; subst eo27; have hcz28_0 : w26.cell? ⟨gb169, 0, none⟩ = some (.int .i64 0) := (blk_cell BK169.out 0).trans rfl; have hcz28_1 : w26.cell? ⟨gb169, 1, none⟩ = some (.int .i64 0) := (blk_cell BK169.out 1).trans rfl; have hcz28_2 : w26.cell? ⟨gb169, 2, none⟩ = some (.slice none 0 0) := (blk_cell BK169.out 2).trans rfl; have hfz28_0 := blk_frozen BK169.out 0; have hfz28_1 := blk_frozen BK169.out 1; have hfz28_2 := blk_frozen BK169.out 2))
                                  refine bodyPost_ret (results_cell_row rfl _ _ gb169 25 #[.int .i64 x5_2, .int .i64 (wrap64 ((wrap64 ((l0.length : Int) - x5_2)) - x6_2)), .slice Ao27 t175.length co27] (0, 0) _ rfl (by (with_reducible repeat (first | refine blk_drewN ?_ _ | refine blk_drew ?_ | refine blk_alloc ?_ _)); refine blk_put (cs := #[.int .i64 x5_2, .int .i64 (wrap64 ((wrap64 ((l0.length : Int) - x5_2)) - x6_2)), .slice none 0 0]) ?_ 2 _ rfl; (with_reducible repeat (first | refine blk_drewN ?_ _ | refine blk_drew ?_ | refine blk_alloc ?_ _)); refine blk_put (cs := #[.int .i64 x5_2, .int .i64 0, .slice none 0 0]) ?_ 1 _ rfl; (with_reducible repeat (first | refine blk_drewN ?_ _ | refine blk_drew ?_ | refine blk_alloc ?_ _)); refine blk_put (cs := #[.int .i64 0, .int .i64 0, .slice none 0 0]) ?_ 0 _ rfl; (with_reducible repeat (first | refine blk_drewN ?_ _ | refine blk_drew ?_ | refine blk_alloc ?_ _)); exact BK169.out) Try.underlying25 rfl (by kernel_rfl)) rfl ?_
                                  exact ⟨_, by first | rfl | (simp [errW_none, errW_some] <;> rfl) | (simp only [← hji11, ← hji14]; first | rfl | (simp [errW_none, errW_some] <;> rfl)) | (simp [*, errW_none, errW_some] <;> rfl), by (with_reducible repeat (first | apply Kd.R_alloc | apply Kd.R_drewN | apply Kd.R_drew)); exact Kd.R_mono (Kd.R_far (p := ⟨gb169, 2, none⟩) (Kd.R_far (p := ⟨gb169, 1, none⟩) (Kd.R_far (p := ⟨gb169, 0, none⟩) (Kd.R_types HO177.out BK169.out (by decide)) (fun _ hk => hk.2) (.int .i64 x5_2)) (fun _ hk => hk.2) (.int .i64 (wrap64 ((wrap64 ((l0.length : Int) - x5_2)) - x6_2)))) (fun _ hk => hk.2) (.slice Ao27 t175.length co27)) (fun _ hk => trivial), by repeat (first | (with_reducible first | exact HB.out | apply below_alloc | apply pw_below_drewN | apply below_drew1 | refine below_set ?_ GE169.out) | exact HB.out)⟩
                                · rw [if_neg c23] at H
                                  exact absurd H (by simp)
                              · rw [if_neg c22] at H
                                exact absurd H (by simp)
                            · rw [if_neg c21] at H
                              exact absurd H (by simp)
                        · rw [if_neg c18] at H
                          have c18b0 : (x5_2 == (l0.length : Int)) = false := beq_eq_false_iff_ne.mpr c18
                          have c18b1 : (x5_2 != (l0.length : Int)) = true := bne_iff_ne.mpr c18
                          by_cases c29 : 0 ≤ x5_2
                          · rw [if_pos c29] at H
                            have c29b0 := eq_true c29
                            have c29b1 : decide (0 ≤ x5_2) = true := decide_eq_true c29
                            clear c29
                            by_cases c30 : x5_2 ≤ (wrap64 ((l1.length : Int) - x6_2))
                            · rw [if_pos c30] at H
                              have c30b0 := eq_true c30
                              have c30b1 : decide (x5_2 ≤ (wrap64 ((l1.length : Int) - x6_2))) = true := decide_eq_true c30
                              clear c30
                              by_cases c31 : (wrap64 ((l1.length : Int) - x6_2)) ≤ (l1.length : Int)
                              · rw [if_pos c31] at H
                                have c31b0 := eq_true c31
                                have c31b1 : decide ((wrap64 ((l1.length : Int) - x6_2)) ≤ (l1.length : Int)) = true := decide_eq_true c31
                                clear c31
                                replace H := Option.bind_eq_some_iff.mp H
                                obtain ⟨t179, A320, H⟩ := H
                                replace H : (some (x5_2, wrap64 ((wrap64 ((l0.length : Int) - x5_2)) - x6_2), t179)) = some (r1, r2, r3) := H
                                have A32 := Aside0.mk A320
                                clear A320
                                simp only [Option.some.injEq, Prod.mk.injEq] at H
                                obtain ⟨rfl, rfl, rfl⟩ := H
                                have p172 : 0 ≤ ((ji11) : Int) := of_decide_eq_true (by first | (with_reducible assumption) | assumption)
                                have q172 : (ji11) < (l0.length : Int) := of_decide_eq_true (by first | (with_reducible assumption) | assumption)
                                obtain ⟨ad172, e172, hx172_0⟩ := Kd.at_string HR0.out (ji11) p172 q172
                                cases e172
                                replace hx172_0 := (HB.out.cell (World.block_lt_of_cell? w _ hx172_0)).trans hx172_0
                                replace p172 := eq_true p172
                                replace q172 := eq_true q172
                                have p173 : 0 ≤ ((ji14) : Int) := of_decide_eq_true (by first | (with_reducible assumption) | assumption)
                                have q173 : (ji14) < (l1.length : Int) := of_decide_eq_true (by first | (with_reducible assumption) | assumption)
                                obtain ⟨ad173, e173, hx173_0⟩ := Kd.at_string HR1.out (ji14) p173 q173
                                cases e173
                                replace hx173_0 := (HB.out.cell (World.block_lt_of_cell? w _ hx173_0)).trans hx173_0
                                replace p173 := eq_true p173
                                replace q173 := eq_true q173
                                obtain ⟨i033, hi033, _, hsz33, _⟩ := info_parts info9
                                obtain ⟨A33, hcut33, hA33, hC33⟩ := print_mid_of (P := Try.prog) Value.string (⟨#[]⟩ : ByteArray) 22 9 .i64 .i64 Try.underlying22 hi033 hsz33 (some ad173) c1 l1 x5_2 (wrap64 ((l1.length : Int) - x6_2)) (of_decide_eq_true (by first | (with_reducible assumption) | assumption)) (by first | omega | exact of_decide_eq_true (by first | (with_reducible assumption) | assumption)) (of_decide_eq_true (by first | (with_reducible assumption) | assumption)) HC1.out
                                have HR178 := Aside0.mk (Kd.C_of_reads (h1 := fun _ => rfl) (hA33 _ (Kd.reads_of_C HR1.out)))
                                have HC178 := Aside0.mk hC33
                                clear hA33 hC33 hi033 hsz33
                                go_wp2_with fail
                                repeat (go_quiet (fail); go_wp2_with fail)
                                go_wp2_with (first | (go_at_call 26; (with_reducible refine (slices_Clone_string_string.callsn _ _ ((l1.take ((wrap64 ((l1.length : Int) - x6_2)) : Int).toNat).drop (x5_2 : Int).toNat) t179 _ ?side1 ?side2 A32.out _ ?side3).mono ?_); (case side3 => (rw [List.length_drop, List.length_take]; have q_ := of_decide_eq_true (show decide (((wrap64 ((l1.length : Int) - x6_2)) : Int) ≤ (l1.length : Int)) = true by first | (with_reducible assumption) | assumption); omega)); (case side1 => repeat (first | exact (Kd.C_below HR178.out HB.out) | (with_reducible refine Kd.C_alloc ?_ _) | (with_reducible refine Kd.C_drewN ?_ _) | (with_reducible refine Kd.C_drew ?_))); (case side2 => exact HC178.out); rintro e w34 ⟨v180, rfl, ho0, hb⟩; have n0_ := Aside0.mk (Kd.R_lower ho0 (below_size (by repeat (first | (with_reducible first | exact HB.out | apply below_alloc | apply pw_below_drewN | apply below_drew1 | refine below_set ?_ GE169.out) | exact HB.out)))); have n1_ := Aside0.mk (blk_below (g := gb169) (o := .cells #[.int .i64 0, .int .i64 0, .slice none 0 0] 25 (0, 0)) (by (with_reducible repeat (first | refine blk_drewN ?_ _ | refine blk_drew ?_ | refine blk_alloc ?_ _)); exact BK169.out) hb); have n2_ := Aside0.mk (below_step (by repeat (first | (with_reducible first | exact HB.out | apply below_alloc | apply pw_below_drewN | apply below_drew1 | refine below_set ?_ GE169.out) | exact HB.out)) hb); clear BK169; clear HB; have HO181 := n0_; have BK169 := n1_; have HB := n2_; clear n0_ n1_ n2_; (try clear hb); (try clear hb2); (try clear hk); (try clear hi); (try clear ho0); obtain ⟨Ao35, co35, eo35⟩ := Kd.R_slice HO181.out; subst eo35; have hcz36_0 : w34.cell? ⟨gb169, 0, none⟩ = some (.int .i64 0) := (blk_cell BK169.out 0).trans rfl; have hcz36_1 : w34.cell? ⟨gb169, 1, none⟩ = some (.int .i64 0) := (blk_cell BK169.out 1).trans rfl; have hcz36_2 : w34.cell? ⟨gb169, 2, none⟩ = some (.slice none 0 0) := (blk_cell BK169.out 2).trans rfl; have hfz36_0 := blk_frozen BK169.out 0; have hfz36_1 := blk_frozen BK169.out 1; have hfz36_2 := blk_frozen BK169.out 2))
                                refine bodyPost_ret (results_cell_row rfl _ _ gb169 25 #[.int .i64 x5_2, .int .i64 (wrap64 ((wrap64 ((l0.length : Int) - x5_2)) - x6_2)), .slice Ao35 t179.length co35] (0, 0) _ rfl (by (with_reducible repeat (first | refine blk_drewN ?_ _ | refine blk_drew ?_ | refine blk_alloc ?_ _)); refine blk_put (cs := #[.int .i64 x5_2, .int .i64 (wrap64 ((wrap64 ((l0.length : Int) - x5_2)) - x6_2)), .slice none 0 0]) ?_ 2 _ rfl; (with_reducible repeat (first | refine blk_drewN ?_ _ | refine blk_drew ?_ | refine blk_alloc ?_ _)); refine blk_put (cs := #[.int .i64 x5_2, .int .i64 0, .slice none 0 0]) ?_ 1 _ rfl; (with_reducible repeat (first | refine blk_drewN ?_ _ | refine blk_drew ?_ | refine blk_alloc ?_ _)); refine blk_put (cs := #[.int .i64 0, .int .i64 0, .slice none 0 0]) ?_ 0 _ rfl; (with_reducible repeat (first | refine blk_drewN ?_ _ | refine blk_drew ?_ | refine blk_alloc ?_ _)); exact BK169.out) Try.underlying25 rfl (by kernel_rfl)) rfl ?_
                                exact ⟨_, by first | rfl | (simp [errW_none, errW_some] <;> rfl) | (simp only [← hji11, ← hji14]; first | rfl | (simp [errW_none, errW_some] <;> rfl)) | (simp [*, errW_none, errW_some] <;> rfl), by (with_reducible repeat (first | apply Kd.R_alloc | apply Kd.R_drewN | apply Kd.R_drew)); exact Kd.R_mono (Kd.R_far (p := ⟨gb169, 2, none⟩) (Kd.R_far (p := ⟨gb169, 1, none⟩) (Kd.R_far (p := ⟨gb169, 0, none⟩) (Kd.R_types HO181.out BK169.out (by decide)) (fun _ hk => hk.2) (.int .i64 x5_2)) (fun _ hk => hk.2) (.int .i64 (wrap64 ((wrap64 ((l0.length : Int) - x5_2)) - x6_2)))) (fun _ hk => hk.2) (.slice Ao35 t179.length co35)) (fun _ hk => trivial), by repeat (first | (with_reducible first | exact HB.out | apply below_alloc | apply pw_below_drewN | apply below_drew1 | refine below_set ?_ GE169.out) | exact HB.out)⟩
                              · rw [if_neg c31] at H
                                exact absurd H (by simp)
                            · rw [if_neg c30] at H
                              exact absurd H (by simp)
                          · rw [if_neg c29] at H
                            exact absurd H (by simp)
                    · rw [if_neg c16] at H
                      exact absurd H (by simp)
                  · rw [if_neg c15] at H
                    exact absurd H (by simp)
                · rw [if_neg c13] at H
                  exact absurd H (by simp)
              · rw [if_neg c12] at H
                exact absurd H (by simp)
            · rw [if_neg c10] at H
              have c10b0 : decide (x6_2 < (wrap64 ((l1.length : Int) - x5_2))) = false := decide_eq_false c10
              clear c10
              by_cases c37 : x5_2 = (l0.length : Int)
              · rw [if_pos c37] at H
                have c37b0 : (x5_2 == (l0.length : Int)) = true := beq_iff_eq.mpr c37
                have c37b1 : (x5_2 != (l0.length : Int)) = false := bne_eq_false_iff_eq.mpr c37
                clear c37
                by_cases c38 : x5_2 = (l1.length : Int)
                · rw [if_pos c38] at H
                  have c38b0 : (x5_2 == (l1.length : Int)) = true := beq_iff_eq.mpr c38
                  have c38b1 : (x5_2 != (l1.length : Int)) = false := bne_eq_false_iff_eq.mpr c38
                  clear c38
                  simp only [Option.some.injEq, Prod.mk.injEq] at H
                  obtain ⟨rfl, rfl, rfl⟩ := H
                  have hcz39_0 : wr.cell? ⟨gb169, 0, none⟩ = some (.int .i64 0) := (blk_cell BK169.out 0).trans rfl
                  have hcz39_1 : wr.cell? ⟨gb169, 1, none⟩ = some (.int .i64 0) := (blk_cell BK169.out 1).trans rfl
                  have hcz39_2 : wr.cell? ⟨gb169, 2, none⟩ = some (.slice none 0 0) := (blk_cell BK169.out 2).trans rfl
                  have hfz39_0 := blk_frozen BK169.out 0
                  have hfz39_1 := blk_frozen BK169.out 1
                  have hfz39_2 := blk_frozen BK169.out 2
                  go_wp2
                  repeat (go_quiet (fail); try go_wp2)
                  refine bodyPost_ret (results_cell_row rfl _ _ gb169 25 #[.int .i64 0, .int .i64 0, .slice none 0 0] (0, 0) _ rfl (by (with_reducible repeat (first | refine blk_drewN ?_ _ | refine blk_drew ?_ | refine blk_alloc ?_ _)); refine blk_put (cs := #[.int .i64 0, .int .i64 0, .slice none 0 0]) ?_ 2 _ rfl; (with_reducible repeat (first | refine blk_drewN ?_ _ | refine blk_drew ?_ | refine blk_alloc ?_ _)); refine blk_put (cs := #[.int .i64 0, .int .i64 0, .slice none 0 0]) ?_ 1 _ rfl; (with_reducible repeat (first | refine blk_drewN ?_ _ | refine blk_drew ?_ | refine blk_alloc ?_ _)); refine blk_put (cs := #[.int .i64 0, .int .i64 0, .slice none 0 0]) ?_ 0 _ rfl; (with_reducible repeat (first | refine blk_drewN ?_ _ | refine blk_drew ?_ | refine blk_alloc ?_ _)); exact BK169.out) Try.underlying25 rfl (by kernel_rfl)) rfl ?_
                  exact ⟨_, by first | rfl | (simp [errW_none, errW_some] <;> rfl) | (simp [*, errW_none, errW_some] <;> rfl), by first | exact Kd.R_nil _ _ _ _ _ | exact Kd.N_nil _ _ _ _ _ | exact Kd.V_nil _ _ _ _ _ | exact Kd.Q_nil _ _ _ _ _ | exact Kd.S_nil _ _ _ _ _, by repeat (first | (with_reducible first | exact HB.out | apply below_alloc | apply pw_below_drewN | apply below_drew1 | refine below_set ?_ GE169.out) | exact HB.out)⟩
                · rw [if_neg c38] at H
                  have c38b0 : (x5_2 == (l1.length : Int)) = false := beq_eq_false_iff_ne.mpr c38
                  have c38b1 : (x5_2 != (l1.length : Int)) = true := bne_iff_ne.mpr c38
                  by_cases c40 : 0 ≤ x5_2
                  · rw [if_pos c40] at H
                    have c40b0 := eq_true c40
                    have c40b1 : decide (0 ≤ x5_2) = true := decide_eq_true c40
                    clear c40
                    by_cases c41 : x5_2 ≤ (wrap64 ((l1.length : Int) - x6_2))
                    · rw [if_pos c41] at H
                      have c41b0 := eq_true c41
                      have c41b1 : decide (x5_2 ≤ (wrap64 ((l1.length : Int) - x6_2))) = true := decide_eq_true c41
                      clear c41
                      by_cases c42 : (wrap64 ((l1.length : Int) - x6_2)) ≤ (l1.length : Int)
                      · rw [if_pos c42] at H
                        have c42b0 := eq_true c42
                        have c42b1 : decide ((wrap64 ((l1.length : Int) - x6_2)) ≤ (l1.length : Int)) = true := decide_eq_true c42
                        clear c42
                        replace H := Option.bind_eq_some_iff.mp H
                        obtain ⟨t183, A430, H⟩ := H
                        replace H : (some (x5_2, wrap64 ((wrap64 ((l0.length : Int) - x5_2)) - x6_2), t183)) = some (r1, r2, r3) := H
                        have A43 := Aside0.mk A430
                        clear A430
                        simp only [Option.some.injEq, Prod.mk.injEq] at H
                        obtain ⟨rfl, rfl, rfl⟩ := H
                        obtain ⟨i044, hi044, _, hsz44, _⟩ := info_parts info9
                        obtain ⟨A44, hcut44, hA44, hC44⟩ := print_mid_of (P := Try.prog) Value.string (⟨#[]⟩ : ByteArray) 22 9 .i64 .i64 Try.underlying22 hi044 hsz44 A1 c1 l1 x5_2 (wrap64 ((l1.length : Int) - x6_2)) (of_decide_eq_true (by first | (with_reducible assumption) | assumption)) (by first | omega | exact of_decide_eq_true (by first | (with_reducible assumption) | assumption)) (of_decide_eq_true (by first | (with_reducible assumption) | assumption)) HC1.out
                        have HR182 := Aside0.mk (Kd.C_of_reads (h1 := fun _ => rfl) (hA44 _ (Kd.reads_of_C HR1.out)))
                        have HC182 := Aside0.mk hC44
                        clear hA44 hC44 hi044 hsz44
                        go_wp2_with fail
                        repeat (go_quiet (fail); go_wp2_with fail)
                        go_wp2_with (first | (go_at_call 26; (with_reducible refine (slices_Clone_string_string.callsn _ _ ((l1.take ((wrap64 ((l1.length : Int) - x6_2)) : Int).toNat).drop (x5_2 : Int).toNat) t183 _ ?side1 ?side2 A43.out _ ?side3).mono ?_); (case side3 => (rw [List.length_drop, List.length_take]; have q_ := of_decide_eq_true (show decide (((wrap64 ((l1.length : Int) - x6_2)) : Int) ≤ (l1.length : Int)) = true by first | (with_reducible assumption) | assumption); omega)); (case side1 => repeat (first | exact (Kd.C_below HR182.out HB.out) | (with_reducible refine Kd.C_alloc ?_ _) | (with_reducible refine Kd.C_drewN ?_ _) | (with_reducible refine Kd.C_drew ?_))); (case side2 => exact HC182.out); rintro e w45 ⟨v184, rfl, ho0, hb⟩; have n0_ := Aside0.mk (Kd.R_lower ho0 (below_size (by repeat (first | (with_reducible first | exact HB.out | apply below_alloc | apply pw_below_drewN | apply below_drew1 | refine below_set ?_ GE169.out) | exact HB.out)))); have n1_ := Aside0.mk (blk_below (g := gb169) (o := .cells #[.int .i64 0, .int .i64 0, .slice none 0 0] 25 (0, 0)) (by (with_reducible repeat (first | refine blk_drewN ?_ _ | refine blk_drew ?_ | refine blk_alloc ?_ _)); exact BK169.out) hb); have n2_ := Aside0.mk (below_step (by repeat (first | (with_reducible first | exact HB.out | apply below_alloc | apply pw_below_drewN | apply below_drew1 | refine below_set ?_ GE169.out) | exact HB.out)) hb); clear BK169; clear HB; have HO185 := n0_; have BK169 := n1_; have HB := n2_; clear n0_ n1_ n2_; (try clear hb); (try clear hb2); (try clear hk); (try clear hi); (try clear ho0); obtain ⟨Ao46, co46, eo46⟩ := Kd.R_slice HO185.out; subst eo46; have hcz47_0 : w45.cell? ⟨gb169, 0, none⟩ = some (.int .i64 0) := (blk_cell BK169.out 0).trans rfl; have hcz47_1 : w45.cell? ⟨gb169, 1, none⟩ = some (.int .i64 0) := (blk_cell BK169.out 1).trans rfl; have hcz47_2 : w45.cell? ⟨gb169, 2, none⟩ = some (.slice none 0 0) := (blk_cell BK169.out 2).trans rfl; have hfz47_0 := blk_frozen BK169.out 0; have hfz47_1 := blk_frozen BK169.out 1; have hfz47_2 := blk_frozen BK169.out 2))
                        refine bodyPost_ret (results_cell_row rfl _ _ gb169 25 #[.int .i64 x5_2, .int .i64 (wrap64 ((wrap64 ((l0.length : Int) - x5_2)) - x6_2)), .slice Ao46 t183.length co46] (0, 0) _ rfl (by (with_reducible repeat (first | refine blk_drewN ?_ _ | refine blk_drew ?_ | refine blk_alloc ?_ _)); refine blk_put (cs := #[.int .i64 x5_2, .int .i64 (wrap64 ((wrap64 ((l0.length : Int) - x5_2)) - x6_2)), .slice none 0 0]) ?_ 2 _ rfl; (with_reducible repeat (first | refine blk_drewN ?_ _ | refine blk_drew ?_ | refine blk_alloc ?_ _)); refine blk_put (cs := #[.int .i64 x5_2, .int .i64 0, .slice none 0 0]) ?_ 1 _ rfl; (with_reducible repeat (first | refine blk_drewN ?_ _ | refine blk_drew ?_ | refine blk_alloc ?_ _)); refine blk_put (cs := #[.int .i64 0, .int .i64 0, .slice none 0 0]) ?_ 0 _ rfl; (with_reducible repeat (first | refine blk_drewN ?_ _ | refine blk_drew ?_ | refine blk_alloc ?_ _)); exact BK169.out) Try.underlying25 rfl (by kernel_rfl)) rfl ?_
                        exact ⟨_, by first | rfl | (simp [errW_none, errW_some] <;> rfl) | (simp [*, errW_none, errW_some] <;> rfl), by (with_reducible repeat (first | apply Kd.R_alloc | apply Kd.R_drewN | apply Kd.R_drew)); exact Kd.R_mono (Kd.R_far (p := ⟨gb169, 2, none⟩) (Kd.R_far (p := ⟨gb169, 1, none⟩) (Kd.R_far (p := ⟨gb169, 0, none⟩) (Kd.R_types HO185.out BK169.out (by decide)) (fun _ hk => hk.2) (.int .i64 x5_2)) (fun _ hk => hk.2) (.int .i64 (wrap64 ((wrap64 ((l0.length : Int) - x5_2)) - x6_2)))) (fun _ hk => hk.2) (.slice Ao46 t183.length co46)) (fun _ hk => trivial), by repeat (first | (with_reducible first | exact HB.out | apply below_alloc | apply pw_below_drewN | apply below_drew1 | refine below_set ?_ GE169.out) | exact HB.out)⟩
                      · rw [if_neg c42] at H
                        exact absurd H (by simp)
                    · rw [if_neg c41] at H
                      exact absurd H (by simp)
                  · rw [if_neg c40] at H
                    exact absurd H (by simp)
              · rw [if_neg c37] at H
                have c37b0 : (x5_2 == (l0.length : Int)) = false := beq_eq_false_iff_ne.mpr c37
                have c37b1 : (x5_2 != (l0.length : Int)) = true := bne_iff_ne.mpr c37
                by_cases c48 : 0 ≤ x5_2
                · rw [if_pos c48] at H
                  have c48b0 := eq_true c48
                  have c48b1 : decide (0 ≤ x5_2) = true := decide_eq_true c48
                  clear c48
                  by_cases c49 : x5_2 ≤ (wrap64 ((l1.length : Int) - x6_2))
                  · rw [if_pos c49] at H
                    have c49b0 := eq_true c49
                    have c49b1 : decide (x5_2 ≤ (wrap64 ((l1.length : Int) - x6_2))) = true := decide_eq_true c49
                    clear c49
                    by_cases c50 : (wrap64 ((l1.length : Int) - x6_2)) ≤ (l1.length : Int)
                    · rw [if_pos c50] at H
                      have c50b0 := eq_true c50
                      have c50b1 : decide ((wrap64 ((l1.length : Int) - x6_2)) ≤ (l1.length : Int)) = true := decide_eq_true c50
                      clear c50
                      replace H := Option.bind_eq_some_iff.mp H
                      obtain ⟨t187, A510, H⟩ := H
                      replace H : (some (x5_2, wrap64 ((wrap64 ((l0.length : Int) - x5_2)) - x6_2), t187)) = some (r1, r2, r3) := H
                      have A51 := Aside0.mk A510
                      clear A510
                      simp only [Option.some.injEq, Prod.mk.injEq] at H
                      obtain ⟨rfl, rfl, rfl⟩ := H
                      obtain ⟨i052, hi052, _, hsz52, _⟩ := info_parts info9
                      obtain ⟨A52, hcut52, hA52, hC52⟩ := print_mid_of (P := Try.prog) Value.string (⟨#[]⟩ : ByteArray) 22 9 .i64 .i64 Try.underlying22 hi052 hsz52 A1 c1 l1 x5_2 (wrap64 ((l1.length : Int) - x6_2)) (of_decide_eq_true (by first | (with_reducible assumption) | assumption)) (by first | omega | exact of_decide_eq_true (by first | (with_reducible assumption) | assumption)) (of_decide_eq_true (by first | (with_reducible assumption) | assumption)) HC1.out
                      have HR186 := Aside0.mk (Kd.C_of_reads (h1 := fun _ => rfl) (hA52 _ (Kd.reads_of_C HR1.out)))
                      have HC186 := Aside0.mk hC52
                      clear hA52 hC52 hi052 hsz52
                      go_wp2_with fail
                      repeat (go_quiet (fail); go_wp2_with fail)
                      go_wp2_with (first | (go_at_call 26; (with_reducible refine (slices_Clone_string_string.callsn _ _ ((l1.take ((wrap64 ((l1.length : Int) - x6_2)) : Int).toNat).drop (x5_2 : Int).toNat) t187 _ ?side1 ?side2 A51.out _ ?side3).mono ?_); (case side3 => (rw [List.length_drop, List.length_take]; have q_ := of_decide_eq_true (show decide (((wrap64 ((l1.length : Int) - x6_2)) : Int) ≤ (l1.length : Int)) = true by first | (with_reducible assumption) | assumption); omega)); (case side1 => repeat (first | exact (Kd.C_below HR186.out HB.out) | (with_reducible refine Kd.C_alloc ?_ _) | (with_reducible refine Kd.C_drewN ?_ _) | (with_reducible refine Kd.C_drew ?_))); (case side2 => exact HC186.out); rintro e w53 ⟨v188, rfl, ho0, hb⟩; have n0_ := Aside0.mk (Kd.R_lower ho0 (below_size (by repeat (first | (with_reducible first | exact HB.out | apply below_alloc | apply pw_below_drewN | apply below_drew1 | refine below_set ?_ GE169.out) | exact HB.out)))); have n1_ := Aside0.mk (blk_below (g := gb169) (o := .cells #[.int .i64 0, .int .i64 0, .slice none 0 0] 25 (0, 0)) (by (with_reducible repeat (first | refine blk_drewN ?_ _ | refine blk_drew ?_ | refine blk_alloc ?_ _)); exact BK169.out) hb); have n2_ := Aside0.mk (below_step (by repeat (first | (with_reducible first | exact HB.out | apply below_alloc | apply pw_below_drewN | apply below_drew1 | refine below_set ?_ GE169.out) | exact HB.out)) hb); clear BK169; clear HB; have HO189 := n0_; have BK169 := n1_; have HB := n2_; clear n0_ n1_ n2_; (try clear hb); (try clear hb2); (try clear hk); (try clear hi); (try clear ho0); obtain ⟨Ao54, co54, eo54⟩ := Kd.R_slice HO189.out; subst eo54; have hcz55_0 : w53.cell? ⟨gb169, 0, none⟩ = some (.int .i64 0) := (blk_cell BK169.out 0).trans rfl; have hcz55_1 : w53.cell? ⟨gb169, 1, none⟩ = some (.int .i64 0) := (blk_cell BK169.out 1).trans rfl; have hcz55_2 : w53.cell? ⟨gb169, 2, none⟩ = some (.slice none 0 0) := (blk_cell BK169.out 2).trans rfl; have hfz55_0 := blk_frozen BK169.out 0; have hfz55_1 := blk_frozen BK169.out 1; have hfz55_2 := blk_frozen BK169.out 2))
                      refine bodyPost_ret (results_cell_row rfl _ _ gb169 25 #[.int .i64 x5_2, .int .i64 (wrap64 ((wrap64 ((l0.length : Int) - x5_2)) - x6_2)), .slice Ao54 t187.length co54] (0, 0) _ rfl (by (with_reducible repeat (first | refine blk_drewN ?_ _ | refine blk_drew ?_ | refine blk_alloc ?_ _)); refine blk_put (cs := #[.int .i64 x5_2, .int .i64 (wrap64 ((wrap64 ((l0.length : Int) - x5_2)) - x6_2)), .slice none 0 0]) ?_ 2 _ rfl; (with_reducible repeat (first | refine blk_drewN ?_ _ | refine blk_drew ?_ | refine blk_alloc ?_ _)); refine blk_put (cs := #[.int .i64 x5_2, .int .i64 0, .slice none 0 0]) ?_ 1 _ rfl; (with_reducible repeat (first | refine blk_drewN ?_ _ | refine blk_drew ?_ | refine blk_alloc ?_ _)); refine blk_put (cs := #[.int .i64 0, .int .i64 0, .slice none 0 0]) ?_ 0 _ rfl; (with_reducible repeat (first | refine blk_drewN ?_ _ | refine blk_drew ?_ | refine blk_alloc ?_ _)); exact BK169.out) Try.underlying25 rfl (by kernel_rfl)) rfl ?_
                      exact ⟨_, by first | rfl | (simp [errW_none, errW_some] <;> rfl) | (simp [*, errW_none, errW_some] <;> rfl), by (with_reducible repeat (first | apply Kd.R_alloc | apply Kd.R_drewN | apply Kd.R_drew)); exact Kd.R_mono (Kd.R_far (p := ⟨gb169, 2, none⟩) (Kd.R_far (p := ⟨gb169, 1, none⟩) (Kd.R_far (p := ⟨gb169, 0, none⟩) (Kd.R_types HO189.out BK169.out (by decide)) (fun _ hk => hk.2) (.int .i64 x5_2)) (fun _ hk => hk.2) (.int .i64 (wrap64 ((wrap64 ((l0.length : Int) - x5_2)) - x6_2)))) (fun _ hk => hk.2) (.slice Ao54 t187.length co54)) (fun _ hk => trivial), by repeat (first | (with_reducible first | exact HB.out | apply below_alloc | apply pw_below_drewN | apply below_drew1 | refine below_set ?_ GE169.out) | exact HB.out)⟩
                    · rw [if_neg c50] at H
                      exact absurd H (by simp)
                  · rw [if_neg c49] at H
                    exact absurd H (by simp)
                · rw [if_neg c48] at H
                  exact absurd H (by simp)
          · rw [if_neg c9] at H
            have c9b0 : decide (x6_2 < (wrap64 ((l0.length : Int) - x5_2))) = false := decide_eq_false c9
            clear c9
            by_cases c56 : x5_2 = (l0.length : Int)
            · rw [if_pos c56] at H
              have c56b0 : (x5_2 == (l0.length : Int)) = true := beq_iff_eq.mpr c56
              have c56b1 : (x5_2 != (l0.length : Int)) = false := bne_eq_false_iff_eq.mpr c56
              clear c56
              by_cases c57 : x5_2 = (l1.length : Int)
              · rw [if_pos c57] at H
                have c57b0 : (x5_2 == (l1.length : Int)) = true := beq_iff_eq.mpr c57
                have c57b1 : (x5_2 != (l1.length : Int)) = false := bne_eq_false_iff_eq.mpr c57
                clear c57
                simp only [Option.some.injEq, Prod.mk.injEq] at H
                obtain ⟨rfl, rfl, rfl⟩ := H
                have hcz58_0 : wr.cell? ⟨gb169, 0, none⟩ = some (.int .i64 0) := (blk_cell BK169.out 0).trans rfl
                have hcz58_1 : wr.cell? ⟨gb169, 1, none⟩ = some (.int .i64 0) := (blk_cell BK169.out 1).trans rfl
                have hcz58_2 : wr.cell? ⟨gb169, 2, none⟩ = some (.slice none 0 0) := (blk_cell BK169.out 2).trans rfl
                have hfz58_0 := blk_frozen BK169.out 0
                have hfz58_1 := blk_frozen BK169.out 1
                have hfz58_2 := blk_frozen BK169.out 2
                go_wp2
                repeat (go_quiet (fail); try go_wp2)
                refine bodyPost_ret (results_cell_row rfl _ _ gb169 25 #[.int .i64 0, .int .i64 0, .slice none 0 0] (0, 0) _ rfl (by (with_reducible repeat (first | refine blk_drewN ?_ _ | refine blk_drew ?_ | refine blk_alloc ?_ _)); refine blk_put (cs := #[.int .i64 0, .int .i64 0, .slice none 0 0]) ?_ 2 _ rfl; (with_reducible repeat (first | refine blk_drewN ?_ _ | refine blk_drew ?_ | refine blk_alloc ?_ _)); refine blk_put (cs := #[.int .i64 0, .int .i64 0, .slice none 0 0]) ?_ 1 _ rfl; (with_reducible repeat (first | refine blk_drewN ?_ _ | refine blk_drew ?_ | refine blk_alloc ?_ _)); refine blk_put (cs := #[.int .i64 0, .int .i64 0, .slice none 0 0]) ?_ 0 _ rfl; (with_reducible repeat (first | refine blk_drewN ?_ _ | refine blk_drew ?_ | refine blk_alloc ?_ _)); exact BK169.out) Try.underlying25 rfl (by kernel_rfl)) rfl ?_
                exact ⟨_, by first | rfl | (simp [errW_none, errW_some] <;> rfl) | (simp [*, errW_none, errW_some] <;> rfl), by first | exact Kd.R_nil _ _ _ _ _ | exact Kd.N_nil _ _ _ _ _ | exact Kd.V_nil _ _ _ _ _ | exact Kd.Q_nil _ _ _ _ _ | exact Kd.S_nil _ _ _ _ _, by repeat (first | (with_reducible first | exact HB.out | apply below_alloc | apply pw_below_drewN | apply below_drew1 | refine below_set ?_ GE169.out) | exact HB.out)⟩
              · rw [if_neg c57] at H
                have c57b0 : (x5_2 == (l1.length : Int)) = false := beq_eq_false_iff_ne.mpr c57
                have c57b1 : (x5_2 != (l1.length : Int)) = true := bne_iff_ne.mpr c57
                by_cases c59 : 0 ≤ x5_2
                · rw [if_pos c59] at H
                  have c59b0 := eq_true c59
                  have c59b1 : decide (0 ≤ x5_2) = true := decide_eq_true c59
                  clear c59
                  by_cases c60 : x5_2 ≤ (wrap64 ((l1.length : Int) - x6_2))
                  · rw [if_pos c60] at H
                    have c60b0 := eq_true c60
                    have c60b1 : decide (x5_2 ≤ (wrap64 ((l1.length : Int) - x6_2))) = true := decide_eq_true c60
                    clear c60
                    by_cases c61 : (wrap64 ((l1.length : Int) - x6_2)) ≤ (l1.length : Int)
                    · rw [if_pos c61] at H
                      have c61b0 := eq_true c61
                      have c61b1 : decide ((wrap64 ((l1.length : Int) - x6_2)) ≤ (l1.length : Int)) = true := decide_eq_true c61
                      clear c61
                      replace H := Option.bind_eq_some_iff.mp H
                      obtain ⟨t191, A620, H⟩ := H
                      replace H : (some (x5_2, wrap64 ((wrap64 ((l0.length : Int) - x5_2)) - x6_2), t191)) = some (r1, r2, r3) := H
                      have A62 := Aside0.mk A620
                      clear A620
                      simp only [Option.some.injEq, Prod.mk.injEq] at H
                      obtain ⟨rfl, rfl, rfl⟩ := H
                      obtain ⟨i063, hi063, _, hsz63, _⟩ := info_parts info9
                      obtain ⟨A63, hcut63, hA63, hC63⟩ := print_mid_of (P := Try.prog) Value.string (⟨#[]⟩ : ByteArray) 22 9 .i64 .i64 Try.underlying22 hi063 hsz63 A1 c1 l1 x5_2 (wrap64 ((l1.length : Int) - x6_2)) (of_decide_eq_true (by first | (with_reducible assumption) | assumption)) (by first | omega | exact of_decide_eq_true (by first | (with_reducible assumption) | assumption)) (of_decide_eq_true (by first | (with_reducible assumption) | assumption)) HC1.out
                      have HR190 := Aside0.mk (Kd.C_of_reads (h1 := fun _ => rfl) (hA63 _ (Kd.reads_of_C HR1.out)))
                      have HC190 := Aside0.mk hC63
                      clear hA63 hC63 hi063 hsz63
                      go_wp2_with fail
                      repeat (go_quiet (fail); go_wp2_with fail)
                      go_wp2_with (first | (go_at_call 26; (with_reducible refine (slices_Clone_string_string.callsn _ _ ((l1.take ((wrap64 ((l1.length : Int) - x6_2)) : Int).toNat).drop (x5_2 : Int).toNat) t191 _ ?side1 ?side2 A62.out _ ?side3).mono ?_); (case side3 => (rw [List.length_drop, List.length_take]; have q_ := of_decide_eq_true (show decide (((wrap64 ((l1.length : Int) - x6_2)) : Int) ≤ (l1.length : Int)) = true by first | (with_reducible assumption) | assumption); omega)); (case side1 => repeat (first | exact (Kd.C_below HR190.out HB.out) | (with_reducible refine Kd.C_alloc ?_ _) | (with_reducible refine Kd.C_drewN ?_ _) | (with_reducible refine Kd.C_drew ?_))); (case side2 => exact HC190.out); rintro e w64 ⟨v192, rfl, ho0, hb⟩; have n0_ := Aside0.mk (Kd.R_lower ho0 (below_size (by repeat (first | (with_reducible first | exact HB.out | apply below_alloc | apply pw_below_drewN | apply below_drew1 | refine below_set ?_ GE169.out) | exact HB.out)))); have n1_ := Aside0.mk (blk_below (g := gb169) (o := .cells #[.int .i64 0, .int .i64 0, .slice none 0 0] 25 (0, 0)) (by (with_reducible repeat (first | refine blk_drewN ?_ _ | refine blk_drew ?_ | refine blk_alloc ?_ _)); exact BK169.out) hb); have n2_ := Aside0.mk (below_step (by repeat (first | (with_reducible first | exact HB.out | apply below_alloc | apply pw_below_drewN | apply below_drew1 | refine below_set ?_ GE169.out) | exact HB.out)) hb); clear BK169; clear HB; have HO193 := n0_; have BK169 := n1_; have HB := n2_; clear n0_ n1_ n2_; (try clear hb); (try clear hb2); (try clear hk); (try clear hi); (try clear ho0); obtain ⟨Ao65, co65, eo65⟩ := Kd.R_slice HO193.out; subst eo65; have hcz66_0 : w64.cell? ⟨gb169, 0, none⟩ = some (.int .i64 0) := (blk_cell BK169.out 0).trans rfl; have hcz66_1 : w64.cell? ⟨gb169, 1, none⟩ = some (.int .i64 0) := (blk_cell BK169.out 1).trans rfl; have hcz66_2 : w64.cell? ⟨gb169, 2, none⟩ = some (.slice none 0 0) := (blk_cell BK169.out 2).trans rfl; have hfz66_0 := blk_frozen BK169.out 0; have hfz66_1 := blk_frozen BK169.out 1; have hfz66_2 := blk_frozen BK169.out 2))
                      refine bodyPost_ret (results_cell_row rfl _ _ gb169 25 #[.int .i64 x5_2, .int .i64 (wrap64 ((wrap64 ((l0.length : Int) - x5_2)) - x6_2)), .slice Ao65 t191.length co65] (0, 0) _ rfl (by (with_reducible repeat (first | refine blk_drewN ?_ _ | refine blk_drew ?_ | refine blk_alloc ?_ _)); refine blk_put (cs := #[.int .i64 x5_2, .int .i64 (wrap64 ((wrap64 ((l0.length : Int) - x5_2)) - x6_2)), .slice none 0 0]) ?_ 2 _ rfl; (with_reducible repeat (first | refine blk_drewN ?_ _ | refine blk_drew ?_ | refine blk_alloc ?_ _)); refine blk_put (cs := #[.int .i64 x5_2, .int .i64 0, .slice none 0 0]) ?_ 1 _ rfl; (with_reducible repeat (first | refine blk_drewN ?_ _ | refine blk_drew ?_ | refine blk_alloc ?_ _)); refine blk_put (cs := #[.int .i64 0, .int .i64 0, .slice none 0 0]) ?_ 0 _ rfl; (with_reducible repeat (first | refine blk_drewN ?_ _ | refine blk_drew ?_ | refine blk_alloc ?_ _)); exact BK169.out) Try.underlying25 rfl (by kernel_rfl)) rfl ?_
                      exact ⟨_, by first | rfl | (simp [errW_none, errW_some] <;> rfl) | (simp [*, errW_none, errW_some] <;> rfl), by (with_reducible repeat (first | apply Kd.R_alloc | apply Kd.R_drewN | apply Kd.R_drew)); exact Kd.R_mono (Kd.R_far (p := ⟨gb169, 2, none⟩) (Kd.R_far (p := ⟨gb169, 1, none⟩) (Kd.R_far (p := ⟨gb169, 0, none⟩) (Kd.R_types HO193.out BK169.out (by decide)) (fun _ hk => hk.2) (.int .i64 x5_2)) (fun _ hk => hk.2) (.int .i64 (wrap64 ((wrap64 ((l0.length : Int) - x5_2)) - x6_2)))) (fun _ hk => hk.2) (.slice Ao65 t191.length co65)) (fun _ hk => trivial), by repeat (first | (with_reducible first | exact HB.out | apply below_alloc | apply pw_below_drewN | apply below_drew1 | refine below_set ?_ GE169.out) | exact HB.out)⟩
                    · rw [if_neg c61] at H
                      exact absurd H (by simp)
                  · rw [if_neg c60] at H
                    exact absurd H (by simp)
                · rw [if_neg c59] at H
                  exact absurd H (by simp)
            · rw [if_neg c56] at H
              have c56b0 : (x5_2 == (l0.length : Int)) = false := beq_eq_false_iff_ne.mpr c56
              have c56b1 : (x5_2 != (l0.length : Int)) = true := bne_iff_ne.mpr c56
              by_cases c67 : 0 ≤ x5_2
              · rw [if_pos c67] at H
                have c67b0 := eq_true c67
                have c67b1 : decide (0 ≤ x5_2) = true := decide_eq_true c67
                clear c67
                by_cases c68 : x5_2 ≤ (wrap64 ((l1.length : Int) - x6_2))
                · rw [if_pos c68] at H
                  have c68b0 := eq_true c68
                  have c68b1 : decide (x5_2 ≤ (wrap64 ((l1.length : Int) - x6_2))) = true := decide_eq_true c68
                  clear c68
                  by_cases c69 : (wrap64 ((l1.length : Int) - x6_2)) ≤ (l1.length : Int)
                  · rw [if_pos c69] at H
                    have c69b0 := eq_true c69
                    have c69b1 : decide ((wrap64 ((l1.length : Int) - x6_2)) ≤ (l1.length : Int)) = true := decide_eq_true c69
                    clear c69
                    replace H := Option.bind_eq_some_iff.mp H
                    obtain ⟨t195, A700, H⟩ := H
                    replace H : (some (x5_2, wrap64 ((wrap64 ((l0.length : Int) - x5_2)) - x6_2), t195)) = some (r1, r2, r3) := H
                    have A70 := Aside0.mk A700
                    clear A700
                    simp only [Option.some.injEq, Prod.mk.injEq] at H
                    obtain ⟨rfl, rfl, rfl⟩ := H
                    obtain ⟨i071, hi071, _, hsz71, _⟩ := info_parts info9
                    obtain ⟨A71, hcut71, hA71, hC71⟩ := print_mid_of (P := Try.prog) Value.string (⟨#[]⟩ : ByteArray) 22 9 .i64 .i64 Try.underlying22 hi071 hsz71 A1 c1 l1 x5_2 (wrap64 ((l1.length : Int) - x6_2)) (of_decide_eq_true (by first | (with_reducible assumption) | assumption)) (by first | omega | exact of_decide_eq_true (by first | (with_reducible assumption) | assumption)) (of_decide_eq_true (by first | (with_reducible assumption) | assumption)) HC1.out
                    have HR194 := Aside0.mk (Kd.C_of_reads (h1 := fun _ => rfl) (hA71 _ (Kd.reads_of_C HR1.out)))
                    have HC194 := Aside0.mk hC71
                    clear hA71 hC71 hi071 hsz71
                    go_wp2_with fail
                    repeat (go_quiet (fail); go_wp2_with fail)
                    go_wp2_with (first | (go_at_call 26; (with_reducible refine (slices_Clone_string_string.callsn _ _ ((l1.take ((wrap64 ((l1.length : Int) - x6_2)) : Int).toNat).drop (x5_2 : Int).toNat) t195 _ ?side1 ?side2 A70.out _ ?side3).mono ?_); (case side3 => (rw [List.length_drop, List.length_take]; have q_ := of_decide_eq_true (show decide (((wrap64 ((l1.length : Int) - x6_2)) : Int) ≤ (l1.length : Int)) = true by first | (with_reducible assumption) | assumption); omega)); (case side1 => repeat (first | exact (Kd.C_below HR194.out HB.out) | (with_reducible refine Kd.C_alloc ?_ _) | (with_reducible refine Kd.C_drewN ?_ _) | (with_reducible refine Kd.C_drew ?_))); (case side2 => exact HC194.out); rintro e w72 ⟨v196, rfl, ho0, hb⟩; have n0_ := Aside0.mk (Kd.R_lower ho0 (below_size (by repeat (first | (with_reducible first | exact HB.out | apply below_alloc | apply pw_below_drewN | apply below_drew1 | refine below_set ?_ GE169.out) | exact HB.out)))); have n1_ := Aside0.mk (blk_below (g := gb169) (o := .cells #[.int .i64 0, .int .i64 0, .slice none 0 0] 25 (0, 0)) (by (with_reducible repeat (first | refine blk_drewN ?_ _ | refine blk_drew ?_ | refine blk_alloc ?_ _)); exact BK169.out) hb); have n2_ := Aside0.mk (below_step (by repeat (first | (with_reducible first | exact HB.out | apply below_alloc | apply pw_below_drewN | apply below_drew1 | refine below_set ?_ GE169.out) | exact HB.out)) hb); clear BK169; clear HB; have HO197 := n0_; have BK169 := n1_; have HB := n2_; clear n0_ n1_ n2_; (try clear hb); (try clear hb2); (try clear hk); (try clear hi); (try clear ho0); obtain ⟨Ao73, co73, eo73⟩ := Kd.R_slice HO197.out; subst eo73; have hcz74_0 : w72.cell? ⟨gb169, 0, none⟩ = some (.int .i64 0) := (blk_cell BK169.out 0).trans rfl; have hcz74_1 : w72.cell? ⟨gb169, 1, none⟩ = some (.int .i64 0) := (blk_cell BK169.out 1).trans rfl; have hcz74_2 : w72.cell? ⟨gb169, 2, none⟩ = some (.slice none 0 0) := (blk_cell BK169.out 2).trans rfl; have hfz74_0 := blk_frozen BK169.out 0; have hfz74_1 := blk_frozen BK169.out 1; have hfz74_2 := blk_frozen BK169.out 2))
                    refine bodyPost_ret (results_cell_row rfl _ _ gb169 25 #[.int .i64 x5_2, .int .i64 (wrap64 ((wrap64 ((l0.length : Int) - x5_2)) - x6_2)), .slice Ao73 t195.length co73] (0, 0) _ rfl (by (with_reducible repeat (first | refine blk_drewN ?_ _ | refine blk_drew ?_ | refine blk_alloc ?_ _)); refine blk_put (cs := #[.int .i64 x5_2, .int .i64 (wrap64 ((wrap64 ((l0.length : Int) - x5_2)) - x6_2)), .slice none 0 0]) ?_ 2 _ rfl; (with_reducible repeat (first | refine blk_drewN ?_ _ | refine blk_drew ?_ | refine blk_alloc ?_ _)); refine blk_put (cs := #[.int .i64 x5_2, .int .i64 0, .slice none 0 0]) ?_ 1 _ rfl; (with_reducible repeat (first | refine blk_drewN ?_ _ | refine blk_drew ?_ | refine blk_alloc ?_ _)); refine blk_put (cs := #[.int .i64 0, .int .i64 0, .slice none 0 0]) ?_ 0 _ rfl; (with_reducible repeat (first | refine blk_drewN ?_ _ | refine blk_drew ?_ | refine blk_alloc ?_ _)); exact BK169.out) Try.underlying25 rfl (by kernel_rfl)) rfl ?_
                    exact ⟨_, by first | rfl | (simp [errW_none, errW_some] <;> rfl) | (simp [*, errW_none, errW_some] <;> rfl), by (with_reducible repeat (first | apply Kd.R_alloc | apply Kd.R_drewN | apply Kd.R_drew)); exact Kd.R_mono (Kd.R_far (p := ⟨gb169, 2, none⟩) (Kd.R_far (p := ⟨gb169, 1, none⟩) (Kd.R_far (p := ⟨gb169, 0, none⟩) (Kd.R_types HO197.out BK169.out (by decide)) (fun _ hk => hk.2) (.int .i64 x5_2)) (fun _ hk => hk.2) (.int .i64 (wrap64 ((wrap64 ((l0.length : Int) - x5_2)) - x6_2)))) (fun _ hk => hk.2) (.slice Ao73 t195.length co73)) (fun _ hk => trivial), by repeat (first | (with_reducible first | exact HB.out | apply below_alloc | apply pw_below_drewN | apply below_drew1 | refine below_set ?_ GE169.out) | exact HB.out)⟩
                  · rw [if_neg c69] at H
                    exact absurd H (by simp)
                · rw [if_neg c68] at H
                  exact absurd H (by simp)
              · rw [if_neg c67] at H
                exact absurd H (by simp)

end Go.Proofs.Ytfpbohfefliljaa.MDeltaPatches
