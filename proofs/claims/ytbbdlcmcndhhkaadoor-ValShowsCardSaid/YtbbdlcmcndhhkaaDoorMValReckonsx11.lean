/- Walks of functions of package val and of its reference, written by a program (wip/myprint.sh), put right by hand where they fell. -/
import Derived.Test.YtbbdlcmcndhhkaaDoorMValReckonsx0
namespace Go.Proofs.YtbbdlcmcndhhkaaDoor.MValReckons
open Go.RowKit Go.Proofs.YtbbdlcmcndhhkaaDoorW.PrintWords Go.Proofs.YtbbdlcmcndhhkaaDoorW.PrintLast Go.Proofs.YtbbdlcmcndhhkaaDoorW.PrintMore
attribute [local go_sem] max2_int min2_int max_two min_two max_three min_three max_four min_four   -- for this text's walks alone
set_option linter.unusedVariables false
set_option linter.unusedSimpArgs false

/-! ### whirligigref01_divide: function 40 -/
def whirligigref01_divide.j0 : Nat → Int → Int → Bool → Bool → Option (Int × Int × ByteArray × Int)
  | 0, _, _, _, _ => none
  | k + 1, x0, x1, x2, x16 => if x16 = true then (if x2 = true then (some (1, 0, (⟨#[]⟩ : ByteArray), 0)) else (some (0, 0, (⟨#[]⟩ : ByteArray), 21))) else (if x2 = true then (if x1 = 0 then (none) else (some (1, wrap64 (x0 - (wrap64 ((wrap64 (Int.tdiv x0 x1)) * x1))), (⟨#[]⟩ : ByteArray), 0))) else (if x1 = 0 then (none) else (some (1, wrap64 (Int.tdiv x0 x1), (⟨#[]⟩ : ByteArray), 0))))
def whirligigref01_divide.f (k : Nat) (a0 : Int) (a1 : Int) (a2 : Bool) : Option (Int × Int × ByteArray × Int) := if a1 = 0 then (some (0, 0, (⟨#[]⟩ : ByteArray), 22)) else (if a0 = (-9223372036854775808) then (whirligigref01_divide.j0 k a0 a1 a2 (a1 == (-1))) else (whirligigref01_divide.j0 k a0 a1 a2 false))
theorem whirligigref01_divide.mono_l : ∀ k, (∀ y0 y1 y2 y3, LeO (whirligigref01_divide.j0 k y0 y1 y2 y3) (whirligigref01_divide.j0 (k + 1) y0 y1 y2 y3))
  | 0 => fun _ _ _ _ r h => by simp [whirligigref01_divide.j0] at h
  | k + 1 => by
    have ih0 := whirligigref01_divide.mono_l k
    · intro y0 y1 y2 y3
      unfold whirligigref01_divide.j0
      repeat' first
      | (with_reducible exact ih0 _ _ _ _)
      | (with_reducible exact LeO.refl _)
      | (with_reducible exact LeO.none _)
      | (with_reducible refine LeO.ite ?_ ?_)
      | (with_reducible refine LeO.bind ?_ (fun _ => ?_))
      | exact ih0 _ _ _ _
      | exact LeO.none _
      | refine LeO.ite ?_ ?_
      | refine LeO.bind ?_ (fun _ => ?_)
theorem whirligigref01_divide.mono : ∀ a0 a1 a2 k, LeO (whirligigref01_divide.f k a0 a1 a2) (whirligigref01_divide.f (k + 1) a0 a1 a2) := by
  intro a0 a1 a2 k
  have ih0 := whirligigref01_divide.mono_l k
  unfold whirligigref01_divide.f
  repeat' first
      | (with_reducible exact ih0 _ _ _ _)
      | (with_reducible exact LeO.refl _)
      | (with_reducible exact LeO.none _)
      | (with_reducible refine LeO.ite ?_ ?_)
      | (with_reducible refine LeO.bind ?_ (fun _ => ?_))
      | exact ih0 _ _ _ _
      | exact LeO.none _
      | refine LeO.ite ?_ ?_
      | refine LeO.bind ?_ (fun _ => ?_)
set_option maxHeartbeats 8000000 in
set_option maxRecDepth 100000 in
theorem whirligigref01_divide.calls (k : Nat) (a0 : Int) (a1 : Int) (a2 : Bool) (r1 : Int) (r2 : Int) (r3 : ByteArray) (r4 : Int) (w : World) (h : whirligigref01_divide.f k a0 a1 a2 = some (r1, r2, r3, r4)) :
    Calls Tryd.prog 40 #[.int .i64 a0, .int .i64 a1, .bool a2] w fun e w' => e = .returned (.tuple #[.agg #[.int .i64 r1, .int .i64 r2, .string r3], .int .i64 r4]) ∧ Below w.heap.size w w' := by
  have hu28 := Tryd.underlying28
  have HB := Aside0.mk (Below.refl w.heap.size w)
  have H : (if a1 = 0 then (some (0, 0, (⟨#[]⟩ : ByteArray), 22)) else (if a0 = (-9223372036854775808) then (whirligigref01_divide.j0 k a0 a1 a2 (a1 == (-1))) else (whirligigref01_divide.j0 k a0 a1 a2 false))) = some (r1, r2, r3, r4) := h
  clear h
  by_cases c4 : a1 = 0
  · rw [if_pos c4] at H
    have c4b0 : (a1 == 0) = true := beq_iff_eq.mpr c4
    have c4b1 : (a1 != 0) = false := bne_eq_false_iff_eq.mpr c4
    clear c4
    simp only [Option.some.injEq, Prod.mk.injEq] at H
    obtain ⟨rfl, rfl, rfl, rfl⟩ := H
    go_enter Tryd.func40, Tryd.ntmps40
    go_wp2_with (first | ((with_reducible refine gate_dst (N := 6) rfl ?_); refine box_event ?hg (N := 6) ?hd (cs := #[.int .i64 0, .int .i64 0, .string (⟨#[]⟩ : ByteArray)]) (t := 28) ?hr ?_; (case hd => rfl); (case hg => rfl); (case hr => first | (go_simp; done) | (go_simp; rfl)); intro gb351 hg w5 hbox hb; have n0_ := Aside0.mk (below_step (by repeat (first | (with_reducible first | exact HB.out | apply below_alloc | apply pw_below_drewN | apply below_drew1) | exact HB.out)) hb); have n1_ := Aside0.mk (hbox); have n2_ := Aside0.mk ((by rw [hg]; exact (below_size (by repeat (first | (with_reducible first | exact HB.out | apply below_alloc | apply pw_below_drewN | apply below_drew1) | exact HB.out))) : w.heap.size ≤ gb351)); have n3_ := Aside0.mk ((by rw [hg]; exact (below_size (by repeat (first | (with_reducible first | exact HB.out | apply below_alloc | apply pw_below_drewN | apply below_drew1) | exact HB.out))) : w.heap.size ≤ gb351)); clear HB; have HB := n0_; have BK351 := n1_; have GW351 := n2_; have GE351 := n3_; clear n0_ n1_ n2_ n3_; clear hb hbox hg; have hcz6_0 : w5.cell? ⟨gb351, 0, none⟩ = some (.int .i64 0) := (blk_cell BK351.out 0).trans rfl; have hcz6_1 : w5.cell? ⟨gb351, 1, none⟩ = some (.int .i64 0) := (blk_cell BK351.out 1).trans rfl; have hcz6_2 : w5.cell? ⟨gb351, 2, none⟩ = some (.string (⟨#[]⟩ : ByteArray)) := (blk_cell BK351.out 2).trans rfl; have hfz6_0 := blk_frozen BK351.out 0; have hfz6_1 := blk_frozen BK351.out 1; have hfz6_2 := blk_frozen BK351.out 2))
    refine bodyPost_ret (results_ct rfl _ _ gb351 28 #[.int .i64 0, .int .i64 0, .string (⟨#[]⟩ : ByteArray)] (0, 0) _ rfl (by (with_reducible repeat (first | refine blk_drewN ?_ _ | refine blk_drew ?_ | refine blk_alloc ?_ _)); refine blk_put (cs := #[.int .i64 0, .int .i64 0, .string (⟨#[]⟩ : ByteArray)]) ?_ 2 _ rfl; (with_reducible repeat (first | refine blk_drewN ?_ _ | refine blk_drew ?_ | refine blk_alloc ?_ _)); refine blk_put (cs := #[.int .i64 0, .int .i64 0, .string (⟨#[]⟩ : ByteArray)]) ?_ 1 _ rfl; (with_reducible repeat (first | refine blk_drewN ?_ _ | refine blk_drew ?_ | refine blk_alloc ?_ _)); refine blk_put (cs := #[.int .i64 0, .int .i64 0, .string (⟨#[]⟩ : ByteArray)]) ?_ 0 _ rfl; (with_reducible repeat (first | refine blk_drewN ?_ _ | refine blk_drew ?_ | refine blk_alloc ?_ _)); exact BK351.out) Tryd.underlying28 rfl (by kernel_rfl)) rfl ?_
    exact ⟨by first | rfl | (simp [errW_none, errW_some] <;> rfl) | (simp [*, errW_none, errW_some] <;> rfl), by repeat (first | (with_reducible first | exact HB.out | apply below_alloc | apply pw_below_drewN | apply below_drew1 | refine below_set ?_ GE351.out) | exact HB.out)⟩
  · rw [if_neg c4] at H
    have c4b0 : (a1 == 0) = false := beq_eq_false_iff_ne.mpr c4
    have c4b1 : (a1 != 0) = true := bne_iff_ne.mpr c4
    have HC7 := Aside0.mk H
    clear H
    go_enter Tryd.func40, Tryd.ntmps40
    go_upto_region 3 with (first | ((with_reducible refine gate_dst (N := 6) rfl ?_); refine box_event ?hg (N := 6) ?hd (cs := #[.int .i64 0, .int .i64 0, .string (⟨#[]⟩ : ByteArray)]) (t := 28) ?hr ?_; (case hd => rfl); (case hg => rfl); (case hr => first | (go_simp; done) | (go_simp; rfl)); intro gb351 hg w8 hbox hb; have n0_ := Aside0.mk (below_step (by repeat (first | (with_reducible first | exact HB.out | apply below_alloc | apply pw_below_drewN | apply below_drew1) | exact HB.out)) hb); have n1_ := Aside0.mk (hbox); have n2_ := Aside0.mk ((by rw [hg]; exact (below_size (by repeat (first | (with_reducible first | exact HB.out | apply below_alloc | apply pw_below_drewN | apply below_drew1) | exact HB.out))) : w.heap.size ≤ gb351)); have n3_ := Aside0.mk ((by rw [hg]; exact (below_size (by repeat (first | (with_reducible first | exact HB.out | apply below_alloc | apply pw_below_drewN | apply below_drew1) | exact HB.out))) : w.heap.size ≤ gb351)); clear HB; have HB := n0_; have BK351 := n1_; have GW351 := n2_; have GE351 := n3_; clear n0_ n1_ n2_ n3_; clear hb hbox hg))
    (try simp only [Act.put, List.setIfInBounds_toArray, List.set_cons_zero, List.set_cons_succ])
    go_cut [16] (fun v16 wc => ∃ (kq : Nat) (x16_6 : Bool), v16 = .bool x16_6 ∧ Aside0 (whirligigref01_divide.j0 kq a0 a1 a2 x16_6 = some (r1, r2, r3, r4)) ∧ Aside0 (kq ≤ k) ∧ Aside0 (wc.heap[gb351]? = some (.cells #[.int .i64 0, .int .i64 0, .string (⟨#[]⟩ : ByteArray)] 28 (0, 0))) ∧ Aside0 (Below w.heap.size w wc))
    case first =>
      have H := HC7.out
      clear HC7
      by_cases c9 : a0 = (-9223372036854775808)
      · rw [if_pos c9] at H
        have c9b0 : (a0 == (-9223372036854775808)) = true := beq_iff_eq.mpr c9
        have c9b1 : (a0 != (-9223372036854775808)) = false := bne_eq_false_iff_eq.mpr c9
        clear c9
        (first | rw [c9b0] | (simp only [i64_w, i32_w]; rw [c9b0]) | skip)
        have H' := Aside0.mk H
        clear H
        go_wp2
        go_meet
        case rel => exact ⟨_, ((a1 == (-1))), (by first | rfl | (simp; done) | (simp [*]; done)), H', ⟨by first | omega | exact Nat.le_refl _⟩, ⟨by (with_reducible repeat (first | refine blk_drewN ?_ _ | refine blk_drew ?_ | refine blk_alloc ?_ _)); exact BK351.out⟩, ⟨by repeat (first | (with_reducible first | exact HB.out | apply below_alloc | apply pw_below_drewN | apply below_drew1 | refine below_set ?_ GE351.out) | exact HB.out)⟩⟩
      · rw [if_neg c9] at H
        have c9b0 : (a0 == (-9223372036854775808)) = false := beq_eq_false_iff_ne.mpr c9
        have c9b1 : (a0 != (-9223372036854775808)) = true := bne_iff_ne.mpr c9
        (first | rw [c9b0] | (simp only [i64_w, i32_w]; rw [c9b0]) | skip)
        have H' := Aside0.mk H
        clear H
        go_wp2
        go_meet
        case rel => exact ⟨_, (false), (by first | rfl | (simp; done) | (simp [*]; done)), H', ⟨by first | omega | exact Nat.le_refl _⟩, ⟨by (with_reducible repeat (first | refine blk_drewN ?_ _ | refine blk_drew ?_ | refine blk_alloc ?_ _)); exact BK351.out⟩, ⟨by repeat (first | (with_reducible first | exact HB.out | apply below_alloc | apply pw_below_drewN | apply below_drew1 | refine below_set ?_ GE351.out) | exact HB.out)⟩⟩
    case rest =>
      clear HC7
      try clear p2
      try clear c4
      try clear c4b0
      try clear c4b1
      try clear c9
      try clear c9b0
      try clear c9b1
      try clear hcz6_0
      try clear hcz6_1
      try clear hcz6_2
      try clear hfz6_0
      try clear hfz6_1
      try clear hfz6_2
      obtain ⟨kq, x16_6, rfl, HA, HJ6, BK351, HB⟩ := hcut
      cases kq with
      | zero => exact absurd HA.out (by simp [whirligigref01_divide.j0])
      | succ kj6 =>
        have H := HA.out
        clear HA
        simp only [whirligigref01_divide.j0] at H
        by_cases c10 : x16_6 = true
        · subst c10
          have H1 : (if a2 = true then (some (1, 0, (⟨#[]⟩ : ByteArray), 0)) else (some (0, 0, (⟨#[]⟩ : ByteArray), 21))) = some (r1, r2, r3, r4) := by rw [if_pos rfl] at H; exact H
          clear H
          have H := H1
          clear H1
          by_cases c11 : a2 = true
          · subst c11
            have H1 : (some (1, 0, (⟨#[]⟩ : ByteArray), 0)) = some (r1, r2, r3, r4) := by rw [if_pos rfl] at H; exact H
            clear H
            have H := H1
            clear H1
            simp only [Option.some.injEq, Prod.mk.injEq] at H
            obtain ⟨rfl, rfl, rfl, rfl⟩ := H
            have hcz12_0 : wc.cell? ⟨gb351, 0, none⟩ = some (.int .i64 0) := (blk_cell BK351.out 0).trans rfl
            have hcz12_1 : wc.cell? ⟨gb351, 1, none⟩ = some (.int .i64 0) := (blk_cell BK351.out 1).trans rfl
            have hcz12_2 : wc.cell? ⟨gb351, 2, none⟩ = some (.string (⟨#[]⟩ : ByteArray)) := (blk_cell BK351.out 2).trans rfl
            have hfz12_0 := blk_frozen BK351.out 0
            have hfz12_1 := blk_frozen BK351.out 1
            have hfz12_2 := blk_frozen BK351.out 2
            go_wp2
            refine bodyPost_ret (results_ct rfl _ _ gb351 28 #[.int .i64 1, .int .i64 0, .string (⟨#[]⟩ : ByteArray)] (0, 0) _ rfl (by (with_reducible repeat (first | refine blk_drewN ?_ _ | refine blk_drew ?_ | refine blk_alloc ?_ _)); refine blk_put (cs := #[.int .i64 1, .int .i64 0, .string (⟨#[]⟩ : ByteArray)]) ?_ 2 _ rfl; (with_reducible repeat (first | refine blk_drewN ?_ _ | refine blk_drew ?_ | refine blk_alloc ?_ _)); refine blk_put (cs := #[.int .i64 1, .int .i64 0, .string (⟨#[]⟩ : ByteArray)]) ?_ 1 _ rfl; (with_reducible repeat (first | refine blk_drewN ?_ _ | refine blk_drew ?_ | refine blk_alloc ?_ _)); refine blk_put (cs := #[.int .i64 0, .int .i64 0, .string (⟨#[]⟩ : ByteArray)]) ?_ 0 _ rfl; (with_reducible repeat (first | refine blk_drewN ?_ _ | refine blk_drew ?_ | refine blk_alloc ?_ _)); exact BK351.out) Tryd.underlying28 rfl (by kernel_rfl)) rfl ?_
            exact ⟨by first | rfl | (simp [errW_none, errW_some] <;> rfl) | (simp [*, errW_none, errW_some] <;> rfl), by repeat (first | (with_reducible first | exact HB.out | apply below_alloc | apply pw_below_drewN | apply below_drew1 | refine below_set ?_ GE351.out) | exact HB.out)⟩
          · replace c11 := Bool.eq_false_iff.mpr c11
            subst c11
            have H1 : (some (0, 0, (⟨#[]⟩ : ByteArray), 21)) = some (r1, r2, r3, r4) := by rw [if_neg (show ¬ (false = true) by decide)] at H; exact H
            clear H
            have H := H1
            clear H1
            simp only [Option.some.injEq, Prod.mk.injEq] at H
            obtain ⟨rfl, rfl, rfl, rfl⟩ := H
            have hcz13_0 : wc.cell? ⟨gb351, 0, none⟩ = some (.int .i64 0) := (blk_cell BK351.out 0).trans rfl
            have hcz13_1 : wc.cell? ⟨gb351, 1, none⟩ = some (.int .i64 0) := (blk_cell BK351.out 1).trans rfl
            have hcz13_2 : wc.cell? ⟨gb351, 2, none⟩ = some (.string (⟨#[]⟩ : ByteArray)) := (blk_cell BK351.out 2).trans rfl
            have hfz13_0 := blk_frozen BK351.out 0
            have hfz13_1 := blk_frozen BK351.out 1
            have hfz13_2 := blk_frozen BK351.out 2
            go_wp2
            refine bodyPost_ret (results_ct rfl _ _ gb351 28 #[.int .i64 0, .int .i64 0, .string (⟨#[]⟩ : ByteArray)] (0, 0) _ rfl (by (with_reducible repeat (first | refine blk_drewN ?_ _ | refine blk_drew ?_ | refine blk_alloc ?_ _)); refine blk_put (cs := #[.int .i64 0, .int .i64 0, .string (⟨#[]⟩ : ByteArray)]) ?_ 2 _ rfl; (with_reducible repeat (first | refine blk_drewN ?_ _ | refine blk_drew ?_ | refine blk_alloc ?_ _)); refine blk_put (cs := #[.int .i64 0, .int .i64 0, .string (⟨#[]⟩ : ByteArray)]) ?_ 1 _ rfl; (with_reducible repeat (first | refine blk_drewN ?_ _ | refine blk_drew ?_ | refine blk_alloc ?_ _)); refine blk_put (cs := #[.int .i64 0, .int .i64 0, .string (⟨#[]⟩ : ByteArray)]) ?_ 0 _ rfl; (with_reducible repeat (first | refine blk_drewN ?_ _ | refine blk_drew ?_ | refine blk_alloc ?_ _)); exact BK351.out) Tryd.underlying28 rfl (by kernel_rfl)) rfl ?_
            exact ⟨by first | rfl | (simp [errW_none, errW_some] <;> rfl) | (simp [*, errW_none, errW_some] <;> rfl), by repeat (first | (with_reducible first | exact HB.out | apply below_alloc | apply pw_below_drewN | apply below_drew1 | refine below_set ?_ GE351.out) | exact HB.out)⟩
        · replace c10 := Bool.eq_false_iff.mpr c10
          subst c10
          have H1 : (if a2 = true then (if a1 = 0 then (none) else (some (1, wrap64 (a0 - (wrap64 ((wrap64 (Int.tdiv a0 a1)) * a1))), (⟨#[]⟩ : ByteArray), 0))) else (if a1 = 0 then (none) else (some (1, wrap64 (Int.tdiv a0 a1), (⟨#[]⟩ : ByteArray), 0)))) = some (r1, r2, r3, r4) := by rw [if_neg (show ¬ (false = true) by decide)] at H; exact H
          clear H
          have H := H1
          clear H1
          by_cases c14 : a2 = true
          · subst c14
            have H1 : (if a1 = 0 then (none) else (some (1, wrap64 (a0 - (wrap64 ((wrap64 (Int.tdiv a0 a1)) * a1))), (⟨#[]⟩ : ByteArray), 0))) = some (r1, r2, r3, r4) := by rw [if_pos rfl] at H; exact H
            clear H
            have H := H1
            clear H1
            by_cases c15 : a1 = 0
            · rw [if_pos c15] at H
              exact absurd H (by simp)
            · rw [if_neg c15] at H
              have c15b0 : (a1 == 0) = false := beq_eq_false_iff_ne.mpr c15
              have c15b1 : (a1 != 0) = true := bne_iff_ne.mpr c15
              simp only [Option.some.injEq, Prod.mk.injEq] at H
              obtain ⟨rfl, rfl, rfl, rfl⟩ := H
              have hcz16_0 : wc.cell? ⟨gb351, 0, none⟩ = some (.int .i64 0) := (blk_cell BK351.out 0).trans rfl
              have hcz16_1 : wc.cell? ⟨gb351, 1, none⟩ = some (.int .i64 0) := (blk_cell BK351.out 1).trans rfl
              have hcz16_2 : wc.cell? ⟨gb351, 2, none⟩ = some (.string (⟨#[]⟩ : ByteArray)) := (blk_cell BK351.out 2).trans rfl
              have hfz16_0 := blk_frozen BK351.out 0
              have hfz16_1 := blk_frozen BK351.out 1
              have hfz16_2 := blk_frozen BK351.out 2
              go_wp2
              refine bodyPost_ret (results_ct rfl _ _ gb351 28 #[.int .i64 1, .int .i64 (wrap64 (a0 - (wrap64 ((wrap64 (Int.tdiv a0 a1)) * a1)))), .string (⟨#[]⟩ : ByteArray)] (0, 0) _ rfl (by (with_reducible repeat (first | refine blk_drewN ?_ _ | refine blk_drew ?_ | refine blk_alloc ?_ _)); refine blk_put (cs := #[.int .i64 1, .int .i64 (wrap64 (a0 - (wrap64 ((wrap64 (Int.tdiv a0 a1)) * a1)))), .string (⟨#[]⟩ : ByteArray)]) ?_ 2 _ rfl; (with_reducible repeat (first | refine blk_drewN ?_ _ | refine blk_drew ?_ | refine blk_alloc ?_ _)); refine blk_put (cs := #[.int .i64 1, .int .i64 0, .string (⟨#[]⟩ : ByteArray)]) ?_ 1 _ rfl; (with_reducible repeat (first | refine blk_drewN ?_ _ | refine blk_drew ?_ | refine blk_alloc ?_ _)); refine blk_put (cs := #[.int .i64 0, .int .i64 0, .string (⟨#[]⟩ : ByteArray)]) ?_ 0 _ rfl; (with_reducible repeat (first | refine blk_drewN ?_ _ | refine blk_drew ?_ | refine blk_alloc ?_ _)); exact BK351.out) Tryd.underlying28 rfl (by kernel_rfl)) rfl ?_
              exact ⟨by first | rfl | (simp [errW_none, errW_some] <;> rfl) | (simp [*, errW_none, errW_some] <;> rfl), by repeat (first | (with_reducible first | exact HB.out | apply below_alloc | apply pw_below_drewN | apply below_drew1 | refine below_set ?_ GE351.out) | exact HB.out)⟩
          · replace c14 := Bool.eq_false_iff.mpr c14
            subst c14
            have H1 : (if a1 = 0 then (none) else (some (1, wrap64 (Int.tdiv a0 a1), (⟨#[]⟩ : ByteArray), 0))) = some (r1, r2, r3, r4) := by rw [if_neg (show ¬ (false = true) by decide)] at H; exact H
            clear H
            have H := H1
            clear H1
            by_cases c17 : a1 = 0
            · rw [if_pos c17] at H
              exact absurd H (by simp)
            · rw [if_neg c17] at H
              have c17b0 : (a1 == 0) = false := beq_eq_false_iff_ne.mpr c17
              have c17b1 : (a1 != 0) = true := bne_iff_ne.mpr c17
              simp only [Option.some.injEq, Prod.mk.injEq] at H
              obtain ⟨rfl, rfl, rfl, rfl⟩ := H
              have hcz18_0 : wc.cell? ⟨gb351, 0, none⟩ = some (.int .i64 0) := (blk_cell BK351.out 0).trans rfl
              have hcz18_1 : wc.cell? ⟨gb351, 1, none⟩ = some (.int .i64 0) := (blk_cell BK351.out 1).trans rfl
              have hcz18_2 : wc.cell? ⟨gb351, 2, none⟩ = some (.string (⟨#[]⟩ : ByteArray)) := (blk_cell BK351.out 2).trans rfl
              have hfz18_0 := blk_frozen BK351.out 0
              have hfz18_1 := blk_frozen BK351.out 1
              have hfz18_2 := blk_frozen BK351.out 2
              go_wp2
              refine bodyPost_ret (results_ct rfl _ _ gb351 28 #[.int .i64 1, .int .i64 (wrap64 (Int.tdiv a0 a1)), .string (⟨#[]⟩ : ByteArray)] (0, 0) _ rfl (by (with_reducible repeat (first | refine blk_drewN ?_ _ | refine blk_drew ?_ | refine blk_alloc ?_ _)); refine blk_put (cs := #[.int .i64 1, .int .i64 (wrap64 (Int.tdiv a0 a1)), .string (⟨#[]⟩ : ByteArray)]) ?_ 2 _ rfl; (with_reducible repeat (first | refine blk_drewN ?_ _ | refine blk_drew ?_ | refine blk_alloc ?_ _)); refine blk_put (cs := #[.int .i64 1, .int .i64 0, .string (⟨#[]⟩ : ByteArray)]) ?_ 1 _ rfl; (with_reducible repeat (first | refine blk_drewN ?_ _ | refine blk_drew ?_ | refine blk_alloc ?_ _)); refine blk_put (cs := #[.int .i64 0, .int .i64 0, .string (⟨#[]⟩ : ByteArray)]) ?_ 0 _ rfl; (with_reducible repeat (first | refine blk_drewN ?_ _ | refine blk_drew ?_ | refine blk_alloc ?_ _)); exact BK351.out) Tryd.underlying28 rfl (by kernel_rfl)) rfl ?_
              exact ⟨by first | rfl | (simp [errW_none, errW_some] <;> rfl) | (simp [*, errW_none, errW_some] <;> rfl), by repeat (first | (with_reducible first | exact HB.out | apply below_alloc | apply pw_below_drewN | apply below_drew1 | refine below_set ?_ GE351.out) | exact HB.out)⟩

/-! ### whirligigref01_before: function 41 -/
mutual
def whirligigref01_before.l0 : Nat → Int → Int → Int → ByteArray → Int → Int → ByteArray → Option (Bool)
  | 0, _, _, _, _, _, _, _ => none
  | k + 1, x5, x353000, x353001, x353002, x354000, x354001, x354002 => if x5 < (x353002.size : Int) then (whirligigref01_before.j1 k x5 (decide (x5 < (x354002.size : Int))) x353000 x353001 x353002 x354000 x354001 x354002) else (whirligigref01_before.j1 k x5 false x353000 x353001 x353002 x354000 x354001 x354002)
def whirligigref01_before.j1 : Nat → Int → Bool → Int → Int → ByteArray → Int → Int → ByteArray → Option (Bool)
  | 0, _, _, _, _, _, _, _, _ => none
  | k + 1, x5, x25, x353000, x353001, x353002, x354000, x354001, x354002 => if x25 = true then (if 0 ≤ x5 then (if x5 < (x353002.size : Int) then (if x5 < (x354002.size : Int) then (if (bt x353002 x5) = (bt x354002 x5) then (whirligigref01_before.l0 k (wrap64 (x5 + 1)) x353000 x353001 x353002 x354000 x354001 x354002) else (some (decide ((bt x353002 x5) < (bt x354002 x5))))) else (none)) else (none)) else (none)) else (some (decide ((x353002.size : Int) < (x354002.size : Int))))
end
def whirligigref01_before.f (k : Nat) (a0_0 : Int) (a0_1 : Int) (a0_2 : ByteArray) (a1_0 : Int) (a1_1 : Int) (a1_2 : ByteArray) : Option (Bool) := if a0_0 = 3 then (whirligigref01_before.l0 k 0 a0_0 a0_1 a0_2 a1_0 a1_1 a1_2) else (some (decide (a0_1 < a1_1)))
theorem whirligigref01_before.mono_l : ∀ k, (∀ y0 y1 y2 y3 y4 y5 y6, LeO (whirligigref01_before.l0 k y0 y1 y2 y3 y4 y5 y6) (whirligigref01_before.l0 (k + 1) y0 y1 y2 y3 y4 y5 y6)) ∧ (∀ y0 y1 y2 y3 y4 y5 y6 y7, LeO (whirligigref01_before.j1 k y0 y1 y2 y3 y4 y5 y6 y7) (whirligigref01_before.j1 (k + 1) y0 y1 y2 y3 y4 y5 y6 y7))
  | 0 => ⟨fun _ _ _ _ _ _ _ r h => by simp [whirligigref01_before.l0] at h, fun _ _ _ _ _ _ _ _ r h => by simp [whirligigref01_before.j1] at h⟩
  | k + 1 => by
    obtain ⟨ih0, ih1⟩ := whirligigref01_before.mono_l k
    refine ⟨?_, ?_⟩
    · intro y0 y1 y2 y3 y4 y5 y6
      unfold whirligigref01_before.l0
      repeat' first
      | (with_reducible exact ih0 _ _ _ _ _ _ _)
      | (with_reducible exact ih1 _ _ _ _ _ _ _ _)
      | (with_reducible exact LeO.refl _)
      | (with_reducible exact LeO.none _)
      | (with_reducible refine LeO.ite ?_ ?_)
      | (with_reducible refine LeO.bind ?_ (fun _ => ?_))
      | exact ih0 _ _ _ _ _ _ _
      | exact ih1 _ _ _ _ _ _ _ _
      | exact LeO.none _
      | refine LeO.ite ?_ ?_
      | refine LeO.bind ?_ (fun _ => ?_)
    · intro y0 y1 y2 y3 y4 y5 y6 y7
      unfold whirligigref01_before.j1
      repeat' first
      | (with_reducible exact ih0 _ _ _ _ _ _ _)
      | (with_reducible exact ih1 _ _ _ _ _ _ _ _)
      | (with_reducible exact LeO.refl _)
      | (with_reducible exact LeO.none _)
      | (with_reducible refine LeO.ite ?_ ?_)
      | (with_reducible refine LeO.bind ?_ (fun _ => ?_))
      | exact ih0 _ _ _ _ _ _ _
      | exact ih1 _ _ _ _ _ _ _ _
      | exact LeO.none _
      | refine LeO.ite ?_ ?_
      | refine LeO.bind ?_ (fun _ => ?_)
theorem whirligigref01_before.mono : ∀ a0 a1 a2 a3 a4 a5 k, LeO (whirligigref01_before.f k a0 a1 a2 a3 a4 a5) (whirligigref01_before.f (k + 1) a0 a1 a2 a3 a4 a5) := by
  intro a0 a1 a2 a3 a4 a5 k
  obtain ⟨ih0, ih1⟩ := whirligigref01_before.mono_l k
  unfold whirligigref01_before.f
  repeat' first
      | (with_reducible exact ih0 _ _ _ _ _ _ _)
      | (with_reducible exact ih1 _ _ _ _ _ _ _ _)
      | (with_reducible exact LeO.refl _)
      | (with_reducible exact LeO.none _)
      | (with_reducible refine LeO.ite ?_ ?_)
      | (with_reducible refine LeO.bind ?_ (fun _ => ?_))
      | exact ih0 _ _ _ _ _ _ _
      | exact ih1 _ _ _ _ _ _ _ _
      | exact LeO.none _
      | refine LeO.ite ?_ ?_
      | refine LeO.bind ?_ (fun _ => ?_)
set_option maxHeartbeats 8000000 in
set_option maxRecDepth 100000 in
theorem whirligigref01_before.calls (k : Nat) (a0_0 : Int) (a0_1 : Int) (a0_2 : ByteArray) (a1_0 : Int) (a1_1 : Int) (a1_2 : ByteArray) (r : Bool) (w : World) (h : whirligigref01_before.f k a0_0 a0_1 a0_2 a1_0 a1_1 a1_2 = some r) :
    Calls Tryd.prog 41 #[.agg #[.int .i64 a0_0, .int .i64 a0_1, .string a0_2], .agg #[.int .i64 a1_0, .int .i64 a1_1, .string a1_2]] w fun e w' => e = .returned (.bool r) ∧ Below w.heap.size w w' := by
  have hu28 := Tryd.underlying28
  have HB := Aside0.mk (Below.refl w.heap.size w)
  have H : (if a0_0 = 3 then (whirligigref01_before.l0 k 0 a0_0 a0_1 a0_2 a1_0 a1_1 a1_2) else (some (decide (a0_1 < a1_1)))) = some r := h
  clear h
  by_cases c3 : a0_0 = 3
  · rw [if_pos c3] at H
    have c3b0 : (a0_0 == 3) = true := beq_iff_eq.mpr c3
    have c3b1 : (a0_0 != 3) = false := bne_eq_false_iff_eq.mpr c3
    clear c3
    have H' := Aside0.mk H
    clear H
    go_enter Tryd.func41, Tryd.ntmps41
    go_wp2_with (first | ((with_reducible refine gate_dst (N := 2) rfl ?_); (try (refine gate_guard (by rfl) ?_; dsimp only)); refine box_event ?hg (N := 2) ?hd (cs := #[.int .i64 a0_0, .int .i64 a0_1, .string a0_2]) (t := 28) ?hr ?_; (case hd => rfl); (case hg => rfl); (case hr => first | (go_simp; done) | (go_simp; rfl)); intro gb352 hg w4 hbox hb; have n0_ := Aside0.mk (below_step (by repeat (first | (with_reducible first | exact HB.out | apply below_alloc | apply pw_below_drewN | apply below_drew1) | exact HB.out)) hb); have n1_ := Aside0.mk (hbox); have n2_ := Aside0.mk ((by rw [hg]; exact (below_size (by repeat (first | (with_reducible first | exact HB.out | apply below_alloc | apply pw_below_drewN | apply below_drew1) | exact HB.out))) : w.heap.size ≤ gb352)); have n3_ := Aside0.mk ((by rw [hg]; exact (below_size (by repeat (first | (with_reducible first | exact HB.out | apply below_alloc | apply pw_below_drewN | apply below_drew1) | exact HB.out))) : w.heap.size ≤ gb352)); clear HB; have HB := n0_; have BK352 := n1_; have GW352 := n2_; have GE352 := n3_; clear n0_ n1_ n2_ n3_; clear hb hbox hg) | ((with_reducible refine gate_dst (N := 3) rfl ?_); (try (refine gate_guard (by rfl) ?_; dsimp only)); refine box_event ?hg (N := 3) ?hd (cs := #[.int .i64 a1_0, .int .i64 a1_1, .string a1_2]) (t := 28) ?hr ?_; (case hd => rfl); (case hg => rfl); (case hr => first | (go_simp; done) | (go_simp; rfl)); intro gb353 hg w5 hbox hb; have n0_ := Aside0.mk (blk_below (g := gb352) (o := .cells #[.int .i64 a0_0, .int .i64 a0_1, .string a0_2] 28 (0, 0)) (by (with_reducible repeat (first | refine blk_drewN ?_ _ | refine blk_drew ?_ | refine blk_alloc ?_ _)); exact BK352.out) hb); have n1_ := Aside0.mk (below_step (by repeat (first | (with_reducible first | exact HB.out | apply below_alloc | apply pw_below_drewN | apply below_drew1 | refine below_set ?_ GE352.out) | exact HB.out)) hb); have n2_ := Aside0.mk (hbox); have n3_ := Aside0.mk ((by rw [hg]; exact (below_size (by repeat (first | (with_reducible first | exact HB.out | apply below_alloc | apply pw_below_drewN | apply below_drew1 | refine below_set ?_ GE352.out) | exact HB.out))) : w.heap.size ≤ gb353)); have n4_ := Aside0.mk ((by rw [hg]; exact (below_size (by repeat (first | (with_reducible first | exact HB.out | apply below_alloc | apply pw_below_drewN | apply below_drew1 | refine below_set ?_ GE352.out) | exact HB.out))) : w.heap.size ≤ gb353)); have n5_ := Aside0.mk ((by rw [hg]; exact Nat.ne_of_lt (blk_lt (g := gb352) (o := .cells #[.int .i64 a0_0, .int .i64 a0_1, .string a0_2] 28 (0, 0)) (by (with_reducible repeat (first | refine blk_drewN ?_ _ | refine blk_drew ?_ | refine blk_alloc ?_ _)); exact BK352.out)) : gb352 ≠ gb353)); have n6_ := Aside0.mk ((by rw [hg]; exact Nat.ne_of_gt (blk_lt (g := gb352) (o := .cells #[.int .i64 a0_0, .int .i64 a0_1, .string a0_2] 28 (0, 0)) (by (with_reducible repeat (first | refine blk_drewN ?_ _ | refine blk_drew ?_ | refine blk_alloc ?_ _)); exact BK352.out)) : gb353 ≠ gb352)); clear BK352; clear HB; have BK352 := n0_; have HB := n1_; have BK353 := n2_; have GW353 := n3_; have GE353 := n4_; have NB352_353 := n5_; have NB353_352 := n6_; clear n0_ n1_ n2_ n3_ n4_ n5_ n6_; clear hb hbox hg; have hnb6 := NB352_353.out; have hnc6 := NB353_352.out; have hcz7_0 : w5.cell? ⟨gb352, 0, none⟩ = some (.int .i64 a0_0) := (blk_cell BK352.out 0).trans rfl; have hcz7_1 : w5.cell? ⟨gb352, 1, none⟩ = some (.int .i64 a0_1) := (blk_cell BK352.out 1).trans rfl; have hcz7_2 : w5.cell? ⟨gb352, 2, none⟩ = some (.string a0_2) := (blk_cell BK352.out 2).trans rfl; have hfz7_0 := blk_frozen BK352.out 0; have hfz7_1 := blk_frozen BK352.out 1; have hfz7_2 := blk_frozen BK352.out 2))
    repeat (go_quiet (first | ((with_reducible refine gate_dst (N := 2) rfl ?_); (try (refine gate_guard (by rfl) ?_; dsimp only)); refine box_event ?hg (N := 2) ?hd (cs := #[.int .i64 a0_0, .int .i64 a0_1, .string a0_2]) (t := 28) ?hr ?_; (case hd => rfl); (case hg => rfl); (case hr => first | (go_simp; done) | (go_simp; rfl)); intro gb352 hg w4 hbox hb; have n0_ := Aside0.mk (below_step (by repeat (first | (with_reducible first | exact HB.out | apply below_alloc | apply pw_below_drewN | apply below_drew1) | exact HB.out)) hb); have n1_ := Aside0.mk (hbox); have n2_ := Aside0.mk ((by rw [hg]; exact (below_size (by repeat (first | (with_reducible first | exact HB.out | apply below_alloc | apply pw_below_drewN | apply below_drew1) | exact HB.out))) : w.heap.size ≤ gb352)); have n3_ := Aside0.mk ((by rw [hg]; exact (below_size (by repeat (first | (with_reducible first | exact HB.out | apply below_alloc | apply pw_below_drewN | apply below_drew1) | exact HB.out))) : w.heap.size ≤ gb352)); clear HB; have HB := n0_; have BK352 := n1_; have GW352 := n2_; have GE352 := n3_; clear n0_ n1_ n2_ n3_; clear hb hbox hg) | ((with_reducible refine gate_dst (N := 3) rfl ?_); (try (refine gate_guard (by rfl) ?_; dsimp only)); refine box_event ?hg (N := 3) ?hd (cs := #[.int .i64 a1_0, .int .i64 a1_1, .string a1_2]) (t := 28) ?hr ?_; (case hd => rfl); (case hg => rfl); (case hr => first | (go_simp; done) | (go_simp; rfl)); intro gb353 hg w5 hbox hb; have n0_ := Aside0.mk (blk_below (g := gb352) (o := .cells #[.int .i64 a0_0, .int .i64 a0_1, .string a0_2] 28 (0, 0)) (by (with_reducible repeat (first | refine blk_drewN ?_ _ | refine blk_drew ?_ | refine blk_alloc ?_ _)); exact BK352.out) hb); have n1_ := Aside0.mk (below_step (by repeat (first | (with_reducible first | exact HB.out | apply below_alloc | apply pw_below_drewN | apply below_drew1 | refine below_set ?_ GE352.out) | exact HB.out)) hb); have n2_ := Aside0.mk (hbox); have n3_ := Aside0.mk ((by rw [hg]; exact (below_size (by repeat (first | (with_reducible first | exact HB.out | apply below_alloc | apply pw_below_drewN | apply below_drew1 | refine below_set ?_ GE352.out) | exact HB.out))) : w.heap.size ≤ gb353)); have n4_ := Aside0.mk ((by rw [hg]; exact (below_size (by repeat (first | (with_reducible first | exact HB.out | apply below_alloc | apply pw_below_drewN | apply below_drew1 | refine below_set ?_ GE352.out) | exact HB.out))) : w.heap.size ≤ gb353)); have n5_ := Aside0.mk ((by rw [hg]; exact Nat.ne_of_lt (blk_lt (g := gb352) (o := .cells #[.int .i64 a0_0, .int .i64 a0_1, .string a0_2] 28 (0, 0)) (by (with_reducible repeat (first | refine blk_drewN ?_ _ | refine blk_drew ?_ | refine blk_alloc ?_ _)); exact BK352.out)) : gb352 ≠ gb353)); have n6_ := Aside0.mk ((by rw [hg]; exact Nat.ne_of_gt (blk_lt (g := gb352) (o := .cells #[.int .i64 a0_0, .int .i64 a0_1, .string a0_2] 28 (0, 0)) (by (with_reducible repeat (first | refine blk_drewN ?_ _ | refine blk_drew ?_ | refine blk_alloc ?_ _)); exact BK352.out)) : gb353 ≠ gb352)); clear BK352; clear HB; have BK352 := n0_; have HB := n1_; have BK353 := n2_; have GW353 := n3_; have GE353 := n4_; have NB352_353 := n5_; have NB353_352 := n6_; clear n0_ n1_ n2_ n3_ n4_ n5_ n6_; clear hb hbox hg; have hnb6 := NB352_353.out; have hnc6 := NB353_352.out; have hcz7_0 : w5.cell? ⟨gb352, 0, none⟩ = some (.int .i64 a0_0) := (blk_cell BK352.out 0).trans rfl; have hcz7_1 : w5.cell? ⟨gb352, 1, none⟩ = some (.int .i64 a0_1) := (blk_cell BK352.out 1).trans rfl; have hcz7_2 : w5.cell? ⟨gb352, 2, none⟩ = some (.string a0_2) := (blk_cell BK352.out 2).trans rfl; have hfz7_0 := blk_frozen BK352.out 0; have hfz7_1 := blk_frozen BK352.out 1; have hfz7_2 := blk_frozen BK352.out 2)); try go_wp2_with (first | ((with_reducible refine gate_dst (N := 2) rfl ?_); (try (refine gate_guard (by rfl) ?_; dsimp only)); refine box_event ?hg (N := 2) ?hd (cs := #[.int .i64 a0_0, .int .i64 a0_1, .string a0_2]) (t := 28) ?hr ?_; (case hd => rfl); (case hg => rfl); (case hr => first | (go_simp; done) | (go_simp; rfl)); intro gb352 hg w4 hbox hb; have n0_ := Aside0.mk (below_step (by repeat (first | (with_reducible first | exact HB.out | apply below_alloc | apply pw_below_drewN | apply below_drew1) | exact HB.out)) hb); have n1_ := Aside0.mk (hbox); have n2_ := Aside0.mk ((by rw [hg]; exact (below_size (by repeat (first | (with_reducible first | exact HB.out | apply below_alloc | apply pw_below_drewN | apply below_drew1) | exact HB.out))) : w.heap.size ≤ gb352)); have n3_ := Aside0.mk ((by rw [hg]; exact (below_size (by repeat (first | (with_reducible first | exact HB.out | apply below_alloc | apply pw_below_drewN | apply below_drew1) | exact HB.out))) : w.heap.size ≤ gb352)); clear HB; have HB := n0_; have BK352 := n1_; have GW352 := n2_; have GE352 := n3_; clear n0_ n1_ n2_ n3_; clear hb hbox hg) | ((with_reducible refine gate_dst (N := 3) rfl ?_); (try (refine gate_guard (by rfl) ?_; dsimp only)); refine box_event ?hg (N := 3) ?hd (cs := #[.int .i64 a1_0, .int .i64 a1_1, .string a1_2]) (t := 28) ?hr ?_; (case hd => rfl); (case hg => rfl); (case hr => first | (go_simp; done) | (go_simp; rfl)); intro gb353 hg w5 hbox hb; have n0_ := Aside0.mk (blk_below (g := gb352) (o := .cells #[.int .i64 a0_0, .int .i64 a0_1, .string a0_2] 28 (0, 0)) (by (with_reducible repeat (first | refine blk_drewN ?_ _ | refine blk_drew ?_ | refine blk_alloc ?_ _)); exact BK352.out) hb); have n1_ := Aside0.mk (below_step (by repeat (first | (with_reducible first | exact HB.out | apply below_alloc | apply pw_below_drewN | apply below_drew1 | refine below_set ?_ GE352.out) | exact HB.out)) hb); have n2_ := Aside0.mk (hbox); have n3_ := Aside0.mk ((by rw [hg]; exact (below_size (by repeat (first | (with_reducible first | exact HB.out | apply below_alloc | apply pw_below_drewN | apply below_drew1 | refine below_set ?_ GE352.out) | exact HB.out))) : w.heap.size ≤ gb353)); have n4_ := Aside0.mk ((by rw [hg]; exact (below_size (by repeat (first | (with_reducible first | exact HB.out | apply below_alloc | apply pw_below_drewN | apply below_drew1 | refine below_set ?_ GE352.out) | exact HB.out))) : w.heap.size ≤ gb353)); have n5_ := Aside0.mk ((by rw [hg]; exact Nat.ne_of_lt (blk_lt (g := gb352) (o := .cells #[.int .i64 a0_0, .int .i64 a0_1, .string a0_2] 28 (0, 0)) (by (with_reducible repeat (first | refine blk_drewN ?_ _ | refine blk_drew ?_ | refine blk_alloc ?_ _)); exact BK352.out)) : gb352 ≠ gb353)); have n6_ := Aside0.mk ((by rw [hg]; exact Nat.ne_of_gt (blk_lt (g := gb352) (o := .cells #[.int .i64 a0_0, .int .i64 a0_1, .string a0_2] 28 (0, 0)) (by (with_reducible repeat (first | refine blk_drewN ?_ _ | refine blk_drew ?_ | refine blk_alloc ?_ _)); exact BK352.out)) : gb353 ≠ gb352)); clear BK352; clear HB; have BK352 := n0_; have HB := n1_; have BK353 := n2_; have GW353 := n3_; have GE353 := n4_; have NB352_353 := n5_; have NB353_352 := n6_; clear n0_ n1_ n2_ n3_ n4_ n5_ n6_; clear hb hbox hg; have hnb6 := NB352_353.out; have hnc6 := NB353_352.out; have hcz7_0 : w5.cell? ⟨gb352, 0, none⟩ = some (.int .i64 a0_0) := (blk_cell BK352.out 0).trans rfl; have hcz7_1 : w5.cell? ⟨gb352, 1, none⟩ = some (.int .i64 a0_1) := (blk_cell BK352.out 1).trans rfl; have hcz7_2 : w5.cell? ⟨gb352, 2, none⟩ = some (.string a0_2) := (blk_cell BK352.out 2).trans rfl; have hfz7_0 := blk_frozen BK352.out 0; have hfz7_1 := blk_frozen BK352.out 1; have hfz7_2 := blk_frozen BK352.out 2)))
    go_loopg [5] k (fun kq v5 w' => ∃ (x5_1 : Int), v5 = .int .i64 x5_1 ∧ Aside0 (whirligigref01_before.l0 kq x5_1 a0_0 a0_1 a0_2 a1_0 a1_1 a1_2 = some r) ∧ Aside0 (kq ≤ k) ∧ Aside0 (w'.heap[gb352]? = some (.cells #[.int .i64 a0_0, .int .i64 a0_1, .string a0_2] 28 (0, 0))) ∧ Aside0 (w'.heap[gb353]? = some (.cells #[.int .i64 a1_0, .int .i64 a1_1, .string a1_2] 28 (0, 0))) ∧ Aside0 (Below w.heap.size w w'))
    case atStart => exact ⟨(0), (by first | rfl | (simp; done) | (simp [*]; done)), H', ⟨Nat.le_refl _⟩, ⟨by (with_reducible repeat (first | refine blk_drewN ?_ _ | refine blk_drew ?_ | refine blk_alloc ?_ _)); exact BK352.out⟩, ⟨by (with_reducible repeat (first | refine blk_drewN ?_ _ | refine blk_drew ?_ | refine blk_alloc ?_ _)); exact BK353.out⟩, ⟨by repeat (first | (with_reducible first | exact HB.out | apply below_alloc | apply pw_below_drewN | apply below_drew1 | refine below_set ?_ GE352.out | refine below_set ?_ GE353.out) | exact HB.out)⟩⟩
    case round =>
      clear H'
      try clear p2
      try clear c3
      try clear c3b0
      try clear c3b1
      try clear c4
      try clear c6
      try clear hcz7_0
      try clear hcz7_1
      try clear hcz7_2
      try clear hfz7_0
      try clear hfz7_1
      try clear hfz7_2
      obtain ⟨x5_1, rfl, HA, HK1, BK352, BK353, HB⟩ := hrel
      cases gk with
      | zero => exact absurd HA.out (by simp [whirligigref01_before.l0])
      | succ k1 =>
        have H := HA.out
        clear HA
        simp only [whirligigref01_before.l0] at H
        have HC8 := Aside0.mk H
        clear H
        go_upto_region 4 with (fail)
        repeat (go_quiet (fail); go_upto_region 4 with (fail))
        go_cut [25] (fun v25 wc => ∃ (kq : Nat) (x25_7 : Bool), v25 = .bool x25_7 ∧ Aside0 (whirligigref01_before.j1 kq x5_1 x25_7 a0_0 a0_1 a0_2 a1_0 a1_1 a1_2 = some r) ∧ Aside0 (kq ≤ k1) ∧ Aside0 (wc.heap[gb352]? = some (.cells #[.int .i64 a0_0, .int .i64 a0_1, .string a0_2] 28 (0, 0))) ∧ Aside0 (wc.heap[gb353]? = some (.cells #[.int .i64 a1_0, .int .i64 a1_1, .string a1_2] 28 (0, 0))) ∧ Aside0 (Below w.heap.size w wc))
        case first =>
          have H := HC8.out
          clear HC8
          by_cases c9 : x5_1 < (a0_2.size : Int)
          · rw [if_pos c9] at H
            have c9b0 : decide (x5_1 < (a0_2.size : Int)) = true := decide_eq_true c9
            clear c9
            (first | rw [c9b0] | (simp only [i64_w, i32_w]; rw [c9b0]) | skip)
            have H' := Aside0.mk H
            clear H
            have hnb10 := NB352_353.out
            have hnc10 := NB353_352.out
            have hcz11_0 : wr.cell? ⟨gb352, 0, none⟩ = some (.int .i64 a0_0) := (blk_cell BK352.out 0).trans rfl
            have hcz11_1 : wr.cell? ⟨gb352, 1, none⟩ = some (.int .i64 a0_1) := (blk_cell BK352.out 1).trans rfl
            have hcz11_2 : wr.cell? ⟨gb352, 2, none⟩ = some (.string a0_2) := (blk_cell BK352.out 2).trans rfl
            have hfz11_0 := blk_frozen BK352.out 0
            have hfz11_1 := blk_frozen BK352.out 1
            have hfz11_2 := blk_frozen BK352.out 2
            have hcz12_0 : wr.cell? ⟨gb353, 0, none⟩ = some (.int .i64 a1_0) := (blk_cell BK353.out 0).trans rfl
            have hcz12_1 : wr.cell? ⟨gb353, 1, none⟩ = some (.int .i64 a1_1) := (blk_cell BK353.out 1).trans rfl
            have hcz12_2 : wr.cell? ⟨gb353, 2, none⟩ = some (.string a1_2) := (blk_cell BK353.out 2).trans rfl
            have hfz12_0 := blk_frozen BK353.out 0
            have hfz12_1 := blk_frozen BK353.out 1
            have hfz12_2 := blk_frozen BK353.out 2
            go_wp2
            repeat (go_quiet (fail); try go_wp2)
            go_meet
            case rel => exact ⟨_, (decide (x5_1 < (a1_2.size : Int))), (by first | rfl | (simp; done) | (simp [*]; done)), H', ⟨by have := HK1.out; first | omega | exact Nat.le_refl _⟩, ⟨by (with_reducible repeat (first | refine blk_drewN ?_ _ | refine blk_drew ?_ | refine blk_alloc ?_ _)); exact BK352.out⟩, ⟨by (with_reducible repeat (first | refine blk_drewN ?_ _ | refine blk_drew ?_ | refine blk_alloc ?_ _)); exact BK353.out⟩, ⟨by repeat (first | (with_reducible first | exact HB.out | apply below_alloc | apply pw_below_drewN | apply below_drew1 | refine below_set ?_ GE352.out | refine below_set ?_ GE353.out) | exact HB.out)⟩⟩
          · rw [if_neg c9] at H
            have c9b0 : decide (x5_1 < (a0_2.size : Int)) = false := decide_eq_false c9
            clear c9
            (first | rw [c9b0] | (simp only [i64_w, i32_w]; rw [c9b0]) | skip)
            have H' := Aside0.mk H
            clear H
            have hnb13 := NB352_353.out
            have hnc13 := NB353_352.out
            have hcz14_0 : wr.cell? ⟨gb352, 0, none⟩ = some (.int .i64 a0_0) := (blk_cell BK352.out 0).trans rfl
            have hcz14_1 : wr.cell? ⟨gb352, 1, none⟩ = some (.int .i64 a0_1) := (blk_cell BK352.out 1).trans rfl
            have hcz14_2 : wr.cell? ⟨gb352, 2, none⟩ = some (.string a0_2) := (blk_cell BK352.out 2).trans rfl
            have hfz14_0 := blk_frozen BK352.out 0
            have hfz14_1 := blk_frozen BK352.out 1
            have hfz14_2 := blk_frozen BK352.out 2
            go_wp2
            repeat (go_quiet (fail); try go_wp2)
            go_meet
            case rel => exact ⟨_, (false), (by first | rfl | (simp; done) | (simp [*]; done)), H', ⟨by have := HK1.out; first | omega | exact Nat.le_refl _⟩, ⟨by (with_reducible repeat (first | refine blk_drewN ?_ _ | refine blk_drew ?_ | refine blk_alloc ?_ _)); exact BK352.out⟩, ⟨by (with_reducible repeat (first | refine blk_drewN ?_ _ | refine blk_drew ?_ | refine blk_alloc ?_ _)); exact BK353.out⟩, ⟨by repeat (first | (with_reducible first | exact HB.out | apply below_alloc | apply pw_below_drewN | apply below_drew1 | refine below_set ?_ GE352.out | refine below_set ?_ GE353.out) | exact HB.out)⟩⟩
        case rest =>
          clear HC8
          try clear c1
          try clear p2
          try clear c3
          try clear c3b0
          try clear c3b1
          try clear c4
          try clear c6
          try clear c9
          try clear c9b0
          try clear c10
          try clear c13
          try clear hcz11_0
          try clear hcz11_1
          try clear hcz11_2
          try clear hcz12_0
          try clear hcz12_1
          try clear hcz12_2
          try clear hcz14_0
          try clear hcz14_1
          try clear hcz14_2
          try clear hcz7_0
          try clear hcz7_1
          try clear hcz7_2
          try clear hfz11_0
          try clear hfz11_1
          try clear hfz11_2
          try clear hfz12_0
          try clear hfz12_1
          try clear hfz12_2
          try clear hfz14_0
          try clear hfz14_1
          try clear hfz14_2
          try clear hfz7_0
          try clear hfz7_1
          try clear hfz7_2
          try clear p2
          obtain ⟨kq, x25_7, rfl, HA, HJ7, BK352, BK353, HB⟩ := hcut
          cases kq with
          | zero => exact absurd HA.out (by simp [whirligigref01_before.j1])
          | succ kj7 =>
            have H := HA.out
            clear HA
            simp only [whirligigref01_before.j1] at H
            by_cases c15 : x25_7 = true
            · subst c15
              have H1 : (if 0 ≤ x5_1 then (if x5_1 < (a0_2.size : Int) then (if x5_1 < (a1_2.size : Int) then (if (bt a0_2 x5_1) = (bt a1_2 x5_1) then (whirligigref01_before.l0 kj7 (wrap64 (x5_1 + 1)) a0_0 a0_1 a0_2 a1_0 a1_1 a1_2) else (some (decide ((bt a0_2 x5_1) < (bt a1_2 x5_1))))) else (none)) else (none)) else (none)) = some r := by rw [if_pos rfl] at H; exact H
              clear H
              have H := H1
              clear H1
              by_cases c16 : 0 ≤ x5_1
              · rw [if_pos c16] at H
                have c16b0 : decide (0 ≤ x5_1) = true := decide_eq_true c16
                clear c16
                by_cases c17 : x5_1 < (a0_2.size : Int)
                · rw [if_pos c17] at H
                  have c17b0 : decide (x5_1 < (a0_2.size : Int)) = true := decide_eq_true c17
                  clear c17
                  by_cases c19 : x5_1 < (a1_2.size : Int)
                  · rw [if_pos c19] at H
                    have c19b0 : decide (x5_1 < (a1_2.size : Int)) = true := decide_eq_true c19
                    clear c19
                    by_cases c21 : (bt a0_2 x5_1) = (bt a1_2 x5_1)
                    · rw [if_pos c21] at H
                      have c21b0 : ((bt a0_2 x5_1) == (bt a1_2 x5_1)) = true := beq_iff_eq.mpr c21
                      have c21b1 : ((bt a0_2 x5_1) != (bt a1_2 x5_1)) = false := bne_eq_false_iff_eq.mpr c21
                      clear c21
                      have H' := Aside0.mk H
                      clear H
                      have hnb22 := NB352_353.out
                      have hnc22 := NB353_352.out
                      have hcz23_0 : wc.cell? ⟨gb352, 0, none⟩ = some (.int .i64 a0_0) := (blk_cell BK352.out 0).trans rfl
                      have hcz23_1 : wc.cell? ⟨gb352, 1, none⟩ = some (.int .i64 a0_1) := (blk_cell BK352.out 1).trans rfl
                      have hcz23_2 : wc.cell? ⟨gb352, 2, none⟩ = some (.string a0_2) := (blk_cell BK352.out 2).trans rfl
                      have hfz23_0 := blk_frozen BK352.out 0
                      have hfz23_1 := blk_frozen BK352.out 1
                      have hfz23_2 := blk_frozen BK352.out 2
                      have p18 : 0 ≤ (x5_1 : Int) := of_decide_eq_true (by first | (with_reducible assumption) | assumption)
                      have q18 : x5_1 < (a0_2.size : Int) := of_decide_eq_true (by first | (with_reducible assumption) | assumption)
                      have hx18 := bt_at a0_2 x5_1
                      replace p18 := eq_true p18
                      replace q18 := eq_true q18
                      have hcz24_0 : wc.cell? ⟨gb353, 0, none⟩ = some (.int .i64 a1_0) := (blk_cell BK353.out 0).trans rfl
                      have hcz24_1 : wc.cell? ⟨gb353, 1, none⟩ = some (.int .i64 a1_1) := (blk_cell BK353.out 1).trans rfl
                      have hcz24_2 : wc.cell? ⟨gb353, 2, none⟩ = some (.string a1_2) := (blk_cell BK353.out 2).trans rfl
                      have hfz24_0 := blk_frozen BK353.out 0
                      have hfz24_1 := blk_frozen BK353.out 1
                      have hfz24_2 := blk_frozen BK353.out 2
                      have p20 : 0 ≤ (x5_1 : Int) := of_decide_eq_true (by first | (with_reducible assumption) | assumption)
                      have q20 : x5_1 < (a1_2.size : Int) := of_decide_eq_true (by first | (with_reducible assumption) | assumption)
                      have hx20 := bt_at a1_2 x5_1
                      replace p20 := eq_true p20
                      replace q20 := eq_true q20
                      go_wp2
                      repeat (go_quiet (fail); try go_wp2)
                      go_roundg kj7
                      case measure => have := HK1.out; have := HJ7.out; omega
                      case rel => exact ⟨(wrap64 (x5_1 + 1)), (by first | rfl | (simp; done) | (simp [*]; done)), H', ⟨by have := HK1.out; have := HJ7.out; omega⟩, ⟨by (with_reducible repeat (first | refine blk_drewN ?_ _ | refine blk_drew ?_ | refine blk_alloc ?_ _)); exact BK352.out⟩, ⟨by (with_reducible repeat (first | refine blk_drewN ?_ _ | refine blk_drew ?_ | refine blk_alloc ?_ _)); exact BK353.out⟩, ⟨by repeat (first | (with_reducible first | exact HB.out | apply below_alloc | apply pw_below_drewN | apply below_drew1 | refine below_set ?_ GE352.out | refine below_set ?_ GE353.out) | exact HB.out)⟩⟩
                    · rw [if_neg c21] at H
                      have c21b0 : ((bt a0_2 x5_1) == (bt a1_2 x5_1)) = false := beq_eq_false_iff_ne.mpr c21
                      have c21b1 : ((bt a0_2 x5_1) != (bt a1_2 x5_1)) = true := bne_iff_ne.mpr c21
                      obtain rfl := Option.some.inj H
                      have hnb27 := NB352_353.out
                      have hnc27 := NB353_352.out
                      have hcz28_0 : wc.cell? ⟨gb352, 0, none⟩ = some (.int .i64 a0_0) := (blk_cell BK352.out 0).trans rfl
                      have hcz28_1 : wc.cell? ⟨gb352, 1, none⟩ = some (.int .i64 a0_1) := (blk_cell BK352.out 1).trans rfl
                      have hcz28_2 : wc.cell? ⟨gb352, 2, none⟩ = some (.string a0_2) := (blk_cell BK352.out 2).trans rfl
                      have hfz28_0 := blk_frozen BK352.out 0
                      have hfz28_1 := blk_frozen BK352.out 1
                      have hfz28_2 := blk_frozen BK352.out 2
                      have p18 : 0 ≤ (x5_1 : Int) := of_decide_eq_true (by first | (with_reducible assumption) | assumption)
                      have q18 : x5_1 < (a0_2.size : Int) := of_decide_eq_true (by first | (with_reducible assumption) | assumption)
                      have hx18 := bt_at a0_2 x5_1
                      replace p18 := eq_true p18
                      replace q18 := eq_true q18
                      have hcz29_0 : wc.cell? ⟨gb353, 0, none⟩ = some (.int .i64 a1_0) := (blk_cell BK353.out 0).trans rfl
                      have hcz29_1 : wc.cell? ⟨gb353, 1, none⟩ = some (.int .i64 a1_1) := (blk_cell BK353.out 1).trans rfl
                      have hcz29_2 : wc.cell? ⟨gb353, 2, none⟩ = some (.string a1_2) := (blk_cell BK353.out 2).trans rfl
                      have hfz29_0 := blk_frozen BK353.out 0
                      have hfz29_1 := blk_frozen BK353.out 1
                      have hfz29_2 := blk_frozen BK353.out 2
                      have p20 : 0 ≤ (x5_1 : Int) := of_decide_eq_true (by first | (with_reducible assumption) | assumption)
                      have q20 : x5_1 < (a1_2.size : Int) := of_decide_eq_true (by first | (with_reducible assumption) | assumption)
                      have hx20 := bt_at a1_2 x5_1
                      replace p20 := eq_true p20
                      replace q20 := eq_true q20
                      have p25 : 0 ≤ (x5_1 : Int) := of_decide_eq_true (by first | (with_reducible assumption) | assumption)
                      have q25 : x5_1 < (a0_2.size : Int) := of_decide_eq_true (by first | (with_reducible assumption) | assumption)
                      have hx25 := bt_at a0_2 x5_1
                      replace p25 := eq_true p25
                      replace q25 := eq_true q25
                      have p26 : 0 ≤ (x5_1 : Int) := of_decide_eq_true (by first | (with_reducible assumption) | assumption)
                      have q26 : x5_1 < (a1_2.size : Int) := of_decide_eq_true (by first | (with_reducible assumption) | assumption)
                      have hx26 := bt_at a1_2 x5_1
                      replace p26 := eq_true p26
                      replace q26 := eq_true q26
                      go_wp2
                      repeat (go_quiet (fail); try go_wp2)
                      go_ret
                      exact ⟨by first | rfl | (simp [errW_none, errW_some] <;> rfl) | (simp [*, errW_none, errW_some] <;> rfl), by repeat (first | (with_reducible first | exact HB.out | apply below_alloc | apply pw_below_drewN | apply below_drew1 | refine below_set ?_ GE352.out | refine below_set ?_ GE353.out) | exact HB.out)⟩
                  · rw [if_neg c19] at H
                    exact absurd H (by simp)
                · rw [if_neg c17] at H
                  exact absurd H (by simp)
              · rw [if_neg c16] at H
                exact absurd H (by simp)
            · replace c15 := Bool.eq_false_iff.mpr c15
              subst c15
              have H1 : (some (decide ((a0_2.size : Int) < (a1_2.size : Int)))) = some r := by rw [if_neg (show ¬ (false = true) by decide)] at H; exact H
              clear H
              have H := H1
              clear H1
              obtain rfl := Option.some.inj H
              have hnb30 := NB352_353.out
              have hnc30 := NB353_352.out
              have hcz31_0 : wc.cell? ⟨gb352, 0, none⟩ = some (.int .i64 a0_0) := (blk_cell BK352.out 0).trans rfl
              have hcz31_1 : wc.cell? ⟨gb352, 1, none⟩ = some (.int .i64 a0_1) := (blk_cell BK352.out 1).trans rfl
              have hcz31_2 : wc.cell? ⟨gb352, 2, none⟩ = some (.string a0_2) := (blk_cell BK352.out 2).trans rfl
              have hfz31_0 := blk_frozen BK352.out 0
              have hfz31_1 := blk_frozen BK352.out 1
              have hfz31_2 := blk_frozen BK352.out 2
              have hcz32_0 : wc.cell? ⟨gb353, 0, none⟩ = some (.int .i64 a1_0) := (blk_cell BK353.out 0).trans rfl
              have hcz32_1 : wc.cell? ⟨gb353, 1, none⟩ = some (.int .i64 a1_1) := (blk_cell BK353.out 1).trans rfl
              have hcz32_2 : wc.cell? ⟨gb353, 2, none⟩ = some (.string a1_2) := (blk_cell BK353.out 2).trans rfl
              have hfz32_0 := blk_frozen BK353.out 0
              have hfz32_1 := blk_frozen BK353.out 1
              have hfz32_2 := blk_frozen BK353.out 2
              go_wp2
              repeat (go_quiet (fail); try go_wp2)
              go_ret
              exact ⟨by first | rfl | (simp [errW_none, errW_some] <;> rfl) | (simp [*, errW_none, errW_some] <;> rfl), by repeat (first | (with_reducible first | exact HB.out | apply below_alloc | apply pw_below_drewN | apply below_drew1 | refine below_set ?_ GE352.out | refine below_set ?_ GE353.out) | exact HB.out)⟩
  · rw [if_neg c3] at H
    have c3b0 : (a0_0 == 3) = false := beq_eq_false_iff_ne.mpr c3
    have c3b1 : (a0_0 != 3) = true := bne_iff_ne.mpr c3
    obtain rfl := Option.some.inj H
    go_enter Tryd.func41, Tryd.ntmps41
    go_wp2_with (first | ((with_reducible refine gate_dst (N := 2) rfl ?_); (try (refine gate_guard (by rfl) ?_; dsimp only)); refine box_event ?hg (N := 2) ?hd (cs := #[.int .i64 a0_0, .int .i64 a0_1, .string a0_2]) (t := 28) ?hr ?_; (case hd => rfl); (case hg => rfl); (case hr => first | (go_simp; done) | (go_simp; rfl)); intro gb352 hg w33 hbox hb; have n0_ := Aside0.mk (below_step (by repeat (first | (with_reducible first | exact HB.out | apply below_alloc | apply pw_below_drewN | apply below_drew1) | exact HB.out)) hb); have n1_ := Aside0.mk (hbox); have n2_ := Aside0.mk ((by rw [hg]; exact (below_size (by repeat (first | (with_reducible first | exact HB.out | apply below_alloc | apply pw_below_drewN | apply below_drew1) | exact HB.out))) : w.heap.size ≤ gb352)); have n3_ := Aside0.mk ((by rw [hg]; exact (below_size (by repeat (first | (with_reducible first | exact HB.out | apply below_alloc | apply pw_below_drewN | apply below_drew1) | exact HB.out))) : w.heap.size ≤ gb352)); clear HB; have HB := n0_; have BK352 := n1_; have GW352 := n2_; have GE352 := n3_; clear n0_ n1_ n2_ n3_; clear hb hbox hg) | ((with_reducible refine gate_dst (N := 3) rfl ?_); (try (refine gate_guard (by rfl) ?_; dsimp only)); refine box_event ?hg (N := 3) ?hd (cs := #[.int .i64 a1_0, .int .i64 a1_1, .string a1_2]) (t := 28) ?hr ?_; (case hd => rfl); (case hg => rfl); (case hr => first | (go_simp; done) | (go_simp; rfl)); intro gb353 hg w34 hbox hb; have n0_ := Aside0.mk (blk_below (g := gb352) (o := .cells #[.int .i64 a0_0, .int .i64 a0_1, .string a0_2] 28 (0, 0)) (by (with_reducible repeat (first | refine blk_drewN ?_ _ | refine blk_drew ?_ | refine blk_alloc ?_ _)); exact BK352.out) hb); have n1_ := Aside0.mk (below_step (by repeat (first | (with_reducible first | exact HB.out | apply below_alloc | apply pw_below_drewN | apply below_drew1 | refine below_set ?_ GE352.out) | exact HB.out)) hb); have n2_ := Aside0.mk (hbox); have n3_ := Aside0.mk ((by rw [hg]; exact (below_size (by repeat (first | (with_reducible first | exact HB.out | apply below_alloc | apply pw_below_drewN | apply below_drew1 | refine below_set ?_ GE352.out) | exact HB.out))) : w.heap.size ≤ gb353)); have n4_ := Aside0.mk ((by rw [hg]; exact (below_size (by repeat (first | (with_reducible first | exact HB.out | apply below_alloc | apply pw_below_drewN | apply below_drew1 | refine below_set ?_ GE352.out) | exact HB.out))) : w.heap.size ≤ gb353)); have n5_ := Aside0.mk ((by rw [hg]; exact Nat.ne_of_lt (blk_lt (g := gb352) (o := .cells #[.int .i64 a0_0, .int .i64 a0_1, .string a0_2] 28 (0, 0)) (by (with_reducible repeat (first | refine blk_drewN ?_ _ | refine blk_drew ?_ | refine blk_alloc ?_ _)); exact BK352.out)) : gb352 ≠ gb353)); have n6_ := Aside0.mk ((by rw [hg]; exact Nat.ne_of_gt (blk_lt (g := gb352) (o := .cells #[.int .i64 a0_0, .int .i64 a0_1, .string a0_2] 28 (0, 0)) (by (with_reducible repeat (first | refine blk_drewN ?_ _ | refine blk_drew ?_ | refine blk_alloc ?_ _)); exact BK352.out)) : gb353 ≠ gb352)); clear BK352; clear HB; have BK352 := n0_; have HB := n1_; have BK353 := n2_; have GW353 := n3_; have GE353 := n4_; have NB352_353 := n5_; have NB353_352 := n6_; clear n0_ n1_ n2_ n3_ n4_ n5_ n6_; clear hb hbox hg; have hnb35 := NB352_353.out; have hnc35 := NB353_352.out; have hcz36_0 : w34.cell? ⟨gb352, 0, none⟩ = some (.int .i64 a0_0) := (blk_cell BK352.out 0).trans rfl; have hcz36_1 : w34.cell? ⟨gb352, 1, none⟩ = some (.int .i64 a0_1) := (blk_cell BK352.out 1).trans rfl; have hcz36_2 : w34.cell? ⟨gb352, 2, none⟩ = some (.string a0_2) := (blk_cell BK352.out 2).trans rfl; have hfz36_0 := blk_frozen BK352.out 0; have hfz36_1 := blk_frozen BK352.out 1; have hfz36_2 := blk_frozen BK352.out 2; have hcz37_0 : w34.cell? ⟨gb353, 0, none⟩ = some (.int .i64 a1_0) := (blk_cell BK353.out 0).trans rfl; have hcz37_1 : w34.cell? ⟨gb353, 1, none⟩ = some (.int .i64 a1_1) := (blk_cell BK353.out 1).trans rfl; have hcz37_2 : w34.cell? ⟨gb353, 2, none⟩ = some (.string a1_2) := (blk_cell BK353.out 2).trans rfl; have hfz37_0 := blk_frozen BK353.out 0; have hfz37_1 := blk_frozen BK353.out 1; have hfz37_2 := blk_frozen BK353.out 2))
    repeat (go_quiet (first | ((with_reducible refine gate_dst (N := 2) rfl ?_); (try (refine gate_guard (by rfl) ?_; dsimp only)); refine box_event ?hg (N := 2) ?hd (cs := #[.int .i64 a0_0, .int .i64 a0_1, .string a0_2]) (t := 28) ?hr ?_; (case hd => rfl); (case hg => rfl); (case hr => first | (go_simp; done) | (go_simp; rfl)); intro gb352 hg w33 hbox hb; have n0_ := Aside0.mk (below_step (by repeat (first | (with_reducible first | exact HB.out | apply below_alloc | apply pw_below_drewN | apply below_drew1) | exact HB.out)) hb); have n1_ := Aside0.mk (hbox); have n2_ := Aside0.mk ((by rw [hg]; exact (below_size (by repeat (first | (with_reducible first | exact HB.out | apply below_alloc | apply pw_below_drewN | apply below_drew1) | exact HB.out))) : w.heap.size ≤ gb352)); have n3_ := Aside0.mk ((by rw [hg]; exact (below_size (by repeat (first | (with_reducible first | exact HB.out | apply below_alloc | apply pw_below_drewN | apply below_drew1) | exact HB.out))) : w.heap.size ≤ gb352)); clear HB; have HB := n0_; have BK352 := n1_; have GW352 := n2_; have GE352 := n3_; clear n0_ n1_ n2_ n3_; clear hb hbox hg) | ((with_reducible refine gate_dst (N := 3) rfl ?_); (try (refine gate_guard (by rfl) ?_; dsimp only)); refine box_event ?hg (N := 3) ?hd (cs := #[.int .i64 a1_0, .int .i64 a1_1, .string a1_2]) (t := 28) ?hr ?_; (case hd => rfl); (case hg => rfl); (case hr => first | (go_simp; done) | (go_simp; rfl)); intro gb353 hg w34 hbox hb; have n0_ := Aside0.mk (blk_below (g := gb352) (o := .cells #[.int .i64 a0_0, .int .i64 a0_1, .string a0_2] 28 (0, 0)) (by (with_reducible repeat (first | refine blk_drewN ?_ _ | refine blk_drew ?_ | refine blk_alloc ?_ _)); exact BK352.out) hb); have n1_ := Aside0.mk (below_step (by repeat (first | (with_reducible first | exact HB.out | apply below_alloc | apply pw_below_drewN | apply below_drew1 | refine below_set ?_ GE352.out) | exact HB.out)) hb); have n2_ := Aside0.mk (hbox); have n3_ := Aside0.mk ((by rw [hg]; exact (below_size (by repeat (first | (with_reducible first | exact HB.out | apply below_alloc | apply pw_below_drewN | apply below_drew1 | refine below_set ?_ GE352.out) | exact HB.out))) : w.heap.size ≤ gb353)); have n4_ := Aside0.mk ((by rw [hg]; exact (below_size (by repeat (first | (with_reducible first | exact HB.out | apply below_alloc | apply pw_below_drewN | apply below_drew1 | refine below_set ?_ GE352.out) | exact HB.out))) : w.heap.size ≤ gb353)); have n5_ := Aside0.mk ((by rw [hg]; exact Nat.ne_of_lt (blk_lt (g := gb352) (o := .cells #[.int .i64 a0_0, .int .i64 a0_1, .string a0_2] 28 (0, 0)) (by (with_reducible repeat (first | refine blk_drewN ?_ _ | refine blk_drew ?_ | refine blk_alloc ?_ _)); exact BK352.out)) : gb352 ≠ gb353)); have n6_ := Aside0.mk ((by rw [hg]; exact Nat.ne_of_gt (blk_lt (g := gb352) (o := .cells #[.int .i64 a0_0, .int .i64 a0_1, .string a0_2] 28 (0, 0)) (by (with_reducible repeat (first | refine blk_drewN ?_ _ | refine blk_drew ?_ | refine blk_alloc ?_ _)); exact BK352.out)) : gb353 ≠ gb352)); clear BK352; clear HB; have BK352 := n0_; have HB := n1_; have BK353 := n2_; have GW353 := n3_; have GE353 := n4_; have NB352_353 := n5_; have NB353_352 := n6_; clear n0_ n1_ n2_ n3_ n4_ n5_ n6_; clear hb hbox hg; have hnb35 := NB352_353.out; have hnc35 := NB353_352.out; have hcz36_0 : w34.cell? ⟨gb352, 0, none⟩ = some (.int .i64 a0_0) := (blk_cell BK352.out 0).trans rfl; have hcz36_1 : w34.cell? ⟨gb352, 1, none⟩ = some (.int .i64 a0_1) := (blk_cell BK352.out 1).trans rfl; have hcz36_2 : w34.cell? ⟨gb352, 2, none⟩ = some (.string a0_2) := (blk_cell BK352.out 2).trans rfl; have hfz36_0 := blk_frozen BK352.out 0; have hfz36_1 := blk_frozen BK352.out 1; have hfz36_2 := blk_frozen BK352.out 2; have hcz37_0 : w34.cell? ⟨gb353, 0, none⟩ = some (.int .i64 a1_0) := (blk_cell BK353.out 0).trans rfl; have hcz37_1 : w34.cell? ⟨gb353, 1, none⟩ = some (.int .i64 a1_1) := (blk_cell BK353.out 1).trans rfl; have hcz37_2 : w34.cell? ⟨gb353, 2, none⟩ = some (.string a1_2) := (blk_cell BK353.out 2).trans rfl; have hfz37_0 := blk_frozen BK353.out 0; have hfz37_1 := blk_frozen BK353.out 1; have hfz37_2 := blk_frozen BK353.out 2)); try go_wp2_with (first | ((with_reducible refine gate_dst (N := 2) rfl ?_); (try (refine gate_guard (by rfl) ?_; dsimp only)); refine box_event ?hg (N := 2) ?hd (cs := #[.int .i64 a0_0, .int .i64 a0_1, .string a0_2]) (t := 28) ?hr ?_; (case hd => rfl); (case hg => rfl); (case hr => first | (go_simp; done) | (go_simp; rfl)); intro gb352 hg w33 hbox hb; have n0_ := Aside0.mk (below_step (by repeat (first | (with_reducible first | exact HB.out | apply below_alloc | apply pw_below_drewN | apply below_drew1) | exact HB.out)) hb); have n1_ := Aside0.mk (hbox); have n2_ := Aside0.mk ((by rw [hg]; exact (below_size (by repeat (first | (with_reducible first | exact HB.out | apply below_alloc | apply pw_below_drewN | apply below_drew1) | exact HB.out))) : w.heap.size ≤ gb352)); have n3_ := Aside0.mk ((by rw [hg]; exact (below_size (by repeat (first | (with_reducible first | exact HB.out | apply below_alloc | apply pw_below_drewN | apply below_drew1) | exact HB.out))) : w.heap.size ≤ gb352)); clear HB; have HB := n0_; have BK352 := n1_; have GW352 := n2_; have GE352 := n3_; clear n0_ n1_ n2_ n3_; clear hb hbox hg) | ((with_reducible refine gate_dst (N := 3) rfl ?_); (try (refine gate_guard (by rfl) ?_; dsimp only)); refine box_event ?hg (N := 3) ?hd (cs := #[.int .i64 a1_0, .int .i64 a1_1, .string a1_2]) (t := 28) ?hr ?_; (case hd => rfl); (case hg => rfl); (case hr => first | (go_simp; done) | (go_simp; rfl)); intro gb353 hg w34 hbox hb; have n0_ := Aside0.mk (blk_below (g := gb352) (o := .cells #[.int .i64 a0_0, .int .i64 a0_1, .string a0_2] 28 (0, 0)) (by (with_reducible repeat (first | refine blk_drewN ?_ _ | refine blk_drew ?_ | refine blk_alloc ?_ _)); exact BK352.out) hb); have n1_ := Aside0.mk (below_step (by repeat (first | (with_reducible first | exact HB.out | apply below_alloc | apply pw_below_drewN | apply below_drew1 | refine below_set ?_ GE352.out) | exact HB.out)) hb); have n2_ := Aside0.mk (hbox); have n3_ := Aside0.mk ((by rw [hg]; exact (below_size (by repeat (first | (with_reducible first | exact HB.out | apply below_alloc | apply pw_below_drewN | apply below_drew1 | refine below_set ?_ GE352.out) | exact HB.out))) : w.heap.size ≤ gb353)); have n4_ := Aside0.mk ((by rw [hg]; exact (below_size (by repeat (first | (with_reducible first | exact HB.out | apply below_alloc | apply pw_below_drewN | apply below_drew1 | refine below_set ?_ GE352.out) | exact HB.out))) : w.heap.size ≤ gb353)); have n5_ := Aside0.mk ((by rw [hg]; exact Nat.ne_of_lt (blk_lt (g := gb352) (o := .cells #[.int .i64 a0_0, .int .i64 a0_1, .string a0_2] 28 (0, 0)) (by (with_reducible repeat (first | refine blk_drewN ?_ _ | refine blk_drew ?_ | refine blk_alloc ?_ _)); exact BK352.out)) : gb352 ≠ gb353)); have n6_ := Aside0.mk ((by rw [hg]; exact Nat.ne_of_gt (blk_lt (g := gb352) (o := .cells #[.int .i64 a0_0, .int .i64 a0_1, .string a0_2] 28 (0, 0)) (by (with_reducible repeat (first | refine blk_drewN ?_ _ | refine blk_drew ?_ | refine blk_alloc ?_ _)); exact BK352.out)) : gb353 ≠ gb352)); clear BK352; clear HB; have BK352 := n0_; have HB := n1_; have BK353 := n2_; have GW353 := n3_; have GE353 := n4_; have NB352_353 := n5_; have NB353_352 := n6_; clear n0_ n1_ n2_ n3_ n4_ n5_ n6_; clear hb hbox hg; have hnb35 := NB352_353.out; have hnc35 := NB353_352.out; have hcz36_0 : w34.cell? ⟨gb352, 0, none⟩ = some (.int .i64 a0_0) := (blk_cell BK352.out 0).trans rfl; have hcz36_1 : w34.cell? ⟨gb352, 1, none⟩ = some (.int .i64 a0_1) := (blk_cell BK352.out 1).trans rfl; have hcz36_2 : w34.cell? ⟨gb352, 2, none⟩ = some (.string a0_2) := (blk_cell BK352.out 2).trans rfl; have hfz36_0 := blk_frozen BK352.out 0; have hfz36_1 := blk_frozen BK352.out 1; have hfz36_2 := blk_frozen BK352.out 2; have hcz37_0 : w34.cell? ⟨gb353, 0, none⟩ = some (.int .i64 a1_0) := (blk_cell BK353.out 0).trans rfl; have hcz37_1 : w34.cell? ⟨gb353, 1, none⟩ = some (.int .i64 a1_1) := (blk_cell BK353.out 1).trans rfl; have hcz37_2 : w34.cell? ⟨gb353, 2, none⟩ = some (.string a1_2) := (blk_cell BK353.out 2).trans rfl; have hfz37_0 := blk_frozen BK353.out 0; have hfz37_1 := blk_frozen BK353.out 1; have hfz37_2 := blk_frozen BK353.out 2)))
    go_ret
    exact ⟨by first | rfl | (simp [errW_none, errW_some] <;> rfl) | (simp [*, errW_none, errW_some] <;> rfl), by repeat (first | (with_reducible first | exact HB.out | apply below_alloc | apply pw_below_drewN | apply below_drew1 | refine below_set ?_ GE352.out | refine below_set ?_ GE353.out) | exact HB.out)⟩

end Go.Proofs.YtbbdlcmcndhhkaaDoor.MValReckons
