/- Walks of functions of package val and of its reference, written by a program (wip/myprint.sh), put right by hand where they fell. -/
import Derived.Test.YtbbdlcmcndhhkaaDoorMValReckonsx0
import Derived.Test.YtbbdlcmcndhhkaaDoorMValReckonsx2
import Derived.Test.YtbbdlcmcndhhkaaDoorMValReckonsx9
import Derived.Test.YtbbdlcmcndhhkaaDoorMValReckonsx10
import Derived.Test.YtbbdlcmcndhhkaaDoorMValReckonsx11
namespace Go.Proofs.YtbbdlcmcndhhkaaDoor.MValReckons
open Go.RowKit Go.Proofs.YtbbdlcmcndhhkaaDoorW.PrintWords Go.Proofs.YtbbdlcmcndhhkaaDoorW.PrintLast Go.Proofs.YtbbdlcmcndhhkaaDoorW.PrintMore
attribute [local go_sem] max2_int min2_int max_two min_two max_three min_three max_four min_four   -- for this text's walks alone
set_option linter.unusedVariables false
set_option linter.unusedSimpArgs false

attribute [local go_sem high] eqA28
/-! ### whirligigref01_Reckon: function 23 -/
def whirligigref01_Reckon.j0 : Nat → Int → Int → Bool → Int → Int → ByteArray → Int → Int → ByteArray → Option (Int × Int × ByteArray × Int)
  | 0, _, _, _, _, _, _, _, _, _ => none
  | k + 1, x0, x8, x33, x355000, x355001, x355002, x356000, x356001, x356002 => if x33 = true then ((whirligigref01_divide.f k x355001 x356001 (x0 == 5)).bind fun bt369 => (some (bt369.1, bt369.2.1, bt369.2.2.1, bt369.2.2.2))) else (if x8 = 7 then ((whirligigref01_less.f x355001 x356001).bind fun bt373 => (some (bt373.1, bt373.2.1, bt373.2.2.1, bt373.2.2.2))) else (if x8 = 8 then ((whirligigref01_before.f k x355000 x355001 x355002 x356000 x356001 x356002).bind fun t377 => ((whirligigref01_truth.f t377).bind fun bt378 => (some (bt378.1, bt378.2.1, bt378.2.2.1, bt378.2.2.2)))) else (if x8 = 9 then ((whirligigref01_before.f k x356000 x356001 x356002 x355000 x355001 x355002).bind fun t382 => ((whirligigref01_truth.f (!t382)).bind fun bt383 => (some (bt383.1, bt383.2.1, bt383.2.2.1, bt383.2.2.2)))) else (if x8 = 10 then ((whirligigref01_before.f k x356000 x356001 x356002 x355000 x355001 x355002).bind fun t387 => ((whirligigref01_truth.f t387).bind fun bt388 => (some (bt388.1, bt388.2.1, bt388.2.2.1, bt388.2.2.2)))) else (if x8 = 11 then ((whirligigref01_before.f k x355000 x355001 x355002 x356000 x356001 x356002).bind fun t392 => ((whirligigref01_truth.f (!t392)).bind fun bt393 => (some (bt393.1, bt393.2.1, bt393.2.2.1, bt393.2.2.2)))) else (if x8 = 12 then ((whirligigref01_truth.f (x355000 == x356000 && (x355001 == x356001 && (x355002.toList == x356002.toList)))).bind fun bt397 => (some (bt397.1, bt397.2.1, bt397.2.2.1, bt397.2.2.2))) else (if x8 = 13 then ((whirligigref01_truth.f (!(x355000 == x356000) || (!(x355001 == x356001) || (!(x355002.toList == x356002.toList))))).bind fun bt401 => (some (bt401.1, bt401.2.1, bt401.2.2.1, bt401.2.2.2))) else (if x8 = 14 then (if x355001 = 1 then ((whirligigref01_truth.f (x356001 == 1)).bind fun bt405 => (some (bt405.1, bt405.2.1, bt405.2.2.1, bt405.2.2.2))) else ((whirligigref01_truth.f false).bind fun bt409 => (some (bt409.1, bt409.2.1, bt409.2.2.1, bt409.2.2.2)))) else (if x8 = 15 then (if x355001 = 1 then ((whirligigref01_truth.f true).bind fun bt413 => (some (bt413.1, bt413.2.1, bt413.2.2.1, bt413.2.2.2))) else ((whirligigref01_truth.f (x356001 == 1)).bind fun bt417 => (some (bt417.1, bt417.2.1, bt417.2.2.1, bt417.2.2.2)))) else (if x355000 = 1 then ((whirligigref01_sum.f x355001 x356001).bind fun bt421 => (some (bt421.1, bt421.2.1, bt421.2.2.1, bt421.2.2.2))) else (if (wrap64 ((x355002.size : Int) + (x356002.size : Int))) > 48 then (some (0, 0, (⟨#[]⟩ : ByteArray), 15)) else (if x355002.size + x356002.size ≤ 9223372036854775807 then (some (3, 0, x355002 ++ x356002, 0)) else (none)))))))))))))
def whirligigref01_Reckon.f (k : Nat) (a0 : Int) (a1_0 : Int) (a1_1 : Int) (a1_2 : ByteArray) (a2_0 : Int) (a2_1 : Int) (a2_2 : ByteArray) : Option (Int × Int × ByteArray × Int) := if a0 = 1 then ((whirligigref01_truth.f (a1_1 == 0)).bind fun bt357 => (some (bt357.1, bt357.2.1, bt357.2.2.1, bt357.2.2.2))) else (if a0 = 2 then ((whirligigref01_less.f 0 a1_1).bind fun bt361 => (some (bt361.1, bt361.2.1, bt361.2.2.1, bt361.2.2.2))) else (if a0 = 3 then ((whirligigref01_times.f k a1_1 a2_1).bind fun bt365 => (some (bt365.1, bt365.2.1, bt365.2.2.1, bt365.2.2.2))) else (if a0 = 4 then (whirligigref01_Reckon.j0 k a0 a0 (a0 == 4) a1_0 a1_1 a1_2 a2_0 a2_1 a2_2) else (whirligigref01_Reckon.j0 k a0 a0 (a0 == 5) a1_0 a1_1 a1_2 a2_0 a2_1 a2_2))))
theorem whirligigref01_Reckon.mono_l : ∀ k, (∀ y0 y1 y2 y3 y4 y5 y6 y7 y8, LeO (whirligigref01_Reckon.j0 k y0 y1 y2 y3 y4 y5 y6 y7 y8) (whirligigref01_Reckon.j0 (k + 1) y0 y1 y2 y3 y4 y5 y6 y7 y8))
  | 0 => fun _ _ _ _ _ _ _ _ _ r h => by simp [whirligigref01_Reckon.j0] at h
  | k + 1 => by
    have ih0 := whirligigref01_Reckon.mono_l k
    · intro y0 y1 y2 y3 y4 y5 y6 y7 y8
      unfold whirligigref01_Reckon.j0
      repeat' first
      | (with_reducible exact ih0 _ _ _ _ _ _ _ _ _)
      | (with_reducible exact whirligigref01_before.mono _ _ _ _ _ _ _)
      | (with_reducible exact whirligigref01_divide.mono _ _ _ _)
      | (with_reducible exact whirligigref01_times.mono _ _ _)
      | (with_reducible exact LeO.refl _)
      | (with_reducible exact LeO.none _)
      | (with_reducible refine LeO.ite ?_ ?_)
      | (with_reducible refine LeO.bind ?_ (fun _ => ?_))
      | exact ih0 _ _ _ _ _ _ _ _ _
      | exact whirligigref01_before.mono _ _ _ _ _ _ _
      | exact whirligigref01_divide.mono _ _ _ _
      | exact whirligigref01_times.mono _ _ _
      | exact LeO.none _
      | refine LeO.ite ?_ ?_
      | refine LeO.bind ?_ (fun _ => ?_)
theorem whirligigref01_Reckon.mono : ∀ a0 a1 a2 a3 a4 a5 a6 k, LeO (whirligigref01_Reckon.f k a0 a1 a2 a3 a4 a5 a6) (whirligigref01_Reckon.f (k + 1) a0 a1 a2 a3 a4 a5 a6) := by
  intro a0 a1 a2 a3 a4 a5 a6 k
  have ih0 := whirligigref01_Reckon.mono_l k
  unfold whirligigref01_Reckon.f
  repeat' first
      | (with_reducible exact ih0 _ _ _ _ _ _ _ _ _)
      | (with_reducible exact whirligigref01_before.mono _ _ _ _ _ _ _)
      | (with_reducible exact whirligigref01_divide.mono _ _ _ _)
      | (with_reducible exact whirligigref01_times.mono _ _ _)
      | (with_reducible exact LeO.refl _)
      | (with_reducible exact LeO.none _)
      | (with_reducible refine LeO.ite ?_ ?_)
      | (with_reducible refine LeO.bind ?_ (fun _ => ?_))
      | exact ih0 _ _ _ _ _ _ _ _ _
      | exact whirligigref01_before.mono _ _ _ _ _ _ _
      | exact whirligigref01_divide.mono _ _ _ _
      | exact whirligigref01_times.mono _ _ _
      | exact LeO.none _
      | refine LeO.ite ?_ ?_
      | refine LeO.bind ?_ (fun _ => ?_)
set_option maxHeartbeats 8000000 in
set_option maxRecDepth 100000 in
theorem whirligigref01_Reckon.calls (k : Nat) (a0 : Int) (a1_0 : Int) (a1_1 : Int) (a1_2 : ByteArray) (a2_0 : Int) (a2_1 : Int) (a2_2 : ByteArray) (r1 : Int) (r2 : Int) (r3 : ByteArray) (r4 : Int) (w : World) (h : whirligigref01_Reckon.f k a0 a1_0 a1_1 a1_2 a2_0 a2_1 a2_2 = some (r1, r2, r3, r4)) :
    Calls Tryd.prog 23 #[.int .i64 a0, .agg #[.int .i64 a1_0, .int .i64 a1_1, .string a1_2], .agg #[.int .i64 a2_0, .int .i64 a2_1, .string a2_2]] w fun e w' => e = .returned (.tuple #[.agg #[.int .i64 r1, .int .i64 r2, .string r3], .int .i64 r4]) ∧ Below w.heap.size w w' := by
  have hu28 := Tryd.underlying28
  have HB := Aside0.mk (Below.refl w.heap.size w)
  have H : (if a0 = 1 then ((whirligigref01_truth.f (a1_1 == 0)).bind fun bt357 => (some (bt357.1, bt357.2.1, bt357.2.2.1, bt357.2.2.2))) else (if a0 = 2 then ((whirligigref01_less.f 0 a1_1).bind fun bt361 => (some (bt361.1, bt361.2.1, bt361.2.2.1, bt361.2.2.2))) else (if a0 = 3 then ((whirligigref01_times.f k a1_1 a2_1).bind fun bt365 => (some (bt365.1, bt365.2.1, bt365.2.2.1, bt365.2.2.2))) else (if a0 = 4 then (whirligigref01_Reckon.j0 k a0 a0 (a0 == 4) a1_0 a1_1 a1_2 a2_0 a2_1 a2_2) else (whirligigref01_Reckon.j0 k a0 a0 (a0 == 5) a1_0 a1_1 a1_2 a2_0 a2_1 a2_2))))) = some (r1, r2, r3, r4) := h
  clear h
  by_cases c4 : a0 = 1
  · rw [if_pos c4] at H
    have c4b0 : (a0 == 1) = true := beq_iff_eq.mpr c4
    have c4b1 : (a0 != 1) = false := bne_eq_false_iff_eq.mpr c4
    clear c4
    replace H := Option.bind_eq_some_iff.mp H
    obtain ⟨⟨t357, t358, t359, t360⟩, A50, H⟩ := H
    replace H : (some (t357, t358, t359, t360)) = some (r1, r2, r3, r4) := H
    have A5 := Aside0.mk A50
    clear A50
    simp only [Option.some.injEq, Prod.mk.injEq] at H
    obtain ⟨rfl, rfl, rfl, rfl⟩ := H
    go_enter Tryd.func23, Tryd.ntmps23
    go_wp2_with (first | ((with_reducible refine gate_dst (N := 4) rfl ?_); refine box_event ?hg (N := 4) ?hd (cs := #[.int .i64 a1_0, .int .i64 a1_1, .string a1_2]) (t := 28) ?hr ?_; (case hd => rfl); (case hg => rfl); (case hr => first | (go_simp; done) | (go_simp; rfl)); intro gb354 hg w6 hbox hb; have n0_ := Aside0.mk (below_step (by repeat (first | (with_reducible first | exact HB.out | apply below_alloc | apply pw_below_drewN | apply below_drew1) | exact HB.out)) hb); have n1_ := Aside0.mk (hbox); have n2_ := Aside0.mk ((by rw [hg]; exact (below_size (by repeat (first | (with_reducible first | exact HB.out | apply below_alloc | apply pw_below_drewN | apply below_drew1) | exact HB.out))) : w.heap.size ≤ gb354)); have n3_ := Aside0.mk ((by rw [hg]; exact (below_size (by repeat (first | (with_reducible first | exact HB.out | apply below_alloc | apply pw_below_drewN | apply below_drew1) | exact HB.out))) : w.heap.size ≤ gb354)); clear HB; have HB := n0_; have BK354 := n1_; have GW354 := n2_; have GE354 := n3_; clear n0_ n1_ n2_ n3_; clear hb hbox hg) | ((with_reducible refine gate_dst (N := 5) rfl ?_); refine box_event ?hg (N := 5) ?hd (cs := #[.int .i64 a2_0, .int .i64 a2_1, .string a2_2]) (t := 28) ?hr ?_; (case hd => rfl); (case hg => rfl); (case hr => first | (go_simp; done) | (go_simp; rfl)); intro gb355 hg w7 hbox hb; have n0_ := Aside0.mk (blk_below (g := gb354) (o := .cells #[.int .i64 a1_0, .int .i64 a1_1, .string a1_2] 28 (0, 0)) (by (with_reducible repeat (first | refine blk_drewN ?_ _ | refine blk_drew ?_ | refine blk_alloc ?_ _)); exact BK354.out) hb); have n1_ := Aside0.mk (below_step (by repeat (first | (with_reducible first | exact HB.out | apply below_alloc | apply pw_below_drewN | apply below_drew1 | refine below_set ?_ GE354.out) | exact HB.out)) hb); have n2_ := Aside0.mk (hbox); have n3_ := Aside0.mk ((by rw [hg]; exact (below_size (by repeat (first | (with_reducible first | exact HB.out | apply below_alloc | apply pw_below_drewN | apply below_drew1 | refine below_set ?_ GE354.out) | exact HB.out))) : w.heap.size ≤ gb355)); have n4_ := Aside0.mk ((by rw [hg]; exact (below_size (by repeat (first | (with_reducible first | exact HB.out | apply below_alloc | apply pw_below_drewN | apply below_drew1 | refine below_set ?_ GE354.out) | exact HB.out))) : w.heap.size ≤ gb355)); have n5_ := Aside0.mk ((by rw [hg]; exact Nat.ne_of_lt (blk_lt (g := gb354) (o := .cells #[.int .i64 a1_0, .int .i64 a1_1, .string a1_2] 28 (0, 0)) (by (with_reducible repeat (first | refine blk_drewN ?_ _ | refine blk_drew ?_ | refine blk_alloc ?_ _)); exact BK354.out)) : gb354 ≠ gb355)); have n6_ := Aside0.mk ((by rw [hg]; exact Nat.ne_of_gt (blk_lt (g := gb354) (o := .cells #[.int .i64 a1_0, .int .i64 a1_1, .string a1_2] 28 (0, 0)) (by (with_reducible repeat (first | refine blk_drewN ?_ _ | refine blk_drew ?_ | refine blk_alloc ?_ _)); exact BK354.out)) : gb355 ≠ gb354)); clear BK354; clear HB; have BK354 := n0_; have HB := n1_; have BK355 := n2_; have GW355 := n3_; have GE355 := n4_; have NB354_355 := n5_; have NB355_354 := n6_; clear n0_ n1_ n2_ n3_ n4_ n5_ n6_; clear hb hbox hg) | ((with_reducible refine gate_dst (N := 6) rfl ?_); refine box_event ?hg (N := 6) ?hd (cs := #[.int .i64 0, .int .i64 0, .string (⟨#[]⟩ : ByteArray)]) (t := 28) ?hr ?_; (case hd => rfl); (case hg => rfl); (case hr => first | (go_simp; done) | (go_simp; rfl)); intro gb356 hg w8 hbox hb; have n0_ := Aside0.mk (blk_below (g := gb354) (o := .cells #[.int .i64 a1_0, .int .i64 a1_1, .string a1_2] 28 (0, 0)) (by (with_reducible repeat (first | refine blk_drewN ?_ _ | refine blk_drew ?_ | refine blk_alloc ?_ _)); exact BK354.out) hb); have n1_ := Aside0.mk (blk_below (g := gb355) (o := .cells #[.int .i64 a2_0, .int .i64 a2_1, .string a2_2] 28 (0, 0)) (by (with_reducible repeat (first | refine blk_drewN ?_ _ | refine blk_drew ?_ | refine blk_alloc ?_ _)); exact BK355.out) hb); have n2_ := Aside0.mk (below_step (by repeat (first | (with_reducible first | exact HB.out | apply below_alloc | apply pw_below_drewN | apply below_drew1 | refine below_set ?_ GE354.out | refine below_set ?_ GE355.out) | exact HB.out)) hb); have n3_ := Aside0.mk (hbox); have n4_ := Aside0.mk ((by rw [hg]; exact (below_size (by repeat (first | (with_reducible first | exact HB.out | apply below_alloc | apply pw_below_drewN | apply below_drew1 | refine below_set ?_ GE354.out | refine below_set ?_ GE355.out) | exact HB.out))) : w.heap.size ≤ gb356)); have n5_ := Aside0.mk ((by rw [hg]; exact (below_size (by repeat (first | (with_reducible first | exact HB.out | apply below_alloc | apply pw_below_drewN | apply below_drew1 | refine below_set ?_ GE354.out | refine below_set ?_ GE355.out) | exact HB.out))) : w.heap.size ≤ gb356)); have n6_ := Aside0.mk ((by rw [hg]; exact Nat.ne_of_lt (blk_lt (g := gb354) (o := .cells #[.int .i64 a1_0, .int .i64 a1_1, .string a1_2] 28 (0, 0)) (by (with_reducible repeat (first | refine blk_drewN ?_ _ | refine blk_drew ?_ | refine blk_alloc ?_ _)); exact BK354.out)) : gb354 ≠ gb356)); have n7_ := Aside0.mk ((by rw [hg]; exact Nat.ne_of_gt (blk_lt (g := gb354) (o := .cells #[.int .i64 a1_0, .int .i64 a1_1, .string a1_2] 28 (0, 0)) (by (with_reducible repeat (first | refine blk_drewN ?_ _ | refine blk_drew ?_ | refine blk_alloc ?_ _)); exact BK354.out)) : gb356 ≠ gb354)); have n8_ := Aside0.mk ((by rw [hg]; exact Nat.ne_of_lt (blk_lt (g := gb355) (o := .cells #[.int .i64 a2_0, .int .i64 a2_1, .string a2_2] 28 (0, 0)) (by (with_reducible repeat (first | refine blk_drewN ?_ _ | refine blk_drew ?_ | refine blk_alloc ?_ _)); exact BK355.out)) : gb355 ≠ gb356)); have n9_ := Aside0.mk ((by rw [hg]; exact Nat.ne_of_gt (blk_lt (g := gb355) (o := .cells #[.int .i64 a2_0, .int .i64 a2_1, .string a2_2] 28 (0, 0)) (by (with_reducible repeat (first | refine blk_drewN ?_ _ | refine blk_drew ?_ | refine blk_alloc ?_ _)); exact BK355.out)) : gb356 ≠ gb355)); clear BK354; clear BK355; clear HB; have BK354 := n0_; have BK355 := n1_; have HB := n2_; have BK356 := n3_; have GW356 := n4_; have GE356 := n5_; have NB354_356 := n6_; have NB356_354 := n7_; have NB355_356 := n8_; have NB356_355 := n9_; clear n0_ n1_ n2_ n3_ n4_ n5_ n6_ n7_ n8_ n9_; clear hb hbox hg; have hnb9 := NB354_355.out; have hnc9 := NB355_354.out; have hnb10 := NB354_356.out; have hnc10 := NB356_354.out; have hcz11_0 : w8.cell? ⟨gb354, 0, none⟩ = some (.int .i64 a1_0) := (blk_cell BK354.out 0).trans rfl; have hcz11_1 : w8.cell? ⟨gb354, 1, none⟩ = some (.int .i64 a1_1) := (blk_cell BK354.out 1).trans rfl; have hcz11_2 : w8.cell? ⟨gb354, 2, none⟩ = some (.string a1_2) := (blk_cell BK354.out 2).trans rfl; have hfz11_0 := blk_frozen BK354.out 0; have hfz11_1 := blk_frozen BK354.out 1; have hfz11_2 := blk_frozen BK354.out 2) | ((with_reducible refine gate_callee (f := 37) rfl ?_); refine goesL_ (some 14) rfl rfl Tryd.func37 (by kernel_rfl) rfl #[.bool (a1_1 == 0)] rfl (by (try simp only [List.map_toArray, List.map_cons, List.map_nil]); first | done | rfl | (simp only [List.length_drop, List.length_take]; rfl)) ?_; (with_reducible refine (whirligigref01_truth.calls (a1_1 == 0) t357 t358 t359 t360 _ A5.out).mono ?_); rintro e w12 ⟨rfl, hb⟩; refine ⟨_, rfl, ?_⟩; have n0_ := Aside0.mk (blk_below (g := gb354) (o := .cells #[.int .i64 a1_0, .int .i64 a1_1, .string a1_2] 28 (0, 0)) (by (with_reducible repeat (first | refine blk_drewN ?_ _ | refine blk_drew ?_ | refine blk_alloc ?_ _)); exact BK354.out) hb); have n1_ := Aside0.mk (blk_below (g := gb355) (o := .cells #[.int .i64 a2_0, .int .i64 a2_1, .string a2_2] 28 (0, 0)) (by (with_reducible repeat (first | refine blk_drewN ?_ _ | refine blk_drew ?_ | refine blk_alloc ?_ _)); exact BK355.out) hb); have n2_ := Aside0.mk (blk_below (g := gb356) (o := .cells #[.int .i64 0, .int .i64 0, .string (⟨#[]⟩ : ByteArray)] 28 (0, 0)) (by (with_reducible repeat (first | refine blk_drewN ?_ _ | refine blk_drew ?_ | refine blk_alloc ?_ _)); exact BK356.out) hb); have n3_ := Aside0.mk (below_step (by repeat (first | (with_reducible first | exact HB.out | apply below_alloc | apply pw_below_drewN | apply below_drew1 | refine below_set ?_ GE354.out | refine below_set ?_ GE355.out | refine below_set ?_ GE356.out) | exact HB.out)) hb); clear BK354; clear BK355; clear BK356; clear HB; have BK354 := n0_; have BK355 := n1_; have BK356 := n2_; have HB := n3_; clear n0_ n1_ n2_ n3_; (try clear hb); (try clear hb2); (try clear hk); (try clear hi); have hnb13 := NB356_355.out; have hnc13 := NB355_356.out; have hcz14_0 : w12.cell? ⟨gb356, 0, none⟩ = some (.int .i64 0) := (blk_cell BK356.out 0).trans rfl; have hcz14_1 : w12.cell? ⟨gb356, 1, none⟩ = some (.int .i64 0) := (blk_cell BK356.out 1).trans rfl; have hcz14_2 : w12.cell? ⟨gb356, 2, none⟩ = some (.string (⟨#[]⟩ : ByteArray)) := (blk_cell BK356.out 2).trans rfl; have hfz14_0 := blk_frozen BK356.out 0; have hfz14_1 := blk_frozen BK356.out 1; have hfz14_2 := blk_frozen BK356.out 2))
    refine bodyPost_ret (results_ct rfl _ _ gb356 28 #[.int .i64 t357, .int .i64 t358, .string t359] (0, 0) _ rfl (by (with_reducible repeat (first | refine blk_drewN ?_ _ | refine blk_drew ?_ | refine blk_alloc ?_ _)); refine blk_put (cs := #[.int .i64 t357, .int .i64 t358, .string (⟨#[]⟩ : ByteArray)]) ?_ 2 _ rfl; (with_reducible repeat (first | refine blk_drewN ?_ _ | refine blk_drew ?_ | refine blk_alloc ?_ _)); refine blk_put (cs := #[.int .i64 t357, .int .i64 0, .string (⟨#[]⟩ : ByteArray)]) ?_ 1 _ rfl; (with_reducible repeat (first | refine blk_drewN ?_ _ | refine blk_drew ?_ | refine blk_alloc ?_ _)); refine blk_put (cs := #[.int .i64 0, .int .i64 0, .string (⟨#[]⟩ : ByteArray)]) ?_ 0 _ rfl; (with_reducible repeat (first | refine blk_drewN ?_ _ | refine blk_drew ?_ | refine blk_alloc ?_ _)); exact BK356.out) Tryd.underlying28 rfl (by kernel_rfl)) rfl ?_
    exact ⟨by first | rfl | (simp [errW_none, errW_some] <;> rfl) | (simp [*, errW_none, errW_some] <;> rfl), by repeat (first | (with_reducible first | exact HB.out | apply below_alloc | apply pw_below_drewN | apply below_drew1 | refine below_set ?_ GE354.out | refine below_set ?_ GE355.out | refine below_set ?_ GE356.out) | exact HB.out)⟩
  · rw [if_neg c4] at H
    have c4b0 : (a0 == 1) = false := beq_eq_false_iff_ne.mpr c4
    have c4b1 : (a0 != 1) = true := bne_iff_ne.mpr c4
    by_cases c15 : a0 = 2
    · rw [if_pos c15] at H
      have c15b0 : (a0 == 2) = true := beq_iff_eq.mpr c15
      have c15b1 : (a0 != 2) = false := bne_eq_false_iff_eq.mpr c15
      clear c15
      replace H := Option.bind_eq_some_iff.mp H
      obtain ⟨⟨t361, t362, t363, t364⟩, A160, H⟩ := H
      replace H : (some (t361, t362, t363, t364)) = some (r1, r2, r3, r4) := H
      have A16 := Aside0.mk A160
      clear A160
      simp only [Option.some.injEq, Prod.mk.injEq] at H
      obtain ⟨rfl, rfl, rfl, rfl⟩ := H
      go_enter Tryd.func23, Tryd.ntmps23
      go_wp2_with (first | ((with_reducible refine gate_dst (N := 4) rfl ?_); refine box_event ?hg (N := 4) ?hd (cs := #[.int .i64 a1_0, .int .i64 a1_1, .string a1_2]) (t := 28) ?hr ?_; (case hd => rfl); (case hg => rfl); (case hr => first | (go_simp; done) | (go_simp; rfl)); intro gb354 hg w17 hbox hb; have n0_ := Aside0.mk (below_step (by repeat (first | (with_reducible first | exact HB.out | apply below_alloc | apply pw_below_drewN | apply below_drew1) | exact HB.out)) hb); have n1_ := Aside0.mk (hbox); have n2_ := Aside0.mk ((by rw [hg]; exact (below_size (by repeat (first | (with_reducible first | exact HB.out | apply below_alloc | apply pw_below_drewN | apply below_drew1) | exact HB.out))) : w.heap.size ≤ gb354)); have n3_ := Aside0.mk ((by rw [hg]; exact (below_size (by repeat (first | (with_reducible first | exact HB.out | apply below_alloc | apply pw_below_drewN | apply below_drew1) | exact HB.out))) : w.heap.size ≤ gb354)); clear HB; have HB := n0_; have BK354 := n1_; have GW354 := n2_; have GE354 := n3_; clear n0_ n1_ n2_ n3_; clear hb hbox hg) | ((with_reducible refine gate_dst (N := 5) rfl ?_); refine box_event ?hg (N := 5) ?hd (cs := #[.int .i64 a2_0, .int .i64 a2_1, .string a2_2]) (t := 28) ?hr ?_; (case hd => rfl); (case hg => rfl); (case hr => first | (go_simp; done) | (go_simp; rfl)); intro gb355 hg w18 hbox hb; have n0_ := Aside0.mk (blk_below (g := gb354) (o := .cells #[.int .i64 a1_0, .int .i64 a1_1, .string a1_2] 28 (0, 0)) (by (with_reducible repeat (first | refine blk_drewN ?_ _ | refine blk_drew ?_ | refine blk_alloc ?_ _)); exact BK354.out) hb); have n1_ := Aside0.mk (below_step (by repeat (first | (with_reducible first | exact HB.out | apply below_alloc | apply pw_below_drewN | apply below_drew1 | refine below_set ?_ GE354.out) | exact HB.out)) hb); have n2_ := Aside0.mk (hbox); have n3_ := Aside0.mk ((by rw [hg]; exact (below_size (by repeat (first | (with_reducible first | exact HB.out | apply below_alloc | apply pw_below_drewN | apply below_drew1 | refine below_set ?_ GE354.out) | exact HB.out))) : w.heap.size ≤ gb355)); have n4_ := Aside0.mk ((by rw [hg]; exact (below_size (by repeat (first | (with_reducible first | exact HB.out | apply below_alloc | apply pw_below_drewN | apply below_drew1 | refine below_set ?_ GE354.out) | exact HB.out))) : w.heap.size ≤ gb355)); have n5_ := Aside0.mk ((by rw [hg]; exact Nat.ne_of_lt (blk_lt (g := gb354) (o := .cells #[.int .i64 a1_0, .int .i64 a1_1, .string a1_2] 28 (0, 0)) (by (with_reducible repeat (first | refine blk_drewN ?_ _ | refine blk_drew ?_ | refine blk_alloc ?_ _)); exact BK354.out)) : gb354 ≠ gb355)); have n6_ := Aside0.mk ((by rw [hg]; exact Nat.ne_of_gt (blk_lt (g := gb354) (o := .cells #[.int .i64 a1_0, .int .i64 a1_1, .string a1_2] 28 (0, 0)) (by (with_reducible repeat (first | refine blk_drewN ?_ _ | refine blk_drew ?_ | refine blk_alloc ?_ _)); exact BK354.out)) : gb355 ≠ gb354)); clear BK354; clear HB; have BK354 := n0_; have HB := n1_; have BK355 := n2_; have GW355 := n3_; have GE355 := n4_; have NB354_355 := n5_; have NB355_354 := n6_; clear n0_ n1_ n2_ n3_ n4_ n5_ n6_; clear hb hbox hg) | ((with_reducible refine gate_dst (N := 6) rfl ?_); refine box_event ?hg (N := 6) ?hd (cs := #[.int .i64 0, .int .i64 0, .string (⟨#[]⟩ : ByteArray)]) (t := 28) ?hr ?_; (case hd => rfl); (case hg => rfl); (case hr => first | (go_simp; done) | (go_simp; rfl)); intro gb356 hg w19 hbox hb; have n0_ := Aside0.mk (blk_below (g := gb354) (o := .cells #[.int .i64 a1_0, .int .i64 a1_1, .string a1_2] 28 (0, 0)) (by (with_reducible repeat (first | refine blk_drewN ?_ _ | refine blk_drew ?_ | refine blk_alloc ?_ _)); exact BK354.out) hb); have n1_ := Aside0.mk (blk_below (g := gb355) (o := .cells #[.int .i64 a2_0, .int .i64 a2_1, .string a2_2] 28 (0, 0)) (by (with_reducible repeat (first | refine blk_drewN ?_ _ | refine blk_drew ?_ | refine blk_alloc ?_ _)); exact BK355.out) hb); have n2_ := Aside0.mk (below_step (by repeat (first | (with_reducible first | exact HB.out | apply below_alloc | apply pw_below_drewN | apply below_drew1 | refine below_set ?_ GE354.out | refine below_set ?_ GE355.out) | exact HB.out)) hb); have n3_ := Aside0.mk (hbox); have n4_ := Aside0.mk ((by rw [hg]; exact (below_size (by repeat (first | (with_reducible first | exact HB.out | apply below_alloc | apply pw_below_drewN | apply below_drew1 | refine below_set ?_ GE354.out | refine below_set ?_ GE355.out) | exact HB.out))) : w.heap.size ≤ gb356)); have n5_ := Aside0.mk ((by rw [hg]; exact (below_size (by repeat (first | (with_reducible first | exact HB.out | apply below_alloc | apply pw_below_drewN | apply below_drew1 | refine below_set ?_ GE354.out | refine below_set ?_ GE355.out) | exact HB.out))) : w.heap.size ≤ gb356)); have n6_ := Aside0.mk ((by rw [hg]; exact Nat.ne_of_lt (blk_lt (g := gb354) (o := .cells #[.int .i64 a1_0, .int .i64 a1_1, .string a1_2] 28 (0, 0)) (by (with_reducible repeat (first | refine blk_drewN ?_ _ | refine blk_drew ?_ | refine blk_alloc ?_ _)); exact BK354.out)) : gb354 ≠ gb356)); have n7_ := Aside0.mk ((by rw [hg]; exact Nat.ne_of_gt (blk_lt (g := gb354) (o := .cells #[.int .i64 a1_0, .int .i64 a1_1, .string a1_2] 28 (0, 0)) (by (with_reducible repeat (first | refine blk_drewN ?_ _ | refine blk_drew ?_ | refine blk_alloc ?_ _)); exact BK354.out)) : gb356 ≠ gb354)); have n8_ := Aside0.mk ((by rw [hg]; exact Nat.ne_of_lt (blk_lt (g := gb355) (o := .cells #[.int .i64 a2_0, .int .i64 a2_1, .string a2_2] 28 (0, 0)) (by (with_reducible repeat (first | refine blk_drewN ?_ _ | refine blk_drew ?_ | refine blk_alloc ?_ _)); exact BK355.out)) : gb355 ≠ gb356)); have n9_ := Aside0.mk ((by rw [hg]; exact Nat.ne_of_gt (blk_lt (g := gb355) (o := .cells #[.int .i64 a2_0, .int .i64 a2_1, .string a2_2] 28 (0, 0)) (by (with_reducible repeat (first | refine blk_drewN ?_ _ | refine blk_drew ?_ | refine blk_alloc ?_ _)); exact BK355.out)) : gb356 ≠ gb355)); clear BK354; clear BK355; clear HB; have BK354 := n0_; have BK355 := n1_; have HB := n2_; have BK356 := n3_; have GW356 := n4_; have GE356 := n5_; have NB354_356 := n6_; have NB356_354 := n7_; have NB355_356 := n8_; have NB356_355 := n9_; clear n0_ n1_ n2_ n3_ n4_ n5_ n6_ n7_ n8_ n9_; clear hb hbox hg; have hnb20 := NB354_355.out; have hnc20 := NB355_354.out; have hnb21 := NB354_356.out; have hnc21 := NB356_354.out; have hcz22_0 : w19.cell? ⟨gb354, 0, none⟩ = some (.int .i64 a1_0) := (blk_cell BK354.out 0).trans rfl; have hcz22_1 : w19.cell? ⟨gb354, 1, none⟩ = some (.int .i64 a1_1) := (blk_cell BK354.out 1).trans rfl; have hcz22_2 : w19.cell? ⟨gb354, 2, none⟩ = some (.string a1_2) := (blk_cell BK354.out 2).trans rfl; have hfz22_0 := blk_frozen BK354.out 0; have hfz22_1 := blk_frozen BK354.out 1; have hfz22_2 := blk_frozen BK354.out 2) | ((with_reducible refine gate_callee (f := 38) rfl ?_); refine goesL_ (some 21) rfl rfl Tryd.func38 (by kernel_rfl) rfl #[.int .i64 0, .int .i64 a1_1] rfl (by (try simp only [List.map_toArray, List.map_cons, List.map_nil]); first | done | rfl | (simp only [List.length_drop, List.length_take]; rfl)) ?_; (with_reducible refine (whirligigref01_less.calls 0 a1_1 t361 t362 t363 t364 _ A16.out).mono ?_); rintro e w23 ⟨rfl, hb⟩; refine ⟨_, rfl, ?_⟩; have n0_ := Aside0.mk (blk_below (g := gb354) (o := .cells #[.int .i64 a1_0, .int .i64 a1_1, .string a1_2] 28 (0, 0)) (by (with_reducible repeat (first | refine blk_drewN ?_ _ | refine blk_drew ?_ | refine blk_alloc ?_ _)); exact BK354.out) hb); have n1_ := Aside0.mk (blk_below (g := gb355) (o := .cells #[.int .i64 a2_0, .int .i64 a2_1, .string a2_2] 28 (0, 0)) (by (with_reducible repeat (first | refine blk_drewN ?_ _ | refine blk_drew ?_ | refine blk_alloc ?_ _)); exact BK355.out) hb); have n2_ := Aside0.mk (blk_below (g := gb356) (o := .cells #[.int .i64 0, .int .i64 0, .string (⟨#[]⟩ : ByteArray)] 28 (0, 0)) (by (with_reducible repeat (first | refine blk_drewN ?_ _ | refine blk_drew ?_ | refine blk_alloc ?_ _)); exact BK356.out) hb); have n3_ := Aside0.mk (below_step (by repeat (first | (with_reducible first | exact HB.out | apply below_alloc | apply pw_below_drewN | apply below_drew1 | refine below_set ?_ GE354.out | refine below_set ?_ GE355.out | refine below_set ?_ GE356.out) | exact HB.out)) hb); clear BK354; clear BK355; clear BK356; clear HB; have BK354 := n0_; have BK355 := n1_; have BK356 := n2_; have HB := n3_; clear n0_ n1_ n2_ n3_; (try clear hb); (try clear hb2); (try clear hk); (try clear hi); have hnb24 := NB356_355.out; have hnc24 := NB355_356.out; have hcz25_0 : w23.cell? ⟨gb356, 0, none⟩ = some (.int .i64 0) := (blk_cell BK356.out 0).trans rfl; have hcz25_1 : w23.cell? ⟨gb356, 1, none⟩ = some (.int .i64 0) := (blk_cell BK356.out 1).trans rfl; have hcz25_2 : w23.cell? ⟨gb356, 2, none⟩ = some (.string (⟨#[]⟩ : ByteArray)) := (blk_cell BK356.out 2).trans rfl; have hfz25_0 := blk_frozen BK356.out 0; have hfz25_1 := blk_frozen BK356.out 1; have hfz25_2 := blk_frozen BK356.out 2))
      refine bodyPost_ret (results_ct rfl _ _ gb356 28 #[.int .i64 t361, .int .i64 t362, .string t363] (0, 0) _ rfl (by (with_reducible repeat (first | refine blk_drewN ?_ _ | refine blk_drew ?_ | refine blk_alloc ?_ _)); refine blk_put (cs := #[.int .i64 t361, .int .i64 t362, .string (⟨#[]⟩ : ByteArray)]) ?_ 2 _ rfl; (with_reducible repeat (first | refine blk_drewN ?_ _ | refine blk_drew ?_ | refine blk_alloc ?_ _)); refine blk_put (cs := #[.int .i64 t361, .int .i64 0, .string (⟨#[]⟩ : ByteArray)]) ?_ 1 _ rfl; (with_reducible repeat (first | refine blk_drewN ?_ _ | refine blk_drew ?_ | refine blk_alloc ?_ _)); refine blk_put (cs := #[.int .i64 0, .int .i64 0, .string (⟨#[]⟩ : ByteArray)]) ?_ 0 _ rfl; (with_reducible repeat (first | refine blk_drewN ?_ _ | refine blk_drew ?_ | refine blk_alloc ?_ _)); exact BK356.out) Tryd.underlying28 rfl (by kernel_rfl)) rfl ?_
      exact ⟨by first | rfl | (simp [errW_none, errW_some] <;> rfl) | (simp [*, errW_none, errW_some] <;> rfl), by repeat (first | (with_reducible first | exact HB.out | apply below_alloc | apply pw_below_drewN | apply below_drew1 | refine below_set ?_ GE354.out | refine below_set ?_ GE355.out | refine below_set ?_ GE356.out) | exact HB.out)⟩
    · rw [if_neg c15] at H
      have c15b0 : (a0 == 2) = false := beq_eq_false_iff_ne.mpr c15
      have c15b1 : (a0 != 2) = true := bne_iff_ne.mpr c15
      by_cases c26 : a0 = 3
      · rw [if_pos c26] at H
        have c26b0 : (a0 == 3) = true := beq_iff_eq.mpr c26
        have c26b1 : (a0 != 3) = false := bne_eq_false_iff_eq.mpr c26
        clear c26
        replace H := Option.bind_eq_some_iff.mp H
        obtain ⟨⟨t365, t366, t367, t368⟩, A270, H⟩ := H
        replace H : (some (t365, t366, t367, t368)) = some (r1, r2, r3, r4) := H
        have A27 := Aside0.mk A270
        clear A270
        simp only [Option.some.injEq, Prod.mk.injEq] at H
        obtain ⟨rfl, rfl, rfl, rfl⟩ := H
        go_enter Tryd.func23, Tryd.ntmps23
        go_wp2_with (first | ((with_reducible refine gate_dst (N := 4) rfl ?_); refine box_event ?hg (N := 4) ?hd (cs := #[.int .i64 a1_0, .int .i64 a1_1, .string a1_2]) (t := 28) ?hr ?_; (case hd => rfl); (case hg => rfl); (case hr => first | (go_simp; done) | (go_simp; rfl)); intro gb354 hg w28 hbox hb; have n0_ := Aside0.mk (below_step (by repeat (first | (with_reducible first | exact HB.out | apply below_alloc | apply pw_below_drewN | apply below_drew1) | exact HB.out)) hb); have n1_ := Aside0.mk (hbox); have n2_ := Aside0.mk ((by rw [hg]; exact (below_size (by repeat (first | (with_reducible first | exact HB.out | apply below_alloc | apply pw_below_drewN | apply below_drew1) | exact HB.out))) : w.heap.size ≤ gb354)); have n3_ := Aside0.mk ((by rw [hg]; exact (below_size (by repeat (first | (with_reducible first | exact HB.out | apply below_alloc | apply pw_below_drewN | apply below_drew1) | exact HB.out))) : w.heap.size ≤ gb354)); clear HB; have HB := n0_; have BK354 := n1_; have GW354 := n2_; have GE354 := n3_; clear n0_ n1_ n2_ n3_; clear hb hbox hg) | ((with_reducible refine gate_dst (N := 5) rfl ?_); refine box_event ?hg (N := 5) ?hd (cs := #[.int .i64 a2_0, .int .i64 a2_1, .string a2_2]) (t := 28) ?hr ?_; (case hd => rfl); (case hg => rfl); (case hr => first | (go_simp; done) | (go_simp; rfl)); intro gb355 hg w29 hbox hb; have n0_ := Aside0.mk (blk_below (g := gb354) (o := .cells #[.int .i64 a1_0, .int .i64 a1_1, .string a1_2] 28 (0, 0)) (by (with_reducible repeat (first | refine blk_drewN ?_ _ | refine blk_drew ?_ | refine blk_alloc ?_ _)); exact BK354.out) hb); have n1_ := Aside0.mk (below_step (by repeat (first | (with_reducible first | exact HB.out | apply below_alloc | apply pw_below_drewN | apply below_drew1 | refine below_set ?_ GE354.out) | exact HB.out)) hb); have n2_ := Aside0.mk (hbox); have n3_ := Aside0.mk ((by rw [hg]; exact (below_size (by repeat (first | (with_reducible first | exact HB.out | apply below_alloc | apply pw_below_drewN | apply below_drew1 | refine below_set ?_ GE354.out) | exact HB.out))) : w.heap.size ≤ gb355)); have n4_ := Aside0.mk ((by rw [hg]; exact (below_size (by repeat (first | (with_reducible first | exact HB.out | apply below_alloc | apply pw_below_drewN | apply below_drew1 | refine below_set ?_ GE354.out) | exact HB.out))) : w.heap.size ≤ gb355)); have n5_ := Aside0.mk ((by rw [hg]; exact Nat.ne_of_lt (blk_lt (g := gb354) (o := .cells #[.int .i64 a1_0, .int .i64 a1_1, .string a1_2] 28 (0, 0)) (by (with_reducible repeat (first | refine blk_drewN ?_ _ | refine blk_drew ?_ | refine blk_alloc ?_ _)); exact BK354.out)) : gb354 ≠ gb355)); have n6_ := Aside0.mk ((by rw [hg]; exact Nat.ne_of_gt (blk_lt (g := gb354) (o := .cells #[.int .i64 a1_0, .int .i64 a1_1, .string a1_2] 28 (0, 0)) (by (with_reducible repeat (first | refine blk_drewN ?_ _ | refine blk_drew ?_ | refine blk_alloc ?_ _)); exact BK354.out)) : gb355 ≠ gb354)); clear BK354; clear HB; have BK354 := n0_; have HB := n1_; have BK355 := n2_; have GW355 := n3_; have GE355 := n4_; have NB354_355 := n5_; have NB355_354 := n6_; clear n0_ n1_ n2_ n3_ n4_ n5_ n6_; clear hb hbox hg) | ((with_reducible refine gate_dst (N := 6) rfl ?_); refine box_event ?hg (N := 6) ?hd (cs := #[.int .i64 0, .int .i64 0, .string (⟨#[]⟩ : ByteArray)]) (t := 28) ?hr ?_; (case hd => rfl); (case hg => rfl); (case hr => first | (go_simp; done) | (go_simp; rfl)); intro gb356 hg w30 hbox hb; have n0_ := Aside0.mk (blk_below (g := gb354) (o := .cells #[.int .i64 a1_0, .int .i64 a1_1, .string a1_2] 28 (0, 0)) (by (with_reducible repeat (first | refine blk_drewN ?_ _ | refine blk_drew ?_ | refine blk_alloc ?_ _)); exact BK354.out) hb); have n1_ := Aside0.mk (blk_below (g := gb355) (o := .cells #[.int .i64 a2_0, .int .i64 a2_1, .string a2_2] 28 (0, 0)) (by (with_reducible repeat (first | refine blk_drewN ?_ _ | refine blk_drew ?_ | refine blk_alloc ?_ _)); exact BK355.out) hb); have n2_ := Aside0.mk (below_step (by repeat (first | (with_reducible first | exact HB.out | apply below_alloc | apply pw_below_drewN | apply below_drew1 | refine below_set ?_ GE354.out | refine below_set ?_ GE355.out) | exact HB.out)) hb); have n3_ := Aside0.mk (hbox); have n4_ := Aside0.mk ((by rw [hg]; exact (below_size (by repeat (first | (with_reducible first | exact HB.out | apply below_alloc | apply pw_below_drewN | apply below_drew1 | refine below_set ?_ GE354.out | refine below_set ?_ GE355.out) | exact HB.out))) : w.heap.size ≤ gb356)); have n5_ := Aside0.mk ((by rw [hg]; exact (below_size (by repeat (first | (with_reducible first | exact HB.out | apply below_alloc | apply pw_below_drewN | apply below_drew1 | refine below_set ?_ GE354.out | refine below_set ?_ GE355.out) | exact HB.out))) : w.heap.size ≤ gb356)); have n6_ := Aside0.mk ((by rw [hg]; exact Nat.ne_of_lt (blk_lt (g := gb354) (o := .cells #[.int .i64 a1_0, .int .i64 a1_1, .string a1_2] 28 (0, 0)) (by (with_reducible repeat (first | refine blk_drewN ?_ _ | refine blk_drew ?_ | refine blk_alloc ?_ _)); exact BK354.out)) : gb354 ≠ gb356)); have n7_ := Aside0.mk ((by rw [hg]; exact Nat.ne_of_gt (blk_lt (g := gb354) (o := .cells #[.int .i64 a1_0, .int .i64 a1_1, .string a1_2] 28 (0, 0)) (by (with_reducible repeat (first | refine blk_drewN ?_ _ | refine blk_drew ?_ | refine blk_alloc ?_ _)); exact BK354.out)) : gb356 ≠ gb354)); have n8_ := Aside0.mk ((by rw [hg]; exact Nat.ne_of_lt (blk_lt (g := gb355) (o := .cells #[.int .i64 a2_0, .int .i64 a2_1, .string a2_2] 28 (0, 0)) (by (with_reducible repeat (first | refine blk_drewN ?_ _ | refine blk_drew ?_ | refine blk_alloc ?_ _)); exact BK355.out)) : gb355 ≠ gb356)); have n9_ := Aside0.mk ((by rw [hg]; exact Nat.ne_of_gt (blk_lt (g := gb355) (o := .cells #[.int .i64 a2_0, .int .i64 a2_1, .string a2_2] 28 (0, 0)) (by (with_reducible repeat (first | refine blk_drewN ?_ _ | refine blk_drew ?_ | refine blk_alloc ?_ _)); exact BK355.out)) : gb356 ≠ gb355)); clear BK354; clear BK355; clear HB; have BK354 := n0_; have BK355 := n1_; have HB := n2_; have BK356 := n3_; have GW356 := n4_; have GE356 := n5_; have NB354_356 := n6_; have NB356_354 := n7_; have NB355_356 := n8_; have NB356_355 := n9_; clear n0_ n1_ n2_ n3_ n4_ n5_ n6_ n7_ n8_ n9_; clear hb hbox hg; have hnb31 := NB354_355.out; have hnc31 := NB355_354.out; have hnb32 := NB354_356.out; have hnc32 := NB356_354.out; have hcz33_0 : w30.cell? ⟨gb354, 0, none⟩ = some (.int .i64 a1_0) := (blk_cell BK354.out 0).trans rfl; have hcz33_1 : w30.cell? ⟨gb354, 1, none⟩ = some (.int .i64 a1_1) := (blk_cell BK354.out 1).trans rfl; have hcz33_2 : w30.cell? ⟨gb354, 2, none⟩ = some (.string a1_2) := (blk_cell BK354.out 2).trans rfl; have hfz33_0 := blk_frozen BK354.out 0; have hfz33_1 := blk_frozen BK354.out 1; have hfz33_2 := blk_frozen BK354.out 2; have hnb34 := NB355_356.out; have hnc34 := NB356_355.out; have hcz35_0 : w30.cell? ⟨gb355, 0, none⟩ = some (.int .i64 a2_0) := (blk_cell BK355.out 0).trans rfl; have hcz35_1 : w30.cell? ⟨gb355, 1, none⟩ = some (.int .i64 a2_1) := (blk_cell BK355.out 1).trans rfl; have hcz35_2 : w30.cell? ⟨gb355, 2, none⟩ = some (.string a2_2) := (blk_cell BK355.out 2).trans rfl; have hfz35_0 := blk_frozen BK355.out 0; have hfz35_1 := blk_frozen BK355.out 1; have hfz35_2 := blk_frozen BK355.out 2) | ((with_reducible refine gate_callee (f := 39) rfl ?_); refine goesL_ (some 30) rfl rfl Tryd.func39 (by kernel_rfl) rfl #[.int .i64 a1_1, .int .i64 a2_1] rfl (by (try simp only [List.map_toArray, List.map_cons, List.map_nil]); first | done | rfl | (simp only [List.length_drop, List.length_take]; rfl)) ?_; (with_reducible refine (whirligigref01_times.calls k a1_1 a2_1 t365 t366 t367 t368 _ A27.out).mono ?_); rintro e w36 ⟨rfl, hb⟩; refine ⟨_, rfl, ?_⟩; have n0_ := Aside0.mk (blk_below (g := gb354) (o := .cells #[.int .i64 a1_0, .int .i64 a1_1, .string a1_2] 28 (0, 0)) (by (with_reducible repeat (first | refine blk_drewN ?_ _ | refine blk_drew ?_ | refine blk_alloc ?_ _)); exact BK354.out) hb); have n1_ := Aside0.mk (blk_below (g := gb355) (o := .cells #[.int .i64 a2_0, .int .i64 a2_1, .string a2_2] 28 (0, 0)) (by (with_reducible repeat (first | refine blk_drewN ?_ _ | refine blk_drew ?_ | refine blk_alloc ?_ _)); exact BK355.out) hb); have n2_ := Aside0.mk (blk_below (g := gb356) (o := .cells #[.int .i64 0, .int .i64 0, .string (⟨#[]⟩ : ByteArray)] 28 (0, 0)) (by (with_reducible repeat (first | refine blk_drewN ?_ _ | refine blk_drew ?_ | refine blk_alloc ?_ _)); exact BK356.out) hb); have n3_ := Aside0.mk (below_step (by repeat (first | (with_reducible first | exact HB.out | apply below_alloc | apply pw_below_drewN | apply below_drew1 | refine below_set ?_ GE354.out | refine below_set ?_ GE355.out | refine below_set ?_ GE356.out) | exact HB.out)) hb); clear BK354; clear BK355; clear BK356; clear HB; have BK354 := n0_; have BK355 := n1_; have BK356 := n2_; have HB := n3_; clear n0_ n1_ n2_ n3_; (try clear hb); (try clear hb2); (try clear hk); (try clear hi); have hcz37_0 : w36.cell? ⟨gb356, 0, none⟩ = some (.int .i64 0) := (blk_cell BK356.out 0).trans rfl; have hcz37_1 : w36.cell? ⟨gb356, 1, none⟩ = some (.int .i64 0) := (blk_cell BK356.out 1).trans rfl; have hcz37_2 : w36.cell? ⟨gb356, 2, none⟩ = some (.string (⟨#[]⟩ : ByteArray)) := (blk_cell BK356.out 2).trans rfl; have hfz37_0 := blk_frozen BK356.out 0; have hfz37_1 := blk_frozen BK356.out 1; have hfz37_2 := blk_frozen BK356.out 2))
        refine bodyPost_ret (results_ct rfl _ _ gb356 28 #[.int .i64 t365, .int .i64 t366, .string t367] (0, 0) _ rfl (by (with_reducible repeat (first | refine blk_drewN ?_ _ | refine blk_drew ?_ | refine blk_alloc ?_ _)); refine blk_put (cs := #[.int .i64 t365, .int .i64 t366, .string (⟨#[]⟩ : ByteArray)]) ?_ 2 _ rfl; (with_reducible repeat (first | refine blk_drewN ?_ _ | refine blk_drew ?_ | refine blk_alloc ?_ _)); refine blk_put (cs := #[.int .i64 t365, .int .i64 0, .string (⟨#[]⟩ : ByteArray)]) ?_ 1 _ rfl; (with_reducible repeat (first | refine blk_drewN ?_ _ | refine blk_drew ?_ | refine blk_alloc ?_ _)); refine blk_put (cs := #[.int .i64 0, .int .i64 0, .string (⟨#[]⟩ : ByteArray)]) ?_ 0 _ rfl; (with_reducible repeat (first | refine blk_drewN ?_ _ | refine blk_drew ?_ | refine blk_alloc ?_ _)); exact BK356.out) Tryd.underlying28 rfl (by kernel_rfl)) rfl ?_
        exact ⟨by first | rfl | (simp [errW_none, errW_some] <;> rfl) | (simp [*, errW_none, errW_some] <;> rfl), by repeat (first | (with_reducible first | exact HB.out | apply below_alloc | apply pw_below_drewN | apply below_drew1 | refine below_set ?_ GE354.out | refine below_set ?_ GE355.out | refine below_set ?_ GE356.out) | exact HB.out)⟩
      · rw [if_neg c26] at H
        have c26b0 : (a0 == 3) = false := beq_eq_false_iff_ne.mpr c26
        have c26b1 : (a0 != 3) = true := bne_iff_ne.mpr c26
        have HC38 := Aside0.mk H
        clear H
        go_enter Tryd.func23, Tryd.ntmps23
        go_upto_if 33 with (first | ((with_reducible refine gate_dst (N := 4) rfl ?_); refine box_event ?hg (N := 4) ?hd (cs := #[.int .i64 a1_0, .int .i64 a1_1, .string a1_2]) (t := 28) ?hr ?_; (case hd => rfl); (case hg => rfl); (case hr => first | (go_simp; done) | (go_simp; rfl)); intro gb354 hg w39 hbox hb; have n0_ := Aside0.mk (below_step (by repeat (first | (with_reducible first | exact HB.out | apply below_alloc | apply pw_below_drewN | apply below_drew1) | exact HB.out)) hb); have n1_ := Aside0.mk (hbox); have n2_ := Aside0.mk ((by rw [hg]; exact (below_size (by repeat (first | (with_reducible first | exact HB.out | apply below_alloc | apply pw_below_drewN | apply below_drew1) | exact HB.out))) : w.heap.size ≤ gb354)); have n3_ := Aside0.mk ((by rw [hg]; exact (below_size (by repeat (first | (with_reducible first | exact HB.out | apply below_alloc | apply pw_below_drewN | apply below_drew1) | exact HB.out))) : w.heap.size ≤ gb354)); clear HB; have HB := n0_; have BK354 := n1_; have GW354 := n2_; have GE354 := n3_; clear n0_ n1_ n2_ n3_; clear hb hbox hg) | ((with_reducible refine gate_dst (N := 5) rfl ?_); refine box_event ?hg (N := 5) ?hd (cs := #[.int .i64 a2_0, .int .i64 a2_1, .string a2_2]) (t := 28) ?hr ?_; (case hd => rfl); (case hg => rfl); (case hr => first | (go_simp; done) | (go_simp; rfl)); intro gb355 hg w40 hbox hb; have n0_ := Aside0.mk (blk_below (g := gb354) (o := .cells #[.int .i64 a1_0, .int .i64 a1_1, .string a1_2] 28 (0, 0)) (by (with_reducible repeat (first | refine blk_drewN ?_ _ | refine blk_drew ?_ | refine blk_alloc ?_ _)); exact BK354.out) hb); have n1_ := Aside0.mk (below_step (by repeat (first | (with_reducible first | exact HB.out | apply below_alloc | apply pw_below_drewN | apply below_drew1 | refine below_set ?_ GE354.out) | exact HB.out)) hb); have n2_ := Aside0.mk (hbox); have n3_ := Aside0.mk ((by rw [hg]; exact (below_size (by repeat (first | (with_reducible first | exact HB.out | apply below_alloc | apply pw_below_drewN | apply below_drew1 | refine below_set ?_ GE354.out) | exact HB.out))) : w.heap.size ≤ gb355)); have n4_ := Aside0.mk ((by rw [hg]; exact (below_size (by repeat (first | (with_reducible first | exact HB.out | apply below_alloc | apply pw_below_drewN | apply below_drew1 | refine below_set ?_ GE354.out) | exact HB.out))) : w.heap.size ≤ gb355)); have n5_ := Aside0.mk ((by rw [hg]; exact Nat.ne_of_lt (blk_lt (g := gb354) (o := .cells #[.int .i64 a1_0, .int .i64 a1_1, .string a1_2] 28 (0, 0)) (by (with_reducible repeat (first | refine blk_drewN ?_ _ | refine blk_drew ?_ | refine blk_alloc ?_ _)); exact BK354.out)) : gb354 ≠ gb355)); have n6_ := Aside0.mk ((by rw [hg]; exact Nat.ne_of_gt (blk_lt (g := gb354) (o := .cells #[.int .i64 a1_0, .int .i64 a1_1, .string a1_2] 28 (0, 0)) (by (with_reducible repeat (first | refine blk_drewN ?_ _ | refine blk_drew ?_ | refine blk_alloc ?_ _)); exact BK354.out)) : gb355 ≠ gb354)); clear BK354; clear HB; have BK354 := n0_; have HB := n1_; have BK355 := n2_; have GW355 := n3_; have GE355 := n4_; have NB354_355 := n5_; have NB355_354 := n6_; clear n0_ n1_ n2_ n3_ n4_ n5_ n6_; clear hb hbox hg) | ((with_reducible refine gate_dst (N := 6) rfl ?_); refine box_event ?hg (N := 6) ?hd (cs := #[.int .i64 0, .int .i64 0, .string (⟨#[]⟩ : ByteArray)]) (t := 28) ?hr ?_; (case hd => rfl); (case hg => rfl); (case hr => first | (go_simp; done) | (go_simp; rfl)); intro gb356 hg w41 hbox hb; have n0_ := Aside0.mk (blk_below (g := gb354) (o := .cells #[.int .i64 a1_0, .int .i64 a1_1, .string a1_2] 28 (0, 0)) (by (with_reducible repeat (first | refine blk_drewN ?_ _ | refine blk_drew ?_ | refine blk_alloc ?_ _)); exact BK354.out) hb); have n1_ := Aside0.mk (blk_below (g := gb355) (o := .cells #[.int .i64 a2_0, .int .i64 a2_1, .string a2_2] 28 (0, 0)) (by (with_reducible repeat (first | refine blk_drewN ?_ _ | refine blk_drew ?_ | refine blk_alloc ?_ _)); exact BK355.out) hb); have n2_ := Aside0.mk (below_step (by repeat (first | (with_reducible first | exact HB.out | apply below_alloc | apply pw_below_drewN | apply below_drew1 | refine below_set ?_ GE354.out | refine below_set ?_ GE355.out) | exact HB.out)) hb); have n3_ := Aside0.mk (hbox); have n4_ := Aside0.mk ((by rw [hg]; exact (below_size (by repeat (first | (with_reducible first | exact HB.out | apply below_alloc | apply pw_below_drewN | apply below_drew1 | refine below_set ?_ GE354.out | refine below_set ?_ GE355.out) | exact HB.out))) : w.heap.size ≤ gb356)); have n5_ := Aside0.mk ((by rw [hg]; exact (below_size (by repeat (first | (with_reducible first | exact HB.out | apply below_alloc | apply pw_below_drewN | apply below_drew1 | refine below_set ?_ GE354.out | refine below_set ?_ GE355.out) | exact HB.out))) : w.heap.size ≤ gb356)); have n6_ := Aside0.mk ((by rw [hg]; exact Nat.ne_of_lt (blk_lt (g := gb354) (o := .cells #[.int .i64 a1_0, .int .i64 a1_1, .string a1_2] 28 (0, 0)) (by (with_reducible repeat (first | refine blk_drewN ?_ _ | refine blk_drew ?_ | refine blk_alloc ?_ _)); exact BK354.out)) : gb354 ≠ gb356)); have n7_ := Aside0.mk ((by rw [hg]; exact Nat.ne_of_gt (blk_lt (g := gb354) (o := .cells #[.int .i64 a1_0, .int .i64 a1_1, .string a1_2] 28 (0, 0)) (by (with_reducible repeat (first | refine blk_drewN ?_ _ | refine blk_drew ?_ | refine blk_alloc ?_ _)); exact BK354.out)) : gb356 ≠ gb354)); have n8_ := Aside0.mk ((by rw [hg]; exact Nat.ne_of_lt (blk_lt (g := gb355) (o := .cells #[.int .i64 a2_0, .int .i64 a2_1, .string a2_2] 28 (0, 0)) (by (with_reducible repeat (first | refine blk_drewN ?_ _ | refine blk_drew ?_ | refine blk_alloc ?_ _)); exact BK355.out)) : gb355 ≠ gb356)); have n9_ := Aside0.mk ((by rw [hg]; exact Nat.ne_of_gt (blk_lt (g := gb355) (o := .cells #[.int .i64 a2_0, .int .i64 a2_1, .string a2_2] 28 (0, 0)) (by (with_reducible repeat (first | refine blk_drewN ?_ _ | refine blk_drew ?_ | refine blk_alloc ?_ _)); exact BK355.out)) : gb356 ≠ gb355)); clear BK354; clear BK355; clear HB; have BK354 := n0_; have BK355 := n1_; have HB := n2_; have BK356 := n3_; have GW356 := n4_; have GE356 := n5_; have NB354_356 := n6_; have NB356_354 := n7_; have NB355_356 := n8_; have NB356_355 := n9_; clear n0_ n1_ n2_ n3_ n4_ n5_ n6_ n7_ n8_ n9_; clear hb hbox hg))
        (try simp only [Act.put, List.setIfInBounds_toArray, List.set_cons_zero, List.set_cons_succ])
        go_cut [33] (fun v33 wc => ∃ (kq : Nat) (x33_37 : Bool), v33 = .bool x33_37 ∧ Aside0 (whirligigref01_Reckon.j0 kq a0 a0 x33_37 a1_0 a1_1 a1_2 a2_0 a2_1 a2_2 = some (r1, r2, r3, r4)) ∧ Aside0 (kq ≤ k) ∧ Aside0 (wc.heap[gb354]? = some (.cells #[.int .i64 a1_0, .int .i64 a1_1, .string a1_2] 28 (0, 0))) ∧ Aside0 (wc.heap[gb355]? = some (.cells #[.int .i64 a2_0, .int .i64 a2_1, .string a2_2] 28 (0, 0))) ∧ Aside0 (wc.heap[gb356]? = some (.cells #[.int .i64 0, .int .i64 0, .string (⟨#[]⟩ : ByteArray)] 28 (0, 0))) ∧ Aside0 (Below w.heap.size w wc))
        case first =>
          have H := HC38.out
          clear HC38
          by_cases c42 : a0 = 4
          · rw [if_pos c42] at H
            have c42b0 : (a0 == 4) = true := beq_iff_eq.mpr c42
            have c42b1 : (a0 != 4) = false := bne_eq_false_iff_eq.mpr c42
            clear c42
            (first | rw [c42b0] | (simp only [i64_w, i32_w]; rw [c42b0]) | skip)
            have H' := Aside0.mk H
            clear H
            go_wp2
            go_meet
            case rel => exact ⟨_, ((a0 == 4)), (by first | rfl | (simp; done) | (simp [*]; done)), H', ⟨by first | omega | exact Nat.le_refl _⟩, ⟨by (with_reducible repeat (first | refine blk_drewN ?_ _ | refine blk_drew ?_ | refine blk_alloc ?_ _)); exact BK354.out⟩, ⟨by (with_reducible repeat (first | refine blk_drewN ?_ _ | refine blk_drew ?_ | refine blk_alloc ?_ _)); exact BK355.out⟩, ⟨by (with_reducible repeat (first | refine blk_drewN ?_ _ | refine blk_drew ?_ | refine blk_alloc ?_ _)); exact BK356.out⟩, ⟨by repeat (first | (with_reducible first | exact HB.out | apply below_alloc | apply pw_below_drewN | apply below_drew1 | refine below_set ?_ GE354.out | refine below_set ?_ GE355.out | refine below_set ?_ GE356.out) | exact HB.out)⟩⟩
          · rw [if_neg c42] at H
            have c42b0 : (a0 == 4) = false := beq_eq_false_iff_ne.mpr c42
            have c42b1 : (a0 != 4) = true := bne_iff_ne.mpr c42
            (first | rw [c42b0] | (simp only [i64_w, i32_w]; rw [c42b0]) | skip)
            have H' := Aside0.mk H
            clear H
            go_wp2
            go_meet
            case rel => exact ⟨_, ((a0 == 5)), (by first | rfl | (simp; done) | (simp [*]; done)), H', ⟨by first | omega | exact Nat.le_refl _⟩, ⟨by (with_reducible repeat (first | refine blk_drewN ?_ _ | refine blk_drew ?_ | refine blk_alloc ?_ _)); exact BK354.out⟩, ⟨by (with_reducible repeat (first | refine blk_drewN ?_ _ | refine blk_drew ?_ | refine blk_alloc ?_ _)); exact BK355.out⟩, ⟨by (with_reducible repeat (first | refine blk_drewN ?_ _ | refine blk_drew ?_ | refine blk_alloc ?_ _)); exact BK356.out⟩, ⟨by repeat (first | (with_reducible first | exact HB.out | apply below_alloc | apply pw_below_drewN | apply below_drew1 | refine below_set ?_ GE354.out | refine below_set ?_ GE355.out | refine below_set ?_ GE356.out) | exact HB.out)⟩⟩
        case rest =>
          clear HC38
          try clear c1
          try clear c2
          try clear p2
          try clear c3
          try clear c4
          try clear c4b0
          try clear c4b1
          try clear c9
          try clear c10
          try clear c13
          try clear c15
          try clear c15b0
          try clear c15b1
          try clear c20
          try clear c21
          try clear c23
          try clear c24
          try clear c26
          try clear c26b0
          try clear c26b1
          try clear c31
          try clear c32
          try clear c34
          try clear c37
          try clear c38
          try clear c39
          try clear c42
          try clear c42b0
          try clear c42b1
          try clear hcz11_0
          try clear hcz11_1
          try clear hcz11_2
          try clear hcz14_0
          try clear hcz14_1
          try clear hcz14_2
          try clear hcz22_0
          try clear hcz22_1
          try clear hcz22_2
          try clear hcz25_0
          try clear hcz25_1
          try clear hcz25_2
          try clear hcz33_0
          try clear hcz33_1
          try clear hcz33_2
          try clear hcz35_0
          try clear hcz35_1
          try clear hcz35_2
          try clear hcz37_0
          try clear hcz37_1
          try clear hcz37_2
          try clear hfz11_0
          try clear hfz11_1
          try clear hfz11_2
          try clear hfz14_0
          try clear hfz14_1
          try clear hfz14_2
          try clear hfz22_0
          try clear hfz22_1
          try clear hfz22_2
          try clear hfz25_0
          try clear hfz25_1
          try clear hfz25_2
          try clear hfz33_0
          try clear hfz33_1
          try clear hfz33_2
          try clear hfz35_0
          try clear hfz35_1
          try clear hfz35_2
          try clear hfz37_0
          try clear hfz37_1
          try clear hfz37_2
          obtain ⟨kq, x33_37, rfl, HA, HJ37, BK354, BK355, BK356, HB⟩ := hcut
          cases kq with
          | zero => exact absurd HA.out (by simp [whirligigref01_Reckon.j0])
          | succ kj37 =>
            have H := HA.out
            clear HA
            simp only [whirligigref01_Reckon.j0] at H
            by_cases c43 : x33_37 = true
            · subst c43
              have H1 : ((whirligigref01_divide.f kj37 a1_1 a2_1 (a0 == 5)).bind fun bt369 => (some (bt369.1, bt369.2.1, bt369.2.2.1, bt369.2.2.2))) = some (r1, r2, r3, r4) := by rw [if_pos rfl] at H; exact H
              clear H
              have H := H1
              clear H1
              replace H := Option.bind_eq_some_iff.mp H
              obtain ⟨⟨t369, t370, t371, t372⟩, A440, H⟩ := H
              replace H : (some (t369, t370, t371, t372)) = some (r1, r2, r3, r4) := H
              have A44 := Aside0.mk A440
              clear A440
              simp only [Option.some.injEq, Prod.mk.injEq] at H
              obtain ⟨rfl, rfl, rfl, rfl⟩ := H
              have hnb45 := NB354_355.out
              have hnc45 := NB355_354.out
              have hnb46 := NB354_356.out
              have hnc46 := NB356_354.out
              have hcz47_0 : wc.cell? ⟨gb354, 0, none⟩ = some (.int .i64 a1_0) := (blk_cell BK354.out 0).trans rfl
              have hcz47_1 : wc.cell? ⟨gb354, 1, none⟩ = some (.int .i64 a1_1) := (blk_cell BK354.out 1).trans rfl
              have hcz47_2 : wc.cell? ⟨gb354, 2, none⟩ = some (.string a1_2) := (blk_cell BK354.out 2).trans rfl
              have hfz47_0 := blk_frozen BK354.out 0
              have hfz47_1 := blk_frozen BK354.out 1
              have hfz47_2 := blk_frozen BK354.out 2
              have hnb48 := NB355_356.out
              have hnc48 := NB356_355.out
              have hcz49_0 : wc.cell? ⟨gb355, 0, none⟩ = some (.int .i64 a2_0) := (blk_cell BK355.out 0).trans rfl
              have hcz49_1 : wc.cell? ⟨gb355, 1, none⟩ = some (.int .i64 a2_1) := (blk_cell BK355.out 1).trans rfl
              have hcz49_2 : wc.cell? ⟨gb355, 2, none⟩ = some (.string a2_2) := (blk_cell BK355.out 2).trans rfl
              have hfz49_0 := blk_frozen BK355.out 0
              have hfz49_1 := blk_frozen BK355.out 1
              have hfz49_2 := blk_frozen BK355.out 2
              go_wp2_with (first | ((with_reducible refine gate_callee (f := 40) rfl ?_); refine goesL_ (some 42) rfl rfl Tryd.func40 (by kernel_rfl) rfl #[.int .i64 a1_1, .int .i64 a2_1, .bool (a0 == 5)] rfl (by (try simp only [List.map_toArray, List.map_cons, List.map_nil]); first | done | rfl | (simp only [List.length_drop, List.length_take]; rfl)) ?_; (with_reducible refine (whirligigref01_divide.calls kj37 a1_1 a2_1 (a0 == 5) t369 t370 t371 t372 _ A44.out).mono ?_); rintro e w50 ⟨rfl, hb⟩; refine ⟨_, rfl, ?_⟩; have n0_ := Aside0.mk (blk_below (g := gb354) (o := .cells #[.int .i64 a1_0, .int .i64 a1_1, .string a1_2] 28 (0, 0)) (by (with_reducible repeat (first | refine blk_drewN ?_ _ | refine blk_drew ?_ | refine blk_alloc ?_ _)); exact BK354.out) hb); have n1_ := Aside0.mk (blk_below (g := gb355) (o := .cells #[.int .i64 a2_0, .int .i64 a2_1, .string a2_2] 28 (0, 0)) (by (with_reducible repeat (first | refine blk_drewN ?_ _ | refine blk_drew ?_ | refine blk_alloc ?_ _)); exact BK355.out) hb); have n2_ := Aside0.mk (blk_below (g := gb356) (o := .cells #[.int .i64 0, .int .i64 0, .string (⟨#[]⟩ : ByteArray)] 28 (0, 0)) (by (with_reducible repeat (first | refine blk_drewN ?_ _ | refine blk_drew ?_ | refine blk_alloc ?_ _)); exact BK356.out) hb); have n3_ := Aside0.mk (below_step (by repeat (first | (with_reducible first | exact HB.out | apply below_alloc | apply pw_below_drewN | apply below_drew1 | refine below_set ?_ GE354.out | refine below_set ?_ GE355.out | refine below_set ?_ GE356.out) | exact HB.out)) hb); clear BK354; clear BK355; clear BK356; clear HB; have BK354 := n0_; have BK355 := n1_; have BK356 := n2_; have HB := n3_; clear n0_ n1_ n2_ n3_; (try clear hb); (try clear hb2); (try clear hk); (try clear hi); have hcz51_0 : w50.cell? ⟨gb356, 0, none⟩ = some (.int .i64 0) := (blk_cell BK356.out 0).trans rfl; have hcz51_1 : w50.cell? ⟨gb356, 1, none⟩ = some (.int .i64 0) := (blk_cell BK356.out 1).trans rfl; have hcz51_2 : w50.cell? ⟨gb356, 2, none⟩ = some (.string (⟨#[]⟩ : ByteArray)) := (blk_cell BK356.out 2).trans rfl; have hfz51_0 := blk_frozen BK356.out 0; have hfz51_1 := blk_frozen BK356.out 1; have hfz51_2 := blk_frozen BK356.out 2))
              refine bodyPost_ret (results_ct rfl _ _ gb356 28 #[.int .i64 t369, .int .i64 t370, .string t371] (0, 0) _ rfl (by (with_reducible repeat (first | refine blk_drewN ?_ _ | refine blk_drew ?_ | refine blk_alloc ?_ _)); refine blk_put (cs := #[.int .i64 t369, .int .i64 t370, .string (⟨#[]⟩ : ByteArray)]) ?_ 2 _ rfl; (with_reducible repeat (first | refine blk_drewN ?_ _ | refine blk_drew ?_ | refine blk_alloc ?_ _)); refine blk_put (cs := #[.int .i64 t369, .int .i64 0, .string (⟨#[]⟩ : ByteArray)]) ?_ 1 _ rfl; (with_reducible repeat (first | refine blk_drewN ?_ _ | refine blk_drew ?_ | refine blk_alloc ?_ _)); refine blk_put (cs := #[.int .i64 0, .int .i64 0, .string (⟨#[]⟩ : ByteArray)]) ?_ 0 _ rfl; (with_reducible repeat (first | refine blk_drewN ?_ _ | refine blk_drew ?_ | refine blk_alloc ?_ _)); exact BK356.out) Tryd.underlying28 rfl (by kernel_rfl)) rfl ?_
              exact ⟨by first | rfl | (simp [errW_none, errW_some] <;> rfl) | (simp [*, errW_none, errW_some] <;> rfl), by repeat (first | (with_reducible first | exact HB.out | apply below_alloc | apply pw_below_drewN | apply below_drew1 | refine below_set ?_ GE354.out | refine below_set ?_ GE355.out | refine below_set ?_ GE356.out) | exact HB.out)⟩
            · replace c43 := Bool.eq_false_iff.mpr c43
              subst c43
              have H1 : (if a0 = 7 then ((whirligigref01_less.f a1_1 a2_1).bind fun bt373 => (some (bt373.1, bt373.2.1, bt373.2.2.1, bt373.2.2.2))) else (if a0 = 8 then ((whirligigref01_before.f kj37 a1_0 a1_1 a1_2 a2_0 a2_1 a2_2).bind fun t377 => ((whirligigref01_truth.f t377).bind fun bt378 => (some (bt378.1, bt378.2.1, bt378.2.2.1, bt378.2.2.2)))) else (if a0 = 9 then ((whirligigref01_before.f kj37 a2_0 a2_1 a2_2 a1_0 a1_1 a1_2).bind fun t382 => ((whirligigref01_truth.f (!t382)).bind fun bt383 => (some (bt383.1, bt383.2.1, bt383.2.2.1, bt383.2.2.2)))) else (if a0 = 10 then ((whirligigref01_before.f kj37 a2_0 a2_1 a2_2 a1_0 a1_1 a1_2).bind fun t387 => ((whirligigref01_truth.f t387).bind fun bt388 => (some (bt388.1, bt388.2.1, bt388.2.2.1, bt388.2.2.2)))) else (if a0 = 11 then ((whirligigref01_before.f kj37 a1_0 a1_1 a1_2 a2_0 a2_1 a2_2).bind fun t392 => ((whirligigref01_truth.f (!t392)).bind fun bt393 => (some (bt393.1, bt393.2.1, bt393.2.2.1, bt393.2.2.2)))) else (if a0 = 12 then ((whirligigref01_truth.f (a1_0 == a2_0 && (a1_1 == a2_1 && (a1_2.toList == a2_2.toList)))).bind fun bt397 => (some (bt397.1, bt397.2.1, bt397.2.2.1, bt397.2.2.2))) else (if a0 = 13 then ((whirligigref01_truth.f (!(a1_0 == a2_0) || (!(a1_1 == a2_1) || (!(a1_2.toList == a2_2.toList))))).bind fun bt401 => (some (bt401.1, bt401.2.1, bt401.2.2.1, bt401.2.2.2))) else (if a0 = 14 then (if a1_1 = 1 then ((whirligigref01_truth.f (a2_1 == 1)).bind fun bt405 => (some (bt405.1, bt405.2.1, bt405.2.2.1, bt405.2.2.2))) else ((whirligigref01_truth.f false).bind fun bt409 => (some (bt409.1, bt409.2.1, bt409.2.2.1, bt409.2.2.2)))) else (if a0 = 15 then (if a1_1 = 1 then ((whirligigref01_truth.f true).bind fun bt413 => (some (bt413.1, bt413.2.1, bt413.2.2.1, bt413.2.2.2))) else ((whirligigref01_truth.f (a2_1 == 1)).bind fun bt417 => (some (bt417.1, bt417.2.1, bt417.2.2.1, bt417.2.2.2)))) else (if a1_0 = 1 then ((whirligigref01_sum.f a1_1 a2_1).bind fun bt421 => (some (bt421.1, bt421.2.1, bt421.2.2.1, bt421.2.2.2))) else (if (wrap64 ((a1_2.size : Int) + (a2_2.size : Int))) > 48 then (some (0, 0, (⟨#[]⟩ : ByteArray), 15)) else (if a1_2.size + a2_2.size ≤ 9223372036854775807 then (some (3, 0, a1_2 ++ a2_2, 0)) else (none))))))))))))) = some (r1, r2, r3, r4) := by rw [if_neg (show ¬ (false = true) by decide)] at H; exact H
              clear H
              have H := H1
              clear H1
              by_cases c52 : a0 = 7
              · rw [if_pos c52] at H
                have c52b0 : (a0 == 7) = true := beq_iff_eq.mpr c52
                have c52b1 : (a0 != 7) = false := bne_eq_false_iff_eq.mpr c52
                clear c52
                replace H := Option.bind_eq_some_iff.mp H
                obtain ⟨⟨t373, t374, t375, t376⟩, A530, H⟩ := H
                replace H : (some (t373, t374, t375, t376)) = some (r1, r2, r3, r4) := H
                have A53 := Aside0.mk A530
                clear A530
                simp only [Option.some.injEq, Prod.mk.injEq] at H
                obtain ⟨rfl, rfl, rfl, rfl⟩ := H
                have hnb54 := NB354_355.out
                have hnc54 := NB355_354.out
                have hnb55 := NB354_356.out
                have hnc55 := NB356_354.out
                have hcz56_0 : wc.cell? ⟨gb354, 0, none⟩ = some (.int .i64 a1_0) := (blk_cell BK354.out 0).trans rfl
                have hcz56_1 : wc.cell? ⟨gb354, 1, none⟩ = some (.int .i64 a1_1) := (blk_cell BK354.out 1).trans rfl
                have hcz56_2 : wc.cell? ⟨gb354, 2, none⟩ = some (.string a1_2) := (blk_cell BK354.out 2).trans rfl
                have hfz56_0 := blk_frozen BK354.out 0
                have hfz56_1 := blk_frozen BK354.out 1
                have hfz56_2 := blk_frozen BK354.out 2
                have hnb57 := NB355_356.out
                have hnc57 := NB356_355.out
                have hcz58_0 : wc.cell? ⟨gb355, 0, none⟩ = some (.int .i64 a2_0) := (blk_cell BK355.out 0).trans rfl
                have hcz58_1 : wc.cell? ⟨gb355, 1, none⟩ = some (.int .i64 a2_1) := (blk_cell BK355.out 1).trans rfl
                have hcz58_2 : wc.cell? ⟨gb355, 2, none⟩ = some (.string a2_2) := (blk_cell BK355.out 2).trans rfl
                have hfz58_0 := blk_frozen BK355.out 0
                have hfz58_1 := blk_frozen BK355.out 1
                have hfz58_2 := blk_frozen BK355.out 2
                go_wp2_with (first | ((with_reducible refine gate_callee (f := 38) rfl ?_); refine goesL_ (some 51) rfl rfl Tryd.func38 (by kernel_rfl) rfl #[.int .i64 a1_1, .int .i64 a2_1] rfl (by (try simp only [List.map_toArray, List.map_cons, List.map_nil]); first | done | rfl | (simp only [List.length_drop, List.length_take]; rfl)) ?_; (with_reducible refine (whirligigref01_less.calls a1_1 a2_1 t373 t374 t375 t376 _ A53.out).mono ?_); rintro e w59 ⟨rfl, hb⟩; refine ⟨_, rfl, ?_⟩; have n0_ := Aside0.mk (blk_below (g := gb354) (o := .cells #[.int .i64 a1_0, .int .i64 a1_1, .string a1_2] 28 (0, 0)) (by (with_reducible repeat (first | refine blk_drewN ?_ _ | refine blk_drew ?_ | refine blk_alloc ?_ _)); exact BK354.out) hb); have n1_ := Aside0.mk (blk_below (g := gb355) (o := .cells #[.int .i64 a2_0, .int .i64 a2_1, .string a2_2] 28 (0, 0)) (by (with_reducible repeat (first | refine blk_drewN ?_ _ | refine blk_drew ?_ | refine blk_alloc ?_ _)); exact BK355.out) hb); have n2_ := Aside0.mk (blk_below (g := gb356) (o := .cells #[.int .i64 0, .int .i64 0, .string (⟨#[]⟩ : ByteArray)] 28 (0, 0)) (by (with_reducible repeat (first | refine blk_drewN ?_ _ | refine blk_drew ?_ | refine blk_alloc ?_ _)); exact BK356.out) hb); have n3_ := Aside0.mk (below_step (by repeat (first | (with_reducible first | exact HB.out | apply below_alloc | apply pw_below_drewN | apply below_drew1 | refine below_set ?_ GE354.out | refine below_set ?_ GE355.out | refine below_set ?_ GE356.out) | exact HB.out)) hb); clear BK354; clear BK355; clear BK356; clear HB; have BK354 := n0_; have BK355 := n1_; have BK356 := n2_; have HB := n3_; clear n0_ n1_ n2_ n3_; (try clear hb); (try clear hb2); (try clear hk); (try clear hi); have hcz60_0 : w59.cell? ⟨gb356, 0, none⟩ = some (.int .i64 0) := (blk_cell BK356.out 0).trans rfl; have hcz60_1 : w59.cell? ⟨gb356, 1, none⟩ = some (.int .i64 0) := (blk_cell BK356.out 1).trans rfl; have hcz60_2 : w59.cell? ⟨gb356, 2, none⟩ = some (.string (⟨#[]⟩ : ByteArray)) := (blk_cell BK356.out 2).trans rfl; have hfz60_0 := blk_frozen BK356.out 0; have hfz60_1 := blk_frozen BK356.out 1; have hfz60_2 := blk_frozen BK356.out 2))
                refine bodyPost_ret (results_ct rfl _ _ gb356 28 #[.int .i64 t373, .int .i64 t374, .string t375] (0, 0) _ rfl (by (with_reducible repeat (first | refine blk_drewN ?_ _ | refine blk_drew ?_ | refine blk_alloc ?_ _)); refine blk_put (cs := #[.int .i64 t373, .int .i64 t374, .string (⟨#[]⟩ : ByteArray)]) ?_ 2 _ rfl; (with_reducible repeat (first | refine blk_drewN ?_ _ | refine blk_drew ?_ | refine blk_alloc ?_ _)); refine blk_put (cs := #[.int .i64 t373, .int .i64 0, .string (⟨#[]⟩ : ByteArray)]) ?_ 1 _ rfl; (with_reducible repeat (first | refine blk_drewN ?_ _ | refine blk_drew ?_ | refine blk_alloc ?_ _)); refine blk_put (cs := #[.int .i64 0, .int .i64 0, .string (⟨#[]⟩ : ByteArray)]) ?_ 0 _ rfl; (with_reducible repeat (first | refine blk_drewN ?_ _ | refine blk_drew ?_ | refine blk_alloc ?_ _)); exact BK356.out) Tryd.underlying28 rfl (by kernel_rfl)) rfl ?_
                exact ⟨by first | rfl | (simp [errW_none, errW_some] <;> rfl) | (simp [*, errW_none, errW_some] <;> rfl), by repeat (first | (with_reducible first | exact HB.out | apply below_alloc | apply pw_below_drewN | apply below_drew1 | refine below_set ?_ GE354.out | refine below_set ?_ GE355.out | refine below_set ?_ GE356.out) | exact HB.out)⟩
              · rw [if_neg c52] at H
                have c52b0 : (a0 == 7) = false := beq_eq_false_iff_ne.mpr c52
                have c52b1 : (a0 != 7) = true := bne_iff_ne.mpr c52
                by_cases c61 : a0 = 8
                · rw [if_pos c61] at H
                  have c61b0 : (a0 == 8) = true := beq_iff_eq.mpr c61
                  have c61b1 : (a0 != 8) = false := bne_eq_false_iff_eq.mpr c61
                  clear c61
                  replace H := Option.bind_eq_some_iff.mp H
                  obtain ⟨t377, A620, H⟩ := H
                  replace H : ((whirligigref01_truth.f t377).bind fun bt378 => (some (bt378.1, bt378.2.1, bt378.2.2.1, bt378.2.2.2))) = some (r1, r2, r3, r4) := H
                  have A62 := Aside0.mk A620
                  clear A620
                  replace H := Option.bind_eq_some_iff.mp H
                  obtain ⟨⟨t378, t379, t380, t381⟩, A630, H⟩ := H
                  replace H : (some (t378, t379, t380, t381)) = some (r1, r2, r3, r4) := H
                  have A63 := Aside0.mk A630
                  clear A630
                  simp only [Option.some.injEq, Prod.mk.injEq] at H
                  obtain ⟨rfl, rfl, rfl, rfl⟩ := H
                  have hnb64 := NB354_355.out
                  have hnc64 := NB355_354.out
                  have hnb65 := NB354_356.out
                  have hnc65 := NB356_354.out
                  have hcz66_0 : wc.cell? ⟨gb354, 0, none⟩ = some (.int .i64 a1_0) := (blk_cell BK354.out 0).trans rfl
                  have hcz66_1 : wc.cell? ⟨gb354, 1, none⟩ = some (.int .i64 a1_1) := (blk_cell BK354.out 1).trans rfl
                  have hcz66_2 : wc.cell? ⟨gb354, 2, none⟩ = some (.string a1_2) := (blk_cell BK354.out 2).trans rfl
                  have hfz66_0 := blk_frozen BK354.out 0
                  have hfz66_1 := blk_frozen BK354.out 1
                  have hfz66_2 := blk_frozen BK354.out 2
                  have hnb67 := NB355_356.out
                  have hnc67 := NB356_355.out
                  have hcz68_0 : wc.cell? ⟨gb355, 0, none⟩ = some (.int .i64 a2_0) := (blk_cell BK355.out 0).trans rfl
                  have hcz68_1 : wc.cell? ⟨gb355, 1, none⟩ = some (.int .i64 a2_1) := (blk_cell BK355.out 1).trans rfl
                  have hcz68_2 : wc.cell? ⟨gb355, 2, none⟩ = some (.string a2_2) := (blk_cell BK355.out 2).trans rfl
                  have hfz68_0 := blk_frozen BK355.out 0
                  have hfz68_1 := blk_frozen BK355.out 1
                  have hfz68_2 := blk_frozen BK355.out 2
                  go_wp2_with (first | ((with_reducible refine gate_callee (f := 41) rfl ?_); refine goesL_ (some 58) rfl rfl Tryd.func41 (by kernel_rfl) rfl #[.agg #[.int .i64 a1_0, .int .i64 a1_1, .string a1_2], .agg #[.int .i64 a2_0, .int .i64 a2_1, .string a2_2]] rfl (by (try simp only [List.map_toArray, List.map_cons, List.map_nil]); first | done | rfl | (simp only [List.length_drop, List.length_take]; rfl)) ?_; (with_reducible refine (whirligigref01_before.calls kj37 a1_0 a1_1 a1_2 a2_0 a2_1 a2_2 t377 _ A62.out).mono ?_); rintro e w69 ⟨rfl, hb⟩; refine ⟨_, rfl, ?_⟩; have n0_ := Aside0.mk (blk_below (g := gb354) (o := .cells #[.int .i64 a1_0, .int .i64 a1_1, .string a1_2] 28 (0, 0)) (by (with_reducible repeat (first | refine blk_drewN ?_ _ | refine blk_drew ?_ | refine blk_alloc ?_ _)); exact BK354.out) hb); have n1_ := Aside0.mk (blk_below (g := gb355) (o := .cells #[.int .i64 a2_0, .int .i64 a2_1, .string a2_2] 28 (0, 0)) (by (with_reducible repeat (first | refine blk_drewN ?_ _ | refine blk_drew ?_ | refine blk_alloc ?_ _)); exact BK355.out) hb); have n2_ := Aside0.mk (blk_below (g := gb356) (o := .cells #[.int .i64 0, .int .i64 0, .string (⟨#[]⟩ : ByteArray)] 28 (0, 0)) (by (with_reducible repeat (first | refine blk_drewN ?_ _ | refine blk_drew ?_ | refine blk_alloc ?_ _)); exact BK356.out) hb); have n3_ := Aside0.mk (below_step (by repeat (first | (with_reducible first | exact HB.out | apply below_alloc | apply pw_below_drewN | apply below_drew1 | refine below_set ?_ GE354.out | refine below_set ?_ GE355.out | refine below_set ?_ GE356.out) | exact HB.out)) hb); clear BK354; clear BK355; clear BK356; clear HB; have BK354 := n0_; have BK355 := n1_; have BK356 := n2_; have HB := n3_; clear n0_ n1_ n2_ n3_; (try clear hb); (try clear hb2); (try clear hk); (try clear hi)) | ((with_reducible refine gate_callee (f := 37) rfl ?_); refine goesL_ (some 59) rfl rfl Tryd.func37 (by kernel_rfl) rfl #[.bool t377] rfl (by (try simp only [List.map_toArray, List.map_cons, List.map_nil]); first | done | rfl | (simp only [List.length_drop, List.length_take]; rfl)) ?_; (with_reducible refine (whirligigref01_truth.calls t377 t378 t379 t380 t381 _ A63.out).mono ?_); rintro e w70 ⟨rfl, hb⟩; refine ⟨_, rfl, ?_⟩; have n0_ := Aside0.mk (blk_below (g := gb354) (o := .cells #[.int .i64 a1_0, .int .i64 a1_1, .string a1_2] 28 (0, 0)) (by (with_reducible repeat (first | refine blk_drewN ?_ _ | refine blk_drew ?_ | refine blk_alloc ?_ _)); exact BK354.out) hb); have n1_ := Aside0.mk (blk_below (g := gb355) (o := .cells #[.int .i64 a2_0, .int .i64 a2_1, .string a2_2] 28 (0, 0)) (by (with_reducible repeat (first | refine blk_drewN ?_ _ | refine blk_drew ?_ | refine blk_alloc ?_ _)); exact BK355.out) hb); have n2_ := Aside0.mk (blk_below (g := gb356) (o := .cells #[.int .i64 0, .int .i64 0, .string (⟨#[]⟩ : ByteArray)] 28 (0, 0)) (by (with_reducible repeat (first | refine blk_drewN ?_ _ | refine blk_drew ?_ | refine blk_alloc ?_ _)); exact BK356.out) hb); have n3_ := Aside0.mk (below_step (by repeat (first | (with_reducible first | exact HB.out | apply below_alloc | apply pw_below_drewN | apply below_drew1 | refine below_set ?_ GE354.out | refine below_set ?_ GE355.out | refine below_set ?_ GE356.out) | exact HB.out)) hb); clear BK354; clear BK355; clear BK356; clear HB; have BK354 := n0_; have BK355 := n1_; have BK356 := n2_; have HB := n3_; clear n0_ n1_ n2_ n3_; (try clear hb); (try clear hb2); (try clear hk); (try clear hi); have hcz71_0 : w70.cell? ⟨gb356, 0, none⟩ = some (.int .i64 0) := (blk_cell BK356.out 0).trans rfl; have hcz71_1 : w70.cell? ⟨gb356, 1, none⟩ = some (.int .i64 0) := (blk_cell BK356.out 1).trans rfl; have hcz71_2 : w70.cell? ⟨gb356, 2, none⟩ = some (.string (⟨#[]⟩ : ByteArray)) := (blk_cell BK356.out 2).trans rfl; have hfz71_0 := blk_frozen BK356.out 0; have hfz71_1 := blk_frozen BK356.out 1; have hfz71_2 := blk_frozen BK356.out 2))
                  refine bodyPost_ret (results_ct rfl _ _ gb356 28 #[.int .i64 t378, .int .i64 t379, .string t380] (0, 0) _ rfl (by (with_reducible repeat (first | refine blk_drewN ?_ _ | refine blk_drew ?_ | refine blk_alloc ?_ _)); refine blk_put (cs := #[.int .i64 t378, .int .i64 t379, .string (⟨#[]⟩ : ByteArray)]) ?_ 2 _ rfl; (with_reducible repeat (first | refine blk_drewN ?_ _ | refine blk_drew ?_ | refine blk_alloc ?_ _)); refine blk_put (cs := #[.int .i64 t378, .int .i64 0, .string (⟨#[]⟩ : ByteArray)]) ?_ 1 _ rfl; (with_reducible repeat (first | refine blk_drewN ?_ _ | refine blk_drew ?_ | refine blk_alloc ?_ _)); refine blk_put (cs := #[.int .i64 0, .int .i64 0, .string (⟨#[]⟩ : ByteArray)]) ?_ 0 _ rfl; (with_reducible repeat (first | refine blk_drewN ?_ _ | refine blk_drew ?_ | refine blk_alloc ?_ _)); exact BK356.out) Tryd.underlying28 rfl (by kernel_rfl)) rfl ?_
                  exact ⟨by first | rfl | (simp [errW_none, errW_some] <;> rfl) | (simp [*, errW_none, errW_some] <;> rfl), by repeat (first | (with_reducible first | exact HB.out | apply below_alloc | apply pw_below_drewN | apply below_drew1 | refine below_set ?_ GE354.out | refine below_set ?_ GE355.out | refine below_set ?_ GE356.out) | exact HB.out)⟩
                · rw [if_neg c61] at H
                  have c61b0 : (a0 == 8) = false := beq_eq_false_iff_ne.mpr c61
                  have c61b1 : (a0 != 8) = true := bne_iff_ne.mpr c61
                  by_cases c72 : a0 = 9
                  · rw [if_pos c72] at H
                    have c72b0 : (a0 == 9) = true := beq_iff_eq.mpr c72
                    have c72b1 : (a0 != 9) = false := bne_eq_false_iff_eq.mpr c72
                    clear c72
                    replace H := Option.bind_eq_some_iff.mp H
                    obtain ⟨t382, A730, H⟩ := H
                    replace H : ((whirligigref01_truth.f (!t382)).bind fun bt383 => (some (bt383.1, bt383.2.1, bt383.2.2.1, bt383.2.2.2))) = some (r1, r2, r3, r4) := H
                    have A73 := Aside0.mk A730
                    clear A730
                    replace H := Option.bind_eq_some_iff.mp H
                    obtain ⟨⟨t383, t384, t385, t386⟩, A740, H⟩ := H
                    replace H : (some (t383, t384, t385, t386)) = some (r1, r2, r3, r4) := H
                    have A74 := Aside0.mk A740
                    clear A740
                    simp only [Option.some.injEq, Prod.mk.injEq] at H
                    obtain ⟨rfl, rfl, rfl, rfl⟩ := H
                    have hnb75 := NB355_354.out
                    have hnc75 := NB354_355.out
                    have hnb76 := NB355_356.out
                    have hnc76 := NB356_355.out
                    have hcz77_0 : wc.cell? ⟨gb355, 0, none⟩ = some (.int .i64 a2_0) := (blk_cell BK355.out 0).trans rfl
                    have hcz77_1 : wc.cell? ⟨gb355, 1, none⟩ = some (.int .i64 a2_1) := (blk_cell BK355.out 1).trans rfl
                    have hcz77_2 : wc.cell? ⟨gb355, 2, none⟩ = some (.string a2_2) := (blk_cell BK355.out 2).trans rfl
                    have hfz77_0 := blk_frozen BK355.out 0
                    have hfz77_1 := blk_frozen BK355.out 1
                    have hfz77_2 := blk_frozen BK355.out 2
                    have hnb78 := NB354_356.out
                    have hnc78 := NB356_354.out
                    have hcz79_0 : wc.cell? ⟨gb354, 0, none⟩ = some (.int .i64 a1_0) := (blk_cell BK354.out 0).trans rfl
                    have hcz79_1 : wc.cell? ⟨gb354, 1, none⟩ = some (.int .i64 a1_1) := (blk_cell BK354.out 1).trans rfl
                    have hcz79_2 : wc.cell? ⟨gb354, 2, none⟩ = some (.string a1_2) := (blk_cell BK354.out 2).trans rfl
                    have hfz79_0 := blk_frozen BK354.out 0
                    have hfz79_1 := blk_frozen BK354.out 1
                    have hfz79_2 := blk_frozen BK354.out 2
                    go_wp2_with (first | ((with_reducible refine gate_callee (f := 41) rfl ?_); refine goesL_ (some 66) rfl rfl Tryd.func41 (by kernel_rfl) rfl #[.agg #[.int .i64 a2_0, .int .i64 a2_1, .string a2_2], .agg #[.int .i64 a1_0, .int .i64 a1_1, .string a1_2]] rfl (by (try simp only [List.map_toArray, List.map_cons, List.map_nil]); first | done | rfl | (simp only [List.length_drop, List.length_take]; rfl)) ?_; (with_reducible refine (whirligigref01_before.calls kj37 a2_0 a2_1 a2_2 a1_0 a1_1 a1_2 t382 _ A73.out).mono ?_); rintro e w80 ⟨rfl, hb⟩; refine ⟨_, rfl, ?_⟩; have n0_ := Aside0.mk (blk_below (g := gb354) (o := .cells #[.int .i64 a1_0, .int .i64 a1_1, .string a1_2] 28 (0, 0)) (by (with_reducible repeat (first | refine blk_drewN ?_ _ | refine blk_drew ?_ | refine blk_alloc ?_ _)); exact BK354.out) hb); have n1_ := Aside0.mk (blk_below (g := gb355) (o := .cells #[.int .i64 a2_0, .int .i64 a2_1, .string a2_2] 28 (0, 0)) (by (with_reducible repeat (first | refine blk_drewN ?_ _ | refine blk_drew ?_ | refine blk_alloc ?_ _)); exact BK355.out) hb); have n2_ := Aside0.mk (blk_below (g := gb356) (o := .cells #[.int .i64 0, .int .i64 0, .string (⟨#[]⟩ : ByteArray)] 28 (0, 0)) (by (with_reducible repeat (first | refine blk_drewN ?_ _ | refine blk_drew ?_ | refine blk_alloc ?_ _)); exact BK356.out) hb); have n3_ := Aside0.mk (below_step (by repeat (first | (with_reducible first | exact HB.out | apply below_alloc | apply pw_below_drewN | apply below_drew1 | refine below_set ?_ GE354.out | refine below_set ?_ GE355.out | refine below_set ?_ GE356.out) | exact HB.out)) hb); clear BK354; clear BK355; clear BK356; clear HB; have BK354 := n0_; have BK355 := n1_; have BK356 := n2_; have HB := n3_; clear n0_ n1_ n2_ n3_; (try clear hb); (try clear hb2); (try clear hk); (try clear hi)) | ((with_reducible refine gate_callee (f := 37) rfl ?_); refine goesL_ (some 68) rfl rfl Tryd.func37 (by kernel_rfl) rfl #[.bool (!t382)] rfl (by (try simp only [List.map_toArray, List.map_cons, List.map_nil]); first | done | rfl | (simp only [List.length_drop, List.length_take]; rfl)) ?_; (with_reducible refine (whirligigref01_truth.calls (!t382) t383 t384 t385 t386 _ A74.out).mono ?_); rintro e w81 ⟨rfl, hb⟩; refine ⟨_, rfl, ?_⟩; have n0_ := Aside0.mk (blk_below (g := gb354) (o := .cells #[.int .i64 a1_0, .int .i64 a1_1, .string a1_2] 28 (0, 0)) (by (with_reducible repeat (first | refine blk_drewN ?_ _ | refine blk_drew ?_ | refine blk_alloc ?_ _)); exact BK354.out) hb); have n1_ := Aside0.mk (blk_below (g := gb355) (o := .cells #[.int .i64 a2_0, .int .i64 a2_1, .string a2_2] 28 (0, 0)) (by (with_reducible repeat (first | refine blk_drewN ?_ _ | refine blk_drew ?_ | refine blk_alloc ?_ _)); exact BK355.out) hb); have n2_ := Aside0.mk (blk_below (g := gb356) (o := .cells #[.int .i64 0, .int .i64 0, .string (⟨#[]⟩ : ByteArray)] 28 (0, 0)) (by (with_reducible repeat (first | refine blk_drewN ?_ _ | refine blk_drew ?_ | refine blk_alloc ?_ _)); exact BK356.out) hb); have n3_ := Aside0.mk (below_step (by repeat (first | (with_reducible first | exact HB.out | apply below_alloc | apply pw_below_drewN | apply below_drew1 | refine below_set ?_ GE354.out | refine below_set ?_ GE355.out | refine below_set ?_ GE356.out) | exact HB.out)) hb); clear BK354; clear BK355; clear BK356; clear HB; have BK354 := n0_; have BK355 := n1_; have BK356 := n2_; have HB := n3_; clear n0_ n1_ n2_ n3_; (try clear hb); (try clear hb2); (try clear hk); (try clear hi); have hcz82_0 : w81.cell? ⟨gb356, 0, none⟩ = some (.int .i64 0) := (blk_cell BK356.out 0).trans rfl; have hcz82_1 : w81.cell? ⟨gb356, 1, none⟩ = some (.int .i64 0) := (blk_cell BK356.out 1).trans rfl; have hcz82_2 : w81.cell? ⟨gb356, 2, none⟩ = some (.string (⟨#[]⟩ : ByteArray)) := (blk_cell BK356.out 2).trans rfl; have hfz82_0 := blk_frozen BK356.out 0; have hfz82_1 := blk_frozen BK356.out 1; have hfz82_2 := blk_frozen BK356.out 2))
                    refine bodyPost_ret (results_ct rfl _ _ gb356 28 #[.int .i64 t383, .int .i64 t384, .string t385] (0, 0) _ rfl (by (with_reducible repeat (first | refine blk_drewN ?_ _ | refine blk_drew ?_ | refine blk_alloc ?_ _)); refine blk_put (cs := #[.int .i64 t383, .int .i64 t384, .string (⟨#[]⟩ : ByteArray)]) ?_ 2 _ rfl; (with_reducible repeat (first | refine blk_drewN ?_ _ | refine blk_drew ?_ | refine blk_alloc ?_ _)); refine blk_put (cs := #[.int .i64 t383, .int .i64 0, .string (⟨#[]⟩ : ByteArray)]) ?_ 1 _ rfl; (with_reducible repeat (first | refine blk_drewN ?_ _ | refine blk_drew ?_ | refine blk_alloc ?_ _)); refine blk_put (cs := #[.int .i64 0, .int .i64 0, .string (⟨#[]⟩ : ByteArray)]) ?_ 0 _ rfl; (with_reducible repeat (first | refine blk_drewN ?_ _ | refine blk_drew ?_ | refine blk_alloc ?_ _)); exact BK356.out) Tryd.underlying28 rfl (by kernel_rfl)) rfl ?_
                    exact ⟨by first | rfl | (simp [errW_none, errW_some] <;> rfl) | (simp [*, errW_none, errW_some] <;> rfl), by repeat (first | (with_reducible first | exact HB.out | apply below_alloc | apply pw_below_drewN | apply below_drew1 | refine below_set ?_ GE354.out | refine below_set ?_ GE355.out | refine below_set ?_ GE356.out) | exact HB.out)⟩
                  · rw [if_neg c72] at H
                    have c72b0 : (a0 == 9) = false := beq_eq_false_iff_ne.mpr c72
                    have c72b1 : (a0 != 9) = true := bne_iff_ne.mpr c72
                    by_cases c83 : a0 = 10
                    · rw [if_pos c83] at H
                      have c83b0 : (a0 == 10) = true := beq_iff_eq.mpr c83
                      have c83b1 : (a0 != 10) = false := bne_eq_false_iff_eq.mpr c83
                      clear c83
                      replace H := Option.bind_eq_some_iff.mp H
                      obtain ⟨t387, A840, H⟩ := H
                      replace H : ((whirligigref01_truth.f t387).bind fun bt388 => (some (bt388.1, bt388.2.1, bt388.2.2.1, bt388.2.2.2))) = some (r1, r2, r3, r4) := H
                      have A84 := Aside0.mk A840
                      clear A840
                      replace H := Option.bind_eq_some_iff.mp H
                      obtain ⟨⟨t388, t389, t390, t391⟩, A850, H⟩ := H
                      replace H : (some (t388, t389, t390, t391)) = some (r1, r2, r3, r4) := H
                      have A85 := Aside0.mk A850
                      clear A850
                      simp only [Option.some.injEq, Prod.mk.injEq] at H
                      obtain ⟨rfl, rfl, rfl, rfl⟩ := H
                      have hnb86 := NB355_354.out
                      have hnc86 := NB354_355.out
                      have hnb87 := NB355_356.out
                      have hnc87 := NB356_355.out
                      have hcz88_0 : wc.cell? ⟨gb355, 0, none⟩ = some (.int .i64 a2_0) := (blk_cell BK355.out 0).trans rfl
                      have hcz88_1 : wc.cell? ⟨gb355, 1, none⟩ = some (.int .i64 a2_1) := (blk_cell BK355.out 1).trans rfl
                      have hcz88_2 : wc.cell? ⟨gb355, 2, none⟩ = some (.string a2_2) := (blk_cell BK355.out 2).trans rfl
                      have hfz88_0 := blk_frozen BK355.out 0
                      have hfz88_1 := blk_frozen BK355.out 1
                      have hfz88_2 := blk_frozen BK355.out 2
                      have hnb89 := NB354_356.out
                      have hnc89 := NB356_354.out
                      have hcz90_0 : wc.cell? ⟨gb354, 0, none⟩ = some (.int .i64 a1_0) := (blk_cell BK354.out 0).trans rfl
                      have hcz90_1 : wc.cell? ⟨gb354, 1, none⟩ = some (.int .i64 a1_1) := (blk_cell BK354.out 1).trans rfl
                      have hcz90_2 : wc.cell? ⟨gb354, 2, none⟩ = some (.string a1_2) := (blk_cell BK354.out 2).trans rfl
                      have hfz90_0 := blk_frozen BK354.out 0
                      have hfz90_1 := blk_frozen BK354.out 1
                      have hfz90_2 := blk_frozen BK354.out 2
                      go_wp2_with (first | ((with_reducible refine gate_callee (f := 41) rfl ?_); refine goesL_ (some 75) rfl rfl Tryd.func41 (by kernel_rfl) rfl #[.agg #[.int .i64 a2_0, .int .i64 a2_1, .string a2_2], .agg #[.int .i64 a1_0, .int .i64 a1_1, .string a1_2]] rfl (by (try simp only [List.map_toArray, List.map_cons, List.map_nil]); first | done | rfl | (simp only [List.length_drop, List.length_take]; rfl)) ?_; (with_reducible refine (whirligigref01_before.calls kj37 a2_0 a2_1 a2_2 a1_0 a1_1 a1_2 t387 _ A84.out).mono ?_); rintro e w91 ⟨rfl, hb⟩; refine ⟨_, rfl, ?_⟩; have n0_ := Aside0.mk (blk_below (g := gb354) (o := .cells #[.int .i64 a1_0, .int .i64 a1_1, .string a1_2] 28 (0, 0)) (by (with_reducible repeat (first | refine blk_drewN ?_ _ | refine blk_drew ?_ | refine blk_alloc ?_ _)); exact BK354.out) hb); have n1_ := Aside0.mk (blk_below (g := gb355) (o := .cells #[.int .i64 a2_0, .int .i64 a2_1, .string a2_2] 28 (0, 0)) (by (with_reducible repeat (first | refine blk_drewN ?_ _ | refine blk_drew ?_ | refine blk_alloc ?_ _)); exact BK355.out) hb); have n2_ := Aside0.mk (blk_below (g := gb356) (o := .cells #[.int .i64 0, .int .i64 0, .string (⟨#[]⟩ : ByteArray)] 28 (0, 0)) (by (with_reducible repeat (first | refine blk_drewN ?_ _ | refine blk_drew ?_ | refine blk_alloc ?_ _)); exact BK356.out) hb); have n3_ := Aside0.mk (below_step (by repeat (first | (with_reducible first | exact HB.out | apply below_alloc | apply pw_below_drewN | apply below_drew1 | refine below_set ?_ GE354.out | refine below_set ?_ GE355.out | refine below_set ?_ GE356.out) | exact HB.out)) hb); clear BK354; clear BK355; clear BK356; clear HB; have BK354 := n0_; have BK355 := n1_; have BK356 := n2_; have HB := n3_; clear n0_ n1_ n2_ n3_; (try clear hb); (try clear hb2); (try clear hk); (try clear hi)) | ((with_reducible refine gate_callee (f := 37) rfl ?_); refine goesL_ (some 76) rfl rfl Tryd.func37 (by kernel_rfl) rfl #[.bool t387] rfl (by (try simp only [List.map_toArray, List.map_cons, List.map_nil]); first | done | rfl | (simp only [List.length_drop, List.length_take]; rfl)) ?_; (with_reducible refine (whirligigref01_truth.calls t387 t388 t389 t390 t391 _ A85.out).mono ?_); rintro e w92 ⟨rfl, hb⟩; refine ⟨_, rfl, ?_⟩; have n0_ := Aside0.mk (blk_below (g := gb354) (o := .cells #[.int .i64 a1_0, .int .i64 a1_1, .string a1_2] 28 (0, 0)) (by (with_reducible repeat (first | refine blk_drewN ?_ _ | refine blk_drew ?_ | refine blk_alloc ?_ _)); exact BK354.out) hb); have n1_ := Aside0.mk (blk_below (g := gb355) (o := .cells #[.int .i64 a2_0, .int .i64 a2_1, .string a2_2] 28 (0, 0)) (by (with_reducible repeat (first | refine blk_drewN ?_ _ | refine blk_drew ?_ | refine blk_alloc ?_ _)); exact BK355.out) hb); have n2_ := Aside0.mk (blk_below (g := gb356) (o := .cells #[.int .i64 0, .int .i64 0, .string (⟨#[]⟩ : ByteArray)] 28 (0, 0)) (by (with_reducible repeat (first | refine blk_drewN ?_ _ | refine blk_drew ?_ | refine blk_alloc ?_ _)); exact BK356.out) hb); have n3_ := Aside0.mk (below_step (by repeat (first | (with_reducible first | exact HB.out | apply below_alloc | apply pw_below_drewN | apply below_drew1 | refine below_set ?_ GE354.out | refine below_set ?_ GE355.out | refine below_set ?_ GE356.out) | exact HB.out)) hb); clear BK354; clear BK355; clear BK356; clear HB; have BK354 := n0_; have BK355 := n1_; have BK356 := n2_; have HB := n3_; clear n0_ n1_ n2_ n3_; (try clear hb); (try clear hb2); (try clear hk); (try clear hi); have hcz93_0 : w92.cell? ⟨gb356, 0, none⟩ = some (.int .i64 0) := (blk_cell BK356.out 0).trans rfl; have hcz93_1 : w92.cell? ⟨gb356, 1, none⟩ = some (.int .i64 0) := (blk_cell BK356.out 1).trans rfl; have hcz93_2 : w92.cell? ⟨gb356, 2, none⟩ = some (.string (⟨#[]⟩ : ByteArray)) := (blk_cell BK356.out 2).trans rfl; have hfz93_0 := blk_frozen BK356.out 0; have hfz93_1 := blk_frozen BK356.out 1; have hfz93_2 := blk_frozen BK356.out 2))
                      refine bodyPost_ret (results_ct rfl _ _ gb356 28 #[.int .i64 t388, .int .i64 t389, .string t390] (0, 0) _ rfl (by (with_reducible repeat (first | refine blk_drewN ?_ _ | refine blk_drew ?_ | refine blk_alloc ?_ _)); refine blk_put (cs := #[.int .i64 t388, .int .i64 t389, .string (⟨#[]⟩ : ByteArray)]) ?_ 2 _ rfl; (with_reducible repeat (first | refine blk_drewN ?_ _ | refine blk_drew ?_ | refine blk_alloc ?_ _)); refine blk_put (cs := #[.int .i64 t388, .int .i64 0, .string (⟨#[]⟩ : ByteArray)]) ?_ 1 _ rfl; (with_reducible repeat (first | refine blk_drewN ?_ _ | refine blk_drew ?_ | refine blk_alloc ?_ _)); refine blk_put (cs := #[.int .i64 0, .int .i64 0, .string (⟨#[]⟩ : ByteArray)]) ?_ 0 _ rfl; (with_reducible repeat (first | refine blk_drewN ?_ _ | refine blk_drew ?_ | refine blk_alloc ?_ _)); exact BK356.out) Tryd.underlying28 rfl (by kernel_rfl)) rfl ?_
                      exact ⟨by first | rfl | (simp [errW_none, errW_some] <;> rfl) | (simp [*, errW_none, errW_some] <;> rfl), by repeat (first | (with_reducible first | exact HB.out | apply below_alloc | apply pw_below_drewN | apply below_drew1 | refine below_set ?_ GE354.out | refine below_set ?_ GE355.out | refine below_set ?_ GE356.out) | exact HB.out)⟩
                    · rw [if_neg c83] at H
                      have c83b0 : (a0 == 10) = false := beq_eq_false_iff_ne.mpr c83
                      have c83b1 : (a0 != 10) = true := bne_iff_ne.mpr c83
                      by_cases c94 : a0 = 11
                      · rw [if_pos c94] at H
                        have c94b0 : (a0 == 11) = true := beq_iff_eq.mpr c94
                        have c94b1 : (a0 != 11) = false := bne_eq_false_iff_eq.mpr c94
                        clear c94
                        replace H := Option.bind_eq_some_iff.mp H
                        obtain ⟨t392, A950, H⟩ := H
                        replace H : ((whirligigref01_truth.f (!t392)).bind fun bt393 => (some (bt393.1, bt393.2.1, bt393.2.2.1, bt393.2.2.2))) = some (r1, r2, r3, r4) := H
                        have A95 := Aside0.mk A950
                        clear A950
                        replace H := Option.bind_eq_some_iff.mp H
                        obtain ⟨⟨t393, t394, t395, t396⟩, A960, H⟩ := H
                        replace H : (some (t393, t394, t395, t396)) = some (r1, r2, r3, r4) := H
                        have A96 := Aside0.mk A960
                        clear A960
                        simp only [Option.some.injEq, Prod.mk.injEq] at H
                        obtain ⟨rfl, rfl, rfl, rfl⟩ := H
                        have hnb97 := NB354_355.out
                        have hnc97 := NB355_354.out
                        have hnb98 := NB354_356.out
                        have hnc98 := NB356_354.out
                        have hcz99_0 : wc.cell? ⟨gb354, 0, none⟩ = some (.int .i64 a1_0) := (blk_cell BK354.out 0).trans rfl
                        have hcz99_1 : wc.cell? ⟨gb354, 1, none⟩ = some (.int .i64 a1_1) := (blk_cell BK354.out 1).trans rfl
                        have hcz99_2 : wc.cell? ⟨gb354, 2, none⟩ = some (.string a1_2) := (blk_cell BK354.out 2).trans rfl
                        have hfz99_0 := blk_frozen BK354.out 0
                        have hfz99_1 := blk_frozen BK354.out 1
                        have hfz99_2 := blk_frozen BK354.out 2
                        have hnb100 := NB355_356.out
                        have hnc100 := NB356_355.out
                        have hcz101_0 : wc.cell? ⟨gb355, 0, none⟩ = some (.int .i64 a2_0) := (blk_cell BK355.out 0).trans rfl
                        have hcz101_1 : wc.cell? ⟨gb355, 1, none⟩ = some (.int .i64 a2_1) := (blk_cell BK355.out 1).trans rfl
                        have hcz101_2 : wc.cell? ⟨gb355, 2, none⟩ = some (.string a2_2) := (blk_cell BK355.out 2).trans rfl
                        have hfz101_0 := blk_frozen BK355.out 0
                        have hfz101_1 := blk_frozen BK355.out 1
                        have hfz101_2 := blk_frozen BK355.out 2
                        go_wp2_with (first | ((with_reducible refine gate_callee (f := 41) rfl ?_); refine goesL_ (some 83) rfl rfl Tryd.func41 (by kernel_rfl) rfl #[.agg #[.int .i64 a1_0, .int .i64 a1_1, .string a1_2], .agg #[.int .i64 a2_0, .int .i64 a2_1, .string a2_2]] rfl (by (try simp only [List.map_toArray, List.map_cons, List.map_nil]); first | done | rfl | (simp only [List.length_drop, List.length_take]; rfl)) ?_; (with_reducible refine (whirligigref01_before.calls kj37 a1_0 a1_1 a1_2 a2_0 a2_1 a2_2 t392 _ A95.out).mono ?_); rintro e w102 ⟨rfl, hb⟩; refine ⟨_, rfl, ?_⟩; have n0_ := Aside0.mk (blk_below (g := gb354) (o := .cells #[.int .i64 a1_0, .int .i64 a1_1, .string a1_2] 28 (0, 0)) (by (with_reducible repeat (first | refine blk_drewN ?_ _ | refine blk_drew ?_ | refine blk_alloc ?_ _)); exact BK354.out) hb); have n1_ := Aside0.mk (blk_below (g := gb355) (o := .cells #[.int .i64 a2_0, .int .i64 a2_1, .string a2_2] 28 (0, 0)) (by (with_reducible repeat (first | refine blk_drewN ?_ _ | refine blk_drew ?_ | refine blk_alloc ?_ _)); exact BK355.out) hb); have n2_ := Aside0.mk (blk_below (g := gb356) (o := .cells #[.int .i64 0, .int .i64 0, .string (⟨#[]⟩ : ByteArray)] 28 (0, 0)) (by (with_reducible repeat (first | refine blk_drewN ?_ _ | refine blk_drew ?_ | refine blk_alloc ?_ _)); exact BK356.out) hb); have n3_ := Aside0.mk (below_step (by repeat (first | (with_reducible first | exact HB.out | apply below_alloc | apply pw_below_drewN | apply below_drew1 | refine below_set ?_ GE354.out | refine below_set ?_ GE355.out | refine below_set ?_ GE356.out) | exact HB.out)) hb); clear BK354; clear BK355; clear BK356; clear HB; have BK354 := n0_; have BK355 := n1_; have BK356 := n2_; have HB := n3_; clear n0_ n1_ n2_ n3_; (try clear hb); (try clear hb2); (try clear hk); (try clear hi)) | ((with_reducible refine gate_callee (f := 37) rfl ?_); refine goesL_ (some 85) rfl rfl Tryd.func37 (by kernel_rfl) rfl #[.bool (!t392)] rfl (by (try simp only [List.map_toArray, List.map_cons, List.map_nil]); first | done | rfl | (simp only [List.length_drop, List.length_take]; rfl)) ?_; (with_reducible refine (whirligigref01_truth.calls (!t392) t393 t394 t395 t396 _ A96.out).mono ?_); rintro e w103 ⟨rfl, hb⟩; refine ⟨_, rfl, ?_⟩; have n0_ := Aside0.mk (blk_below (g := gb354) (o := .cells #[.int .i64 a1_0, .int .i64 a1_1, .string a1_2] 28 (0, 0)) (by (with_reducible repeat (first | refine blk_drewN ?_ _ | refine blk_drew ?_ | refine blk_alloc ?_ _)); exact BK354.out) hb); have n1_ := Aside0.mk (blk_below (g := gb355) (o := .cells #[.int .i64 a2_0, .int .i64 a2_1, .string a2_2] 28 (0, 0)) (by (with_reducible repeat (first | refine blk_drewN ?_ _ | refine blk_drew ?_ | refine blk_alloc ?_ _)); exact BK355.out) hb); have n2_ := Aside0.mk (blk_below (g := gb356) (o := .cells #[.int .i64 0, .int .i64 0, .string (⟨#[]⟩ : ByteArray)] 28 (0, 0)) (by (with_reducible repeat (first | refine blk_drewN ?_ _ | refine blk_drew ?_ | refine blk_alloc ?_ _)); exact BK356.out) hb); have n3_ := Aside0.mk (below_step (by repeat (first | (with_reducible first | exact HB.out | apply below_alloc | apply pw_below_drewN | apply below_drew1 | refine below_set ?_ GE354.out | refine below_set ?_ GE355.out | refine below_set ?_ GE356.out) | exact HB.out)) hb); clear BK354; clear BK355; clear BK356; clear HB; have BK354 := n0_; have BK355 := n1_; have BK356 := n2_; have HB := n3_; clear n0_ n1_ n2_ n3_; (try clear hb); (try clear hb2); (try clear hk); (try clear hi); have hcz104_0 : w103.cell? ⟨gb356, 0, none⟩ = some (.int .i64 0) := (blk_cell BK356.out 0).trans rfl; have hcz104_1 : w103.cell? ⟨gb356, 1, none⟩ = some (.int .i64 0) := (blk_cell BK356.out 1).trans rfl; have hcz104_2 : w103.cell? ⟨gb356, 2, none⟩ = some (.string (⟨#[]⟩ : ByteArray)) := (blk_cell BK356.out 2).trans rfl; have hfz104_0 := blk_frozen BK356.out 0; have hfz104_1 := blk_frozen BK356.out 1; have hfz104_2 := blk_frozen BK356.out 2))
                        refine bodyPost_ret (results_ct rfl _ _ gb356 28 #[.int .i64 t393, .int .i64 t394, .string t395] (0, 0) _ rfl (by (with_reducible repeat (first | refine blk_drewN ?_ _ | refine blk_drew ?_ | refine blk_alloc ?_ _)); refine blk_put (cs := #[.int .i64 t393, .int .i64 t394, .string (⟨#[]⟩ : ByteArray)]) ?_ 2 _ rfl; (with_reducible repeat (first | refine blk_drewN ?_ _ | refine blk_drew ?_ | refine blk_alloc ?_ _)); refine blk_put (cs := #[.int .i64 t393, .int .i64 0, .string (⟨#[]⟩ : ByteArray)]) ?_ 1 _ rfl; (with_reducible repeat (first | refine blk_drewN ?_ _ | refine blk_drew ?_ | refine blk_alloc ?_ _)); refine blk_put (cs := #[.int .i64 0, .int .i64 0, .string (⟨#[]⟩ : ByteArray)]) ?_ 0 _ rfl; (with_reducible repeat (first | refine blk_drewN ?_ _ | refine blk_drew ?_ | refine blk_alloc ?_ _)); exact BK356.out) Tryd.underlying28 rfl (by kernel_rfl)) rfl ?_
                        exact ⟨by first | rfl | (simp [errW_none, errW_some] <;> rfl) | (simp [*, errW_none, errW_some] <;> rfl), by repeat (first | (with_reducible first | exact HB.out | apply below_alloc | apply pw_below_drewN | apply below_drew1 | refine below_set ?_ GE354.out | refine below_set ?_ GE355.out | refine below_set ?_ GE356.out) | exact HB.out)⟩
                      · rw [if_neg c94] at H
                        have c94b0 : (a0 == 11) = false := beq_eq_false_iff_ne.mpr c94
                        have c94b1 : (a0 != 11) = true := bne_iff_ne.mpr c94
                        by_cases c105 : a0 = 12
                        · rw [if_pos c105] at H
                          have c105b0 : (a0 == 12) = true := beq_iff_eq.mpr c105
                          have c105b1 : (a0 != 12) = false := bne_eq_false_iff_eq.mpr c105
                          clear c105
                          replace H := Option.bind_eq_some_iff.mp H
                          obtain ⟨⟨t397, t398, t399, t400⟩, A1060, H⟩ := H
                          replace H : (some (t397, t398, t399, t400)) = some (r1, r2, r3, r4) := H
                          have A106 := Aside0.mk A1060
                          clear A1060
                          simp only [Option.some.injEq, Prod.mk.injEq] at H
                          obtain ⟨rfl, rfl, rfl, rfl⟩ := H
                          have hnb107 := NB354_355.out
                          have hnc107 := NB355_354.out
                          have hnb108 := NB354_356.out
                          have hnc108 := NB356_354.out
                          have hcz109_0 : wc.cell? ⟨gb354, 0, none⟩ = some (.int .i64 a1_0) := (blk_cell BK354.out 0).trans rfl
                          have hcz109_1 : wc.cell? ⟨gb354, 1, none⟩ = some (.int .i64 a1_1) := (blk_cell BK354.out 1).trans rfl
                          have hcz109_2 : wc.cell? ⟨gb354, 2, none⟩ = some (.string a1_2) := (blk_cell BK354.out 2).trans rfl
                          have hfz109_0 := blk_frozen BK354.out 0
                          have hfz109_1 := blk_frozen BK354.out 1
                          have hfz109_2 := blk_frozen BK354.out 2
                          have hnb110 := NB355_356.out
                          have hnc110 := NB356_355.out
                          have hcz111_0 : wc.cell? ⟨gb355, 0, none⟩ = some (.int .i64 a2_0) := (blk_cell BK355.out 0).trans rfl
                          have hcz111_1 : wc.cell? ⟨gb355, 1, none⟩ = some (.int .i64 a2_1) := (blk_cell BK355.out 1).trans rfl
                          have hcz111_2 : wc.cell? ⟨gb355, 2, none⟩ = some (.string a2_2) := (blk_cell BK355.out 2).trans rfl
                          have hfz111_0 := blk_frozen BK355.out 0
                          have hfz111_1 := blk_frozen BK355.out 1
                          have hfz111_2 := blk_frozen BK355.out 2
                          go_wp2_with (first | ((with_reducible refine gate_callee (f := 37) rfl ?_); refine goesL_ (some 93) rfl rfl Tryd.func37 (by kernel_rfl) rfl #[.bool (a1_0 == a2_0 && (a1_1 == a2_1 && (a1_2.toList == a2_2.toList)))] rfl (by (try simp only [List.map_toArray, List.map_cons, List.map_nil]); first | done | rfl | (simp only [List.length_drop, List.length_take]; rfl)) ?_; (with_reducible refine (whirligigref01_truth.calls (a1_0 == a2_0 && (a1_1 == a2_1 && (a1_2.toList == a2_2.toList))) t397 t398 t399 t400 _ A106.out).mono ?_); rintro e w112 ⟨rfl, hb⟩; refine ⟨_, rfl, ?_⟩; have n0_ := Aside0.mk (blk_below (g := gb354) (o := .cells #[.int .i64 a1_0, .int .i64 a1_1, .string a1_2] 28 (0, 0)) (by (with_reducible repeat (first | refine blk_drewN ?_ _ | refine blk_drew ?_ | refine blk_alloc ?_ _)); exact BK354.out) hb); have n1_ := Aside0.mk (blk_below (g := gb355) (o := .cells #[.int .i64 a2_0, .int .i64 a2_1, .string a2_2] 28 (0, 0)) (by (with_reducible repeat (first | refine blk_drewN ?_ _ | refine blk_drew ?_ | refine blk_alloc ?_ _)); exact BK355.out) hb); have n2_ := Aside0.mk (blk_below (g := gb356) (o := .cells #[.int .i64 0, .int .i64 0, .string (⟨#[]⟩ : ByteArray)] 28 (0, 0)) (by (with_reducible repeat (first | refine blk_drewN ?_ _ | refine blk_drew ?_ | refine blk_alloc ?_ _)); exact BK356.out) hb); have n3_ := Aside0.mk (below_step (by repeat (first | (with_reducible first | exact HB.out | apply below_alloc | apply pw_below_drewN | apply below_drew1 | refine below_set ?_ GE354.out | refine below_set ?_ GE355.out | refine below_set ?_ GE356.out) | exact HB.out)) hb); clear BK354; clear BK355; clear BK356; clear HB; have BK354 := n0_; have BK355 := n1_; have BK356 := n2_; have HB := n3_; clear n0_ n1_ n2_ n3_; (try clear hb); (try clear hb2); (try clear hk); (try clear hi); have hcz113_0 : w112.cell? ⟨gb356, 0, none⟩ = some (.int .i64 0) := (blk_cell BK356.out 0).trans rfl; have hcz113_1 : w112.cell? ⟨gb356, 1, none⟩ = some (.int .i64 0) := (blk_cell BK356.out 1).trans rfl; have hcz113_2 : w112.cell? ⟨gb356, 2, none⟩ = some (.string (⟨#[]⟩ : ByteArray)) := (blk_cell BK356.out 2).trans rfl; have hfz113_0 := blk_frozen BK356.out 0; have hfz113_1 := blk_frozen BK356.out 1; have hfz113_2 := blk_frozen BK356.out 2))
                          refine bodyPost_ret (results_ct rfl _ _ gb356 28 #[.int .i64 t397, .int .i64 t398, .string t399] (0, 0) _ rfl (by (with_reducible repeat (first | refine blk_drewN ?_ _ | refine blk_drew ?_ | refine blk_alloc ?_ _)); refine blk_put (cs := #[.int .i64 t397, .int .i64 t398, .string (⟨#[]⟩ : ByteArray)]) ?_ 2 _ rfl; (with_reducible repeat (first | refine blk_drewN ?_ _ | refine blk_drew ?_ | refine blk_alloc ?_ _)); refine blk_put (cs := #[.int .i64 t397, .int .i64 0, .string (⟨#[]⟩ : ByteArray)]) ?_ 1 _ rfl; (with_reducible repeat (first | refine blk_drewN ?_ _ | refine blk_drew ?_ | refine blk_alloc ?_ _)); refine blk_put (cs := #[.int .i64 0, .int .i64 0, .string (⟨#[]⟩ : ByteArray)]) ?_ 0 _ rfl; (with_reducible repeat (first | refine blk_drewN ?_ _ | refine blk_drew ?_ | refine blk_alloc ?_ _)); exact BK356.out) Tryd.underlying28 rfl (by kernel_rfl)) rfl ?_
                          exact ⟨by first | rfl | (simp [errW_none, errW_some] <;> rfl) | (simp [*, errW_none, errW_some] <;> rfl), by repeat (first | (with_reducible first | exact HB.out | apply below_alloc | apply pw_below_drewN | apply below_drew1 | refine below_set ?_ GE354.out | refine below_set ?_ GE355.out | refine below_set ?_ GE356.out) | exact HB.out)⟩
                        · rw [if_neg c105] at H
                          have c105b0 : (a0 == 12) = false := beq_eq_false_iff_ne.mpr c105
                          have c105b1 : (a0 != 12) = true := bne_iff_ne.mpr c105
                          by_cases c114 : a0 = 13
                          · rw [if_pos c114] at H
                            have c114b0 : (a0 == 13) = true := beq_iff_eq.mpr c114
                            have c114b1 : (a0 != 13) = false := bne_eq_false_iff_eq.mpr c114
                            clear c114
                            replace H := Option.bind_eq_some_iff.mp H
                            obtain ⟨⟨t401, t402, t403, t404⟩, A1150, H⟩ := H
                            replace H : (some (t401, t402, t403, t404)) = some (r1, r2, r3, r4) := H
                            have A115 := Aside0.mk A1150
                            clear A1150
                            simp only [Option.some.injEq, Prod.mk.injEq] at H
                            obtain ⟨rfl, rfl, rfl, rfl⟩ := H
                            have hnb116 := NB354_355.out
                            have hnc116 := NB355_354.out
                            have hnb117 := NB354_356.out
                            have hnc117 := NB356_354.out
                            have hcz118_0 : wc.cell? ⟨gb354, 0, none⟩ = some (.int .i64 a1_0) := (blk_cell BK354.out 0).trans rfl
                            have hcz118_1 : wc.cell? ⟨gb354, 1, none⟩ = some (.int .i64 a1_1) := (blk_cell BK354.out 1).trans rfl
                            have hcz118_2 : wc.cell? ⟨gb354, 2, none⟩ = some (.string a1_2) := (blk_cell BK354.out 2).trans rfl
                            have hfz118_0 := blk_frozen BK354.out 0
                            have hfz118_1 := blk_frozen BK354.out 1
                            have hfz118_2 := blk_frozen BK354.out 2
                            have hnb119 := NB355_356.out
                            have hnc119 := NB356_355.out
                            have hcz120_0 : wc.cell? ⟨gb355, 0, none⟩ = some (.int .i64 a2_0) := (blk_cell BK355.out 0).trans rfl
                            have hcz120_1 : wc.cell? ⟨gb355, 1, none⟩ = some (.int .i64 a2_1) := (blk_cell BK355.out 1).trans rfl
                            have hcz120_2 : wc.cell? ⟨gb355, 2, none⟩ = some (.string a2_2) := (blk_cell BK355.out 2).trans rfl
                            have hfz120_0 := blk_frozen BK355.out 0
                            have hfz120_1 := blk_frozen BK355.out 1
                            have hfz120_2 := blk_frozen BK355.out 2
                            go_wp2_with (first | ((with_reducible refine gate_callee (f := 37) rfl ?_); refine goesL_ (some 101) rfl rfl Tryd.func37 (by kernel_rfl) rfl #[.bool (!(a1_0 == a2_0) || (!(a1_1 == a2_1) || (!(a1_2.toList == a2_2.toList))))] rfl (by (try simp only [List.map_toArray, List.map_cons, List.map_nil]); first | done | rfl | (simp only [List.length_drop, List.length_take]; rfl)) ?_; (with_reducible refine (whirligigref01_truth.calls (!(a1_0 == a2_0) || (!(a1_1 == a2_1) || (!(a1_2.toList == a2_2.toList)))) t401 t402 t403 t404 _ A115.out).mono ?_); rintro e w121 ⟨rfl, hb⟩; refine ⟨_, rfl, ?_⟩; have n0_ := Aside0.mk (blk_below (g := gb354) (o := .cells #[.int .i64 a1_0, .int .i64 a1_1, .string a1_2] 28 (0, 0)) (by (with_reducible repeat (first | refine blk_drewN ?_ _ | refine blk_drew ?_ | refine blk_alloc ?_ _)); exact BK354.out) hb); have n1_ := Aside0.mk (blk_below (g := gb355) (o := .cells #[.int .i64 a2_0, .int .i64 a2_1, .string a2_2] 28 (0, 0)) (by (with_reducible repeat (first | refine blk_drewN ?_ _ | refine blk_drew ?_ | refine blk_alloc ?_ _)); exact BK355.out) hb); have n2_ := Aside0.mk (blk_below (g := gb356) (o := .cells #[.int .i64 0, .int .i64 0, .string (⟨#[]⟩ : ByteArray)] 28 (0, 0)) (by (with_reducible repeat (first | refine blk_drewN ?_ _ | refine blk_drew ?_ | refine blk_alloc ?_ _)); exact BK356.out) hb); have n3_ := Aside0.mk (below_step (by repeat (first | (with_reducible first | exact HB.out | apply below_alloc | apply pw_below_drewN | apply below_drew1 | refine below_set ?_ GE354.out | refine below_set ?_ GE355.out | refine below_set ?_ GE356.out) | exact HB.out)) hb); clear BK354; clear BK355; clear BK356; clear HB; have BK354 := n0_; have BK355 := n1_; have BK356 := n2_; have HB := n3_; clear n0_ n1_ n2_ n3_; (try clear hb); (try clear hb2); (try clear hk); (try clear hi); have hcz122_0 : w121.cell? ⟨gb356, 0, none⟩ = some (.int .i64 0) := (blk_cell BK356.out 0).trans rfl; have hcz122_1 : w121.cell? ⟨gb356, 1, none⟩ = some (.int .i64 0) := (blk_cell BK356.out 1).trans rfl; have hcz122_2 : w121.cell? ⟨gb356, 2, none⟩ = some (.string (⟨#[]⟩ : ByteArray)) := (blk_cell BK356.out 2).trans rfl; have hfz122_0 := blk_frozen BK356.out 0; have hfz122_1 := blk_frozen BK356.out 1; have hfz122_2 := blk_frozen BK356.out 2))
                            refine bodyPost_ret (results_ct rfl _ _ gb356 28 #[.int .i64 t401, .int .i64 t402, .string t403] (0, 0) _ rfl (by (with_reducible repeat (first | refine blk_drewN ?_ _ | refine blk_drew ?_ | refine blk_alloc ?_ _)); refine blk_put (cs := #[.int .i64 t401, .int .i64 t402, .string (⟨#[]⟩ : ByteArray)]) ?_ 2 _ rfl; (with_reducible repeat (first | refine blk_drewN ?_ _ | refine blk_drew ?_ | refine blk_alloc ?_ _)); refine blk_put (cs := #[.int .i64 t401, .int .i64 0, .string (⟨#[]⟩ : ByteArray)]) ?_ 1 _ rfl; (with_reducible repeat (first | refine blk_drewN ?_ _ | refine blk_drew ?_ | refine blk_alloc ?_ _)); refine blk_put (cs := #[.int .i64 0, .int .i64 0, .string (⟨#[]⟩ : ByteArray)]) ?_ 0 _ rfl; (with_reducible repeat (first | refine blk_drewN ?_ _ | refine blk_drew ?_ | refine blk_alloc ?_ _)); exact BK356.out) Tryd.underlying28 rfl (by kernel_rfl)) rfl ?_
                            exact ⟨by first | rfl | (simp [errW_none, errW_some] <;> rfl) | (simp [*, errW_none, errW_some] <;> rfl), by repeat (first | (with_reducible first | exact HB.out | apply below_alloc | apply pw_below_drewN | apply below_drew1 | refine below_set ?_ GE354.out | refine below_set ?_ GE355.out | refine below_set ?_ GE356.out) | exact HB.out)⟩
                          · rw [if_neg c114] at H
                            have c114b0 : (a0 == 13) = false := beq_eq_false_iff_ne.mpr c114
                            have c114b1 : (a0 != 13) = true := bne_iff_ne.mpr c114
                            by_cases c123 : a0 = 14
                            · rw [if_pos c123] at H
                              have c123b0 : (a0 == 14) = true := beq_iff_eq.mpr c123
                              have c123b1 : (a0 != 14) = false := bne_eq_false_iff_eq.mpr c123
                              clear c123
                              by_cases c124 : a1_1 = 1
                              · rw [if_pos c124] at H
                                have c124b0 : (a1_1 == 1) = true := beq_iff_eq.mpr c124
                                have c124b1 : (a1_1 != 1) = false := bne_eq_false_iff_eq.mpr c124
                                clear c124
                                replace H := Option.bind_eq_some_iff.mp H
                                obtain ⟨⟨t405, t406, t407, t408⟩, A1250, H⟩ := H
                                replace H : (some (t405, t406, t407, t408)) = some (r1, r2, r3, r4) := H
                                have A125 := Aside0.mk A1250
                                clear A1250
                                simp only [Option.some.injEq, Prod.mk.injEq] at H
                                obtain ⟨rfl, rfl, rfl, rfl⟩ := H
                                have hnb126 := NB354_355.out
                                have hnc126 := NB355_354.out
                                have hnb127 := NB354_356.out
                                have hnc127 := NB356_354.out
                                have hcz128_0 : wc.cell? ⟨gb354, 0, none⟩ = some (.int .i64 a1_0) := (blk_cell BK354.out 0).trans rfl
                                have hcz128_1 : wc.cell? ⟨gb354, 1, none⟩ = some (.int .i64 a1_1) := (blk_cell BK354.out 1).trans rfl
                                have hcz128_2 : wc.cell? ⟨gb354, 2, none⟩ = some (.string a1_2) := (blk_cell BK354.out 2).trans rfl
                                have hfz128_0 := blk_frozen BK354.out 0
                                have hfz128_1 := blk_frozen BK354.out 1
                                have hfz128_2 := blk_frozen BK354.out 2
                                have hnb129 := NB355_356.out
                                have hnc129 := NB356_355.out
                                have hcz130_0 : wc.cell? ⟨gb355, 0, none⟩ = some (.int .i64 a2_0) := (blk_cell BK355.out 0).trans rfl
                                have hcz130_1 : wc.cell? ⟨gb355, 1, none⟩ = some (.int .i64 a2_1) := (blk_cell BK355.out 1).trans rfl
                                have hcz130_2 : wc.cell? ⟨gb355, 2, none⟩ = some (.string a2_2) := (blk_cell BK355.out 2).trans rfl
                                have hfz130_0 := blk_frozen BK355.out 0
                                have hfz130_1 := blk_frozen BK355.out 1
                                have hfz130_2 := blk_frozen BK355.out 2
                                go_wp2_with (first | ((with_reducible refine gate_callee (f := 37) rfl ?_); refine goesL_ (some 114) rfl rfl Tryd.func37 (by kernel_rfl) rfl #[.bool (a2_1 == 1)] rfl (by (try simp only [List.map_toArray, List.map_cons, List.map_nil]); first | done | rfl | (simp only [List.length_drop, List.length_take]; rfl)) ?_; (with_reducible refine (whirligigref01_truth.calls (a2_1 == 1) t405 t406 t407 t408 _ A125.out).mono ?_); rintro e w131 ⟨rfl, hb⟩; refine ⟨_, rfl, ?_⟩; have n0_ := Aside0.mk (blk_below (g := gb354) (o := .cells #[.int .i64 a1_0, .int .i64 a1_1, .string a1_2] 28 (0, 0)) (by (with_reducible repeat (first | refine blk_drewN ?_ _ | refine blk_drew ?_ | refine blk_alloc ?_ _)); exact BK354.out) hb); have n1_ := Aside0.mk (blk_below (g := gb355) (o := .cells #[.int .i64 a2_0, .int .i64 a2_1, .string a2_2] 28 (0, 0)) (by (with_reducible repeat (first | refine blk_drewN ?_ _ | refine blk_drew ?_ | refine blk_alloc ?_ _)); exact BK355.out) hb); have n2_ := Aside0.mk (blk_below (g := gb356) (o := .cells #[.int .i64 0, .int .i64 0, .string (⟨#[]⟩ : ByteArray)] 28 (0, 0)) (by (with_reducible repeat (first | refine blk_drewN ?_ _ | refine blk_drew ?_ | refine blk_alloc ?_ _)); exact BK356.out) hb); have n3_ := Aside0.mk (below_step (by repeat (first | (with_reducible first | exact HB.out | apply below_alloc | apply pw_below_drewN | apply below_drew1 | refine below_set ?_ GE354.out | refine below_set ?_ GE355.out | refine below_set ?_ GE356.out) | exact HB.out)) hb); clear BK354; clear BK355; clear BK356; clear HB; have BK354 := n0_; have BK355 := n1_; have BK356 := n2_; have HB := n3_; clear n0_ n1_ n2_ n3_; (try clear hb); (try clear hb2); (try clear hk); (try clear hi); have hcz132_0 : w131.cell? ⟨gb356, 0, none⟩ = some (.int .i64 0) := (blk_cell BK356.out 0).trans rfl; have hcz132_1 : w131.cell? ⟨gb356, 1, none⟩ = some (.int .i64 0) := (blk_cell BK356.out 1).trans rfl; have hcz132_2 : w131.cell? ⟨gb356, 2, none⟩ = some (.string (⟨#[]⟩ : ByteArray)) := (blk_cell BK356.out 2).trans rfl; have hfz132_0 := blk_frozen BK356.out 0; have hfz132_1 := blk_frozen BK356.out 1; have hfz132_2 := blk_frozen BK356.out 2))
                                refine bodyPost_ret (results_ct rfl _ _ gb356 28 #[.int .i64 t405, .int .i64 t406, .string t407] (0, 0) _ rfl (by (with_reducible repeat (first | refine blk_drewN ?_ _ | refine blk_drew ?_ | refine blk_alloc ?_ _)); refine blk_put (cs := #[.int .i64 t405, .int .i64 t406, .string (⟨#[]⟩ : ByteArray)]) ?_ 2 _ rfl; (with_reducible repeat (first | refine blk_drewN ?_ _ | refine blk_drew ?_ | refine blk_alloc ?_ _)); refine blk_put (cs := #[.int .i64 t405, .int .i64 0, .string (⟨#[]⟩ : ByteArray)]) ?_ 1 _ rfl; (with_reducible repeat (first | refine blk_drewN ?_ _ | refine blk_drew ?_ | refine blk_alloc ?_ _)); refine blk_put (cs := #[.int .i64 0, .int .i64 0, .string (⟨#[]⟩ : ByteArray)]) ?_ 0 _ rfl; (with_reducible repeat (first | refine blk_drewN ?_ _ | refine blk_drew ?_ | refine blk_alloc ?_ _)); exact BK356.out) Tryd.underlying28 rfl (by kernel_rfl)) rfl ?_
                                exact ⟨by first | rfl | (simp [errW_none, errW_some] <;> rfl) | (simp [*, errW_none, errW_some] <;> rfl), by repeat (first | (with_reducible first | exact HB.out | apply below_alloc | apply pw_below_drewN | apply below_drew1 | refine below_set ?_ GE354.out | refine below_set ?_ GE355.out | refine below_set ?_ GE356.out) | exact HB.out)⟩
                              · rw [if_neg c124] at H
                                have c124b0 : (a1_1 == 1) = false := beq_eq_false_iff_ne.mpr c124
                                have c124b1 : (a1_1 != 1) = true := bne_iff_ne.mpr c124
                                replace H := Option.bind_eq_some_iff.mp H
                                obtain ⟨⟨t409, t410, t411, t412⟩, A1330, H⟩ := H
                                replace H : (some (t409, t410, t411, t412)) = some (r1, r2, r3, r4) := H
                                have A133 := Aside0.mk A1330
                                clear A1330
                                simp only [Option.some.injEq, Prod.mk.injEq] at H
                                obtain ⟨rfl, rfl, rfl, rfl⟩ := H
                                have hnb134 := NB354_355.out
                                have hnc134 := NB355_354.out
                                have hnb135 := NB354_356.out
                                have hnc135 := NB356_354.out
                                have hcz136_0 : wc.cell? ⟨gb354, 0, none⟩ = some (.int .i64 a1_0) := (blk_cell BK354.out 0).trans rfl
                                have hcz136_1 : wc.cell? ⟨gb354, 1, none⟩ = some (.int .i64 a1_1) := (blk_cell BK354.out 1).trans rfl
                                have hcz136_2 : wc.cell? ⟨gb354, 2, none⟩ = some (.string a1_2) := (blk_cell BK354.out 2).trans rfl
                                have hfz136_0 := blk_frozen BK354.out 0
                                have hfz136_1 := blk_frozen BK354.out 1
                                have hfz136_2 := blk_frozen BK354.out 2
                                go_wp2_with (first | ((with_reducible refine gate_callee (f := 37) rfl ?_); refine goesL_ (some 114) rfl rfl Tryd.func37 (by kernel_rfl) rfl #[.bool false] rfl (by (try simp only [List.map_toArray, List.map_cons, List.map_nil]); first | done | rfl | (simp only [List.length_drop, List.length_take]; rfl)) ?_; (with_reducible refine (whirligigref01_truth.calls false t409 t410 t411 t412 _ A133.out).mono ?_); rintro e w137 ⟨rfl, hb⟩; refine ⟨_, rfl, ?_⟩; have n0_ := Aside0.mk (blk_below (g := gb354) (o := .cells #[.int .i64 a1_0, .int .i64 a1_1, .string a1_2] 28 (0, 0)) (by (with_reducible repeat (first | refine blk_drewN ?_ _ | refine blk_drew ?_ | refine blk_alloc ?_ _)); exact BK354.out) hb); have n1_ := Aside0.mk (blk_below (g := gb355) (o := .cells #[.int .i64 a2_0, .int .i64 a2_1, .string a2_2] 28 (0, 0)) (by (with_reducible repeat (first | refine blk_drewN ?_ _ | refine blk_drew ?_ | refine blk_alloc ?_ _)); exact BK355.out) hb); have n2_ := Aside0.mk (blk_below (g := gb356) (o := .cells #[.int .i64 0, .int .i64 0, .string (⟨#[]⟩ : ByteArray)] 28 (0, 0)) (by (with_reducible repeat (first | refine blk_drewN ?_ _ | refine blk_drew ?_ | refine blk_alloc ?_ _)); exact BK356.out) hb); have n3_ := Aside0.mk (below_step (by repeat (first | (with_reducible first | exact HB.out | apply below_alloc | apply pw_below_drewN | apply below_drew1 | refine below_set ?_ GE354.out | refine below_set ?_ GE355.out | refine below_set ?_ GE356.out) | exact HB.out)) hb); clear BK354; clear BK355; clear BK356; clear HB; have BK354 := n0_; have BK355 := n1_; have BK356 := n2_; have HB := n3_; clear n0_ n1_ n2_ n3_; (try clear hb); (try clear hb2); (try clear hk); (try clear hi); have hnb138 := NB356_355.out; have hnc138 := NB355_356.out; have hcz139_0 : w137.cell? ⟨gb356, 0, none⟩ = some (.int .i64 0) := (blk_cell BK356.out 0).trans rfl; have hcz139_1 : w137.cell? ⟨gb356, 1, none⟩ = some (.int .i64 0) := (blk_cell BK356.out 1).trans rfl; have hcz139_2 : w137.cell? ⟨gb356, 2, none⟩ = some (.string (⟨#[]⟩ : ByteArray)) := (blk_cell BK356.out 2).trans rfl; have hfz139_0 := blk_frozen BK356.out 0; have hfz139_1 := blk_frozen BK356.out 1; have hfz139_2 := blk_frozen BK356.out 2))
                                refine bodyPost_ret (results_ct rfl _ _ gb356 28 #[.int .i64 t409, .int .i64 t410, .string t411] (0, 0) _ rfl (by (with_reducible repeat (first | refine blk_drewN ?_ _ | refine blk_drew ?_ | refine blk_alloc ?_ _)); refine blk_put (cs := #[.int .i64 t409, .int .i64 t410, .string (⟨#[]⟩ : ByteArray)]) ?_ 2 _ rfl; (with_reducible repeat (first | refine blk_drewN ?_ _ | refine blk_drew ?_ | refine blk_alloc ?_ _)); refine blk_put (cs := #[.int .i64 t409, .int .i64 0, .string (⟨#[]⟩ : ByteArray)]) ?_ 1 _ rfl; (with_reducible repeat (first | refine blk_drewN ?_ _ | refine blk_drew ?_ | refine blk_alloc ?_ _)); refine blk_put (cs := #[.int .i64 0, .int .i64 0, .string (⟨#[]⟩ : ByteArray)]) ?_ 0 _ rfl; (with_reducible repeat (first | refine blk_drewN ?_ _ | refine blk_drew ?_ | refine blk_alloc ?_ _)); exact BK356.out) Tryd.underlying28 rfl (by kernel_rfl)) rfl ?_
                                exact ⟨by first | rfl | (simp [errW_none, errW_some] <;> rfl) | (simp [*, errW_none, errW_some] <;> rfl), by repeat (first | (with_reducible first | exact HB.out | apply below_alloc | apply pw_below_drewN | apply below_drew1 | refine below_set ?_ GE354.out | refine below_set ?_ GE355.out | refine below_set ?_ GE356.out) | exact HB.out)⟩
                            · rw [if_neg c123] at H
                              have c123b0 : (a0 == 14) = false := beq_eq_false_iff_ne.mpr c123
                              have c123b1 : (a0 != 14) = true := bne_iff_ne.mpr c123
                              by_cases c140 : a0 = 15
                              · rw [if_pos c140] at H
                                have c140b0 : (a0 == 15) = true := beq_iff_eq.mpr c140
                                have c140b1 : (a0 != 15) = false := bne_eq_false_iff_eq.mpr c140
                                clear c140
                                by_cases c141 : a1_1 = 1
                                · rw [if_pos c141] at H
                                  have c141b0 : (a1_1 == 1) = true := beq_iff_eq.mpr c141
                                  have c141b1 : (a1_1 != 1) = false := bne_eq_false_iff_eq.mpr c141
                                  clear c141
                                  replace H := Option.bind_eq_some_iff.mp H
                                  obtain ⟨⟨t413, t414, t415, t416⟩, A1420, H⟩ := H
                                  replace H : (some (t413, t414, t415, t416)) = some (r1, r2, r3, r4) := H
                                  have A142 := Aside0.mk A1420
                                  clear A1420
                                  simp only [Option.some.injEq, Prod.mk.injEq] at H
                                  obtain ⟨rfl, rfl, rfl, rfl⟩ := H
                                  have hnb143 := NB354_355.out
                                  have hnc143 := NB355_354.out
                                  have hnb144 := NB354_356.out
                                  have hnc144 := NB356_354.out
                                  have hcz145_0 : wc.cell? ⟨gb354, 0, none⟩ = some (.int .i64 a1_0) := (blk_cell BK354.out 0).trans rfl
                                  have hcz145_1 : wc.cell? ⟨gb354, 1, none⟩ = some (.int .i64 a1_1) := (blk_cell BK354.out 1).trans rfl
                                  have hcz145_2 : wc.cell? ⟨gb354, 2, none⟩ = some (.string a1_2) := (blk_cell BK354.out 2).trans rfl
                                  have hfz145_0 := blk_frozen BK354.out 0
                                  have hfz145_1 := blk_frozen BK354.out 1
                                  have hfz145_2 := blk_frozen BK354.out 2
                                  go_wp2_with (first | ((with_reducible refine gate_callee (f := 37) rfl ?_); refine goesL_ (some 127) rfl rfl Tryd.func37 (by kernel_rfl) rfl #[.bool true] rfl (by (try simp only [List.map_toArray, List.map_cons, List.map_nil]); first | done | rfl | (simp only [List.length_drop, List.length_take]; rfl)) ?_; (with_reducible refine (whirligigref01_truth.calls true t413 t414 t415 t416 _ A142.out).mono ?_); rintro e w146 ⟨rfl, hb⟩; refine ⟨_, rfl, ?_⟩; have n0_ := Aside0.mk (blk_below (g := gb354) (o := .cells #[.int .i64 a1_0, .int .i64 a1_1, .string a1_2] 28 (0, 0)) (by (with_reducible repeat (first | refine blk_drewN ?_ _ | refine blk_drew ?_ | refine blk_alloc ?_ _)); exact BK354.out) hb); have n1_ := Aside0.mk (blk_below (g := gb355) (o := .cells #[.int .i64 a2_0, .int .i64 a2_1, .string a2_2] 28 (0, 0)) (by (with_reducible repeat (first | refine blk_drewN ?_ _ | refine blk_drew ?_ | refine blk_alloc ?_ _)); exact BK355.out) hb); have n2_ := Aside0.mk (blk_below (g := gb356) (o := .cells #[.int .i64 0, .int .i64 0, .string (⟨#[]⟩ : ByteArray)] 28 (0, 0)) (by (with_reducible repeat (first | refine blk_drewN ?_ _ | refine blk_drew ?_ | refine blk_alloc ?_ _)); exact BK356.out) hb); have n3_ := Aside0.mk (below_step (by repeat (first | (with_reducible first | exact HB.out | apply below_alloc | apply pw_below_drewN | apply below_drew1 | refine below_set ?_ GE354.out | refine below_set ?_ GE355.out | refine below_set ?_ GE356.out) | exact HB.out)) hb); clear BK354; clear BK355; clear BK356; clear HB; have BK354 := n0_; have BK355 := n1_; have BK356 := n2_; have HB := n3_; clear n0_ n1_ n2_ n3_; (try clear hb); (try clear hb2); (try clear hk); (try clear hi); have hnb147 := NB356_355.out; have hnc147 := NB355_356.out; have hcz148_0 : w146.cell? ⟨gb356, 0, none⟩ = some (.int .i64 0) := (blk_cell BK356.out 0).trans rfl; have hcz148_1 : w146.cell? ⟨gb356, 1, none⟩ = some (.int .i64 0) := (blk_cell BK356.out 1).trans rfl; have hcz148_2 : w146.cell? ⟨gb356, 2, none⟩ = some (.string (⟨#[]⟩ : ByteArray)) := (blk_cell BK356.out 2).trans rfl; have hfz148_0 := blk_frozen BK356.out 0; have hfz148_1 := blk_frozen BK356.out 1; have hfz148_2 := blk_frozen BK356.out 2))
                                  refine bodyPost_ret (results_ct rfl _ _ gb356 28 #[.int .i64 t413, .int .i64 t414, .string t415] (0, 0) _ rfl (by (with_reducible repeat (first | refine blk_drewN ?_ _ | refine blk_drew ?_ | refine blk_alloc ?_ _)); refine blk_put (cs := #[.int .i64 t413, .int .i64 t414, .string (⟨#[]⟩ : ByteArray)]) ?_ 2 _ rfl; (with_reducible repeat (first | refine blk_drewN ?_ _ | refine blk_drew ?_ | refine blk_alloc ?_ _)); refine blk_put (cs := #[.int .i64 t413, .int .i64 0, .string (⟨#[]⟩ : ByteArray)]) ?_ 1 _ rfl; (with_reducible repeat (first | refine blk_drewN ?_ _ | refine blk_drew ?_ | refine blk_alloc ?_ _)); refine blk_put (cs := #[.int .i64 0, .int .i64 0, .string (⟨#[]⟩ : ByteArray)]) ?_ 0 _ rfl; (with_reducible repeat (first | refine blk_drewN ?_ _ | refine blk_drew ?_ | refine blk_alloc ?_ _)); exact BK356.out) Tryd.underlying28 rfl (by kernel_rfl)) rfl ?_
                                  exact ⟨by first | rfl | (simp [errW_none, errW_some] <;> rfl) | (simp [*, errW_none, errW_some] <;> rfl), by repeat (first | (with_reducible first | exact HB.out | apply below_alloc | apply pw_below_drewN | apply below_drew1 | refine below_set ?_ GE354.out | refine below_set ?_ GE355.out | refine below_set ?_ GE356.out) | exact HB.out)⟩
                                · rw [if_neg c141] at H
                                  have c141b0 : (a1_1 == 1) = false := beq_eq_false_iff_ne.mpr c141
                                  have c141b1 : (a1_1 != 1) = true := bne_iff_ne.mpr c141
                                  replace H := Option.bind_eq_some_iff.mp H
                                  obtain ⟨⟨t417, t418, t419, t420⟩, A1490, H⟩ := H
                                  replace H : (some (t417, t418, t419, t420)) = some (r1, r2, r3, r4) := H
                                  have A149 := Aside0.mk A1490
                                  clear A1490
                                  simp only [Option.some.injEq, Prod.mk.injEq] at H
                                  obtain ⟨rfl, rfl, rfl, rfl⟩ := H
                                  have hnb150 := NB354_355.out
                                  have hnc150 := NB355_354.out
                                  have hnb151 := NB354_356.out
                                  have hnc151 := NB356_354.out
                                  have hcz152_0 : wc.cell? ⟨gb354, 0, none⟩ = some (.int .i64 a1_0) := (blk_cell BK354.out 0).trans rfl
                                  have hcz152_1 : wc.cell? ⟨gb354, 1, none⟩ = some (.int .i64 a1_1) := (blk_cell BK354.out 1).trans rfl
                                  have hcz152_2 : wc.cell? ⟨gb354, 2, none⟩ = some (.string a1_2) := (blk_cell BK354.out 2).trans rfl
                                  have hfz152_0 := blk_frozen BK354.out 0
                                  have hfz152_1 := blk_frozen BK354.out 1
                                  have hfz152_2 := blk_frozen BK354.out 2
                                  have hnb153 := NB355_356.out
                                  have hnc153 := NB356_355.out
                                  have hcz154_0 : wc.cell? ⟨gb355, 0, none⟩ = some (.int .i64 a2_0) := (blk_cell BK355.out 0).trans rfl
                                  have hcz154_1 : wc.cell? ⟨gb355, 1, none⟩ = some (.int .i64 a2_1) := (blk_cell BK355.out 1).trans rfl
                                  have hcz154_2 : wc.cell? ⟨gb355, 2, none⟩ = some (.string a2_2) := (blk_cell BK355.out 2).trans rfl
                                  have hfz154_0 := blk_frozen BK355.out 0
                                  have hfz154_1 := blk_frozen BK355.out 1
                                  have hfz154_2 := blk_frozen BK355.out 2
                                  go_wp2_with (first | ((with_reducible refine gate_callee (f := 37) rfl ?_); refine goesL_ (some 127) rfl rfl Tryd.func37 (by kernel_rfl) rfl #[.bool (a2_1 == 1)] rfl (by (try simp only [List.map_toArray, List.map_cons, List.map_nil]); first | done | rfl | (simp only [List.length_drop, List.length_take]; rfl)) ?_; (with_reducible refine (whirligigref01_truth.calls (a2_1 == 1) t417 t418 t419 t420 _ A149.out).mono ?_); rintro e w155 ⟨rfl, hb⟩; refine ⟨_, rfl, ?_⟩; have n0_ := Aside0.mk (blk_below (g := gb354) (o := .cells #[.int .i64 a1_0, .int .i64 a1_1, .string a1_2] 28 (0, 0)) (by (with_reducible repeat (first | refine blk_drewN ?_ _ | refine blk_drew ?_ | refine blk_alloc ?_ _)); exact BK354.out) hb); have n1_ := Aside0.mk (blk_below (g := gb355) (o := .cells #[.int .i64 a2_0, .int .i64 a2_1, .string a2_2] 28 (0, 0)) (by (with_reducible repeat (first | refine blk_drewN ?_ _ | refine blk_drew ?_ | refine blk_alloc ?_ _)); exact BK355.out) hb); have n2_ := Aside0.mk (blk_below (g := gb356) (o := .cells #[.int .i64 0, .int .i64 0, .string (⟨#[]⟩ : ByteArray)] 28 (0, 0)) (by (with_reducible repeat (first | refine blk_drewN ?_ _ | refine blk_drew ?_ | refine blk_alloc ?_ _)); exact BK356.out) hb); have n3_ := Aside0.mk (below_step (by repeat (first | (with_reducible first | exact HB.out | apply below_alloc | apply pw_below_drewN | apply below_drew1 | refine below_set ?_ GE354.out | refine below_set ?_ GE355.out | refine below_set ?_ GE356.out) | exact HB.out)) hb); clear BK354; clear BK355; clear BK356; clear HB; have BK354 := n0_; have BK355 := n1_; have BK356 := n2_; have HB := n3_; clear n0_ n1_ n2_ n3_; (try clear hb); (try clear hb2); (try clear hk); (try clear hi); have hcz156_0 : w155.cell? ⟨gb356, 0, none⟩ = some (.int .i64 0) := (blk_cell BK356.out 0).trans rfl; have hcz156_1 : w155.cell? ⟨gb356, 1, none⟩ = some (.int .i64 0) := (blk_cell BK356.out 1).trans rfl; have hcz156_2 : w155.cell? ⟨gb356, 2, none⟩ = some (.string (⟨#[]⟩ : ByteArray)) := (blk_cell BK356.out 2).trans rfl; have hfz156_0 := blk_frozen BK356.out 0; have hfz156_1 := blk_frozen BK356.out 1; have hfz156_2 := blk_frozen BK356.out 2))
                                  refine bodyPost_ret (results_ct rfl _ _ gb356 28 #[.int .i64 t417, .int .i64 t418, .string t419] (0, 0) _ rfl (by (with_reducible repeat (first | refine blk_drewN ?_ _ | refine blk_drew ?_ | refine blk_alloc ?_ _)); refine blk_put (cs := #[.int .i64 t417, .int .i64 t418, .string (⟨#[]⟩ : ByteArray)]) ?_ 2 _ rfl; (with_reducible repeat (first | refine blk_drewN ?_ _ | refine blk_drew ?_ | refine blk_alloc ?_ _)); refine blk_put (cs := #[.int .i64 t417, .int .i64 0, .string (⟨#[]⟩ : ByteArray)]) ?_ 1 _ rfl; (with_reducible repeat (first | refine blk_drewN ?_ _ | refine blk_drew ?_ | refine blk_alloc ?_ _)); refine blk_put (cs := #[.int .i64 0, .int .i64 0, .string (⟨#[]⟩ : ByteArray)]) ?_ 0 _ rfl; (with_reducible repeat (first | refine blk_drewN ?_ _ | refine blk_drew ?_ | refine blk_alloc ?_ _)); exact BK356.out) Tryd.underlying28 rfl (by kernel_rfl)) rfl ?_
                                  exact ⟨by first | rfl | (simp [errW_none, errW_some] <;> rfl) | (simp [*, errW_none, errW_some] <;> rfl), by repeat (first | (with_reducible first | exact HB.out | apply below_alloc | apply pw_below_drewN | apply below_drew1 | refine below_set ?_ GE354.out | refine below_set ?_ GE355.out | refine below_set ?_ GE356.out) | exact HB.out)⟩
                              · rw [if_neg c140] at H
                                have c140b0 : (a0 == 15) = false := beq_eq_false_iff_ne.mpr c140
                                have c140b1 : (a0 != 15) = true := bne_iff_ne.mpr c140
                                by_cases c157 : a1_0 = 1
                                · rw [if_pos c157] at H
                                  have c157b0 : (a1_0 == 1) = true := beq_iff_eq.mpr c157
                                  have c157b1 : (a1_0 != 1) = false := bne_eq_false_iff_eq.mpr c157
                                  clear c157
                                  replace H := Option.bind_eq_some_iff.mp H
                                  obtain ⟨⟨t421, t422, t423, t424⟩, A1580, H⟩ := H
                                  replace H : (some (t421, t422, t423, t424)) = some (r1, r2, r3, r4) := H
                                  have A158 := Aside0.mk A1580
                                  clear A1580
                                  simp only [Option.some.injEq, Prod.mk.injEq] at H
                                  obtain ⟨rfl, rfl, rfl, rfl⟩ := H
                                  have hnb159 := NB354_355.out
                                  have hnc159 := NB355_354.out
                                  have hnb160 := NB354_356.out
                                  have hnc160 := NB356_354.out
                                  have hcz161_0 : wc.cell? ⟨gb354, 0, none⟩ = some (.int .i64 a1_0) := (blk_cell BK354.out 0).trans rfl
                                  have hcz161_1 : wc.cell? ⟨gb354, 1, none⟩ = some (.int .i64 a1_1) := (blk_cell BK354.out 1).trans rfl
                                  have hcz161_2 : wc.cell? ⟨gb354, 2, none⟩ = some (.string a1_2) := (blk_cell BK354.out 2).trans rfl
                                  have hfz161_0 := blk_frozen BK354.out 0
                                  have hfz161_1 := blk_frozen BK354.out 1
                                  have hfz161_2 := blk_frozen BK354.out 2
                                  have hnb162 := NB355_356.out
                                  have hnc162 := NB356_355.out
                                  have hcz163_0 : wc.cell? ⟨gb355, 0, none⟩ = some (.int .i64 a2_0) := (blk_cell BK355.out 0).trans rfl
                                  have hcz163_1 : wc.cell? ⟨gb355, 1, none⟩ = some (.int .i64 a2_1) := (blk_cell BK355.out 1).trans rfl
                                  have hcz163_2 : wc.cell? ⟨gb355, 2, none⟩ = some (.string a2_2) := (blk_cell BK355.out 2).trans rfl
                                  have hfz163_0 := blk_frozen BK355.out 0
                                  have hfz163_1 := blk_frozen BK355.out 1
                                  have hfz163_2 := blk_frozen BK355.out 2
                                  go_wp2_with (first | ((with_reducible refine gate_callee (f := 42) rfl ?_); refine goesL_ (some 137) rfl rfl Tryd.func42 (by kernel_rfl) rfl #[.int .i64 a1_1, .int .i64 a2_1] rfl (by (try simp only [List.map_toArray, List.map_cons, List.map_nil]); first | done | rfl | (simp only [List.length_drop, List.length_take]; rfl)) ?_; (with_reducible refine (whirligigref01_sum.calls a1_1 a2_1 t421 t422 t423 t424 _ A158.out).mono ?_); rintro e w164 ⟨rfl, hb⟩; refine ⟨_, rfl, ?_⟩; have n0_ := Aside0.mk (blk_below (g := gb354) (o := .cells #[.int .i64 a1_0, .int .i64 a1_1, .string a1_2] 28 (0, 0)) (by (with_reducible repeat (first | refine blk_drewN ?_ _ | refine blk_drew ?_ | refine blk_alloc ?_ _)); exact BK354.out) hb); have n1_ := Aside0.mk (blk_below (g := gb355) (o := .cells #[.int .i64 a2_0, .int .i64 a2_1, .string a2_2] 28 (0, 0)) (by (with_reducible repeat (first | refine blk_drewN ?_ _ | refine blk_drew ?_ | refine blk_alloc ?_ _)); exact BK355.out) hb); have n2_ := Aside0.mk (blk_below (g := gb356) (o := .cells #[.int .i64 0, .int .i64 0, .string (⟨#[]⟩ : ByteArray)] 28 (0, 0)) (by (with_reducible repeat (first | refine blk_drewN ?_ _ | refine blk_drew ?_ | refine blk_alloc ?_ _)); exact BK356.out) hb); have n3_ := Aside0.mk (below_step (by repeat (first | (with_reducible first | exact HB.out | apply below_alloc | apply pw_below_drewN | apply below_drew1 | refine below_set ?_ GE354.out | refine below_set ?_ GE355.out | refine below_set ?_ GE356.out) | exact HB.out)) hb); clear BK354; clear BK355; clear BK356; clear HB; have BK354 := n0_; have BK355 := n1_; have BK356 := n2_; have HB := n3_; clear n0_ n1_ n2_ n3_; (try clear hb); (try clear hb2); (try clear hk); (try clear hi); have hcz165_0 : w164.cell? ⟨gb356, 0, none⟩ = some (.int .i64 0) := (blk_cell BK356.out 0).trans rfl; have hcz165_1 : w164.cell? ⟨gb356, 1, none⟩ = some (.int .i64 0) := (blk_cell BK356.out 1).trans rfl; have hcz165_2 : w164.cell? ⟨gb356, 2, none⟩ = some (.string (⟨#[]⟩ : ByteArray)) := (blk_cell BK356.out 2).trans rfl; have hfz165_0 := blk_frozen BK356.out 0; have hfz165_1 := blk_frozen BK356.out 1; have hfz165_2 := blk_frozen BK356.out 2))
                                  refine bodyPost_ret (results_ct rfl _ _ gb356 28 #[.int .i64 t421, .int .i64 t422, .string t423] (0, 0) _ rfl (by (with_reducible repeat (first | refine blk_drewN ?_ _ | refine blk_drew ?_ | refine blk_alloc ?_ _)); refine blk_put (cs := #[.int .i64 t421, .int .i64 t422, .string (⟨#[]⟩ : ByteArray)]) ?_ 2 _ rfl; (with_reducible repeat (first | refine blk_drewN ?_ _ | refine blk_drew ?_ | refine blk_alloc ?_ _)); refine blk_put (cs := #[.int .i64 t421, .int .i64 0, .string (⟨#[]⟩ : ByteArray)]) ?_ 1 _ rfl; (with_reducible repeat (first | refine blk_drewN ?_ _ | refine blk_drew ?_ | refine blk_alloc ?_ _)); refine blk_put (cs := #[.int .i64 0, .int .i64 0, .string (⟨#[]⟩ : ByteArray)]) ?_ 0 _ rfl; (with_reducible repeat (first | refine blk_drewN ?_ _ | refine blk_drew ?_ | refine blk_alloc ?_ _)); exact BK356.out) Tryd.underlying28 rfl (by kernel_rfl)) rfl ?_
                                  exact ⟨by first | rfl | (simp [errW_none, errW_some] <;> rfl) | (simp [*, errW_none, errW_some] <;> rfl), by repeat (first | (with_reducible first | exact HB.out | apply below_alloc | apply pw_below_drewN | apply below_drew1 | refine below_set ?_ GE354.out | refine below_set ?_ GE355.out | refine below_set ?_ GE356.out) | exact HB.out)⟩
                                · rw [if_neg c157] at H
                                  have c157b0 : (a1_0 == 1) = false := beq_eq_false_iff_ne.mpr c157
                                  have c157b1 : (a1_0 != 1) = true := bne_iff_ne.mpr c157
                                  by_cases c166 : (wrap64 ((a1_2.size : Int) + (a2_2.size : Int))) > 48
                                  · rw [if_pos c166] at H
                                    have c166b0 : decide (48 < (wrap64 ((a1_2.size : Int) + (a2_2.size : Int)))) = true := decide_eq_true c166
                                    clear c166
                                    simp only [Option.some.injEq, Prod.mk.injEq] at H
                                    obtain ⟨rfl, rfl, rfl, rfl⟩ := H
                                    have hnb167 := NB354_355.out
                                    have hnc167 := NB355_354.out
                                    have hnb168 := NB354_356.out
                                    have hnc168 := NB356_354.out
                                    have hcz169_0 : wc.cell? ⟨gb354, 0, none⟩ = some (.int .i64 a1_0) := (blk_cell BK354.out 0).trans rfl
                                    have hcz169_1 : wc.cell? ⟨gb354, 1, none⟩ = some (.int .i64 a1_1) := (blk_cell BK354.out 1).trans rfl
                                    have hcz169_2 : wc.cell? ⟨gb354, 2, none⟩ = some (.string a1_2) := (blk_cell BK354.out 2).trans rfl
                                    have hfz169_0 := blk_frozen BK354.out 0
                                    have hfz169_1 := blk_frozen BK354.out 1
                                    have hfz169_2 := blk_frozen BK354.out 2
                                    have hnb170 := NB355_356.out
                                    have hnc170 := NB356_355.out
                                    have hcz171_0 : wc.cell? ⟨gb355, 0, none⟩ = some (.int .i64 a2_0) := (blk_cell BK355.out 0).trans rfl
                                    have hcz171_1 : wc.cell? ⟨gb355, 1, none⟩ = some (.int .i64 a2_1) := (blk_cell BK355.out 1).trans rfl
                                    have hcz171_2 : wc.cell? ⟨gb355, 2, none⟩ = some (.string a2_2) := (blk_cell BK355.out 2).trans rfl
                                    have hfz171_0 := blk_frozen BK355.out 0
                                    have hfz171_1 := blk_frozen BK355.out 1
                                    have hfz171_2 := blk_frozen BK355.out 2
                                    have hcz172_0 : wc.cell? ⟨gb356, 0, none⟩ = some (.int .i64 0) := (blk_cell BK356.out 0).trans rfl
                                    have hcz172_1 : wc.cell? ⟨gb356, 1, none⟩ = some (.int .i64 0) := (blk_cell BK356.out 1).trans rfl
                                    have hcz172_2 : wc.cell? ⟨gb356, 2, none⟩ = some (.string (⟨#[]⟩ : ByteArray)) := (blk_cell BK356.out 2).trans rfl
                                    have hfz172_0 := blk_frozen BK356.out 0
                                    have hfz172_1 := blk_frozen BK356.out 1
                                    have hfz172_2 := blk_frozen BK356.out 2
                                    go_wp2
                                    refine bodyPost_ret (results_ct rfl _ _ gb356 28 #[.int .i64 0, .int .i64 0, .string (⟨#[]⟩ : ByteArray)] (0, 0) _ rfl (by (with_reducible repeat (first | refine blk_drewN ?_ _ | refine blk_drew ?_ | refine blk_alloc ?_ _)); refine blk_put (cs := #[.int .i64 0, .int .i64 0, .string (⟨#[]⟩ : ByteArray)]) ?_ 2 _ rfl; (with_reducible repeat (first | refine blk_drewN ?_ _ | refine blk_drew ?_ | refine blk_alloc ?_ _)); refine blk_put (cs := #[.int .i64 0, .int .i64 0, .string (⟨#[]⟩ : ByteArray)]) ?_ 1 _ rfl; (with_reducible repeat (first | refine blk_drewN ?_ _ | refine blk_drew ?_ | refine blk_alloc ?_ _)); refine blk_put (cs := #[.int .i64 0, .int .i64 0, .string (⟨#[]⟩ : ByteArray)]) ?_ 0 _ rfl; (with_reducible repeat (first | refine blk_drewN ?_ _ | refine blk_drew ?_ | refine blk_alloc ?_ _)); exact BK356.out) Tryd.underlying28 rfl (by kernel_rfl)) rfl ?_
                                    exact ⟨by first | rfl | (simp [errW_none, errW_some] <;> rfl) | (simp [*, errW_none, errW_some] <;> rfl), by repeat (first | (with_reducible first | exact HB.out | apply below_alloc | apply pw_below_drewN | apply below_drew1 | refine below_set ?_ GE354.out | refine below_set ?_ GE355.out | refine below_set ?_ GE356.out) | exact HB.out)⟩
                                  · rw [if_neg c166] at H
                                    have c166b0 : decide (48 < (wrap64 ((a1_2.size : Int) + (a2_2.size : Int)))) = false := decide_eq_false c166
                                    clear c166
                                    by_cases c173 : a1_2.size + a2_2.size ≤ 9223372036854775807
                                    · rw [if_pos c173] at H
                                      have c173b0 := eq_true c173
                                      have c166z : decide (48 < (a1_2.size : Int) + (a2_2.size : Int)) = false := by
                                        have h := of_decide_eq_false c166b0
                                        unfold wrap64 at h
                                        exact decide_eq_false (by omega)
                                      have c173b1 : decide (a1_2.size + a2_2.size ≤ 9223372036854775807) = true := decide_eq_true c173
                                      try have c173b2 : (9223372036854775807 < a1_2.size + a2_2.size) = False := eq_false (Nat.not_lt.2 c173)
                                      simp only [Option.some.injEq, Prod.mk.injEq] at H
                                      obtain ⟨rfl, rfl, rfl, rfl⟩ := H
                                      have hnb174 := NB354_355.out
                                      have hnc174 := NB355_354.out
                                      have hnb175 := NB354_356.out
                                      have hnc175 := NB356_354.out
                                      have hcz176_0 : wc.cell? ⟨gb354, 0, none⟩ = some (.int .i64 a1_0) := (blk_cell BK354.out 0).trans rfl
                                      have hcz176_1 : wc.cell? ⟨gb354, 1, none⟩ = some (.int .i64 a1_1) := (blk_cell BK354.out 1).trans rfl
                                      have hcz176_2 : wc.cell? ⟨gb354, 2, none⟩ = some (.string a1_2) := (blk_cell BK354.out 2).trans rfl
                                      have hfz176_0 := blk_frozen BK354.out 0
                                      have hfz176_1 := blk_frozen BK354.out 1
                                      have hfz176_2 := blk_frozen BK354.out 2
                                      have hnb177 := NB355_356.out
                                      have hnc177 := NB356_355.out
                                      have hcz178_0 : wc.cell? ⟨gb355, 0, none⟩ = some (.int .i64 a2_0) := (blk_cell BK355.out 0).trans rfl
                                      have hcz178_1 : wc.cell? ⟨gb355, 1, none⟩ = some (.int .i64 a2_1) := (blk_cell BK355.out 1).trans rfl
                                      have hcz178_2 : wc.cell? ⟨gb355, 2, none⟩ = some (.string a2_2) := (blk_cell BK355.out 2).trans rfl
                                      have hfz178_0 := blk_frozen BK355.out 0
                                      have hfz178_1 := blk_frozen BK355.out 1
                                      have hfz178_2 := blk_frozen BK355.out 2
                                      have hcz179_0 : wc.cell? ⟨gb356, 0, none⟩ = some (.int .i64 0) := (blk_cell BK356.out 0).trans rfl
                                      have hcz179_1 : wc.cell? ⟨gb356, 1, none⟩ = some (.int .i64 0) := (blk_cell BK356.out 1).trans rfl
                                      have hcz179_2 : wc.cell? ⟨gb356, 2, none⟩ = some (.string (⟨#[]⟩ : ByteArray)) := (blk_cell BK356.out 2).trans rfl
                                      have hfz179_0 := blk_frozen BK356.out 0
                                      have hfz179_1 := blk_frozen BK356.out 1
                                      have hfz179_2 := blk_frozen BK356.out 2
                                      go_wp2
                                      refine bodyPost_ret (results_ct rfl _ _ gb356 28 #[.int .i64 3, .int .i64 0, .string (a1_2 ++ a2_2)] (0, 0) _ rfl (by (with_reducible repeat (first | refine blk_drewN ?_ _ | refine blk_drew ?_ | refine blk_alloc ?_ _)); refine blk_put (cs := #[.int .i64 3, .int .i64 0, .string (⟨#[]⟩ : ByteArray)]) ?_ 2 _ rfl; (with_reducible repeat (first | refine blk_drewN ?_ _ | refine blk_drew ?_ | refine blk_alloc ?_ _)); refine blk_put (cs := #[.int .i64 3, .int .i64 0, .string (⟨#[]⟩ : ByteArray)]) ?_ 1 _ rfl; (with_reducible repeat (first | refine blk_drewN ?_ _ | refine blk_drew ?_ | refine blk_alloc ?_ _)); refine blk_put (cs := #[.int .i64 0, .int .i64 0, .string (⟨#[]⟩ : ByteArray)]) ?_ 0 _ rfl; (with_reducible repeat (first | refine blk_drewN ?_ _ | refine blk_drew ?_ | refine blk_alloc ?_ _)); exact BK356.out) Tryd.underlying28 rfl (by kernel_rfl)) rfl ?_
                                      exact ⟨by first | rfl | (simp [errW_none, errW_some] <;> rfl) | (simp [*, errW_none, errW_some] <;> rfl), by repeat (first | (with_reducible first | exact HB.out | apply below_alloc | apply pw_below_drewN | apply below_drew1 | refine below_set ?_ GE354.out | refine below_set ?_ GE355.out | refine below_set ?_ GE356.out) | exact HB.out)⟩
                                    · rw [if_neg c173] at H
                                      exact absurd H (by simp)

end Go.Proofs.YtbbdlcmcndhhkaaDoor.MValReckons
