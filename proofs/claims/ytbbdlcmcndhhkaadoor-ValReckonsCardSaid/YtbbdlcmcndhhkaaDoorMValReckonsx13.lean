-- Walks made by a program (wip/givenprint.sh); Lean checks them.
import Derived.Test.YtbbdlcmcndhhkaaDoorMValReckonsx0
import Derived.Test.YtbbdlcmcndhhkaaDoorMValReckonsx1
import Derived.Test.YtbbdlcmcndhhkaaDoorMValReckonsx2
import Derived.Test.YtbbdlcmcndhhkaaDoorMValReckonsx3
import Derived.Test.YtbbdlcmcndhhkaaDoorMValReckonsx6
import Derived.Test.YtbbdlcmcndhhkaaDoorAnchor
import Derived.Test.YtbbdlcmcndhhkaaDoorRightAll
import Derived.Test.YtbbdlcmcndhhkaaDoorMValReckonsx9
import Derived.Test.YtbbdlcmcndhhkaaDoorMValReckonsx12
import Derived.Test.YtbbdlcmcndhhkaaDoorMValReckonsx13d
namespace Go.Proofs.YtbbdlcmcndhhkaaDoor.MValReckons
open Go.RowKit Go.Proofs.YtbbdlcmcndhhkaaDoorW.PrintWords Go.Proofs.YtbbdlcmcndhhkaaDoorW.PrintLast Go.Proofs.YtbbdlcmcndhhkaaDoorW.PrintMore
attribute [local go_sem] max2_int min2_int max_two min_two max_three min_three max_four min_four   -- for this text's walks alone
set_option linter.unusedVariables false
set_option linter.unusedSimpArgs false

attribute [local go_sem high] eqA24 eqA28
set_option maxHeartbeats 8000000 in
set_option maxRecDepth 100000 in
theorem whirligiglaw01_ValReckons.calls (k : Nat) (a0 : Int) (a1_0 : Int) (a1_1 : Int) (a1_2 : ByteArray) (a2_0 : Int) (a2_1 : Int) (a2_2 : ByteArray) (r : Bool) (hr_ : r = true) (w : World) (h : whirligiglaw01_ValReckons.f k a0 a1_0 a1_1 a1_2 a2_0 a2_1 a2_2 = some r) :
    Calls Tryd.prog 7 #[.int .i64 a0, .agg #[.int .i64 a1_0, .int .i64 a1_1, .string a1_2], .agg #[.int .i64 a2_0, .int .i64 a2_1, .string a2_2]] w fun e w' => e = .returned (.bool r) ∧ Below w.heap.size w w' := by
 have hu24 := Tryd.underlying24
 have hu28 := Tryd.underlying28
 have HB := Aside0.mk (Below.refl w.heap.size w)
 have H : ((whirligiglaw01_anchor.f k).bind fun t427 => (if t427 = true then ((whirligiglaw01_ref.f a1_0 a1_1 a1_2).bind fun bt428 => ((whirligigref01_Right.f k bt428.1 bt428.2.1 bt428.2.2).bind fun t431 => (if t431 = true then ((whirligiglaw01_ref.f a2_0 a2_1 a2_2).bind fun bt432 => ((whirligigref01_Right.f k bt432.1 bt432.2.1 bt432.2.2).bind fun t435 => (whirligiglaw01_ValReckons.j0 k a0 (!t435) a1_0 a1_1 a1_2 a2_0 a2_1 a2_2))) else (whirligiglaw01_ValReckons.j0 k a0 true a1_0 a1_1 a1_2 a2_0 a2_1 a2_2)))) else (some false))) = some r := h
 clear h
 replace H := Option.bind_eq_some_iff.mp H
 obtain ⟨t427, A40, H⟩ := H
 replace H : (if t427 = true then ((whirligiglaw01_ref.f a1_0 a1_1 a1_2).bind fun bt428 => ((whirligigref01_Right.f k bt428.1 bt428.2.1 bt428.2.2).bind fun t431 => (if t431 = true then ((whirligiglaw01_ref.f a2_0 a2_1 a2_2).bind fun bt432 => ((whirligigref01_Right.f k bt432.1 bt432.2.1 bt432.2.2).bind fun t435 => (whirligiglaw01_ValReckons.j0 k a0 (!t435) a1_0 a1_1 a1_2 a2_0 a2_1 a2_2))) else (whirligiglaw01_ValReckons.j0 k a0 true a1_0 a1_1 a1_2 a2_0 a2_1 a2_2)))) else (some false)) = some r := H
 have A4 := Aside0.mk A40
 clear A40
 by_cases c5 : t427 = true
 ·subst c5
  have H1 : ((whirligiglaw01_ref.f a1_0 a1_1 a1_2).bind fun bt428 => ((whirligigref01_Right.f k bt428.1 bt428.2.1 bt428.2.2).bind fun t431 => (if t431 = true then ((whirligiglaw01_ref.f a2_0 a2_1 a2_2).bind fun bt432 => ((whirligigref01_Right.f k bt432.1 bt432.2.1 bt432.2.2).bind fun t435 => (whirligiglaw01_ValReckons.j0 k a0 (!t435) a1_0 a1_1 a1_2 a2_0 a2_1 a2_2))) else (whirligiglaw01_ValReckons.j0 k a0 true a1_0 a1_1 a1_2 a2_0 a2_1 a2_2)))) = some r := by rw [if_pos rfl] at H; exact H
  clear H
  have H := H1
  clear H1
  have HC6 := Aside0.mk H
  clear H
  go_enter Tryd.func7, Tryd.ntmps7
  go_upto_region 3 with (first | ((with_reducible refine gate_dst (N := 4) rfl ?_); refine box_event ?hg (N := 4) ?hd (cs := #[.int .i64 a1_0, .int .i64 a1_1, .string a1_2]) (t := 24) ?hr ?_; (case hd => rfl); (case hg => rfl); (case hr => first | (go_simp; done) | (go_simp; rfl)); intro gb425 hg w7 hbox hb; have n0_ := Aside0.mk (below_step (by repeat (first | (with_reducible first | exact HB.out | apply below_alloc | apply pw_below_drewN | apply below_drew1) | exact HB.out)) hb); have n1_ := Aside0.mk (hbox); have n2_ := Aside0.mk ((by rw [hg]; exact (below_size (by repeat (first | (with_reducible first | exact HB.out | apply below_alloc | apply pw_below_drewN | apply below_drew1) | exact HB.out))) : w.heap.size ≤ gb425)); have n3_ := Aside0.mk ((by rw [hg]; exact (below_size (by repeat (first | (with_reducible first | exact HB.out | apply below_alloc | apply pw_below_drewN | apply below_drew1) | exact HB.out))) : w.heap.size ≤ gb425)); clear HB; have HB := n0_; have BK425 := n1_; have GW425 := n2_; have GE425 := n3_; clear n0_ n1_ n2_ n3_; clear hb hbox hg) | ((with_reducible refine gate_dst (N := 5) rfl ?_); refine box_event ?hg (N := 5) ?hd (cs := #[.int .i64 a2_0, .int .i64 a2_1, .string a2_2]) (t := 24) ?hr ?_; (case hd => rfl); (case hg => rfl); (case hr => first | (go_simp; done) | (go_simp; rfl)); intro gb426 hg w8 hbox hb; have n0_ := Aside0.mk (blk_below (g := gb425) (o := .cells #[.int .i64 a1_0, .int .i64 a1_1, .string a1_2] 24 (0, 0)) (by (with_reducible repeat (first | refine blk_drewN ?_ _ | refine blk_drew ?_ | refine blk_alloc ?_ _)); exact BK425.out) hb); have n1_ := Aside0.mk (below_step (by repeat (first | (with_reducible first | exact HB.out | apply below_alloc | apply pw_below_drewN | apply below_drew1 | refine below_set ?_ GE425.out) | exact HB.out)) hb); have n2_ := Aside0.mk (hbox); have n3_ := Aside0.mk ((by rw [hg]; exact (below_size (by repeat (first | (with_reducible first | exact HB.out | apply below_alloc | apply pw_below_drewN | apply below_drew1 | refine below_set ?_ GE425.out) | exact HB.out))) : w.heap.size ≤ gb426)); have n4_ := Aside0.mk ((by rw [hg]; exact (below_size (by repeat (first | (with_reducible first | exact HB.out | apply below_alloc | apply pw_below_drewN | apply below_drew1 | refine below_set ?_ GE425.out) | exact HB.out))) : w.heap.size ≤ gb426)); have n5_ := Aside0.mk ((by rw [hg]; exact Nat.ne_of_lt (blk_lt (g := gb425) (o := .cells #[.int .i64 a1_0, .int .i64 a1_1, .string a1_2] 24 (0, 0)) (by (with_reducible repeat (first | refine blk_drewN ?_ _ | refine blk_drew ?_ | refine blk_alloc ?_ _)); exact BK425.out)) : gb425 ≠ gb426)); have n6_ := Aside0.mk ((by rw [hg]; exact Nat.ne_of_gt (blk_lt (g := gb425) (o := .cells #[.int .i64 a1_0, .int .i64 a1_1, .string a1_2] 24 (0, 0)) (by (with_reducible repeat (first | refine blk_drewN ?_ _ | refine blk_drew ?_ | refine blk_alloc ?_ _)); exact BK425.out)) : gb426 ≠ gb425)); clear BK425; clear HB; have BK425 := n0_; have HB := n1_; have BK426 := n2_; have GW426 := n3_; have GE426 := n4_; have NB425_426 := n5_; have NB426_425 := n6_; clear n0_ n1_ n2_ n3_ n4_ n5_ n6_; clear hb hbox hg) | ((with_reducible refine gate_callee (f := 9) rfl ?_); refine goesL_ (some 18) rfl rfl Tryd.func9 (by kernel_rfl) rfl #[] rfl (by (try simp only [List.map_toArray, List.map_cons, List.map_nil]); first | done | rfl | (simp only [List.length_drop, List.length_take]; rfl)) ?_; (with_reducible refine (whirligiglaw01_anchor.calls k  true _ A4.out).mono ?_); rintro e w9 ⟨rfl, hb⟩; refine ⟨_, rfl, ?_⟩; have n0_ := Aside0.mk (blk_below (g := gb425) (o := .cells #[.int .i64 a1_0, .int .i64 a1_1, .string a1_2] 24 (0, 0)) (by (with_reducible repeat (first | refine blk_drewN ?_ _ | refine blk_drew ?_ | refine blk_alloc ?_ _)); exact BK425.out) hb); have n1_ := Aside0.mk (blk_below (g := gb426) (o := .cells #[.int .i64 a2_0, .int .i64 a2_1, .string a2_2] 24 (0, 0)) (by (with_reducible repeat (first | refine blk_drewN ?_ _ | refine blk_drew ?_ | refine blk_alloc ?_ _)); exact BK426.out) hb); have n2_ := Aside0.mk (below_step (by repeat (first | (with_reducible first | exact HB.out | apply below_alloc | apply pw_below_drewN | apply below_drew1 | refine below_set ?_ GE425.out | refine below_set ?_ GE426.out) | exact HB.out)) hb); clear BK425; clear BK426; clear HB; have BK425 := n0_; have BK426 := n1_; have HB := n2_; clear n0_ n1_ n2_; (try clear hb); (try clear hb2); (try clear hk); (try clear hi)))
  (try simp only [Act.put, List.setIfInBounds_toArray, List.set_cons_zero, List.set_cons_succ])
  go_cut [29] (fun v29 wc => ∃ (kq : Nat) (x29_5 : Bool), v29 = .bool x29_5 ∧ Aside0 (whirligiglaw01_ValReckons.j0 kq a0 x29_5 a1_0 a1_1 a1_2 a2_0 a2_1 a2_2 = some r) ∧ Aside0 (kq ≤ k) ∧ Aside0 (wc.heap[gb425]? = some (.cells #[.int .i64 a1_0, .int .i64 a1_1, .string a1_2] 24 (0, 0))) ∧ Aside0 (wc.heap[gb426]? = some (.cells #[.int .i64 a2_0, .int .i64 a2_1, .string a2_2] 24 (0, 0))) ∧ Aside0 (Below w.heap.size w wc))
  case first =>
   have H := HC6.out
   clear HC6
   replace H := Option.bind_eq_some_iff.mp H
   obtain ⟨⟨t428, t429, t430⟩, A100, H⟩ := H
   replace H : ((whirligigref01_Right.f k t428 t429 t430).bind fun t431 => (if t431 = true then ((whirligiglaw01_ref.f a2_0 a2_1 a2_2).bind fun bt432 => ((whirligigref01_Right.f k bt432.1 bt432.2.1 bt432.2.2).bind fun t435 => (whirligiglaw01_ValReckons.j0 k a0 (!t435) a1_0 a1_1 a1_2 a2_0 a2_1 a2_2))) else (whirligiglaw01_ValReckons.j0 k a0 true a1_0 a1_1 a1_2 a2_0 a2_1 a2_2))) = some r := H
   have A10 := Aside0.mk A100
   clear A100
   replace H := Option.bind_eq_some_iff.mp H
   obtain ⟨t431, A110, H⟩ := H
   replace H : (if t431 = true then ((whirligiglaw01_ref.f a2_0 a2_1 a2_2).bind fun bt432 => ((whirligigref01_Right.f k bt432.1 bt432.2.1 bt432.2.2).bind fun t435 => (whirligiglaw01_ValReckons.j0 k a0 (!t435) a1_0 a1_1 a1_2 a2_0 a2_1 a2_2))) else (whirligiglaw01_ValReckons.j0 k a0 true a1_0 a1_1 a1_2 a2_0 a2_1 a2_2)) = some r := H
   have A11 := Aside0.mk A110
   clear A110
   by_cases c12 : t431 = true
   ·subst c12
    have H1 : ((whirligiglaw01_ref.f a2_0 a2_1 a2_2).bind fun bt432 => ((whirligigref01_Right.f k bt432.1 bt432.2.1 bt432.2.2).bind fun t435 => (whirligiglaw01_ValReckons.j0 k a0 (!t435) a1_0 a1_1 a1_2 a2_0 a2_1 a2_2))) = some r := by rw [if_pos rfl] at H; exact H
    clear H
    have H := H1
    clear H1
    replace H := Option.bind_eq_some_iff.mp H
    obtain ⟨⟨t432, t433, t434⟩, A130, H⟩ := H
    replace H : ((whirligigref01_Right.f k t432 t433 t434).bind fun t435 => (whirligiglaw01_ValReckons.j0 k a0 (!t435) a1_0 a1_1 a1_2 a2_0 a2_1 a2_2)) = some r := H
    have A13 := Aside0.mk A130
    clear A130
    replace H := Option.bind_eq_some_iff.mp H
    obtain ⟨t435, A140, H⟩ := H
    replace H : (whirligiglaw01_ValReckons.j0 k a0 (!t435) a1_0 a1_1 a1_2 a2_0 a2_1 a2_2) = some r := H
    have A14 := Aside0.mk A140
    clear A140
    have H' := Aside0.mk H
    clear H
    have hnb15 := NB425_426.out
    have hnc15 := NB426_425.out
    have hcz16_0 : w9.cell? ⟨gb425, 0, none⟩ = some (.int .i64 a1_0) := (blk_cell BK425.out 0).trans rfl
    have hcz16_1 : w9.cell? ⟨gb425, 1, none⟩ = some (.int .i64 a1_1) := (blk_cell BK425.out 1).trans rfl
    have hcz16_2 : w9.cell? ⟨gb425, 2, none⟩ = some (.string a1_2) := (blk_cell BK425.out 2).trans rfl
    have hfz16_0 := blk_frozen BK425.out 0
    have hfz16_1 := blk_frozen BK425.out 1
    have hfz16_2 := blk_frozen BK425.out 2
    go_wp2_with (first | ((with_reducible refine gate_callee (f := 12) rfl ?_); refine goesL_ (some 21) rfl rfl Tryd.func12 (by kernel_rfl) rfl #[.agg #[.int .i64 a1_0, .int .i64 a1_1, .string a1_2]] rfl (by (try simp only [List.map_toArray, List.map_cons, List.map_nil]); first | done | rfl | (simp only [List.length_drop, List.length_take]; rfl)) ?_; (with_reducible refine (whirligiglaw01_ref.calls a1_0 a1_1 a1_2 t428 t429 t430 _ A10.out).mono ?_); rintro e w17 ⟨rfl, hb⟩; refine ⟨_, rfl, ?_⟩; have n0_ := Aside0.mk (blk_below (g := gb425) (o := .cells #[.int .i64 a1_0, .int .i64 a1_1, .string a1_2] 24 (0, 0)) (by (with_reducible repeat (first | refine blk_drewN ?_ _ | refine blk_drew ?_ | refine blk_alloc ?_ _)); exact BK425.out) hb); have n1_ := Aside0.mk (blk_below (g := gb426) (o := .cells #[.int .i64 a2_0, .int .i64 a2_1, .string a2_2] 24 (0, 0)) (by (with_reducible repeat (first | refine blk_drewN ?_ _ | refine blk_drew ?_ | refine blk_alloc ?_ _)); exact BK426.out) hb); have n2_ := Aside0.mk (below_step (by repeat (first | (with_reducible first | exact HB.out | apply below_alloc | apply pw_below_drewN | apply below_drew1 | refine below_set ?_ GE425.out | refine below_set ?_ GE426.out) | exact HB.out)) hb); clear BK425; clear BK426; clear HB; have BK425 := n0_; have BK426 := n1_; have HB := n2_; clear n0_ n1_ n2_; (try clear hb); (try clear hb2); (try clear hk); (try clear hi)) | ((with_reducible refine gate_callee (f := 15) rfl ?_); refine goesL_ (some 22) rfl rfl Tryd.func15 (by kernel_rfl) rfl #[.agg #[.int .i64 t428, .int .i64 t429, .string t430]] rfl (by (try simp only [List.map_toArray, List.map_cons, List.map_nil]); first | done | rfl | (simp only [List.length_drop, List.length_take]; rfl)) ?_; (with_reducible refine (whirligigref01_Right.calls k t428 t429 t430 true _ A11.out).mono ?_); rintro e w18 ⟨rfl, hb⟩; refine ⟨_, rfl, ?_⟩; have n0_ := Aside0.mk (blk_below (g := gb425) (o := .cells #[.int .i64 a1_0, .int .i64 a1_1, .string a1_2] 24 (0, 0)) (by (with_reducible repeat (first | refine blk_drewN ?_ _ | refine blk_drew ?_ | refine blk_alloc ?_ _)); exact BK425.out) hb); have n1_ := Aside0.mk (blk_below (g := gb426) (o := .cells #[.int .i64 a2_0, .int .i64 a2_1, .string a2_2] 24 (0, 0)) (by (with_reducible repeat (first | refine blk_drewN ?_ _ | refine blk_drew ?_ | refine blk_alloc ?_ _)); exact BK426.out) hb); have n2_ := Aside0.mk (below_step (by repeat (first | (with_reducible first | exact HB.out | apply below_alloc | apply pw_below_drewN | apply below_drew1 | refine below_set ?_ GE425.out | refine below_set ?_ GE426.out) | exact HB.out)) hb); clear BK425; clear BK426; clear HB; have BK425 := n0_; have BK426 := n1_; have HB := n2_; clear n0_ n1_ n2_; (try clear hb); (try clear hb2); (try clear hk); (try clear hi); have hcz19_0 : w18.cell? ⟨gb426, 0, none⟩ = some (.int .i64 a2_0) := (blk_cell BK426.out 0).trans rfl; have hcz19_1 : w18.cell? ⟨gb426, 1, none⟩ = some (.int .i64 a2_1) := (blk_cell BK426.out 1).trans rfl; have hcz19_2 : w18.cell? ⟨gb426, 2, none⟩ = some (.string a2_2) := (blk_cell BK426.out 2).trans rfl; have hfz19_0 := blk_frozen BK426.out 0; have hfz19_1 := blk_frozen BK426.out 1; have hfz19_2 := blk_frozen BK426.out 2) | (go_at_call 12; (with_reducible refine (whirligiglaw01_ref.calls a2_0 a2_1 a2_2 t432 t433 t434 _ A13.out).mono ?_); rintro e w20 ⟨rfl, hb⟩; have n0_ := Aside0.mk (blk_below (g := gb425) (o := .cells #[.int .i64 a1_0, .int .i64 a1_1, .string a1_2] 24 (0, 0)) (by (with_reducible repeat (first | refine blk_drewN ?_ _ | refine blk_drew ?_ | refine blk_alloc ?_ _)); exact BK425.out) hb); have n1_ := Aside0.mk (blk_below (g := gb426) (o := .cells #[.int .i64 a2_0, .int .i64 a2_1, .string a2_2] 24 (0, 0)) (by (with_reducible repeat (first | refine blk_drewN ?_ _ | refine blk_drew ?_ | refine blk_alloc ?_ _)); exact BK426.out) hb); have n2_ := Aside0.mk (below_step (by repeat (first | (with_reducible first | exact HB.out | apply below_alloc | apply pw_below_drewN | apply below_drew1 | refine below_set ?_ GE425.out | refine below_set ?_ GE426.out) | exact HB.out)) hb); clear BK425; clear BK426; clear HB; have BK425 := n0_; have BK426 := n1_; have HB := n2_; clear n0_ n1_ n2_; (try clear hb); (try clear hb2); (try clear hk); (try clear hi)) | (go_at_call 15; (with_reducible refine (whirligigref01_Right.calls k t432 t433 t434 t435 _ A14.out).mono ?_); rintro e w21 ⟨rfl, hb⟩; have n0_ := Aside0.mk (blk_below (g := gb425) (o := .cells #[.int .i64 a1_0, .int .i64 a1_1, .string a1_2] 24 (0, 0)) (by (with_reducible repeat (first | refine blk_drewN ?_ _ | refine blk_drew ?_ | refine blk_alloc ?_ _)); exact BK425.out) hb); have n1_ := Aside0.mk (blk_below (g := gb426) (o := .cells #[.int .i64 a2_0, .int .i64 a2_1, .string a2_2] 24 (0, 0)) (by (with_reducible repeat (first | refine blk_drewN ?_ _ | refine blk_drew ?_ | refine blk_alloc ?_ _)); exact BK426.out) hb); have n2_ := Aside0.mk (below_step (by repeat (first | (with_reducible first | exact HB.out | apply below_alloc | apply pw_below_drewN | apply below_drew1 | refine below_set ?_ GE425.out | refine below_set ?_ GE426.out) | exact HB.out)) hb); clear BK425; clear BK426; clear HB; have BK425 := n0_; have BK426 := n1_; have HB := n2_; clear n0_ n1_ n2_; (try clear hb); (try clear hb2); (try clear hk); (try clear hi)))
    go_meet
    case rel => exact ⟨_, (!t435), (by first | rfl | (simp; done) | (simp [*]; done)), H', ⟨by first | omega | exact Nat.le_refl _⟩, ⟨by (with_reducible repeat (first | refine blk_drewN ?_ _ | refine blk_drew ?_ | refine blk_alloc ?_ _)); exact BK425.out⟩, ⟨by (with_reducible repeat (first | refine blk_drewN ?_ _ | refine blk_drew ?_ | refine blk_alloc ?_ _)); exact BK426.out⟩, ⟨by repeat (first | (with_reducible first | exact HB.out | apply below_alloc | apply pw_below_drewN | apply below_drew1 | refine below_set ?_ GE425.out | refine below_set ?_ GE426.out) | exact HB.out)⟩⟩
   ·replace c12 := Bool.eq_false_iff.mpr c12
    subst c12
    have H1 : (whirligiglaw01_ValReckons.j0 k a0 true a1_0 a1_1 a1_2 a2_0 a2_1 a2_2) = some r := by rw [if_neg (show ¬ (false = true) by decide)] at H; exact H
    clear H
    have H := H1
    clear H1
    have H' := Aside0.mk H
    clear H
    have hnb22 := NB425_426.out
    have hnc22 := NB426_425.out
    have hcz23_0 : w9.cell? ⟨gb425, 0, none⟩ = some (.int .i64 a1_0) := (blk_cell BK425.out 0).trans rfl
    have hcz23_1 : w9.cell? ⟨gb425, 1, none⟩ = some (.int .i64 a1_1) := (blk_cell BK425.out 1).trans rfl
    have hcz23_2 : w9.cell? ⟨gb425, 2, none⟩ = some (.string a1_2) := (blk_cell BK425.out 2).trans rfl
    have hfz23_0 := blk_frozen BK425.out 0
    have hfz23_1 := blk_frozen BK425.out 1
    have hfz23_2 := blk_frozen BK425.out 2
    go_wp2_with (first | ((with_reducible refine gate_callee (f := 12) rfl ?_); refine goesL_ (some 21) rfl rfl Tryd.func12 (by kernel_rfl) rfl #[.agg #[.int .i64 a1_0, .int .i64 a1_1, .string a1_2]] rfl (by (try simp only [List.map_toArray, List.map_cons, List.map_nil]); first | done | rfl | (simp only [List.length_drop, List.length_take]; rfl)) ?_; (with_reducible refine (whirligiglaw01_ref.calls a1_0 a1_1 a1_2 t428 t429 t430 _ A10.out).mono ?_); rintro e w24 ⟨rfl, hb⟩; refine ⟨_, rfl, ?_⟩; have n0_ := Aside0.mk (blk_below (g := gb425) (o := .cells #[.int .i64 a1_0, .int .i64 a1_1, .string a1_2] 24 (0, 0)) (by (with_reducible repeat (first | refine blk_drewN ?_ _ | refine blk_drew ?_ | refine blk_alloc ?_ _)); exact BK425.out) hb); have n1_ := Aside0.mk (blk_below (g := gb426) (o := .cells #[.int .i64 a2_0, .int .i64 a2_1, .string a2_2] 24 (0, 0)) (by (with_reducible repeat (first | refine blk_drewN ?_ _ | refine blk_drew ?_ | refine blk_alloc ?_ _)); exact BK426.out) hb); have n2_ := Aside0.mk (below_step (by repeat (first | (with_reducible first | exact HB.out | apply below_alloc | apply pw_below_drewN | apply below_drew1 | refine below_set ?_ GE425.out | refine below_set ?_ GE426.out) | exact HB.out)) hb); clear BK425; clear BK426; clear HB; have BK425 := n0_; have BK426 := n1_; have HB := n2_; clear n0_ n1_ n2_; (try clear hb); (try clear hb2); (try clear hk); (try clear hi)) | ((with_reducible refine gate_callee (f := 15) rfl ?_); refine goesL_ (some 22) rfl rfl Tryd.func15 (by kernel_rfl) rfl #[.agg #[.int .i64 t428, .int .i64 t429, .string t430]] rfl (by (try simp only [List.map_toArray, List.map_cons, List.map_nil]); first | done | rfl | (simp only [List.length_drop, List.length_take]; rfl)) ?_; (with_reducible refine (whirligigref01_Right.calls k t428 t429 t430 false _ A11.out).mono ?_); rintro e w25 ⟨rfl, hb⟩; refine ⟨_, rfl, ?_⟩; have n0_ := Aside0.mk (blk_below (g := gb425) (o := .cells #[.int .i64 a1_0, .int .i64 a1_1, .string a1_2] 24 (0, 0)) (by (with_reducible repeat (first | refine blk_drewN ?_ _ | refine blk_drew ?_ | refine blk_alloc ?_ _)); exact BK425.out) hb); have n1_ := Aside0.mk (blk_below (g := gb426) (o := .cells #[.int .i64 a2_0, .int .i64 a2_1, .string a2_2] 24 (0, 0)) (by (with_reducible repeat (first | refine blk_drewN ?_ _ | refine blk_drew ?_ | refine blk_alloc ?_ _)); exact BK426.out) hb); have n2_ := Aside0.mk (below_step (by repeat (first | (with_reducible first | exact HB.out | apply below_alloc | apply pw_below_drewN | apply below_drew1 | refine below_set ?_ GE425.out | refine below_set ?_ GE426.out) | exact HB.out)) hb); clear BK425; clear BK426; clear HB; have BK425 := n0_; have BK426 := n1_; have HB := n2_; clear n0_ n1_ n2_; (try clear hb); (try clear hb2); (try clear hk); (try clear hi)))
    go_meet
    case rel => exact ⟨_, (true), (by first | rfl | (simp; done) | (simp [*]; done)), H', ⟨by first | omega | exact Nat.le_refl _⟩, ⟨by (with_reducible repeat (first | refine blk_drewN ?_ _ | refine blk_drew ?_ | refine blk_alloc ?_ _)); exact BK425.out⟩, ⟨by (with_reducible repeat (first | refine blk_drewN ?_ _ | refine blk_drew ?_ | refine blk_alloc ?_ _)); exact BK426.out⟩, ⟨by repeat (first | (with_reducible first | exact HB.out | apply below_alloc | apply pw_below_drewN | apply below_drew1 | refine below_set ?_ GE425.out | refine below_set ?_ GE426.out) | exact HB.out)⟩⟩
  case rest =>
   clear HC6
   try clear c1
   try clear c2
   try clear p2
   try clear c5
   try clear c7
   try clear c9
   try clear c12
   try clear c15
   try clear c22
   try clear hcz16_0
   try clear hcz16_1
   try clear hcz16_2
   try clear hcz19_0
   try clear hcz19_1
   try clear hcz19_2
   try clear hcz23_0
   try clear hcz23_1
   try clear hcz23_2
   try clear hfz16_0
   try clear hfz16_1
   try clear hfz16_2
   try clear hfz19_0
   try clear hfz19_1
   try clear hfz19_2
   try clear hfz23_0
   try clear hfz23_1
   try clear hfz23_2
   obtain ⟨kq, x29_5, rfl, HA, HJ5, BK425, BK426, HB⟩ := hcut
   cases kq with
   | zero => exact absurd HA.out (by simp [whirligiglaw01_ValReckons.j0])
   | succ kj5 =>
    have H := HA.out
    clear HA
    simp only [whirligiglaw01_ValReckons.j0] at H
    by_cases c26 : x29_5 = true
    ·subst c26
     have H1 : (some true) = some r := by rw [if_pos rfl] at H; exact H
     clear H
     have H := H1
     clear H1
     obtain rfl := Option.some.inj H
     go_wp2
     go_ret
     exact ⟨by first | rfl | (simp [errW_none, errW_some] <;> rfl) | (simp [*, errW_none, errW_some] <;> rfl), by repeat (first | (with_reducible first | exact HB.out | apply below_alloc | apply pw_below_drewN | apply below_drew1 | refine below_set ?_ GE425.out | refine below_set ?_ GE426.out) | exact HB.out)⟩
    ·replace c26 := Bool.eq_false_iff.mpr c26
     subst c26
     have H1 : ((val_Reckon.f kj5 a0 a1_0 a1_1 a1_2 (([(⟨a2_0, a2_1, a2_2⟩ : S24)] : List (S24)))).bind fun bt439 => (if a0 = 1 then (whirligiglaw01_ValReckons.j1 kj5 a0 bt439.2.2.2 true a1_0 a1_1 a1_2 a2_0 a2_1 a2_2 bt439.1 bt439.2.1 bt439.2.2.1) else (whirligiglaw01_ValReckons.j1 kj5 a0 bt439.2.2.2 (a0 == 2) a1_0 a1_1 a1_2 a2_0 a2_1 a2_2 bt439.1 bt439.2.1 bt439.2.2.1))) = some r := by rw [if_neg (show ¬ (false = true) by decide)] at H; exact H
     clear H
     have H := H1
     clear H1
     obtain ⟨y436, hy436⟩ : ∃ y_ : List (S24), y_ = (([(⟨a2_0, a2_1, a2_2⟩ : S24)] : List (S24))) := ⟨_, rfl⟩
     replace H : ((val_Reckon.f kj5 a0 a1_0 a1_1 a1_2 y436).bind fun bt439 => (if a0 = 1 then (whirligiglaw01_ValReckons.j1 kj5 a0 bt439.2.2.2 true a1_0 a1_1 a1_2 a2_0 a2_1 a2_2 bt439.1 bt439.2.1 bt439.2.2.1) else (whirligiglaw01_ValReckons.j1 kj5 a0 bt439.2.2.2 (a0 == 2) a1_0 a1_1 a1_2 a2_0 a2_1 a2_2 bt439.1 bt439.2.1 bt439.2.2.1))) = some r := by first | (rw [hy436]; with_reducible exact H) | (have H2_ := (Option.bind_some _ _).symm.trans H; rw [hy436]; with_reducible exact H2_) | (have H2_ := (Option.bind_some _ _).symm.trans H; with_reducible exact H2_) | with_reducible exact H | (rw [hy436]; exact H) | exact H
     have Ny436 := Aside0.mk hy436
     clear hy436
     replace H := Option.bind_eq_some_iff.mp H
     obtain ⟨⟨t439, t440, t441, t442⟩, A270, H⟩ := H
     replace H : (if a0 = 1 then (whirligiglaw01_ValReckons.j1 kj5 a0 t442 true a1_0 a1_1 a1_2 a2_0 a2_1 a2_2 t439 t440 t441) else (whirligiglaw01_ValReckons.j1 kj5 a0 t442 (a0 == 2) a1_0 a1_1 a1_2 a2_0 a2_1 a2_2 t439 t440 t441)) = some r := H
     have A27 := Aside0.mk A270
     clear A270
     have HC28 := Aside0.mk H
     clear H
     have hnb29 := NB425_426.out
     have hnc29 := NB426_425.out
     have hcz30_0 : wc.cell? ⟨gb425, 0, none⟩ = some (.int .i64 a1_0) := (blk_cell BK425.out 0).trans rfl
     have hcz30_1 : wc.cell? ⟨gb425, 1, none⟩ = some (.int .i64 a1_1) := (blk_cell BK425.out 1).trans rfl
     have hcz30_2 : wc.cell? ⟨gb425, 2, none⟩ = some (.string a1_2) := (blk_cell BK425.out 2).trans rfl
     have hfz30_0 := blk_frozen BK425.out 0
     have hfz30_1 := blk_frozen BK425.out 1
     have hfz30_2 := blk_frozen BK425.out 2
     have hcz31_0 : wc.cell? ⟨gb426, 0, none⟩ = some (.int .i64 a2_0) := (blk_cell BK426.out 0).trans rfl
     have hcz31_1 : wc.cell? ⟨gb426, 1, none⟩ = some (.int .i64 a2_1) := (blk_cell BK426.out 1).trans rfl
     have hcz31_2 : wc.cell? ⟨gb426, 2, none⟩ = some (.string a2_2) := (blk_cell BK426.out 2).trans rfl
     have hfz31_0 := blk_frozen BK426.out 0
     have hfz31_1 := blk_frozen BK426.out 1
     have hfz31_2 := blk_frozen BK426.out 2
     go_upto_region 6 with (first | ((with_reducible refine gate_dst (N := 34) rfl ?_); refine Kd.R_lit k24 _ 24 ?hg (N := 34) ?hd (xs := ([(⟨a2_0, a2_1, a2_2⟩ : S24)] : List (S24))) (inner := [.int .i64 a2_0, .int .i64 a2_1, .string a2_2]) (ok := fun _ => True) (okp := fun _ => True) ?hr ?hp (fun _ hk => hk) trivial (Below.refl _ _) (Nat.le_refl _) (by simp) ?_; (case hd => rfl); (case hg => rfl); (case hr => first | (go_simp; done) | (go_simp; rfl)); (case hp => exact (Reps.c3 (show Kd.M k24 _ _ _ (⟨a2_0, a2_1, a2_2⟩ : S24) [.int .i64 a2_0, .int .i64 a2_1, .string a2_2] from (k24_mkM _ _ _ (⟨a2_0, a2_1, a2_2⟩ : S24) )) (Reps.none _ _))); intro v437 w32 ho33 hb hg_ hnew_; clear hg_ hnew_; (first | rw [← Ny436.out] at ho33 | (simp only [Int.reduceToNat] at ho33; rw [← Ny436.out] at ho33)); have n0_ := Aside0.mk (Kd.R_lower (Kd.R_newB (Kd.R_newB ho33 (g := gb425) (o := .cells #[.int .i64 a1_0, .int .i64 a1_1, .string a1_2] 24 (0, 0)) (by (with_reducible repeat (first | refine blk_drewN ?_ _ | refine blk_drew ?_ | refine blk_alloc ?_ _)); exact BK425.out)) (g := gb426) (o := .cells #[.int .i64 a2_0, .int .i64 a2_1, .string a2_2] 24 (0, 0)) (by (with_reducible repeat (first | refine blk_drewN ?_ _ | refine blk_drew ?_ | refine blk_alloc ?_ _)); exact BK426.out)) (below_size (by repeat (first | (with_reducible first | exact HB.out | apply below_alloc | apply pw_below_drewN | apply below_drew1 | refine below_set ?_ GE425.out | refine below_set ?_ GE426.out) | exact HB.out)))); have n1_ := Aside0.mk (blk_below (g := gb425) (o := .cells #[.int .i64 a1_0, .int .i64 a1_1, .string a1_2] 24 (0, 0)) (by (with_reducible repeat (first | refine blk_drewN ?_ _ | refine blk_drew ?_ | refine blk_alloc ?_ _)); exact BK425.out) hb); have n2_ := Aside0.mk (blk_below (g := gb426) (o := .cells #[.int .i64 a2_0, .int .i64 a2_1, .string a2_2] 24 (0, 0)) (by (with_reducible repeat (first | refine blk_drewN ?_ _ | refine blk_drew ?_ | refine blk_alloc ?_ _)); exact BK426.out) hb); have n3_ := Aside0.mk (below_step (by repeat (first | (with_reducible first | exact HB.out | apply below_alloc | apply pw_below_drewN | apply below_drew1 | refine below_set ?_ GE425.out | refine below_set ?_ GE426.out) | exact HB.out)) hb); clear BK425; clear BK426; clear HB; have HO438 := n0_; have BK425 := n1_; have BK426 := n2_; have HB := n3_; clear n0_ n1_ n2_ n3_; clear hb ho33; obtain ⟨Ao34, co34, eo34⟩ := Kd.R_slice HO438.out; subst eo34) | ((with_reducible refine gate_callee (f := 20) rfl ?_); refine goesL_ (some 35) rfl rfl Tryd.func20 (by kernel_rfl) rfl #[.int .i64 a0, .agg #[.int .i64 a1_0, .int .i64 a1_1, .string a1_2], .slice Ao34 y436.length co34] rfl (by (try simp only [List.map_toArray, List.map_cons, List.map_nil]); first | done | rfl | (simp only [List.length_drop, List.length_take]; rfl)) ?_; (with_reducible refine (val_Reckon.calls kj5 a0 a1_0 a1_1 a1_2 _ _ y436 t439 t440 t441 t442 _ ?side1 ?side2 A27.out).mono ?_); (case side1 => repeat (first | exact (Kd.R_reads' HO438.out).2.2 | (with_reducible refine Kd.C_alloc ?_ _) | (with_reducible refine Kd.C_drewN ?_ _) | (with_reducible refine Kd.C_drew ?_))); (case side2 => exact (Kd.R_reads' HO438.out).2.1); rintro e w35 ⟨rfl, hb⟩; refine ⟨_, rfl, ?_⟩; have n0_ := Aside0.mk (Kd.R_below (by (with_reducible repeat (first | apply Kd.R_alloc | apply Kd.R_drewN | apply Kd.R_drew)); exact HO438.out) hb); have n1_ := Aside0.mk (blk_below (g := gb425) (o := .cells #[.int .i64 a1_0, .int .i64 a1_1, .string a1_2] 24 (0, 0)) (by (with_reducible repeat (first | refine blk_drewN ?_ _ | refine blk_drew ?_ | refine blk_alloc ?_ _)); exact BK425.out) hb); have n2_ := Aside0.mk (blk_below (g := gb426) (o := .cells #[.int .i64 a2_0, .int .i64 a2_1, .string a2_2] 24 (0, 0)) (by (with_reducible repeat (first | refine blk_drewN ?_ _ | refine blk_drew ?_ | refine blk_alloc ?_ _)); exact BK426.out) hb); have n3_ := Aside0.mk (below_step (by repeat (first | (with_reducible first | exact HB.out | apply below_alloc | apply pw_below_drewN | apply below_drew1 | refine below_set ?_ GE425.out | refine below_set ?_ GE426.out) | exact HB.out)) hb); clear HO438; clear BK425; clear BK426; clear HB; have HO438 := n0_; have BK425 := n1_; have BK426 := n2_; have HB := n3_; clear n0_ n1_ n2_ n3_; (try clear hb); (try clear hb2); (try clear hk); (try clear hi)) | ((with_reducible refine gate_dst (N := 7) rfl ?_); refine box_event ?hg (N := 7) ?hd (cs := #[.int .i64 0, .int .i64 0, .string (⟨#[]⟩ : ByteArray)]) (t := 24) ?hr ?_; (case hd => rfl); (case hg => rfl); (case hr => first | (go_simp; done) | (go_simp; rfl)); intro gb443 hg w36 hbox hb; have n0_ := Aside0.mk (Kd.R_below (Kd.R_elderB (by (with_reducible repeat (first | apply Kd.R_alloc | apply Kd.R_drewN | apply Kd.R_drew)); exact HO438.out) gb443 (Nat.le_of_eq hg.symm)) hb); have n1_ := Aside0.mk (blk_below (g := gb425) (o := .cells #[.int .i64 a1_0, .int .i64 a1_1, .string a1_2] 24 (0, 0)) (by (with_reducible repeat (first | refine blk_drewN ?_ _ | refine blk_drew ?_ | refine blk_alloc ?_ _)); exact BK425.out) hb); have n2_ := Aside0.mk (blk_below (g := gb426) (o := .cells #[.int .i64 a2_0, .int .i64 a2_1, .string a2_2] 24 (0, 0)) (by (with_reducible repeat (first | refine blk_drewN ?_ _ | refine blk_drew ?_ | refine blk_alloc ?_ _)); exact BK426.out) hb); have n3_ := Aside0.mk (below_step (by repeat (first | (with_reducible first | exact HB.out | apply below_alloc | apply pw_below_drewN | apply below_drew1 | refine below_set ?_ GE425.out | refine below_set ?_ GE426.out) | exact HB.out)) hb); have n4_ := Aside0.mk (hbox); have n5_ := Aside0.mk ((by rw [hg]; exact (below_size (by repeat (first | (with_reducible first | exact HB.out | apply below_alloc | apply pw_below_drewN | apply below_drew1 | refine below_set ?_ GE425.out | refine below_set ?_ GE426.out) | exact HB.out))) : w.heap.size ≤ gb443)); have n6_ := Aside0.mk ((by rw [hg]; exact (below_size (by repeat (first | (with_reducible first | exact HB.out | apply below_alloc | apply pw_below_drewN | apply below_drew1 | refine below_set ?_ GE425.out | refine below_set ?_ GE426.out) | exact HB.out))) : w.heap.size ≤ gb443)); have n7_ := Aside0.mk ((by rw [hg]; exact Nat.ne_of_lt (blk_lt (g := gb425) (o := .cells #[.int .i64 a1_0, .int .i64 a1_1, .string a1_2] 24 (0, 0)) (by (with_reducible repeat (first | refine blk_drewN ?_ _ | refine blk_drew ?_ | refine blk_alloc ?_ _)); exact BK425.out)) : gb425 ≠ gb443)); have n8_ := Aside0.mk ((by rw [hg]; exact Nat.ne_of_gt (blk_lt (g := gb425) (o := .cells #[.int .i64 a1_0, .int .i64 a1_1, .string a1_2] 24 (0, 0)) (by (with_reducible repeat (first | refine blk_drewN ?_ _ | refine blk_drew ?_ | refine blk_alloc ?_ _)); exact BK425.out)) : gb443 ≠ gb425)); have n9_ := Aside0.mk ((by rw [hg]; exact Nat.ne_of_lt (blk_lt (g := gb426) (o := .cells #[.int .i64 a2_0, .int .i64 a2_1, .string a2_2] 24 (0, 0)) (by (with_reducible repeat (first | refine blk_drewN ?_ _ | refine blk_drew ?_ | refine blk_alloc ?_ _)); exact BK426.out)) : gb426 ≠ gb443)); have n10_ := Aside0.mk ((by rw [hg]; exact Nat.ne_of_gt (blk_lt (g := gb426) (o := .cells #[.int .i64 a2_0, .int .i64 a2_1, .string a2_2] 24 (0, 0)) (by (with_reducible repeat (first | refine blk_drewN ?_ _ | refine blk_drew ?_ | refine blk_alloc ?_ _)); exact BK426.out)) : gb443 ≠ gb426)); clear HO438; clear BK425; clear BK426; clear HB; have HO438 := n0_; have BK425 := n1_; have BK426 := n2_; have HB := n3_; have BK443 := n4_; have GW443 := n5_; have GE443 := n6_; have NB425_443 := n7_; have NB443_425 := n8_; have NB426_443 := n9_; have NB443_426 := n10_; clear n0_ n1_ n2_ n3_ n4_ n5_ n6_ n7_ n8_ n9_ n10_; clear hb hbox hg; have hnb37 := NB443_425.out; have hnc37 := NB425_443.out; have hnb38 := NB443_426.out; have hnc38 := NB426_443.out; have hcz39_0 : w36.cell? ⟨gb443, 0, none⟩ = some (.int .i64 0) := (blk_cell BK443.out 0).trans rfl; have hcz39_1 : w36.cell? ⟨gb443, 1, none⟩ = some (.int .i64 0) := (blk_cell BK443.out 1).trans rfl; have hcz39_2 : w36.cell? ⟨gb443, 2, none⟩ = some (.string (⟨#[]⟩ : ByteArray)) := (blk_cell BK443.out 2).trans rfl; have hfz39_0 := blk_frozen BK443.out 0; have hfz39_1 := blk_frozen BK443.out 1; have hfz39_2 := blk_frozen BK443.out 2))
     (try simp only [Act.put, List.setIfInBounds_toArray, List.set_cons_zero, List.set_cons_succ])
     go_cut [43] (fun v43 wc => ∃ (kq : Nat) (x43_27 : Bool), v43 = .bool x43_27 ∧ Aside0 (whirligiglaw01_ValReckons.j1 kq a0 t442 x43_27 a1_0 a1_1 a1_2 a2_0 a2_1 a2_2 t439 t440 t441 = some r) ∧ Aside0 (kq ≤ kj5) ∧ Aside0 (wc.heap[gb425]? = some (.cells #[.int .i64 a1_0, .int .i64 a1_1, .string a1_2] 24 (0, 0))) ∧ Aside0 (wc.heap[gb426]? = some (.cells #[.int .i64 a2_0, .int .i64 a2_1, .string a2_2] 24 (0, 0))) ∧ Aside0 (wc.heap[gb443]? = some (.cells #[.int .i64 t439, .int .i64 t440, .string t441] 24 (0, 0))) ∧ Aside0 (Below w.heap.size w wc))
     case first =>
      have H := HC28.out
      clear HC28
      by_cases c40 : a0 = 1
      ·rw [if_pos c40] at H
       have c40b0 : (a0 == 1) = true := beq_iff_eq.mpr c40
       have c40b1 : (a0 != 1) = false := bne_eq_false_iff_eq.mpr c40
       clear c40
       (first | rw [c40b0] | (simp only [i64_w, i32_w]; rw [c40b0]) | skip)
       have H' := Aside0.mk H
       clear H
       go_wp2
       go_meet
       case rel => exact ⟨_, (true), (by first | rfl | (simp; done) | (simp [*]; done)), H', ⟨by have := HJ5.out; first | omega | exact Nat.le_refl _⟩, ⟨by (with_reducible repeat (first | refine blk_drewN ?_ _ | refine blk_drew ?_ | refine blk_alloc ?_ _)); refine blk_far ?_ NB425_443.out _; (with_reducible repeat (first | refine blk_drewN ?_ _ | refine blk_drew ?_ | refine blk_alloc ?_ _)); refine blk_far ?_ NB425_443.out _; (with_reducible repeat (first | refine blk_drewN ?_ _ | refine blk_drew ?_ | refine blk_alloc ?_ _)); refine blk_far ?_ NB425_443.out _; (with_reducible repeat (first | refine blk_drewN ?_ _ | refine blk_drew ?_ | refine blk_alloc ?_ _)); exact BK425.out⟩, ⟨by (with_reducible repeat (first | refine blk_drewN ?_ _ | refine blk_drew ?_ | refine blk_alloc ?_ _)); refine blk_far ?_ NB426_443.out _; (with_reducible repeat (first | refine blk_drewN ?_ _ | refine blk_drew ?_ | refine blk_alloc ?_ _)); refine blk_far ?_ NB426_443.out _; (with_reducible repeat (first | refine blk_drewN ?_ _ | refine blk_drew ?_ | refine blk_alloc ?_ _)); refine blk_far ?_ NB426_443.out _; (with_reducible repeat (first | refine blk_drewN ?_ _ | refine blk_drew ?_ | refine blk_alloc ?_ _)); exact BK426.out⟩, ⟨by (with_reducible repeat (first | refine blk_drewN ?_ _ | refine blk_drew ?_ | refine blk_alloc ?_ _)); refine blk_put (cs := #[.int .i64 t439, .int .i64 t440, .string (⟨#[]⟩ : ByteArray)]) ?_ 2 _ rfl; (with_reducible repeat (first | refine blk_drewN ?_ _ | refine blk_drew ?_ | refine blk_alloc ?_ _)); refine blk_put (cs := #[.int .i64 t439, .int .i64 0, .string (⟨#[]⟩ : ByteArray)]) ?_ 1 _ rfl; (with_reducible repeat (first | refine blk_drewN ?_ _ | refine blk_drew ?_ | refine blk_alloc ?_ _)); refine blk_put (cs := #[.int .i64 0, .int .i64 0, .string (⟨#[]⟩ : ByteArray)]) ?_ 0 _ rfl; (with_reducible repeat (first | refine blk_drewN ?_ _ | refine blk_drew ?_ | refine blk_alloc ?_ _)); exact BK443.out⟩, ⟨by repeat (first | (with_reducible first | exact HB.out | apply below_alloc | apply pw_below_drewN | apply below_drew1 | refine below_set ?_ GE425.out | refine below_set ?_ GE426.out | refine below_set ?_ GE443.out) | exact HB.out)⟩⟩
      ·rw [if_neg c40] at H
       have c40b0 : (a0 == 1) = false := beq_eq_false_iff_ne.mpr c40
       have c40b1 : (a0 != 1) = true := bne_iff_ne.mpr c40
       (first | rw [c40b0] | (simp only [i64_w, i32_w]; rw [c40b0]) | skip)
       have H' := Aside0.mk H
       clear H
       go_wp2
       go_meet
       case rel => exact ⟨_, ((a0 == 2)), (by first | rfl | (simp; done) | (simp [*]; done)), H', ⟨by have := HJ5.out; first | omega | exact Nat.le_refl _⟩, ⟨by (with_reducible repeat (first | refine blk_drewN ?_ _ | refine blk_drew ?_ | refine blk_alloc ?_ _)); refine blk_far ?_ NB425_443.out _; (with_reducible repeat (first | refine blk_drewN ?_ _ | refine blk_drew ?_ | refine blk_alloc ?_ _)); refine blk_far ?_ NB425_443.out _; (with_reducible repeat (first | refine blk_drewN ?_ _ | refine blk_drew ?_ | refine blk_alloc ?_ _)); refine blk_far ?_ NB425_443.out _; (with_reducible repeat (first | refine blk_drewN ?_ _ | refine blk_drew ?_ | refine blk_alloc ?_ _)); exact BK425.out⟩, ⟨by (with_reducible repeat (first | refine blk_drewN ?_ _ | refine blk_drew ?_ | refine blk_alloc ?_ _)); refine blk_far ?_ NB426_443.out _; (with_reducible repeat (first | refine blk_drewN ?_ _ | refine blk_drew ?_ | refine blk_alloc ?_ _)); refine blk_far ?_ NB426_443.out _; (with_reducible repeat (first | refine blk_drewN ?_ _ | refine blk_drew ?_ | refine blk_alloc ?_ _)); refine blk_far ?_ NB426_443.out _; (with_reducible repeat (first | refine blk_drewN ?_ _ | refine blk_drew ?_ | refine blk_alloc ?_ _)); exact BK426.out⟩, ⟨by (with_reducible repeat (first | refine blk_drewN ?_ _ | refine blk_drew ?_ | refine blk_alloc ?_ _)); refine blk_put (cs := #[.int .i64 t439, .int .i64 t440, .string (⟨#[]⟩ : ByteArray)]) ?_ 2 _ rfl; (with_reducible repeat (first | refine blk_drewN ?_ _ | refine blk_drew ?_ | refine blk_alloc ?_ _)); refine blk_put (cs := #[.int .i64 t439, .int .i64 0, .string (⟨#[]⟩ : ByteArray)]) ?_ 1 _ rfl; (with_reducible repeat (first | refine blk_drewN ?_ _ | refine blk_drew ?_ | refine blk_alloc ?_ _)); refine blk_put (cs := #[.int .i64 0, .int .i64 0, .string (⟨#[]⟩ : ByteArray)]) ?_ 0 _ rfl; (with_reducible repeat (first | refine blk_drewN ?_ _ | refine blk_drew ?_ | refine blk_alloc ?_ _)); exact BK443.out⟩, ⟨by repeat (first | (with_reducible first | exact HB.out | apply below_alloc | apply pw_below_drewN | apply below_drew1 | refine below_set ?_ GE425.out | refine below_set ?_ GE426.out | refine below_set ?_ GE443.out) | exact HB.out)⟩⟩
     case rest =>
      clear HC28
      try clear c1
      try clear c2
      try clear p2
      try clear c3
      try clear c4
      try clear c5
      try clear c7
      try clear c9
      try clear c12
      try clear c15
      try clear c20
      try clear c22
      try clear c26
      try clear c29
      try clear c37
      try clear c38
      try clear c40
      try clear c40b0
      try clear c40b1
      try clear hcz16_0
      try clear hcz16_1
      try clear hcz16_2
      try clear hcz19_0
      try clear hcz19_1
      try clear hcz19_2
      try clear hcz23_0
      try clear hcz23_1
      try clear hcz23_2
      try clear hcz30_0
      try clear hcz30_1
      try clear hcz30_2
      try clear hcz31_0
      try clear hcz31_1
      try clear hcz31_2
      try clear hcz39_0
      try clear hcz39_1
      try clear hcz39_2
      try clear hfz16_0
      try clear hfz16_1
      try clear hfz16_2
      try clear hfz19_0
      try clear hfz19_1
      try clear hfz19_2
      try clear hfz23_0
      try clear hfz23_1
      try clear hfz23_2
      try clear hfz30_0
      try clear hfz30_1
      try clear hfz30_2
      try clear hfz31_0
      try clear hfz31_1
      try clear hfz31_2
      try clear hfz39_0
      try clear hfz39_1
      try clear hfz39_2
      try clear p2
      obtain ⟨kq, x43_27, rfl, HA, HJ27, BK425, BK426, BK443, HB⟩ := hcut
      cases kq with
      | zero => exact absurd HA.out (by simp [whirligiglaw01_ValReckons.j1])
      | succ kj27 =>
       have H := HA.out
       clear HA
       simp only [whirligiglaw01_ValReckons.j1] at H
       have HC41 := Aside0.mk H
       clear H
       go_upto_if 43 with (fail)
       go_cut [8] (fun v8 wc => ∃ (kq : Nat) (x8_40 : Int) (x444000_40 : Int) (x444001_40 : Int) (x444002_40 : ByteArray), v8 = .int .i64 x8_40 ∧ Aside0 (whirligiglaw01_ValReckons.j2 kq a0 x8_40 a1_0 a1_1 a1_2 a2_0 a2_1 a2_2 x444000_40 x444001_40 x444002_40 = some r) ∧ Aside0 (kq ≤ kj27) ∧ Aside0 (wc.heap[gb425]? = some (.cells #[.int .i64 a1_0, .int .i64 a1_1, .string a1_2] 24 (0, 0))) ∧ Aside0 (wc.heap[gb426]? = some (.cells #[.int .i64 a2_0, .int .i64 a2_1, .string a2_2] 24 (0, 0))) ∧ Aside0 (wc.heap[gb443]? = some (.cells #[.int .i64 x444000_40, .int .i64 x444001_40, .string x444002_40] 24 (0, 0))) ∧ Aside0 (Below w.heap.size w wc))
       case first =>
        have H := HC41.out
        clear HC41
        by_cases c42 : x43_27 = true
        ·subst c42
         have H1 : (if t442 = 20 then ((val_Reckon.f kj27 a0 a1_0 a1_1 a1_2 ([] : List (S24))).bind fun bt444 => (whirligiglaw01_ValReckons.j2 kj27 a0 bt444.2.2.2 a1_0 a1_1 a1_2 a2_0 a2_1 a2_2 bt444.1 bt444.2.1 bt444.2.2.1)) else (some false)) = some r := by rw [if_pos rfl] at H; exact H
         clear H
         have H := H1
         clear H1
         by_cases c43 : t442 = 20
         ·rw [if_pos c43] at H
          have c43b0 : (t442 == 20) = true := beq_iff_eq.mpr c43
          have c43b1 : (t442 != 20) = false := bne_eq_false_iff_eq.mpr c43
          clear c43
          (first | rw [c43b0] | (simp only [i64_w, i32_w]; rw [c43b0]) | skip)
          replace H := Option.bind_eq_some_iff.mp H
          obtain ⟨⟨t444, t445, t446, t447⟩, A440, H⟩ := H
          replace H : (whirligiglaw01_ValReckons.j2 kj27 a0 t447 a1_0 a1_1 a1_2 a2_0 a2_1 a2_2 t444 t445 t446) = some r := H
          have A44 := Aside0.mk A440
          clear A440
          have H' := Aside0.mk H
          clear H
          have hnb45 := NB425_426.out
          have hnc45 := NB426_425.out
          have hnb46 := NB425_443.out
          have hnc46 := NB443_425.out
          have hcz47_0 : wc.cell? ⟨gb425, 0, none⟩ = some (.int .i64 a1_0) := (blk_cell BK425.out 0).trans rfl
          have hcz47_1 : wc.cell? ⟨gb425, 1, none⟩ = some (.int .i64 a1_1) := (blk_cell BK425.out 1).trans rfl
          have hcz47_2 : wc.cell? ⟨gb425, 2, none⟩ = some (.string a1_2) := (blk_cell BK425.out 2).trans rfl
          have hfz47_0 := blk_frozen BK425.out 0
          have hfz47_1 := blk_frozen BK425.out 1
          have hfz47_2 := blk_frozen BK425.out 2
          go_wp2_with (first | ((with_reducible refine gate_callee (f := 20) rfl ?_); refine goesL_ (some 49) rfl rfl Tryd.func20 (by kernel_rfl) rfl #[.int .i64 a0, .agg #[.int .i64 a1_0, .int .i64 a1_1, .string a1_2], .slice none 0 0] rfl (by (try simp only [List.map_toArray, List.map_cons, List.map_nil]); first | done | rfl | (simp only [List.length_drop, List.length_take]; rfl)) ?_; (refine (val_Reckon.calls kj27 a0 a1_0 a1_1 a1_2 _ _ ([] : List (S24)) t444 t445 t446 t447 _ ?side1 ?side2 A44.out).mono ?_); (case side1 => exact Kd.C_nil _ _); (case side2 => exact Nat.le_refl _); rintro e w48 ⟨rfl, hb⟩; refine ⟨_, rfl, ?_⟩; have n0_ := Aside0.mk (blk_below (g := gb425) (o := .cells #[.int .i64 a1_0, .int .i64 a1_1, .string a1_2] 24 (0, 0)) (by (with_reducible repeat (first | refine blk_drewN ?_ _ | refine blk_drew ?_ | refine blk_alloc ?_ _)); exact BK425.out) hb); have n1_ := Aside0.mk (blk_below (g := gb426) (o := .cells #[.int .i64 a2_0, .int .i64 a2_1, .string a2_2] 24 (0, 0)) (by (with_reducible repeat (first | refine blk_drewN ?_ _ | refine blk_drew ?_ | refine blk_alloc ?_ _)); exact BK426.out) hb); have n2_ := Aside0.mk (blk_below (g := gb443) (o := .cells #[.int .i64 t439, .int .i64 t440, .string t441] 24 (0, 0)) (by (with_reducible repeat (first | refine blk_drewN ?_ _ | refine blk_drew ?_ | refine blk_alloc ?_ _)); exact BK443.out) hb); have n3_ := Aside0.mk (below_step (by repeat (first | (with_reducible first | exact HB.out | apply below_alloc | apply pw_below_drewN | apply below_drew1 | refine below_set ?_ GE425.out | refine below_set ?_ GE426.out | refine below_set ?_ GE443.out) | exact HB.out)) hb); clear BK425; clear BK426; clear BK443; clear HB; have BK425 := n0_; have BK426 := n1_; have BK443 := n2_; have HB := n3_; clear n0_ n1_ n2_ n3_; (try clear hb); (try clear hb2); (try clear hk); (try clear hi); have hnb49 := NB443_426.out; have hnc49 := NB426_443.out; have hcz50_0 : w48.cell? ⟨gb443, 0, none⟩ = some (.int .i64 t439) := (blk_cell BK443.out 0).trans rfl; have hcz50_1 : w48.cell? ⟨gb443, 1, none⟩ = some (.int .i64 t440) := (blk_cell BK443.out 1).trans rfl; have hcz50_2 : w48.cell? ⟨gb443, 2, none⟩ = some (.string t441) := (blk_cell BK443.out 2).trans rfl; have hfz50_0 := blk_frozen BK443.out 0; have hfz50_1 := blk_frozen BK443.out 1; have hfz50_2 := blk_frozen BK443.out 2))
          go_meet
          case rel => exact ⟨_, (t447), (t444), (t445), (t446), (by first | rfl | (simp; done) | (simp [*]; done)), H', ⟨by have := HJ5.out; have := HJ27.out; first | omega | exact Nat.le_refl _⟩, ⟨by (with_reducible repeat (first | refine blk_drewN ?_ _ | refine blk_drew ?_ | refine blk_alloc ?_ _)); refine blk_far ?_ NB425_443.out _; (with_reducible repeat (first | refine blk_drewN ?_ _ | refine blk_drew ?_ | refine blk_alloc ?_ _)); refine blk_far ?_ NB425_443.out _; (with_reducible repeat (first | refine blk_drewN ?_ _ | refine blk_drew ?_ | refine blk_alloc ?_ _)); refine blk_far ?_ NB425_443.out _; (with_reducible repeat (first | refine blk_drewN ?_ _ | refine blk_drew ?_ | refine blk_alloc ?_ _)); exact BK425.out⟩, ⟨by (with_reducible repeat (first | refine blk_drewN ?_ _ | refine blk_drew ?_ | refine blk_alloc ?_ _)); refine blk_far ?_ NB426_443.out _; (with_reducible repeat (first | refine blk_drewN ?_ _ | refine blk_drew ?_ | refine blk_alloc ?_ _)); refine blk_far ?_ NB426_443.out _; (with_reducible repeat (first | refine blk_drewN ?_ _ | refine blk_drew ?_ | refine blk_alloc ?_ _)); refine blk_far ?_ NB426_443.out _; (with_reducible repeat (first | refine blk_drewN ?_ _ | refine blk_drew ?_ | refine blk_alloc ?_ _)); exact BK426.out⟩, ⟨by (with_reducible repeat (first | refine blk_drewN ?_ _ | refine blk_drew ?_ | refine blk_alloc ?_ _)); refine blk_put (cs := #[.int .i64 t444, .int .i64 t445, .string t441]) ?_ 2 _ rfl; (with_reducible repeat (first | refine blk_drewN ?_ _ | refine blk_drew ?_ | refine blk_alloc ?_ _)); refine blk_put (cs := #[.int .i64 t444, .int .i64 t440, .string t441]) ?_ 1 _ rfl; (with_reducible repeat (first | refine blk_drewN ?_ _ | refine blk_drew ?_ | refine blk_alloc ?_ _)); refine blk_put (cs := #[.int .i64 t439, .int .i64 t440, .string t441]) ?_ 0 _ rfl; (with_reducible repeat (first | refine blk_drewN ?_ _ | refine blk_drew ?_ | refine blk_alloc ?_ _)); exact BK443.out⟩, ⟨by repeat (first | (with_reducible first | exact HB.out | apply below_alloc | apply pw_below_drewN | apply below_drew1 | refine below_set ?_ GE425.out | refine below_set ?_ GE426.out | refine below_set ?_ GE443.out) | exact HB.out)⟩⟩
         ·rw [if_neg c43] at H
          have c43b0 : (t442 == 20) = false := beq_eq_false_iff_ne.mpr c43
          have c43b1 : (t442 != 20) = true := bne_iff_ne.mpr c43
          (first | rw [c43b0] | (simp only [i64_w, i32_w]; rw [c43b0]) | skip)
          obtain rfl := Option.some.inj H
          exact absurd hr_ (by decide)
        ·replace c42 := Bool.eq_false_iff.mpr c42
         subst c42
         have H1 : ((val_Reckon.f kj27 a0 a1_0 a1_1 a1_2 ([] : List (S24))).bind fun bt448 => (if bt448.2.2.2 = 20 then (whirligiglaw01_ValReckons.j2 kj27 a0 t442 a1_0 a1_1 a1_2 a2_0 a2_1 a2_2 t439 t440 t441) else (some false))) = some r := by rw [if_neg (show ¬ (false = true) by decide)] at H; exact H
         clear H
         have H := H1
         clear H1
         replace H := Option.bind_eq_some_iff.mp H
         obtain ⟨⟨t448, t449, t450, t451⟩, A510, H⟩ := H
         replace H : (if t451 = 20 then (whirligiglaw01_ValReckons.j2 kj27 a0 t442 a1_0 a1_1 a1_2 a2_0 a2_1 a2_2 t439 t440 t441) else (some false)) = some r := H
         have A51 := Aside0.mk A510
         clear A510
         by_cases c52 : t451 = 20
         ·rw [if_pos c52] at H
          have c52b0 : (t451 == 20) = true := beq_iff_eq.mpr c52
          have c52b1 : (t451 != 20) = false := bne_eq_false_iff_eq.mpr c52
          clear c52
          have H' := Aside0.mk H
          clear H
          have hnb53 := NB425_426.out
          have hnc53 := NB426_425.out
          have hnb54 := NB425_443.out
          have hnc54 := NB443_425.out
          have hcz55_0 : wc.cell? ⟨gb425, 0, none⟩ = some (.int .i64 a1_0) := (blk_cell BK425.out 0).trans rfl
          have hcz55_1 : wc.cell? ⟨gb425, 1, none⟩ = some (.int .i64 a1_1) := (blk_cell BK425.out 1).trans rfl
          have hcz55_2 : wc.cell? ⟨gb425, 2, none⟩ = some (.string a1_2) := (blk_cell BK425.out 2).trans rfl
          have hfz55_0 := blk_frozen BK425.out 0
          have hfz55_1 := blk_frozen BK425.out 1
          have hfz55_2 := blk_frozen BK425.out 2
          go_wp2_with (first | ((with_reducible refine gate_callee (f := 20) rfl ?_); refine goesL_ (some 55) rfl rfl Tryd.func20 (by kernel_rfl) rfl #[.int .i64 a0, .agg #[.int .i64 a1_0, .int .i64 a1_1, .string a1_2], .slice none 0 0] rfl (by (try simp only [List.map_toArray, List.map_cons, List.map_nil]); first | done | rfl | (simp only [List.length_drop, List.length_take]; rfl)) ?_; (refine (val_Reckon.calls kj27 a0 a1_0 a1_1 a1_2 _ _ ([] : List (S24)) t448 t449 t450 t451 _ ?side1 ?side2 A51.out).mono ?_); (case side1 => exact Kd.C_nil _ _); (case side2 => exact Nat.le_refl _); rintro e w56 ⟨rfl, hb⟩; refine ⟨_, rfl, ?_⟩; have n0_ := Aside0.mk (blk_below (g := gb425) (o := .cells #[.int .i64 a1_0, .int .i64 a1_1, .string a1_2] 24 (0, 0)) (by (with_reducible repeat (first | refine blk_drewN ?_ _ | refine blk_drew ?_ | refine blk_alloc ?_ _)); exact BK425.out) hb); have n1_ := Aside0.mk (blk_below (g := gb426) (o := .cells #[.int .i64 a2_0, .int .i64 a2_1, .string a2_2] 24 (0, 0)) (by (with_reducible repeat (first | refine blk_drewN ?_ _ | refine blk_drew ?_ | refine blk_alloc ?_ _)); exact BK426.out) hb); have n2_ := Aside0.mk (blk_below (g := gb443) (o := .cells #[.int .i64 t439, .int .i64 t440, .string t441] 24 (0, 0)) (by (with_reducible repeat (first | refine blk_drewN ?_ _ | refine blk_drew ?_ | refine blk_alloc ?_ _)); exact BK443.out) hb); have n3_ := Aside0.mk (below_step (by repeat (first | (with_reducible first | exact HB.out | apply below_alloc | apply pw_below_drewN | apply below_drew1 | refine below_set ?_ GE425.out | refine below_set ?_ GE426.out | refine below_set ?_ GE443.out) | exact HB.out)) hb); clear BK425; clear BK426; clear BK443; clear HB; have BK425 := n0_; have BK426 := n1_; have BK443 := n2_; have HB := n3_; clear n0_ n1_ n2_ n3_; (try clear hb); (try clear hb2); (try clear hk); (try clear hi)) | ((with_reducible refine gate_dst (N := 9) rfl ?_); refine box_event ?hg (N := 9) ?hd (cs := #[.int .i64 0, .int .i64 0, .string (⟨#[]⟩ : ByteArray)]) (t := 24) ?hr ?_; (case hd => rfl); (case hg => rfl); (case hr => first | (go_simp; done) | (go_simp; rfl)); intro gb452 hg w57 hbox hb; have n0_ := Aside0.mk (blk_below (g := gb425) (o := .cells #[.int .i64 a1_0, .int .i64 a1_1, .string a1_2] 24 (0, 0)) (by (with_reducible repeat (first | refine blk_drewN ?_ _ | refine blk_drew ?_ | refine blk_alloc ?_ _)); exact BK425.out) hb); have n1_ := Aside0.mk (blk_below (g := gb426) (o := .cells #[.int .i64 a2_0, .int .i64 a2_1, .string a2_2] 24 (0, 0)) (by (with_reducible repeat (first | refine blk_drewN ?_ _ | refine blk_drew ?_ | refine blk_alloc ?_ _)); exact BK426.out) hb); have n2_ := Aside0.mk (blk_below (g := gb443) (o := .cells #[.int .i64 t439, .int .i64 t440, .string t441] 24 (0, 0)) (by (with_reducible repeat (first | refine blk_drewN ?_ _ | refine blk_drew ?_ | refine blk_alloc ?_ _)); exact BK443.out) hb); have n3_ := Aside0.mk (below_step (by repeat (first | (with_reducible first | exact HB.out | apply below_alloc | apply pw_below_drewN | apply below_drew1 | refine below_set ?_ GE425.out | refine below_set ?_ GE426.out | refine below_set ?_ GE443.out) | exact HB.out)) hb); have n4_ := Aside0.mk (hbox); have n5_ := Aside0.mk ((by rw [hg]; exact (below_size (by repeat (first | (with_reducible first | exact HB.out | apply below_alloc | apply pw_below_drewN | apply below_drew1 | refine below_set ?_ GE425.out | refine below_set ?_ GE426.out | refine below_set ?_ GE443.out) | exact HB.out))) : w.heap.size ≤ gb452)); have n6_ := Aside0.mk ((by rw [hg]; exact (below_size (by repeat (first | (with_reducible first | exact HB.out | apply below_alloc | apply pw_below_drewN | apply below_drew1 | refine below_set ?_ GE425.out | refine below_set ?_ GE426.out | refine below_set ?_ GE443.out) | exact HB.out))) : w.heap.size ≤ gb452)); have n7_ := Aside0.mk ((by rw [hg]; exact Nat.ne_of_lt (blk_lt (g := gb425) (o := .cells #[.int .i64 a1_0, .int .i64 a1_1, .string a1_2] 24 (0, 0)) (by (with_reducible repeat (first | refine blk_drewN ?_ _ | refine blk_drew ?_ | refine blk_alloc ?_ _)); exact BK425.out)) : gb425 ≠ gb452)); have n8_ := Aside0.mk ((by rw [hg]; exact Nat.ne_of_gt (blk_lt (g := gb425) (o := .cells #[.int .i64 a1_0, .int .i64 a1_1, .string a1_2] 24 (0, 0)) (by (with_reducible repeat (first | refine blk_drewN ?_ _ | refine blk_drew ?_ | refine blk_alloc ?_ _)); exact BK425.out)) : gb452 ≠ gb425)); have n9_ := Aside0.mk ((by rw [hg]; exact Nat.ne_of_lt (blk_lt (g := gb426) (o := .cells #[.int .i64 a2_0, .int .i64 a2_1, .string a2_2] 24 (0, 0)) (by (with_reducible repeat (first | refine blk_drewN ?_ _ | refine blk_drew ?_ | refine blk_alloc ?_ _)); exact BK426.out)) : gb426 ≠ gb452)); have n10_ := Aside0.mk ((by rw [hg]; exact Nat.ne_of_gt (blk_lt (g := gb426) (o := .cells #[.int .i64 a2_0, .int .i64 a2_1, .string a2_2] 24 (0, 0)) (by (with_reducible repeat (first | refine blk_drewN ?_ _ | refine blk_drew ?_ | refine blk_alloc ?_ _)); exact BK426.out)) : gb452 ≠ gb426)); have n11_ := Aside0.mk ((by rw [hg]; exact Nat.ne_of_lt (blk_lt (g := gb443) (o := .cells #[.int .i64 t439, .int .i64 t440, .string t441] 24 (0, 0)) (by (with_reducible repeat (first | refine blk_drewN ?_ _ | refine blk_drew ?_ | refine blk_alloc ?_ _)); exact BK443.out)) : gb443 ≠ gb452)); have n12_ := Aside0.mk ((by rw [hg]; exact Nat.ne_of_gt (blk_lt (g := gb443) (o := .cells #[.int .i64 t439, .int .i64 t440, .string t441] 24 (0, 0)) (by (with_reducible repeat (first | refine blk_drewN ?_ _ | refine blk_drew ?_ | refine blk_alloc ?_ _)); exact BK443.out)) : gb452 ≠ gb443)); clear BK425; clear BK426; clear BK443; clear HB; have BK425 := n0_; have BK426 := n1_; have BK443 := n2_; have HB := n3_; have BK452 := n4_; have GW452 := n5_; have GE452 := n6_; have NB425_452 := n7_; have NB452_425 := n8_; have NB426_452 := n9_; have NB452_426 := n10_; have NB443_452 := n11_; have NB452_443 := n12_; clear n0_ n1_ n2_ n3_ n4_ n5_ n6_ n7_ n8_ n9_ n10_ n11_ n12_; clear hb hbox hg; have hnb58 := NB452_425.out; have hnc58 := NB425_452.out; have hnb59 := NB452_426.out; have hnc59 := NB426_452.out; have hnb60 := NB452_443.out; have hnc60 := NB443_452.out; have hcz61_0 : w57.cell? ⟨gb452, 0, none⟩ = some (.int .i64 0) := (blk_cell BK452.out 0).trans rfl; have hcz61_1 : w57.cell? ⟨gb452, 1, none⟩ = some (.int .i64 0) := (blk_cell BK452.out 1).trans rfl; have hcz61_2 : w57.cell? ⟨gb452, 2, none⟩ = some (.string (⟨#[]⟩ : ByteArray)) := (blk_cell BK452.out 2).trans rfl; have hfz61_0 := blk_frozen BK452.out 0; have hfz61_1 := blk_frozen BK452.out 1; have hfz61_2 := blk_frozen BK452.out 2))
          go_meet
          case rel => exact ⟨_, (t442), (t439), (t440), (t441), (by first | rfl | (simp; done) | (simp [*]; done)), H', ⟨by have := HJ5.out; have := HJ27.out; first | omega | exact Nat.le_refl _⟩, ⟨by (with_reducible repeat (first | refine blk_drewN ?_ _ | refine blk_drew ?_ | refine blk_alloc ?_ _)); refine blk_far ?_ NB425_452.out _; (with_reducible repeat (first | refine blk_drewN ?_ _ | refine blk_drew ?_ | refine blk_alloc ?_ _)); refine blk_far ?_ NB425_452.out _; (with_reducible repeat (first | refine blk_drewN ?_ _ | refine blk_drew ?_ | refine blk_alloc ?_ _)); refine blk_far ?_ NB425_452.out _; (with_reducible repeat (first | refine blk_drewN ?_ _ | refine blk_drew ?_ | refine blk_alloc ?_ _)); exact BK425.out⟩, ⟨by (with_reducible repeat (first | refine blk_drewN ?_ _ | refine blk_drew ?_ | refine blk_alloc ?_ _)); refine blk_far ?_ NB426_452.out _; (with_reducible repeat (first | refine blk_drewN ?_ _ | refine blk_drew ?_ | refine blk_alloc ?_ _)); refine blk_far ?_ NB426_452.out _; (with_reducible repeat (first | refine blk_drewN ?_ _ | refine blk_drew ?_ | refine blk_alloc ?_ _)); refine blk_far ?_ NB426_452.out _; (with_reducible repeat (first | refine blk_drewN ?_ _ | refine blk_drew ?_ | refine blk_alloc ?_ _)); exact BK426.out⟩, ⟨by (with_reducible repeat (first | refine blk_drewN ?_ _ | refine blk_drew ?_ | refine blk_alloc ?_ _)); refine blk_far ?_ NB443_452.out _; (with_reducible repeat (first | refine blk_drewN ?_ _ | refine blk_drew ?_ | refine blk_alloc ?_ _)); refine blk_far ?_ NB443_452.out _; (with_reducible repeat (first | refine blk_drewN ?_ _ | refine blk_drew ?_ | refine blk_alloc ?_ _)); refine blk_far ?_ NB443_452.out _; (with_reducible repeat (first | refine blk_drewN ?_ _ | refine blk_drew ?_ | refine blk_alloc ?_ _)); exact BK443.out⟩, ⟨by repeat (first | (with_reducible first | exact HB.out | apply below_alloc | apply pw_below_drewN | apply below_drew1 | refine below_set ?_ GE425.out | refine below_set ?_ GE426.out | refine below_set ?_ GE443.out | refine below_set ?_ GE452.out) | exact HB.out)⟩⟩
         ·rw [if_neg c52] at H
          have c52b0 : (t451 == 20) = false := beq_eq_false_iff_ne.mpr c52
          have c52b1 : (t451 != 20) = true := bne_iff_ne.mpr c52
          obtain rfl := Option.some.inj H
          exact absurd hr_ (by decide)
       case rest =>
        clear HC41
        try clear c1
        try clear c2
        try clear p2
        try clear c3
        try clear c4
        try clear c5
        try clear c6
        try clear c7
        try clear c9
        try clear c12
        try clear c15
        try clear c20
        try clear c22
        try clear c26
        try clear c29
        try clear c37
        try clear c38
        try clear c40
        try clear c40b0
        try clear c40b1
        try clear c42
        try clear c43
        try clear c43b0
        try clear c43b1
        try clear c45
        try clear c46
        try clear c49
        try clear c52
        try clear c52b0
        try clear c52b1
        try clear c53
        try clear c54
        try clear c58
        try clear c59
        try clear c60
        try clear c62
        try clear c63
        try clear c67
        try clear c68
        try clear c69
        try clear hcz16_0
        try clear hcz16_1
        try clear hcz16_2
        try clear hcz19_0
        try clear hcz19_1
        try clear hcz19_2
        try clear hcz23_0
        try clear hcz23_1
        try clear hcz23_2
        try clear hcz30_0
        try clear hcz30_1
        try clear hcz30_2
        try clear hcz31_0
        try clear hcz31_1
        try clear hcz31_2
        try clear hcz39_0
        try clear hcz39_1
        try clear hcz39_2
        try clear hcz47_0
        try clear hcz47_1
        try clear hcz47_2
        try clear hcz50_0
        try clear hcz50_1
        try clear hcz50_2
        try clear hcz55_0
        try clear hcz55_1
        try clear hcz55_2
        try clear hcz61_0
        try clear hcz61_1
        try clear hcz61_2
        try clear hcz64_0
        try clear hcz64_1
        try clear hcz64_2
        try clear hcz70_0
        try clear hcz70_1
        try clear hcz70_2
        try clear hfz16_0
        try clear hfz16_1
        try clear hfz16_2
        try clear hfz19_0
        try clear hfz19_1
        try clear hfz19_2
        try clear hfz23_0
        try clear hfz23_1
        try clear hfz23_2
        try clear hfz30_0
        try clear hfz30_1
        try clear hfz30_2
        try clear hfz31_0
        try clear hfz31_1
        try clear hfz31_2
        try clear hfz39_0
        try clear hfz39_1
        try clear hfz39_2
        try clear hfz47_0
        try clear hfz47_1
        try clear hfz47_2
        try clear hfz50_0
        try clear hfz50_1
        try clear hfz50_2
        try clear hfz55_0
        try clear hfz55_1
        try clear hfz55_2
        try clear hfz61_0
        try clear hfz61_1
        try clear hfz61_2
        try clear hfz64_0
        try clear hfz64_1
        try clear hfz64_2
        try clear hfz70_0
        try clear hfz70_1
        try clear hfz70_2
        try clear p2
        obtain ⟨kq, x8_40, x444000_40, x444001_40, x444002_40, rfl, HA, HJ40, BK425, BK426, BK443, HB⟩ := hcut
        cases kq with
        | zero => exact absurd HA.out (by simp [whirligiglaw01_ValReckons.j2])
        | succ kj40 =>
         have H := HA.out
         clear HA
         simp only [whirligiglaw01_ValReckons.j2] at H
         replace H := Option.bind_eq_some_iff.mp H
         obtain ⟨t453, A710, H⟩ := H
         replace H : (if t453 = 0 then ((val_Result.f kj40 a0 a1_0 a2_0).bind fun bt454 => (if x8_40 = 20 then (if (x444000_40 == 0 && (x444001_40 == 0 && (x444002_40.toList == ([] : List UInt8)))) = true then (some (!bt454.2)) else (some false)) else (some false))) else ((whirligiglaw01_ref.f a1_0 a1_1 a1_2).bind fun bt456 => ((whirligiglaw01_ref.f a2_0 a2_1 a2_2).bind fun bt459 => ((whirligigref01_Reckon.f kj40 a0 bt456.1 bt456.2.1 bt456.2.2 bt459.1 bt459.2.1 bt459.2.2).bind fun bt462 => ((val_Result.f kj40 a0 a1_0 a2_0).bind fun bt467 => (if x8_40 = bt462.2.2.2 then ((whirligiglaw01_ref.f x444000_40 x444001_40 x444002_40).bind fun bt469 => (if (!(bt469.1 == bt462.1) || (!(bt469.2.1 == bt462.2.1) || (!(bt469.2.2.toList == bt462.2.2.1.toList)))) = true then (some false) else (if bt467.2 = true then ((whirligigref01_Result.f kj40 a0 a1_0 a2_0).bind fun t472 => (if bt467.1 = t472 then (if bt462.2.2.2 = 0 then ((val_Right_all.f x444000_40 x444001_40 x444002_40).bind fun t473 => (if t473 = true then (some (x444000_40 == bt467.1)) else (some false))) else (some true)) else (some false))) else (some false)))) else (some false))))))) = some r := H
         have A71 := Aside0.mk A710
         clear A710
         by_cases c72 : t453 = 0
         ·rw [if_pos c72] at H
          have c72b0 : (t453 == 0) = true := beq_iff_eq.mpr c72
          have c72b1 : (t453 != 0) = false := bne_eq_false_iff_eq.mpr c72
          clear c72
          replace H := Option.bind_eq_some_iff.mp H
          obtain ⟨⟨t454, t455⟩, A730, H⟩ := H
          replace H : (if x8_40 = 20 then (if (x444000_40 == 0 && (x444001_40 == 0 && (x444002_40.toList == ([] : List UInt8)))) = true then (some (!t455)) else (some false)) else (some false)) = some r := H
          have A73 := Aside0.mk A730
          clear A730
          by_cases c74 : x8_40 = 20
          ·rw [if_pos c74] at H
           have c74b0 : (x8_40 == 20) = true := beq_iff_eq.mpr c74
           have c74b1 : (x8_40 != 20) = false := bne_eq_false_iff_eq.mpr c74
           clear c74
           by_cases c75 : (x444000_40 == 0 && (x444001_40 == 0 && (x444002_40.toList == ([] : List UInt8)))) = true
           ·rw [if_pos c75] at H
            have c75b0 : (x444000_40 == 0 && (x444001_40 == 0 && (x444002_40.toList == ([] : List UInt8)))) = true := c75
            (try (have c75b1 : decide (x444000_40 = 0 && (x444001_40 == 0 && (x444002_40.toList == ([] : List UInt8)))) = true := by simpa using c75))
            (try (have c75b2 : (x444000_40 == 0 && (x444001_40 == 0 && (x444002_40.toList == ([] : List UInt8)))) = true := by simpa using c75))
            clear c75
            obtain rfl := Option.some.inj H
            have hnb76 := NB425_426.out
            have hnc76 := NB426_425.out
            have hnb77 := NB425_443.out
            have hnc77 := NB443_425.out
            have hcz78_0 : wc.cell? ⟨gb425, 0, none⟩ = some (.int .i64 a1_0) := (blk_cell BK425.out 0).trans rfl
            have hcz78_1 : wc.cell? ⟨gb425, 1, none⟩ = some (.int .i64 a1_1) := (blk_cell BK425.out 1).trans rfl
            have hcz78_2 : wc.cell? ⟨gb425, 2, none⟩ = some (.string a1_2) := (blk_cell BK425.out 2).trans rfl
            have hfz78_0 := blk_frozen BK425.out 0
            have hfz78_1 := blk_frozen BK425.out 1
            have hfz78_2 := blk_frozen BK425.out 2
            have hnb79 := NB426_443.out
            have hnc79 := NB443_426.out
            have hcz80_0 : wc.cell? ⟨gb426, 0, none⟩ = some (.int .i64 a2_0) := (blk_cell BK426.out 0).trans rfl
            have hcz80_1 : wc.cell? ⟨gb426, 1, none⟩ = some (.int .i64 a2_1) := (blk_cell BK426.out 1).trans rfl
            have hcz80_2 : wc.cell? ⟨gb426, 2, none⟩ = some (.string a2_2) := (blk_cell BK426.out 2).trans rfl
            have hfz80_0 := blk_frozen BK426.out 0
            have hfz80_1 := blk_frozen BK426.out 1
            have hfz80_2 := blk_frozen BK426.out 2
            go_wp2_with (first | ((with_reducible refine gate_callee (f := 21) rfl ?_); refine goesL_ (some 65) rfl rfl Tryd.func21 (by kernel_rfl) rfl #[.int .i64 a0, .int .i64 a1_0, .int .i64 a2_0] rfl (by (try simp only [List.map_toArray, List.map_cons, List.map_nil]); first | done | rfl | (simp only [List.length_drop, List.length_take]; rfl)) ?_; (with_reducible refine (whirligigref01_Result.calls kj40 a0 a1_0 a2_0 t453 _ A71.out).mono ?_); rintro e w' ⟨rfl, ⟨nd, rfl⟩⟩; refine ⟨_, rfl, ?_⟩) | ((with_reducible refine gate_callee (f := 22) rfl ?_); refine goesL_ (some 74) rfl rfl Tryd.func22 (by kernel_rfl) rfl #[.int .i64 a0, .int .i64 a1_0, .int .i64 a2_0] rfl (by (try simp only [List.map_toArray, List.map_cons, List.map_nil]); first | done | rfl | (simp only [List.length_drop, List.length_take]; rfl)) ?_; (with_reducible refine (val_Result.calls kj40 a0 a1_0 a2_0 t454 t455 _ A73.out).mono ?_); rintro e w' ⟨rfl, ⟨nd, rfl⟩⟩; refine ⟨_, rfl, ?_⟩; have hcz81_0 : wc.cell? ⟨gb443, 0, none⟩ = some (.int .i64 x444000_40) := (blk_cell BK443.out 0).trans rfl; have hcz81_1 : wc.cell? ⟨gb443, 1, none⟩ = some (.int .i64 x444001_40) := (blk_cell BK443.out 1).trans rfl; have hcz81_2 : wc.cell? ⟨gb443, 2, none⟩ = some (.string x444002_40) := (blk_cell BK443.out 2).trans rfl; have hfz81_0 := blk_frozen BK443.out 0; have hfz81_1 := blk_frozen BK443.out 1; have hfz81_2 := blk_frozen BK443.out 2))
            go_ret
            exact ⟨by first | rfl | (simp [errW_none, errW_some] <;> rfl) | (simp [*, errW_none, errW_some] <;> rfl), by repeat (first | (with_reducible first | exact HB.out | apply below_alloc | apply pw_below_drewN | apply below_drew1 | refine below_set ?_ GE425.out | refine below_set ?_ GE426.out | refine below_set ?_ GE443.out) | exact HB.out)⟩
            all_goals (rename_i hh_; exfalso; apply hh_; first | (simpa using c75b0) | (simpa [and_assoc] using c75b0) | (simp at c75b0; exact c75b0))
           ·rw [if_neg c75] at H
            have c75b0 : (x444000_40 == 0 && (x444001_40 == 0 && (x444002_40.toList == ([] : List UInt8)))) = false := by simpa using c75
            (try (have c75b1 : decide (x444000_40 = 0 && (x444001_40 == 0 && (x444002_40.toList == ([] : List UInt8)))) = false := by simpa using c75))
            (try (have c75b2 : (x444000_40 == 0 && (x444001_40 == 0 && (x444002_40.toList == ([] : List UInt8)))) = false := by simpa using c75))
            (try (have c75b3 : ¬ (x444000_40 = 0 && (x444001_40 == 0 && (x444002_40.toList == ([] : List UInt8)))) := by simpa using c75))
            clear c75
            obtain rfl := Option.some.inj H
            exact absurd hr_ (by decide)
          ·rw [if_neg c74] at H
           have c74b0 : (x8_40 == 20) = false := beq_eq_false_iff_ne.mpr c74
           have c74b1 : (x8_40 != 20) = true := bne_iff_ne.mpr c74
           obtain rfl := Option.some.inj H
           exact absurd hr_ (by decide)
         ·rw [if_neg c72] at H
          have c72b0 : (t453 == 0) = false := beq_eq_false_iff_ne.mpr c72
          have c72b1 : (t453 != 0) = true := bne_iff_ne.mpr c72
          replace H := Option.bind_eq_some_iff.mp H
          obtain ⟨⟨t456, t457, t458⟩, A930, H⟩ := H
          replace H : ((whirligiglaw01_ref.f a2_0 a2_1 a2_2).bind fun bt459 => ((whirligigref01_Reckon.f kj40 a0 t456 t457 t458 bt459.1 bt459.2.1 bt459.2.2).bind fun bt462 => ((val_Result.f kj40 a0 a1_0 a2_0).bind fun bt467 => (if x8_40 = bt462.2.2.2 then ((whirligiglaw01_ref.f x444000_40 x444001_40 x444002_40).bind fun bt469 => (if (!(bt469.1 == bt462.1) || (!(bt469.2.1 == bt462.2.1) || (!(bt469.2.2.toList == bt462.2.2.1.toList)))) = true then (some false) else (if bt467.2 = true then ((whirligigref01_Result.f kj40 a0 a1_0 a2_0).bind fun t472 => (if bt467.1 = t472 then (if bt462.2.2.2 = 0 then ((val_Right_all.f x444000_40 x444001_40 x444002_40).bind fun t473 => (if t473 = true then (some (x444000_40 == bt467.1)) else (some false))) else (some true)) else (some false))) else (some false)))) else (some false))))) = some r := H
          have A93 := Aside0.mk A930
          clear A930
          replace H := Option.bind_eq_some_iff.mp H
          obtain ⟨⟨t459, t460, t461⟩, A940, H⟩ := H
          replace H : ((whirligigref01_Reckon.f kj40 a0 t456 t457 t458 t459 t460 t461).bind fun bt462 => ((val_Result.f kj40 a0 a1_0 a2_0).bind fun bt467 => (if x8_40 = bt462.2.2.2 then ((whirligiglaw01_ref.f x444000_40 x444001_40 x444002_40).bind fun bt469 => (if (!(bt469.1 == bt462.1) || (!(bt469.2.1 == bt462.2.1) || (!(bt469.2.2.toList == bt462.2.2.1.toList)))) = true then (some false) else (if bt467.2 = true then ((whirligigref01_Result.f kj40 a0 a1_0 a2_0).bind fun t472 => (if bt467.1 = t472 then (if bt462.2.2.2 = 0 then ((val_Right_all.f x444000_40 x444001_40 x444002_40).bind fun t473 => (if t473 = true then (some (x444000_40 == bt467.1)) else (some false))) else (some true)) else (some false))) else (some false)))) else (some false)))) = some r := H
          have A94 := Aside0.mk A940
          clear A940
          replace H := Option.bind_eq_some_iff.mp H
          obtain ⟨⟨t462, t463, t464, t465⟩, A950, H⟩ := H
          replace H : ((val_Result.f kj40 a0 a1_0 a2_0).bind fun bt467 => (if x8_40 = t465 then ((whirligiglaw01_ref.f x444000_40 x444001_40 x444002_40).bind fun bt469 => (if (!(bt469.1 == t462) || (!(bt469.2.1 == t463) || (!(bt469.2.2.toList == t464.toList)))) = true then (some false) else (if bt467.2 = true then ((whirligigref01_Result.f kj40 a0 a1_0 a2_0).bind fun t472 => (if bt467.1 = t472 then (if t465 = 0 then ((val_Right_all.f x444000_40 x444001_40 x444002_40).bind fun t473 => (if t473 = true then (some (x444000_40 == bt467.1)) else (some false))) else (some true)) else (some false))) else (some false)))) else (some false))) = some r := H
          have A95 := Aside0.mk A950
          clear A950
          replace H := Option.bind_eq_some_iff.mp H
          obtain ⟨⟨t467, t468⟩, A960, H⟩ := H
          replace H : (if x8_40 = t465 then ((whirligiglaw01_ref.f x444000_40 x444001_40 x444002_40).bind fun bt469 => (if (!(bt469.1 == t462) || (!(bt469.2.1 == t463) || (!(bt469.2.2.toList == t464.toList)))) = true then (some false) else (if t468 = true then ((whirligigref01_Result.f kj40 a0 a1_0 a2_0).bind fun t472 => (if t467 = t472 then (if t465 = 0 then ((val_Right_all.f x444000_40 x444001_40 x444002_40).bind fun t473 => (if t473 = true then (some (x444000_40 == t467)) else (some false))) else (some true)) else (some false))) else (some false)))) else (some false)) = some r := H
          have A96 := Aside0.mk A960
          clear A960
          by_cases c97 : x8_40 = t465
          ·rw [if_pos c97] at H
           have c97b0 : (x8_40 == t465) = true := beq_iff_eq.mpr c97
           have c97b1 : (x8_40 != t465) = false := bne_eq_false_iff_eq.mpr c97
           clear c97
           replace H := Option.bind_eq_some_iff.mp H
           obtain ⟨⟨t469, t470, t471⟩, A980, H⟩ := H
           replace H : (if (!(t469 == t462) || (!(t470 == t463) || (!(t471.toList == t464.toList)))) = true then (some false) else (if t468 = true then ((whirligigref01_Result.f kj40 a0 a1_0 a2_0).bind fun t472 => (if t467 = t472 then (if t465 = 0 then ((val_Right_all.f x444000_40 x444001_40 x444002_40).bind fun t473 => (if t473 = true then (some (x444000_40 == t467)) else (some false))) else (some true)) else (some false))) else (some false))) = some r := H
           have A98 := Aside0.mk A980
           clear A980
           by_cases c99 : (!(t469 == t462) || (!(t470 == t463) || (!(t471.toList == t464.toList)))) = true
           ·rw [if_pos c99] at H
            have c99b0 : (!(t469 == t462) || (!(t470 == t463) || (!(t471.toList == t464.toList)))) = true := c99
            clear c99
            obtain rfl := Option.some.inj H
            exact absurd hr_ (by decide)
           ·rw [if_neg c99] at H
            have c99b0 : (!(t469 == t462) || (!(t470 == t463) || (!(t471.toList == t464.toList)))) = false := by simpa using c99
            clear c99
            by_cases c121 : t468 = true
            ·subst c121
             have H1 : ((whirligigref01_Result.f kj40 a0 a1_0 a2_0).bind fun t472 => (if t467 = t472 then (if t465 = 0 then ((val_Right_all.f x444000_40 x444001_40 x444002_40).bind fun t473 => (if t473 = true then (some (x444000_40 == t467)) else (some false))) else (some true)) else (some false))) = some r := by rw [if_pos rfl] at H; exact H
             clear H
             have H := H1
             clear H1
             replace H := Option.bind_eq_some_iff.mp H
             obtain ⟨t472, A1220, H⟩ := H
             replace H : (if t467 = t472 then (if t465 = 0 then ((val_Right_all.f x444000_40 x444001_40 x444002_40).bind fun t473 => (if t473 = true then (some (x444000_40 == t467)) else (some false))) else (some true)) else (some false)) = some r := H
             have A122 := Aside0.mk A1220
             clear A1220
             by_cases c123 : t467 = t472
             ·rw [if_pos c123] at H
              have c123b0 : (t467 == t472) = true := beq_iff_eq.mpr c123
              have c123b1 : (t467 != t472) = false := bne_eq_false_iff_eq.mpr c123
              clear c123
              by_cases c124 : t465 = 0
              ·rw [if_pos c124] at H
               have c124b0 : (t465 == 0) = true := beq_iff_eq.mpr c124
               have c124b1 : (t465 != 0) = false := bne_eq_false_iff_eq.mpr c124
               clear c124
               replace H := Option.bind_eq_some_iff.mp H
               obtain ⟨t473, A1250, H⟩ := H
               replace H : (if t473 = true then (some (x444000_40 == t467)) else (some false)) = some r := H
               have A125 := Aside0.mk A1250
               clear A1250
               by_cases c126 : t473 = true
               ·subst c126
                have H1 : (some (x444000_40 == t467)) = some r := by rw [if_pos rfl] at H; exact H
                clear H
                have H := H1
                clear H1
                obtain rfl := Option.some.inj H
                have hnb127 := NB425_426.out
                have hnc127 := NB426_425.out
                have hnb128 := NB425_443.out
                have hnc128 := NB443_425.out
                have hcz129_0 : wc.cell? ⟨gb425, 0, none⟩ = some (.int .i64 a1_0) := (blk_cell BK425.out 0).trans rfl
                have hcz129_1 : wc.cell? ⟨gb425, 1, none⟩ = some (.int .i64 a1_1) := (blk_cell BK425.out 1).trans rfl
                have hcz129_2 : wc.cell? ⟨gb425, 2, none⟩ = some (.string a1_2) := (blk_cell BK425.out 2).trans rfl
                have hfz129_0 := blk_frozen BK425.out 0
                have hfz129_1 := blk_frozen BK425.out 1
                have hfz129_2 := blk_frozen BK425.out 2
                have hnb130 := NB426_443.out
                have hnc130 := NB443_426.out
                have hcz131_0 : wc.cell? ⟨gb426, 0, none⟩ = some (.int .i64 a2_0) := (blk_cell BK426.out 0).trans rfl
                have hcz131_1 : wc.cell? ⟨gb426, 1, none⟩ = some (.int .i64 a2_1) := (blk_cell BK426.out 1).trans rfl
                have hcz131_2 : wc.cell? ⟨gb426, 2, none⟩ = some (.string a2_2) := (blk_cell BK426.out 2).trans rfl
                have hfz131_0 := blk_frozen BK426.out 0
                have hfz131_1 := blk_frozen BK426.out 1
                have hfz131_2 := blk_frozen BK426.out 2
                try go_wp2_with (first | ((with_reducible refine gate_callee (f := 21) rfl ?_); refine goesL_ (some 65) rfl rfl Tryd.func21 (by kernel_rfl) rfl #[.int .i64 a0, .int .i64 a1_0, .int .i64 a2_0] rfl (by (try simp only [List.map_toArray, List.map_cons, List.map_nil]); first | done | rfl | (simp only [List.length_drop, List.length_take]; rfl)) ?_; (with_reducible refine (whirligigref01_Result.calls kj40 a0 a1_0 a2_0 t453 _ A71.out).mono ?_); rintro e w' ⟨rfl, ⟨nd, rfl⟩⟩; refine ⟨_, rfl, ?_⟩; (try (rw [drewN_self wc]; generalize hq_ : World.drewN wc _ = wc; have n0_ : Aside0 (wc.heap[gb425]? = some (.cells #[.int .i64 a1_0, .int .i64 a1_1, .string a1_2] 24 (0, 0))) := ⟨by rw [← hq_]; exact (by (with_reducible repeat (first | refine blk_drewN ?_ _ | refine blk_drew ?_ | refine blk_alloc ?_ _)); exact BK425.out)⟩; have n1_ : Aside0 (wc.heap[gb426]? = some (.cells #[.int .i64 a2_0, .int .i64 a2_1, .string a2_2] 24 (0, 0))) := ⟨by rw [← hq_]; exact (by (with_reducible repeat (first | refine blk_drewN ?_ _ | refine blk_drew ?_ | refine blk_alloc ?_ _)); exact BK426.out)⟩; have n2_ : Aside0 (wc.heap[gb443]? = some (.cells #[.int .i64 x444000_40, .int .i64 x444001_40, .string x444002_40] 24 (0, 0))) := ⟨by rw [← hq_]; exact (by (with_reducible repeat (first | refine blk_drewN ?_ _ | refine blk_drew ?_ | refine blk_alloc ?_ _)); exact BK443.out)⟩; have n3_ : Aside0 (Below w.heap.size w wc) := ⟨by rw [← hq_]; exact (by repeat (first | (with_reducible first | exact HB.out | apply below_alloc | apply pw_below_drewN | apply below_drew1 | refine below_set ?_ GE425.out | refine below_set ?_ GE426.out | refine below_set ?_ GE443.out) | exact HB.out))⟩; clear BK425 BK426 BK443 HB hq_; have BK425 := n0_; have BK426 := n1_; have BK443 := n2_; have HB := n3_; clear n0_ n1_ n2_ n3_))))
                have n0_ := Aside0.mk (blk_drew BK425.out)
                have n1_ := Aside0.mk (blk_drew BK426.out)
                have n2_ := Aside0.mk (blk_drew BK443.out)
                have n3_ := Aside0.mk (below_drew1 HB.out)
                clear BK425
                clear BK426
                clear BK443
                clear HB
                have BK425 := n0_
                have BK426 := n1_
                have BK443 := n2_
                have HB := n3_
                clear n0_ n1_ n2_ n3_
                refine start_ (n := 12) (S := fun w' => w'.cell? ⟨gb425, 0, none⟩ = some (.int .i64 a1_0) ∧ w'.cell? ⟨gb425, 1, none⟩ = some (.int .i64 a1_1) ∧ w'.cell? ⟨gb425, 2, none⟩ = some (.string a1_2) ∧ w'.cell? ⟨gb426, 0, none⟩ = some (.int .i64 a2_0) ∧ w'.cell? ⟨gb426, 1, none⟩ = some (.int .i64 a2_1) ∧ w'.cell? ⟨gb426, 2, none⟩ = some (.string a2_2)) (ds := []) #[false, false, false, false, false, false, false, false, false, false, false, false] (by kernel_rfl) rfl rfl ⟨(blk_cell BK425.out 0).trans rfl, (blk_cell BK425.out 1).trans rfl, (blk_cell BK425.out 2).trans rfl, (blk_cell BK426.out 0).trans rfl, (blk_cell BK426.out 1).trans rfl, (blk_cell BK426.out 2).trans rfl⟩ (fun hHeld => ?_); refine with_tabW whirligiglaw01_ValReckons.tab17 whirligiglaw01_ValReckons.bits17 (fun HT_ HW_ => ?_)
                generalize wc.drew = w132 at BK425 BK426 BK443 HB hHeld ⊢
                refine pure_ (i := 0) (N := some 89) (v := ?_) (a' := ?_) #[true, false, false, false, false, false, false, false, false, false, false, false] rfl rfl (any_of HT_.out (by kernel_rfl)) (fun _ _ _ h => h) (Or.inl ⟨by rfl, ?_⟩) ?_ ?_
                rotate_left
                ·intro w'
                 go_simp
                 with_reducible rfl
                rotate_left
                ·simp only [Act.put, List.setIfInBounds_toArray, List.set_cons_zero, List.set_cons_succ, i64_w, i32_w]
                 rfl
                refine take_ (i := 1) (N := some 90) (v := ?_) (a' := ?_) #[true, true, false, false, false, false, false, false, false, false, false, false] rfl rfl (take_ofW HT_.out HW_.out (by kernel_rfl)) (fun _ _ _ h => h) (Or.inl ⟨by rfl, ?_⟩) hHeld ?_ ?_
                rotate_left
                ·rintro w' ⟨s0, s1, s2, s3, s4, s5⟩
                 go_simp
                 with_reducible rfl
                rotate_left
                ·simp only [Act.put, List.setIfInBounds_toArray, List.set_cons_zero, List.set_cons_succ, i64_w, i32_w]
                 rfl
                refine take_ (i := 3) (N := some 92) (v := ?_) (a' := ?_) #[true, true, false, true, false, false, false, false, false, false, false, false] rfl rfl (take_ofW HT_.out HW_.out (by kernel_rfl)) (fun _ _ _ h => h) (Or.inl ⟨by rfl, ?_⟩) hHeld ?_ ?_
                rotate_left
                ·rintro w' ⟨s0, s1, s2, s3, s4, s5⟩
                 go_simp
                 with_reducible rfl
                rotate_left
                ·simp only [Act.put, List.setIfInBounds_toArray, List.set_cons_zero, List.set_cons_succ, i64_w, i32_w]
                 rfl
                refine join_ (σ := Nat) 2 #[true, true, true, true, true, true, true, true, true, true, false, false] (fun s_ => [(91, .agg #[.int .i64 t456, .int .i64 t457, .string t458]), (93, .agg #[.int .i64 t459, .int .i64 t460, .string t461]), (94, .tuple #[.agg #[.int .i64 t462, .int .i64 t463, .string t464], .int .i64 t465]), (14, .pointer (some ⟨s_, 0, none⟩)), (88, .tuple #[.agg #[.int .i64 t462, .int .i64 t463, .string t464], .int .i64 t465]), (95, .agg #[.int .i64 t462, .int .i64 t463, .string t464]), (96, .int .i64 t465)]) (fun s_ w' => (w'.cell? ⟨gb425, 0, none⟩ = some (.int .i64 a1_0) ∧ w'.cell? ⟨gb425, 1, none⟩ = some (.int .i64 a1_1) ∧ w'.cell? ⟨gb425, 2, none⟩ = some (.string a1_2) ∧ w'.cell? ⟨gb426, 0, none⟩ = some (.int .i64 a2_0) ∧ w'.cell? ⟨gb426, 1, none⟩ = some (.int .i64 a2_1) ∧ w'.cell? ⟨gb426, 2, none⟩ = some (.string a2_2)) ∧ (w'.heap[gb425]? = some (.cells #[.int .i64 a1_0, .int .i64 a1_1, .string a1_2] 24 (0, 0))) ∧ (w'.heap[gb426]? = some (.cells #[.int .i64 a2_0, .int .i64 a2_1, .string a2_2] 24 (0, 0))) ∧ (w'.heap[gb443]? = some (.cells #[.int .i64 x444000_40, .int .i64 x444001_40, .string x444002_40] 24 (0, 0))) ∧ (w'.heap[s_]? = some (.cells #[.int .i64 0, .int .i64 0, .string (⟨#[]⟩ : ByteArray)] 28 (0, 0))) ∧ (w.heap.size ≤ s_) ∧ (w.heap.size ≤ s_) ∧ (gb425 ≠ s_) ∧ (s_ ≠ gb425) ∧ (gb426 ≠ s_) ∧ (s_ ≠ gb426) ∧ (gb443 ≠ s_) ∧ (s_ ≠ gb443) ∧ (Below w.heap.size w w')) ?_ ?_
                rotate_left
                ·intro hCont
                 refine two_ (i := 2) (j := 9) (Ni := some 91) (Nj := some 14) #[true, true, true, true, false, false, false, false, false, false, false, false] #[true, true, false, true, false, false, false, false, false, true, false, false] rfl rfl rfl rfl (two_of HT_.out (by kernel_rfl)) (by decide) (by decide) (fun K hK => ?_) (fun K hK => ?_)
                 ·skip
                  refine goes_ Tryd.func12 (by kernel_rfl) rfl #[.agg #[.int .i64 a1_0, .int .i64 a1_1, .string a1_2]] (by rfl) rfl rfl (by (try simp only [List.map_toArray, List.map_cons, List.map_nil]); first | done | rfl | (simp only [List.length_drop, List.length_take]; rfl)) ?_
                  with_reducible refine (whirligiglaw01_ref.calls a1_0 a1_1 a1_2 t456 t457 t458 _ A93.out).mono ?_
                  rintro e w133 ⟨rfl, hb⟩
                  refine ⟨_, rfl, ?_⟩
                  have n0_ := Aside0.mk (blk_below (g := gb425) (o := .cells #[.int .i64 a1_0, .int .i64 a1_1, .string a1_2] 24 (0, 0)) (by (with_reducible repeat (first | refine blk_drewN ?_ _ | refine blk_drew ?_ | refine blk_alloc ?_ _)); exact BK425.out) hb)
                  have n1_ := Aside0.mk (blk_below (g := gb426) (o := .cells #[.int .i64 a2_0, .int .i64 a2_1, .string a2_2] 24 (0, 0)) (by (with_reducible repeat (first | refine blk_drewN ?_ _ | refine blk_drew ?_ | refine blk_alloc ?_ _)); exact BK426.out) hb)
                  have n2_ := Aside0.mk (blk_below (g := gb443) (o := .cells #[.int .i64 x444000_40, .int .i64 x444001_40, .string x444002_40] 24 (0, 0)) (by (with_reducible repeat (first | refine blk_drewN ?_ _ | refine blk_drew ?_ | refine blk_alloc ?_ _)); exact BK443.out) hb)
                  have n3_ := Aside0.mk (below_step (by repeat (first | (with_reducible first | exact HB.out | apply below_alloc | apply pw_below_drewN | apply below_drew1 | refine below_set ?_ GE425.out | refine below_set ?_ GE426.out | refine below_set ?_ GE443.out) | exact HB.out)) hb)
                  clear BK425
                  clear BK426
                  clear BK443
                  clear HB
                  have BK425 := n0_
                  have BK426 := n1_
                  have BK443 := n2_
                  have HB := n3_
                  clear n0_ n1_ n2_ n3_
                  (try clear hb)
                  (try clear hb2)
                  (try clear hk)
                  (try clear hi)
                  refine hK.out _ _ ⟨(blk_cell BK425.out 0).trans rfl, (blk_cell BK425.out 1).trans rfl, (blk_cell BK425.out 2).trans rfl, (blk_cell BK426.out 0).trans rfl, (blk_cell BK426.out 1).trans rfl, (blk_cell BK426.out 2).trans rfl⟩ (fun hHeld => ?_)
                  clear hK K
                  refine norm_ (a' := ?_) ?_ ?_
                  rotate_left
                  ·show Act.put _ (some 91) _ = _
                   simp only [Act.put, List.setIfInBounds_toArray, List.set_cons_zero, List.set_cons_succ, i64_w, i32_w]
                   rfl
                  refine two_ (i := 4) (j := 9) (Ni := some 93) (Nj := some 14) #[true, true, true, true, true, false, false, false, false, false, false, false] #[true, true, true, true, false, false, false, false, false, true, false, false] rfl rfl rfl rfl (two_of HT_.out (by kernel_rfl)) (by decide) (by decide) (fun K hK => ?_) (fun K hK => ?_)
                  ·skip
                   refine goes_ Tryd.func12 (by kernel_rfl) rfl #[.agg #[.int .i64 a2_0, .int .i64 a2_1, .string a2_2]] (by rfl) rfl rfl (by (try simp only [List.map_toArray, List.map_cons, List.map_nil]); first | done | rfl | (simp only [List.length_drop, List.length_take]; rfl)) ?_
                   with_reducible refine (whirligiglaw01_ref.calls a2_0 a2_1 a2_2 t459 t460 t461 _ A94.out).mono ?_
                   rintro e w134 ⟨rfl, hb⟩
                   refine ⟨_, rfl, ?_⟩
                   have n0_ := Aside0.mk (blk_below (g := gb425) (o := .cells #[.int .i64 a1_0, .int .i64 a1_1, .string a1_2] 24 (0, 0)) (by (with_reducible repeat (first | refine blk_drewN ?_ _ | refine blk_drew ?_ | refine blk_alloc ?_ _)); exact BK425.out) hb)
                   have n1_ := Aside0.mk (blk_below (g := gb426) (o := .cells #[.int .i64 a2_0, .int .i64 a2_1, .string a2_2] 24 (0, 0)) (by (with_reducible repeat (first | refine blk_drewN ?_ _ | refine blk_drew ?_ | refine blk_alloc ?_ _)); exact BK426.out) hb)
                   have n2_ := Aside0.mk (blk_below (g := gb443) (o := .cells #[.int .i64 x444000_40, .int .i64 x444001_40, .string x444002_40] 24 (0, 0)) (by (with_reducible repeat (first | refine blk_drewN ?_ _ | refine blk_drew ?_ | refine blk_alloc ?_ _)); exact BK443.out) hb)
                   have n3_ := Aside0.mk (below_step (by repeat (first | (with_reducible first | exact HB.out | apply below_alloc | apply pw_below_drewN | apply below_drew1 | refine below_set ?_ GE425.out | refine below_set ?_ GE426.out | refine below_set ?_ GE443.out) | exact HB.out)) hb)
                   clear BK425
                   clear BK426
                   clear BK443
                   clear HB
                   have BK425 := n0_
                   have BK426 := n1_
                   have BK443 := n2_
                   have HB := n3_
                   clear n0_ n1_ n2_ n3_
                   (try clear hb)
                   (try clear hb2)
                   (try clear hk)
                   (try clear hi)
                   refine hK.out _ _ ⟨(blk_cell BK425.out 0).trans rfl, (blk_cell BK425.out 1).trans rfl, (blk_cell BK425.out 2).trans rfl, (blk_cell BK426.out 0).trans rfl, (blk_cell BK426.out 1).trans rfl, (blk_cell BK426.out 2).trans rfl⟩ (fun hHeld => ?_)
                   clear hK K
                   refine norm_ (a' := ?_) ?_ ?_
                   rotate_left
                   ·show Act.put _ (some 93) _ = _
                    simp only [Act.put, List.setIfInBounds_toArray, List.set_cons_zero, List.set_cons_succ, i64_w, i32_w]
                    rfl
                   refine two_ (i := 5) (j := 9) (Ni := some 94) (Nj := some 14) #[true, true, true, true, true, true, false, false, false, false, false, false] #[true, true, true, true, true, false, false, false, false, true, false, false] rfl rfl rfl rfl (two_of HT_.out (by kernel_rfl)) (by decide) (by decide) (fun K hK => ?_) (fun K hK => ?_)
                   ·skip
                    refine goes_ Tryd.func23 (by kernel_rfl) rfl #[.int .i64 a0, .agg #[.int .i64 t456, .int .i64 t457, .string t458], .agg #[.int .i64 t459, .int .i64 t460, .string t461]] (by rfl) rfl rfl (by (try simp only [List.map_toArray, List.map_cons, List.map_nil]); first | done | rfl | (simp only [List.length_drop, List.length_take]; rfl)) ?_
                    with_reducible refine (whirligigref01_Reckon.calls kj40 a0 t456 t457 t458 t459 t460 t461 t462 t463 t464 t465 _ A95.out).mono ?_
                    rintro e w135 ⟨rfl, hb⟩
                    refine ⟨_, rfl, ?_⟩
                    have n0_ := Aside0.mk (blk_below (g := gb425) (o := .cells #[.int .i64 a1_0, .int .i64 a1_1, .string a1_2] 24 (0, 0)) (by (with_reducible repeat (first | refine blk_drewN ?_ _ | refine blk_drew ?_ | refine blk_alloc ?_ _)); exact BK425.out) hb)
                    have n1_ := Aside0.mk (blk_below (g := gb426) (o := .cells #[.int .i64 a2_0, .int .i64 a2_1, .string a2_2] 24 (0, 0)) (by (with_reducible repeat (first | refine blk_drewN ?_ _ | refine blk_drew ?_ | refine blk_alloc ?_ _)); exact BK426.out) hb)
                    have n2_ := Aside0.mk (blk_below (g := gb443) (o := .cells #[.int .i64 x444000_40, .int .i64 x444001_40, .string x444002_40] 24 (0, 0)) (by (with_reducible repeat (first | refine blk_drewN ?_ _ | refine blk_drew ?_ | refine blk_alloc ?_ _)); exact BK443.out) hb)
                    have n3_ := Aside0.mk (below_step (by repeat (first | (with_reducible first | exact HB.out | apply below_alloc | apply pw_below_drewN | apply below_drew1 | refine below_set ?_ GE425.out | refine below_set ?_ GE426.out | refine below_set ?_ GE443.out) | exact HB.out)) hb)
                    clear BK425
                    clear BK426
                    clear BK443
                    clear HB
                    have BK425 := n0_
                    have BK426 := n1_
                    have BK443 := n2_
                    have HB := n3_
                    clear n0_ n1_ n2_ n3_
                    (try clear hb)
                    (try clear hb2)
                    (try clear hk)
                    (try clear hi)
                    refine hK.out _ _ ⟨(blk_cell BK425.out 0).trans rfl, (blk_cell BK425.out 1).trans rfl, (blk_cell BK425.out 2).trans rfl, (blk_cell BK426.out 0).trans rfl, (blk_cell BK426.out 1).trans rfl, (blk_cell BK426.out 2).trans rfl⟩ (fun hHeld => ?_)
                    clear hK K
                    refine norm_ (a' := ?_) ?_ ?_
                    rotate_left
                    ·show Act.put _ (some 94) _ = _
                     simp only [Act.put, List.setIfInBounds_toArray, List.set_cons_zero, List.set_cons_succ, i64_w, i32_w]
                     rfl
                    refine pure_ (i := 6) (N := some 88) (v := ?_) (a' := ?_) #[true, true, true, true, true, true, true, false, false, false, false, false] rfl rfl (any_of HT_.out (by kernel_rfl)) (fun _ _ _ h => h) (Or.inl ⟨by rfl, ?_⟩) ?_ ?_
                    rotate_left
                    ·intro w'
                     go_simp
                     with_reducible rfl
                    rotate_left
                    ·simp only [Act.put, List.setIfInBounds_toArray, List.set_cons_zero, List.set_cons_succ, i64_w, i32_w]
                     rfl
                    refine pure_ (i := 7) (N := some 95) (v := ?_) (a' := ?_) #[true, true, true, true, true, true, true, true, false, false, false, false] rfl rfl (any_of HT_.out (by kernel_rfl)) (fun _ _ _ h => h) (Or.inl ⟨by rfl, ?_⟩) ?_ ?_
                    rotate_left
                    ·intro w'
                     go_simp
                     with_reducible rfl
                    rotate_left
                    ·simp only [Act.put, List.setIfInBounds_toArray, List.set_cons_zero, List.set_cons_succ, i64_w, i32_w]
                     rfl
                    refine pure_ (i := 8) (N := some 96) (v := ?_) (a' := ?_) #[true, true, true, true, true, true, true, true, true, false, false, false] rfl rfl (any_of HT_.out (by kernel_rfl)) (fun _ _ _ h => h) (Or.inl ⟨by rfl, ?_⟩) ?_ ?_
                    rotate_left
                    ·intro w'
                     go_simp
                     with_reducible rfl
                    rotate_left
                    ·simp only [Act.put, List.setIfInBounds_toArray, List.set_cons_zero, List.set_cons_succ, i64_w, i32_w]
                     rfl
                    refine one_ (i := 9) (N := some 14) #[true, true, true, true, true, true, true, true, true, true, false, false] rfl rfl (one_of HT_.out (by kernel_rfl)) (by decide) (fun K hK => ?_)
                    refine box_step ?hg (N := 14) ?hd (cs := #[.int .i64 0, .int .i64 0, .string (⟨#[]⟩ : ByteArray)]) (t := 28) ?hr ?_; (case hd => rfl); (case hg => rfl); (case hr => first | (go_simp; done) | (go_simp; rfl))
                    intro gb466 hg w136 hbox hb
                    have n0_ := Aside0.mk (blk_below (g := gb425) (o := .cells #[.int .i64 a1_0, .int .i64 a1_1, .string a1_2] 24 (0, 0)) (by (with_reducible repeat (first | refine blk_drewN ?_ _ | refine blk_drew ?_ | refine blk_alloc ?_ _)); exact BK425.out) hb)
                    have n1_ := Aside0.mk (blk_below (g := gb426) (o := .cells #[.int .i64 a2_0, .int .i64 a2_1, .string a2_2] 24 (0, 0)) (by (with_reducible repeat (first | refine blk_drewN ?_ _ | refine blk_drew ?_ | refine blk_alloc ?_ _)); exact BK426.out) hb)
                    have n2_ := Aside0.mk (blk_below (g := gb443) (o := .cells #[.int .i64 x444000_40, .int .i64 x444001_40, .string x444002_40] 24 (0, 0)) (by (with_reducible repeat (first | refine blk_drewN ?_ _ | refine blk_drew ?_ | refine blk_alloc ?_ _)); exact BK443.out) hb)
                    have n3_ := Aside0.mk (below_step (by repeat (first | (with_reducible first | exact HB.out | apply below_alloc | apply pw_below_drewN | apply below_drew1 | refine below_set ?_ GE425.out | refine below_set ?_ GE426.out | refine below_set ?_ GE443.out) | exact HB.out)) hb)
                    have n4_ := Aside0.mk (hbox)
                    have n5_ := Aside0.mk ((by rw [hg]; exact (below_size (by repeat (first | (with_reducible first | exact HB.out | apply below_alloc | apply pw_below_drewN | apply below_drew1 | refine below_set ?_ GE425.out | refine below_set ?_ GE426.out | refine below_set ?_ GE443.out) | exact HB.out))) : w.heap.size ≤ gb466))
                    have n6_ := Aside0.mk ((by rw [hg]; exact (below_size (by repeat (first | (with_reducible first | exact HB.out | apply below_alloc | apply pw_below_drewN | apply below_drew1 | refine below_set ?_ GE425.out | refine below_set ?_ GE426.out | refine below_set ?_ GE443.out) | exact HB.out))) : w.heap.size ≤ gb466))
                    have n7_ := Aside0.mk ((by rw [hg]; exact Nat.ne_of_lt (blk_lt (g := gb425) (o := .cells #[.int .i64 a1_0, .int .i64 a1_1, .string a1_2] 24 (0, 0)) (by (with_reducible repeat (first | refine blk_drewN ?_ _ | refine blk_drew ?_ | refine blk_alloc ?_ _)); exact BK425.out)) : gb425 ≠ gb466))
                    have n8_ := Aside0.mk ((by rw [hg]; exact Nat.ne_of_gt (blk_lt (g := gb425) (o := .cells #[.int .i64 a1_0, .int .i64 a1_1, .string a1_2] 24 (0, 0)) (by (with_reducible repeat (first | refine blk_drewN ?_ _ | refine blk_drew ?_ | refine blk_alloc ?_ _)); exact BK425.out)) : gb466 ≠ gb425))
                    have n9_ := Aside0.mk ((by rw [hg]; exact Nat.ne_of_lt (blk_lt (g := gb426) (o := .cells #[.int .i64 a2_0, .int .i64 a2_1, .string a2_2] 24 (0, 0)) (by (with_reducible repeat (first | refine blk_drewN ?_ _ | refine blk_drew ?_ | refine blk_alloc ?_ _)); exact BK426.out)) : gb426 ≠ gb466))
                    have n10_ := Aside0.mk ((by rw [hg]; exact Nat.ne_of_gt (blk_lt (g := gb426) (o := .cells #[.int .i64 a2_0, .int .i64 a2_1, .string a2_2] 24 (0, 0)) (by (with_reducible repeat (first | refine blk_drewN ?_ _ | refine blk_drew ?_ | refine blk_alloc ?_ _)); exact BK426.out)) : gb466 ≠ gb426))
                    have n11_ := Aside0.mk ((by rw [hg]; exact Nat.ne_of_lt (blk_lt (g := gb443) (o := .cells #[.int .i64 x444000_40, .int .i64 x444001_40, .string x444002_40] 24 (0, 0)) (by (with_reducible repeat (first | refine blk_drewN ?_ _ | refine blk_drew ?_ | refine blk_alloc ?_ _)); exact BK443.out)) : gb443 ≠ gb466))
                    have n12_ := Aside0.mk ((by rw [hg]; exact Nat.ne_of_gt (blk_lt (g := gb443) (o := .cells #[.int .i64 x444000_40, .int .i64 x444001_40, .string x444002_40] 24 (0, 0)) (by (with_reducible repeat (first | refine blk_drewN ?_ _ | refine blk_drew ?_ | refine blk_alloc ?_ _)); exact BK443.out)) : gb466 ≠ gb443))
                    clear BK425
                    clear BK426
                    clear BK443
                    clear HB
                    have BK425 := n0_
                    have BK426 := n1_
                    have BK443 := n2_
                    have HB := n3_
                    have BK466 := n4_
                    have GW466 := n5_
                    have GE466 := n6_
                    have NB425_466 := n7_
                    have NB466_425 := n8_
                    have NB426_466 := n9_
                    have NB466_426 := n10_
                    have NB443_466 := n11_
                    have NB466_443 := n12_
                    clear n0_ n1_ n2_ n3_ n4_ n5_ n6_ n7_ n8_ n9_ n10_ n11_ n12_
                    clear hb hbox hg
                    refine hK.out _ _ ⟨(blk_cell BK425.out 0).trans rfl, (blk_cell BK425.out 1).trans rfl, (blk_cell BK425.out 2).trans rfl, (blk_cell BK426.out 0).trans rfl, (blk_cell BK426.out 1).trans rfl, (blk_cell BK426.out 2).trans rfl⟩ (fun hHeld => ?_)
                    clear hK K
                    refine norm_ (a' := ?_) ?_ ?_
                    rotate_left
                    ·show Act.put _ (some 14) _ = _
                     simp only [Act.put, List.setIfInBounds_toArray, List.set_cons_zero, List.set_cons_succ, i64_w, i32_w]
                     rfl
                    exact norm_ (by simp only [putAll, Act.put, List.setIfInBounds_toArray, List.set_cons_zero, List.set_cons_succ]) (hCont (gb466) _ ⟨hHeld, (by (with_reducible repeat (first | refine blk_drewN ?_ _ | refine blk_drew ?_ | refine blk_alloc ?_ _)); exact BK425.out), (by (with_reducible repeat (first | refine blk_drewN ?_ _ | refine blk_drew ?_ | refine blk_alloc ?_ _)); exact BK426.out), (by (with_reducible repeat (first | refine blk_drewN ?_ _ | refine blk_drew ?_ | refine blk_alloc ?_ _)); exact BK443.out), (by (with_reducible repeat (first | refine blk_drewN ?_ _ | refine blk_drew ?_ | refine blk_alloc ?_ _)); exact BK466.out), GW466.out, GE466.out, NB425_466.out, NB466_425.out, NB426_466.out, NB466_426.out, NB443_466.out, NB466_443.out, (by repeat (first | (with_reducible first | exact HB.out | apply below_alloc | apply pw_below_drewN | apply below_drew1 | refine below_set ?_ GE425.out | refine below_set ?_ GE426.out | refine below_set ?_ GE443.out | refine below_set ?_ GE466.out) | exact HB.out))⟩)
                   ·skip
                    refine box_step ?hg (N := 14) ?hd (cs := #[.int .i64 0, .int .i64 0, .string (⟨#[]⟩ : ByteArray)]) (t := 28) ?hr ?_; (case hd => rfl); (case hg => rfl); (case hr => first | (go_simp; done) | (go_simp; rfl))
                    intro gb466 hg w135 hbox hb
                    have n0_ := Aside0.mk (blk_below (g := gb425) (o := .cells #[.int .i64 a1_0, .int .i64 a1_1, .string a1_2] 24 (0, 0)) (by (with_reducible repeat (first | refine blk_drewN ?_ _ | refine blk_drew ?_ | refine blk_alloc ?_ _)); exact BK425.out) hb)
                    have n1_ := Aside0.mk (blk_below (g := gb426) (o := .cells #[.int .i64 a2_0, .int .i64 a2_1, .string a2_2] 24 (0, 0)) (by (with_reducible repeat (first | refine blk_drewN ?_ _ | refine blk_drew ?_ | refine blk_alloc ?_ _)); exact BK426.out) hb)
                    have n2_ := Aside0.mk (blk_below (g := gb443) (o := .cells #[.int .i64 x444000_40, .int .i64 x444001_40, .string x444002_40] 24 (0, 0)) (by (with_reducible repeat (first | refine blk_drewN ?_ _ | refine blk_drew ?_ | refine blk_alloc ?_ _)); exact BK443.out) hb)
                    have n3_ := Aside0.mk (below_step (by repeat (first | (with_reducible first | exact HB.out | apply below_alloc | apply pw_below_drewN | apply below_drew1 | refine below_set ?_ GE425.out | refine below_set ?_ GE426.out | refine below_set ?_ GE443.out) | exact HB.out)) hb)
                    have n4_ := Aside0.mk (hbox)
                    have n5_ := Aside0.mk ((by rw [hg]; exact (below_size (by repeat (first | (with_reducible first | exact HB.out | apply below_alloc | apply pw_below_drewN | apply below_drew1 | refine below_set ?_ GE425.out | refine below_set ?_ GE426.out | refine below_set ?_ GE443.out) | exact HB.out))) : w.heap.size ≤ gb466))
                    have n6_ := Aside0.mk ((by rw [hg]; exact (below_size (by repeat (first | (with_reducible first | exact HB.out | apply below_alloc | apply pw_below_drewN | apply below_drew1 | refine below_set ?_ GE425.out | refine below_set ?_ GE426.out | refine below_set ?_ GE443.out) | exact HB.out))) : w.heap.size ≤ gb466))
                    have n7_ := Aside0.mk ((by rw [hg]; exact Nat.ne_of_lt (blk_lt (g := gb425) (o := .cells #[.int .i64 a1_0, .int .i64 a1_1, .string a1_2] 24 (0, 0)) (by (with_reducible repeat (first | refine blk_drewN ?_ _ | refine blk_drew ?_ | refine blk_alloc ?_ _)); exact BK425.out)) : gb425 ≠ gb466))
                    have n8_ := Aside0.mk ((by rw [hg]; exact Nat.ne_of_gt (blk_lt (g := gb425) (o := .cells #[.int .i64 a1_0, .int .i64 a1_1, .string a1_2] 24 (0, 0)) (by (with_reducible repeat (first | refine blk_drewN ?_ _ | refine blk_drew ?_ | refine blk_alloc ?_ _)); exact BK425.out)) : gb466 ≠ gb425))
                    have n9_ := Aside0.mk ((by rw [hg]; exact Nat.ne_of_lt (blk_lt (g := gb426) (o := .cells #[.int .i64 a2_0, .int .i64 a2_1, .string a2_2] 24 (0, 0)) (by (with_reducible repeat (first | refine blk_drewN ?_ _ | refine blk_drew ?_ | refine blk_alloc ?_ _)); exact BK426.out)) : gb426 ≠ gb466))
                    have n10_ := Aside0.mk ((by rw [hg]; exact Nat.ne_of_gt (blk_lt (g := gb426) (o := .cells #[.int .i64 a2_0, .int .i64 a2_1, .string a2_2] 24 (0, 0)) (by (with_reducible repeat (first | refine blk_drewN ?_ _ | refine blk_drew ?_ | refine blk_alloc ?_ _)); exact BK426.out)) : gb466 ≠ gb426))
                    have n11_ := Aside0.mk ((by rw [hg]; exact Nat.ne_of_lt (blk_lt (g := gb443) (o := .cells #[.int .i64 x444000_40, .int .i64 x444001_40, .string x444002_40] 24 (0, 0)) (by (with_reducible repeat (first | refine blk_drewN ?_ _ | refine blk_drew ?_ | refine blk_alloc ?_ _)); exact BK443.out)) : gb443 ≠ gb466))
                    have n12_ := Aside0.mk ((by rw [hg]; exact Nat.ne_of_gt (blk_lt (g := gb443) (o := .cells #[.int .i64 x444000_40, .int .i64 x444001_40, .string x444002_40] 24 (0, 0)) (by (with_reducible repeat (first | refine blk_drewN ?_ _ | refine blk_drew ?_ | refine blk_alloc ?_ _)); exact BK443.out)) : gb466 ≠ gb443))
                    clear BK425
                    clear BK426
                    clear BK443
                    clear HB
                    have BK425 := n0_
                    have BK426 := n1_
                    have BK443 := n2_
                    have HB := n3_
                    have BK466 := n4_
                    have GW466 := n5_
                    have GE466 := n6_
                    have NB425_466 := n7_
                    have NB466_425 := n8_
                    have NB426_466 := n9_
                    have NB466_426 := n10_
                    have NB443_466 := n11_
                    have NB466_443 := n12_
                    clear n0_ n1_ n2_ n3_ n4_ n5_ n6_ n7_ n8_ n9_ n10_ n11_ n12_
                    clear hb hbox hg
                    refine hK.out _ _ ⟨(blk_cell BK425.out 0).trans rfl, (blk_cell BK425.out 1).trans rfl, (blk_cell BK425.out 2).trans rfl, (blk_cell BK426.out 0).trans rfl, (blk_cell BK426.out 1).trans rfl, (blk_cell BK426.out 2).trans rfl⟩ (fun hHeld => ?_)
                    clear hK K
                    refine norm_ (a' := ?_) ?_ ?_
                    rotate_left
                    ·show Act.put _ (some 14) _ = _
                     simp only [Act.put, List.setIfInBounds_toArray, List.set_cons_zero, List.set_cons_succ, i64_w, i32_w]
                     rfl
                    refine one_ (i := 5) (N := some 94) #[true, true, true, true, true, true, false, false, false, true, false, false] rfl rfl (one_of HT_.out (by kernel_rfl)) (by decide) (fun K hK => ?_)
                    refine goes_ Tryd.func23 (by kernel_rfl) rfl #[.int .i64 a0, .agg #[.int .i64 t456, .int .i64 t457, .string t458], .agg #[.int .i64 t459, .int .i64 t460, .string t461]] (by rfl) rfl rfl (by (try simp only [List.map_toArray, List.map_cons, List.map_nil]); first | done | rfl | (simp only [List.length_drop, List.length_take]; rfl)) ?_
                    with_reducible refine (whirligigref01_Reckon.calls kj40 a0 t456 t457 t458 t459 t460 t461 t462 t463 t464 t465 _ A95.out).mono ?_
                    rintro e w136 ⟨rfl, hb⟩
                    refine ⟨_, rfl, ?_⟩
                    have n0_ := Aside0.mk (blk_below (g := gb425) (o := .cells #[.int .i64 a1_0, .int .i64 a1_1, .string a1_2] 24 (0, 0)) (by (with_reducible repeat (first | refine blk_drewN ?_ _ | refine blk_drew ?_ | refine blk_alloc ?_ _)); exact BK425.out) hb)
                    have n1_ := Aside0.mk (blk_below (g := gb426) (o := .cells #[.int .i64 a2_0, .int .i64 a2_1, .string a2_2] 24 (0, 0)) (by (with_reducible repeat (first | refine blk_drewN ?_ _ | refine blk_drew ?_ | refine blk_alloc ?_ _)); exact BK426.out) hb)
                    have n2_ := Aside0.mk (blk_below (g := gb443) (o := .cells #[.int .i64 x444000_40, .int .i64 x444001_40, .string x444002_40] 24 (0, 0)) (by (with_reducible repeat (first | refine blk_drewN ?_ _ | refine blk_drew ?_ | refine blk_alloc ?_ _)); exact BK443.out) hb)
                    have n3_ := Aside0.mk (blk_below (g := gb466) (o := .cells #[.int .i64 0, .int .i64 0, .string (⟨#[]⟩ : ByteArray)] 28 (0, 0)) (by (with_reducible repeat (first | refine blk_drewN ?_ _ | refine blk_drew ?_ | refine blk_alloc ?_ _)); exact BK466.out) hb)
                    have n4_ := Aside0.mk (below_step (by repeat (first | (with_reducible first | exact HB.out | apply below_alloc | apply pw_below_drewN | apply below_drew1 | refine below_set ?_ GE425.out | refine below_set ?_ GE426.out | refine below_set ?_ GE443.out | refine below_set ?_ GE466.out) | exact HB.out)) hb)
                    clear BK425
                    clear BK426
                    clear BK443
                    clear BK466
                    clear HB
                    have BK425 := n0_
                    have BK426 := n1_
                    have BK443 := n2_
                    have BK466 := n3_
                    have HB := n4_
                    clear n0_ n1_ n2_ n3_ n4_
                    (try clear hb)
                    (try clear hb2)
                    (try clear hk)
                    (try clear hi)
                    refine hK.out _ _ ⟨(blk_cell BK425.out 0).trans rfl, (blk_cell BK425.out 1).trans rfl, (blk_cell BK425.out 2).trans rfl, (blk_cell BK426.out 0).trans rfl, (blk_cell BK426.out 1).trans rfl, (blk_cell BK426.out 2).trans rfl⟩ (fun hHeld => ?_)
                    clear hK K
                    refine norm_ (a' := ?_) ?_ ?_
                    rotate_left
                    ·show Act.put _ (some 94) _ = _
                     simp only [Act.put, List.setIfInBounds_toArray, List.set_cons_zero, List.set_cons_succ, i64_w, i32_w]
                     rfl
                    refine pure_ (i := 6) (N := some 88) (v := ?_) (a' := ?_) #[true, true, true, true, true, true, true, false, false, true, false, false] rfl rfl (any_of HT_.out (by kernel_rfl)) (fun _ _ _ h => h) (Or.inl ⟨by rfl, ?_⟩) ?_ ?_
                    rotate_left
                    ·intro w'
                     go_simp
                     with_reducible rfl
                    rotate_left
                    ·simp only [Act.put, List.setIfInBounds_toArray, List.set_cons_zero, List.set_cons_succ, i64_w, i32_w]
                     rfl
                    refine pure_ (i := 7) (N := some 95) (v := ?_) (a' := ?_) #[true, true, true, true, true, true, true, true, false, true, false, false] rfl rfl (any_of HT_.out (by kernel_rfl)) (fun _ _ _ h => h) (Or.inl ⟨by rfl, ?_⟩) ?_ ?_
                    rotate_left
                    ·intro w'
                     go_simp
                     with_reducible rfl
                    rotate_left
                    ·simp only [Act.put, List.setIfInBounds_toArray, List.set_cons_zero, List.set_cons_succ, i64_w, i32_w]
                     rfl
                    refine pure_ (i := 8) (N := some 96) (v := ?_) (a' := ?_) #[true, true, true, true, true, true, true, true, true, true, false, false] rfl rfl (any_of HT_.out (by kernel_rfl)) (fun _ _ _ h => h) (Or.inl ⟨by rfl, ?_⟩) ?_ ?_
                    rotate_left
                    ·intro w'
                     go_simp
                     with_reducible rfl
                    rotate_left
                    ·simp only [Act.put, List.setIfInBounds_toArray, List.set_cons_zero, List.set_cons_succ, i64_w, i32_w]
                     rfl
                    exact norm_ (by simp only [putAll, Act.put, List.setIfInBounds_toArray, List.set_cons_zero, List.set_cons_succ]) (hCont (gb466) _ ⟨hHeld, (by (with_reducible repeat (first | refine blk_drewN ?_ _ | refine blk_drew ?_ | refine blk_alloc ?_ _)); exact BK425.out), (by (with_reducible repeat (first | refine blk_drewN ?_ _ | refine blk_drew ?_ | refine blk_alloc ?_ _)); exact BK426.out), (by (with_reducible repeat (first | refine blk_drewN ?_ _ | refine blk_drew ?_ | refine blk_alloc ?_ _)); exact BK443.out), (by (with_reducible repeat (first | refine blk_drewN ?_ _ | refine blk_drew ?_ | refine blk_alloc ?_ _)); exact BK466.out), GW466.out, GE466.out, NB425_466.out, NB466_425.out, NB426_466.out, NB466_426.out, NB443_466.out, NB466_443.out, (by repeat (first | (with_reducible first | exact HB.out | apply below_alloc | apply pw_below_drewN | apply below_drew1 | refine below_set ?_ GE425.out | refine below_set ?_ GE426.out | refine below_set ?_ GE443.out | refine below_set ?_ GE466.out) | exact HB.out))⟩)
                  ·skip
                   refine box_step ?hg (N := 14) ?hd (cs := #[.int .i64 0, .int .i64 0, .string (⟨#[]⟩ : ByteArray)]) (t := 28) ?hr ?_; (case hd => rfl); (case hg => rfl); (case hr => first | (go_simp; done) | (go_simp; rfl))
                   intro gb466 hg w134 hbox hb
                   have n0_ := Aside0.mk (blk_below (g := gb425) (o := .cells #[.int .i64 a1_0, .int .i64 a1_1, .string a1_2] 24 (0, 0)) (by (with_reducible repeat (first | refine blk_drewN ?_ _ | refine blk_drew ?_ | refine blk_alloc ?_ _)); exact BK425.out) hb)
                   have n1_ := Aside0.mk (blk_below (g := gb426) (o := .cells #[.int .i64 a2_0, .int .i64 a2_1, .string a2_2] 24 (0, 0)) (by (with_reducible repeat (first | refine blk_drewN ?_ _ | refine blk_drew ?_ | refine blk_alloc ?_ _)); exact BK426.out) hb)
                   have n2_ := Aside0.mk (blk_below (g := gb443) (o := .cells #[.int .i64 x444000_40, .int .i64 x444001_40, .string x444002_40] 24 (0, 0)) (by (with_reducible repeat (first | refine blk_drewN ?_ _ | refine blk_drew ?_ | refine blk_alloc ?_ _)); exact BK443.out) hb)
                   have n3_ := Aside0.mk (below_step (by repeat (first | (with_reducible first | exact HB.out | apply below_alloc | apply pw_below_drewN | apply below_drew1 | refine below_set ?_ GE425.out | refine below_set ?_ GE426.out | refine below_set ?_ GE443.out) | exact HB.out)) hb)
                   have n4_ := Aside0.mk (hbox)
                   have n5_ := Aside0.mk ((by rw [hg]; exact (below_size (by repeat (first | (with_reducible first | exact HB.out | apply below_alloc | apply pw_below_drewN | apply below_drew1 | refine below_set ?_ GE425.out | refine below_set ?_ GE426.out | refine below_set ?_ GE443.out) | exact HB.out))) : w.heap.size ≤ gb466))
                   have n6_ := Aside0.mk ((by rw [hg]; exact (below_size (by repeat (first | (with_reducible first | exact HB.out | apply below_alloc | apply pw_below_drewN | apply below_drew1 | refine below_set ?_ GE425.out | refine below_set ?_ GE426.out | refine below_set ?_ GE443.out) | exact HB.out))) : w.heap.size ≤ gb466))
                   have n7_ := Aside0.mk ((by rw [hg]; exact Nat.ne_of_lt (blk_lt (g := gb425) (o := .cells #[.int .i64 a1_0, .int .i64 a1_1, .string a1_2] 24 (0, 0)) (by (with_reducible repeat (first | refine blk_drewN ?_ _ | refine blk_drew ?_ | refine blk_alloc ?_ _)); exact BK425.out)) : gb425 ≠ gb466))
                   have n8_ := Aside0.mk ((by rw [hg]; exact Nat.ne_of_gt (blk_lt (g := gb425) (o := .cells #[.int .i64 a1_0, .int .i64 a1_1, .string a1_2] 24 (0, 0)) (by (with_reducible repeat (first | refine blk_drewN ?_ _ | refine blk_drew ?_ | refine blk_alloc ?_ _)); exact BK425.out)) : gb466 ≠ gb425))
                   have n9_ := Aside0.mk ((by rw [hg]; exact Nat.ne_of_lt (blk_lt (g := gb426) (o := .cells #[.int .i64 a2_0, .int .i64 a2_1, .string a2_2] 24 (0, 0)) (by (with_reducible repeat (first | refine blk_drewN ?_ _ | refine blk_drew ?_ | refine blk_alloc ?_ _)); exact BK426.out)) : gb426 ≠ gb466))
                   have n10_ := Aside0.mk ((by rw [hg]; exact Nat.ne_of_gt (blk_lt (g := gb426) (o := .cells #[.int .i64 a2_0, .int .i64 a2_1, .string a2_2] 24 (0, 0)) (by (with_reducible repeat (first | refine blk_drewN ?_ _ | refine blk_drew ?_ | refine blk_alloc ?_ _)); exact BK426.out)) : gb466 ≠ gb426))
                   have n11_ := Aside0.mk ((by rw [hg]; exact Nat.ne_of_lt (blk_lt (g := gb443) (o := .cells #[.int .i64 x444000_40, .int .i64 x444001_40, .string x444002_40] 24 (0, 0)) (by (with_reducible repeat (first | refine blk_drewN ?_ _ | refine blk_drew ?_ | refine blk_alloc ?_ _)); exact BK443.out)) : gb443 ≠ gb466))
                   have n12_ := Aside0.mk ((by rw [hg]; exact Nat.ne_of_gt (blk_lt (g := gb443) (o := .cells #[.int .i64 x444000_40, .int .i64 x444001_40, .string x444002_40] 24 (0, 0)) (by (with_reducible repeat (first | refine blk_drewN ?_ _ | refine blk_drew ?_ | refine blk_alloc ?_ _)); exact BK443.out)) : gb466 ≠ gb443))
                   clear BK425
                   clear BK426
                   clear BK443
                   clear HB
                   have BK425 := n0_
                   have BK426 := n1_
                   have BK443 := n2_
                   have HB := n3_
                   have BK466 := n4_
                   have GW466 := n5_
                   have GE466 := n6_
                   have NB425_466 := n7_
                   have NB466_425 := n8_
                   have NB426_466 := n9_
                   have NB466_426 := n10_
                   have NB443_466 := n11_
                   have NB466_443 := n12_
                   clear n0_ n1_ n2_ n3_ n4_ n5_ n6_ n7_ n8_ n9_ n10_ n11_ n12_
                   clear hb hbox hg
                   refine hK.out _ _ ⟨(blk_cell BK425.out 0).trans rfl, (blk_cell BK425.out 1).trans rfl, (blk_cell BK425.out 2).trans rfl, (blk_cell BK426.out 0).trans rfl, (blk_cell BK426.out 1).trans rfl, (blk_cell BK426.out 2).trans rfl⟩ (fun hHeld => ?_)
                   clear hK K
                   refine norm_ (a' := ?_) ?_ ?_
                   rotate_left
                   ·show Act.put _ (some 14) _ = _
                    simp only [Act.put, List.setIfInBounds_toArray, List.set_cons_zero, List.set_cons_succ, i64_w, i32_w]
                    rfl
                   refine one_ (i := 4) (N := some 93) #[true, true, true, true, true, false, false, false, false, true, false, false] rfl rfl (one_of HT_.out (by kernel_rfl)) (by decide) (fun K hK => ?_)
                   refine goes_ Tryd.func12 (by kernel_rfl) rfl #[.agg #[.int .i64 a2_0, .int .i64 a2_1, .string a2_2]] (by rfl) rfl rfl (by (try simp only [List.map_toArray, List.map_cons, List.map_nil]); first | done | rfl | (simp only [List.length_drop, List.length_take]; rfl)) ?_
                   with_reducible refine (whirligiglaw01_ref.calls a2_0 a2_1 a2_2 t459 t460 t461 _ A94.out).mono ?_
                   rintro e w135 ⟨rfl, hb⟩
                   refine ⟨_, rfl, ?_⟩
                   have n0_ := Aside0.mk (blk_below (g := gb425) (o := .cells #[.int .i64 a1_0, .int .i64 a1_1, .string a1_2] 24 (0, 0)) (by (with_reducible repeat (first | refine blk_drewN ?_ _ | refine blk_drew ?_ | refine blk_alloc ?_ _)); exact BK425.out) hb)
                   have n1_ := Aside0.mk (blk_below (g := gb426) (o := .cells #[.int .i64 a2_0, .int .i64 a2_1, .string a2_2] 24 (0, 0)) (by (with_reducible repeat (first | refine blk_drewN ?_ _ | refine blk_drew ?_ | refine blk_alloc ?_ _)); exact BK426.out) hb)
                   have n2_ := Aside0.mk (blk_below (g := gb443) (o := .cells #[.int .i64 x444000_40, .int .i64 x444001_40, .string x444002_40] 24 (0, 0)) (by (with_reducible repeat (first | refine blk_drewN ?_ _ | refine blk_drew ?_ | refine blk_alloc ?_ _)); exact BK443.out) hb)
                   have n3_ := Aside0.mk (blk_below (g := gb466) (o := .cells #[.int .i64 0, .int .i64 0, .string (⟨#[]⟩ : ByteArray)] 28 (0, 0)) (by (with_reducible repeat (first | refine blk_drewN ?_ _ | refine blk_drew ?_ | refine blk_alloc ?_ _)); exact BK466.out) hb)
                   have n4_ := Aside0.mk (below_step (by repeat (first | (with_reducible first | exact HB.out | apply below_alloc | apply pw_below_drewN | apply below_drew1 | refine below_set ?_ GE425.out | refine below_set ?_ GE426.out | refine below_set ?_ GE443.out | refine below_set ?_ GE466.out) | exact HB.out)) hb)
                   clear BK425
                   clear BK426
                   clear BK443
                   clear BK466
                   clear HB
                   have BK425 := n0_
                   have BK426 := n1_
                   have BK443 := n2_
                   have BK466 := n3_
                   have HB := n4_
                   clear n0_ n1_ n2_ n3_ n4_
                   (try clear hb)
                   (try clear hb2)
                   (try clear hk)
                   (try clear hi)
                   refine hK.out _ _ ⟨(blk_cell BK425.out 0).trans rfl, (blk_cell BK425.out 1).trans rfl, (blk_cell BK425.out 2).trans rfl, (blk_cell BK426.out 0).trans rfl, (blk_cell BK426.out 1).trans rfl, (blk_cell BK426.out 2).trans rfl⟩ (fun hHeld => ?_)
                   clear hK K
                   refine norm_ (a' := ?_) ?_ ?_
                   rotate_left
                   ·show Act.put _ (some 93) _ = _
                    simp only [Act.put, List.setIfInBounds_toArray, List.set_cons_zero, List.set_cons_succ, i64_w, i32_w]
                    rfl
                   refine one_ (i := 5) (N := some 94) #[true, true, true, true, true, true, false, false, false, true, false, false] rfl rfl (one_of HT_.out (by kernel_rfl)) (by decide) (fun K hK => ?_)
                   refine goes_ Tryd.func23 (by kernel_rfl) rfl #[.int .i64 a0, .agg #[.int .i64 t456, .int .i64 t457, .string t458], .agg #[.int .i64 t459, .int .i64 t460, .string t461]] (by rfl) rfl rfl (by (try simp only [List.map_toArray, List.map_cons, List.map_nil]); first | done | rfl | (simp only [List.length_drop, List.length_take]; rfl)) ?_
                   with_reducible refine (whirligigref01_Reckon.calls kj40 a0 t456 t457 t458 t459 t460 t461 t462 t463 t464 t465 _ A95.out).mono ?_
                   rintro e w136 ⟨rfl, hb⟩
                   refine ⟨_, rfl, ?_⟩
                   have n0_ := Aside0.mk (blk_below (g := gb425) (o := .cells #[.int .i64 a1_0, .int .i64 a1_1, .string a1_2] 24 (0, 0)) (by (with_reducible repeat (first | refine blk_drewN ?_ _ | refine blk_drew ?_ | refine blk_alloc ?_ _)); exact BK425.out) hb)
                   have n1_ := Aside0.mk (blk_below (g := gb426) (o := .cells #[.int .i64 a2_0, .int .i64 a2_1, .string a2_2] 24 (0, 0)) (by (with_reducible repeat (first | refine blk_drewN ?_ _ | refine blk_drew ?_ | refine blk_alloc ?_ _)); exact BK426.out) hb)
                   have n2_ := Aside0.mk (blk_below (g := gb443) (o := .cells #[.int .i64 x444000_40, .int .i64 x444001_40, .string x444002_40] 24 (0, 0)) (by (with_reducible repeat (first | refine blk_drewN ?_ _ | refine blk_drew ?_ | refine blk_alloc ?_ _)); exact BK443.out) hb)
                   have n3_ := Aside0.mk (blk_below (g := gb466) (o := .cells #[.int .i64 0, .int .i64 0, .string (⟨#[]⟩ : ByteArray)] 28 (0, 0)) (by (with_reducible repeat (first | refine blk_drewN ?_ _ | refine blk_drew ?_ | refine blk_alloc ?_ _)); exact BK466.out) hb)
                   have n4_ := Aside0.mk (below_step (by repeat (first | (with_reducible first | exact HB.out | apply below_alloc | apply pw_below_drewN | apply below_drew1 | refine below_set ?_ GE425.out | refine below_set ?_ GE426.out | refine below_set ?_ GE443.out | refine below_set ?_ GE466.out) | exact HB.out)) hb)
                   clear BK425
                   clear BK426
                   clear BK443
                   clear BK466
                   clear HB
                   have BK425 := n0_
                   have BK426 := n1_
                   have BK443 := n2_
                   have BK466 := n3_
                   have HB := n4_
                   clear n0_ n1_ n2_ n3_ n4_
                   (try clear hb)
                   (try clear hb2)
                   (try clear hk)
                   (try clear hi)
                   refine hK.out _ _ ⟨(blk_cell BK425.out 0).trans rfl, (blk_cell BK425.out 1).trans rfl, (blk_cell BK425.out 2).trans rfl, (blk_cell BK426.out 0).trans rfl, (blk_cell BK426.out 1).trans rfl, (blk_cell BK426.out 2).trans rfl⟩ (fun hHeld => ?_)
                   clear hK K
                   refine norm_ (a' := ?_) ?_ ?_
                   rotate_left
                   ·show Act.put _ (some 94) _ = _
                    simp only [Act.put, List.setIfInBounds_toArray, List.set_cons_zero, List.set_cons_succ, i64_w, i32_w]
                    rfl
                   refine pure_ (i := 6) (N := some 88) (v := ?_) (a' := ?_) #[true, true, true, true, true, true, true, false, false, true, false, false] rfl rfl (any_of HT_.out (by kernel_rfl)) (fun _ _ _ h => h) (Or.inl ⟨by rfl, ?_⟩) ?_ ?_
                   rotate_left
                   ·intro w'
                    go_simp
                    with_reducible rfl
                   rotate_left
                   ·simp only [Act.put, List.setIfInBounds_toArray, List.set_cons_zero, List.set_cons_succ, i64_w, i32_w]
                    rfl
                   refine pure_ (i := 7) (N := some 95) (v := ?_) (a' := ?_) #[true, true, true, true, true, true, true, true, false, true, false, false] rfl rfl (any_of HT_.out (by kernel_rfl)) (fun _ _ _ h => h) (Or.inl ⟨by rfl, ?_⟩) ?_ ?_
                   rotate_left
                   ·intro w'
                    go_simp
                    with_reducible rfl
                   rotate_left
                   ·simp only [Act.put, List.setIfInBounds_toArray, List.set_cons_zero, List.set_cons_succ, i64_w, i32_w]
                    rfl
                   refine pure_ (i := 8) (N := some 96) (v := ?_) (a' := ?_) #[true, true, true, true, true, true, true, true, true, true, false, false] rfl rfl (any_of HT_.out (by kernel_rfl)) (fun _ _ _ h => h) (Or.inl ⟨by rfl, ?_⟩) ?_ ?_
                   rotate_left
                   ·intro w'
                    go_simp
                    with_reducible rfl
                   rotate_left
                   ·simp only [Act.put, List.setIfInBounds_toArray, List.set_cons_zero, List.set_cons_succ, i64_w, i32_w]
                    rfl
                   exact norm_ (by simp only [putAll, Act.put, List.setIfInBounds_toArray, List.set_cons_zero, List.set_cons_succ]) (hCont (gb466) _ ⟨hHeld, (by (with_reducible repeat (first | refine blk_drewN ?_ _ | refine blk_drew ?_ | refine blk_alloc ?_ _)); exact BK425.out), (by (with_reducible repeat (first | refine blk_drewN ?_ _ | refine blk_drew ?_ | refine blk_alloc ?_ _)); exact BK426.out), (by (with_reducible repeat (first | refine blk_drewN ?_ _ | refine blk_drew ?_ | refine blk_alloc ?_ _)); exact BK443.out), (by (with_reducible repeat (first | refine blk_drewN ?_ _ | refine blk_drew ?_ | refine blk_alloc ?_ _)); exact BK466.out), GW466.out, GE466.out, NB425_466.out, NB466_425.out, NB426_466.out, NB466_426.out, NB443_466.out, NB466_443.out, (by repeat (first | (with_reducible first | exact HB.out | apply below_alloc | apply pw_below_drewN | apply below_drew1 | refine below_set ?_ GE425.out | refine below_set ?_ GE426.out | refine below_set ?_ GE443.out | refine below_set ?_ GE466.out) | exact HB.out))⟩)
                 ·skip
                  refine box_step ?hg (N := 14) ?hd (cs := #[.int .i64 0, .int .i64 0, .string (⟨#[]⟩ : ByteArray)]) (t := 28) ?hr ?_; (case hd => rfl); (case hg => rfl); (case hr => first | (go_simp; done) | (go_simp; rfl))
                  intro gb466 hg w133 hbox hb
                  have n0_ := Aside0.mk (blk_below (g := gb425) (o := .cells #[.int .i64 a1_0, .int .i64 a1_1, .string a1_2] 24 (0, 0)) (by (with_reducible repeat (first | refine blk_drewN ?_ _ | refine blk_drew ?_ | refine blk_alloc ?_ _)); exact BK425.out) hb)
                  have n1_ := Aside0.mk (blk_below (g := gb426) (o := .cells #[.int .i64 a2_0, .int .i64 a2_1, .string a2_2] 24 (0, 0)) (by (with_reducible repeat (first | refine blk_drewN ?_ _ | refine blk_drew ?_ | refine blk_alloc ?_ _)); exact BK426.out) hb)
                  have n2_ := Aside0.mk (blk_below (g := gb443) (o := .cells #[.int .i64 x444000_40, .int .i64 x444001_40, .string x444002_40] 24 (0, 0)) (by (with_reducible repeat (first | refine blk_drewN ?_ _ | refine blk_drew ?_ | refine blk_alloc ?_ _)); exact BK443.out) hb)
                  have n3_ := Aside0.mk (below_step (by repeat (first | (with_reducible first | exact HB.out | apply below_alloc | apply pw_below_drewN | apply below_drew1 | refine below_set ?_ GE425.out | refine below_set ?_ GE426.out | refine below_set ?_ GE443.out) | exact HB.out)) hb)
                  have n4_ := Aside0.mk (hbox)
                  have n5_ := Aside0.mk ((by rw [hg]; exact (below_size (by repeat (first | (with_reducible first | exact HB.out | apply below_alloc | apply pw_below_drewN | apply below_drew1 | refine below_set ?_ GE425.out | refine below_set ?_ GE426.out | refine below_set ?_ GE443.out) | exact HB.out))) : w.heap.size ≤ gb466))
                  have n6_ := Aside0.mk ((by rw [hg]; exact (below_size (by repeat (first | (with_reducible first | exact HB.out | apply below_alloc | apply pw_below_drewN | apply below_drew1 | refine below_set ?_ GE425.out | refine below_set ?_ GE426.out | refine below_set ?_ GE443.out) | exact HB.out))) : w.heap.size ≤ gb466))
                  have n7_ := Aside0.mk ((by rw [hg]; exact Nat.ne_of_lt (blk_lt (g := gb425) (o := .cells #[.int .i64 a1_0, .int .i64 a1_1, .string a1_2] 24 (0, 0)) (by (with_reducible repeat (first | refine blk_drewN ?_ _ | refine blk_drew ?_ | refine blk_alloc ?_ _)); exact BK425.out)) : gb425 ≠ gb466))
                  have n8_ := Aside0.mk ((by rw [hg]; exact Nat.ne_of_gt (blk_lt (g := gb425) (o := .cells #[.int .i64 a1_0, .int .i64 a1_1, .string a1_2] 24 (0, 0)) (by (with_reducible repeat (first | refine blk_drewN ?_ _ | refine blk_drew ?_ | refine blk_alloc ?_ _)); exact BK425.out)) : gb466 ≠ gb425))
                  have n9_ := Aside0.mk ((by rw [hg]; exact Nat.ne_of_lt (blk_lt (g := gb426) (o := .cells #[.int .i64 a2_0, .int .i64 a2_1, .string a2_2] 24 (0, 0)) (by (with_reducible repeat (first | refine blk_drewN ?_ _ | refine blk_drew ?_ | refine blk_alloc ?_ _)); exact BK426.out)) : gb426 ≠ gb466))
                  have n10_ := Aside0.mk ((by rw [hg]; exact Nat.ne_of_gt (blk_lt (g := gb426) (o := .cells #[.int .i64 a2_0, .int .i64 a2_1, .string a2_2] 24 (0, 0)) (by (with_reducible repeat (first | refine blk_drewN ?_ _ | refine blk_drew ?_ | refine blk_alloc ?_ _)); exact BK426.out)) : gb466 ≠ gb426))
                  have n11_ := Aside0.mk ((by rw [hg]; exact Nat.ne_of_lt (blk_lt (g := gb443) (o := .cells #[.int .i64 x444000_40, .int .i64 x444001_40, .string x444002_40] 24 (0, 0)) (by (with_reducible repeat (first | refine blk_drewN ?_ _ | refine blk_drew ?_ | refine blk_alloc ?_ _)); exact BK443.out)) : gb443 ≠ gb466))
                  have n12_ := Aside0.mk ((by rw [hg]; exact Nat.ne_of_gt (blk_lt (g := gb443) (o := .cells #[.int .i64 x444000_40, .int .i64 x444001_40, .string x444002_40] 24 (0, 0)) (by (with_reducible repeat (first | refine blk_drewN ?_ _ | refine blk_drew ?_ | refine blk_alloc ?_ _)); exact BK443.out)) : gb466 ≠ gb443))
                  clear BK425
                  clear BK426
                  clear BK443
                  clear HB
                  have BK425 := n0_
                  have BK426 := n1_
                  have BK443 := n2_
                  have HB := n3_
                  have BK466 := n4_
                  have GW466 := n5_
                  have GE466 := n6_
                  have NB425_466 := n7_
                  have NB466_425 := n8_
                  have NB426_466 := n9_
                  have NB466_426 := n10_
                  have NB443_466 := n11_
                  have NB466_443 := n12_
                  clear n0_ n1_ n2_ n3_ n4_ n5_ n6_ n7_ n8_ n9_ n10_ n11_ n12_
                  clear hb hbox hg
                  refine hK.out _ _ ⟨(blk_cell BK425.out 0).trans rfl, (blk_cell BK425.out 1).trans rfl, (blk_cell BK425.out 2).trans rfl, (blk_cell BK426.out 0).trans rfl, (blk_cell BK426.out 1).trans rfl, (blk_cell BK426.out 2).trans rfl⟩ (fun hHeld => ?_)
                  clear hK K
                  refine norm_ (a' := ?_) ?_ ?_
                  rotate_left
                  ·show Act.put _ (some 14) _ = _
                   simp only [Act.put, List.setIfInBounds_toArray, List.set_cons_zero, List.set_cons_succ, i64_w, i32_w]
                   rfl
                  refine one_ (i := 2) (N := some 91) #[true, true, true, true, false, false, false, false, false, true, false, false] rfl rfl (one_of HT_.out (by kernel_rfl)) (by decide) (fun K hK => ?_)
                  refine goes_ Tryd.func12 (by kernel_rfl) rfl #[.agg #[.int .i64 a1_0, .int .i64 a1_1, .string a1_2]] (by rfl) rfl rfl (by (try simp only [List.map_toArray, List.map_cons, List.map_nil]); first | done | rfl | (simp only [List.length_drop, List.length_take]; rfl)) ?_
                  with_reducible refine (whirligiglaw01_ref.calls a1_0 a1_1 a1_2 t456 t457 t458 _ A93.out).mono ?_
                  rintro e w134 ⟨rfl, hb⟩
                  refine ⟨_, rfl, ?_⟩
                  have n0_ := Aside0.mk (blk_below (g := gb425) (o := .cells #[.int .i64 a1_0, .int .i64 a1_1, .string a1_2] 24 (0, 0)) (by (with_reducible repeat (first | refine blk_drewN ?_ _ | refine blk_drew ?_ | refine blk_alloc ?_ _)); exact BK425.out) hb)
                  have n1_ := Aside0.mk (blk_below (g := gb426) (o := .cells #[.int .i64 a2_0, .int .i64 a2_1, .string a2_2] 24 (0, 0)) (by (with_reducible repeat (first | refine blk_drewN ?_ _ | refine blk_drew ?_ | refine blk_alloc ?_ _)); exact BK426.out) hb)
                  have n2_ := Aside0.mk (blk_below (g := gb443) (o := .cells #[.int .i64 x444000_40, .int .i64 x444001_40, .string x444002_40] 24 (0, 0)) (by (with_reducible repeat (first | refine blk_drewN ?_ _ | refine blk_drew ?_ | refine blk_alloc ?_ _)); exact BK443.out) hb)
                  have n3_ := Aside0.mk (blk_below (g := gb466) (o := .cells #[.int .i64 0, .int .i64 0, .string (⟨#[]⟩ : ByteArray)] 28 (0, 0)) (by (with_reducible repeat (first | refine blk_drewN ?_ _ | refine blk_drew ?_ | refine blk_alloc ?_ _)); exact BK466.out) hb)
                  have n4_ := Aside0.mk (below_step (by repeat (first | (with_reducible first | exact HB.out | apply below_alloc | apply pw_below_drewN | apply below_drew1 | refine below_set ?_ GE425.out | refine below_set ?_ GE426.out | refine below_set ?_ GE443.out | refine below_set ?_ GE466.out) | exact HB.out)) hb)
                  clear BK425
                  clear BK426
                  clear BK443
                  clear BK466
                  clear HB
                  have BK425 := n0_
                  have BK426 := n1_
                  have BK443 := n2_
                  have BK466 := n3_
                  have HB := n4_
                  clear n0_ n1_ n2_ n3_ n4_
                  (try clear hb)
                  (try clear hb2)
                  (try clear hk)
                  (try clear hi)
                  refine hK.out _ _ ⟨(blk_cell BK425.out 0).trans rfl, (blk_cell BK425.out 1).trans rfl, (blk_cell BK425.out 2).trans rfl, (blk_cell BK426.out 0).trans rfl, (blk_cell BK426.out 1).trans rfl, (blk_cell BK426.out 2).trans rfl⟩ (fun hHeld => ?_)
                  clear hK K
                  refine norm_ (a' := ?_) ?_ ?_
                  rotate_left
                  ·show Act.put _ (some 91) _ = _
                   simp only [Act.put, List.setIfInBounds_toArray, List.set_cons_zero, List.set_cons_succ, i64_w, i32_w]
                   rfl
                  refine one_ (i := 4) (N := some 93) #[true, true, true, true, true, false, false, false, false, true, false, false] rfl rfl (one_of HT_.out (by kernel_rfl)) (by decide) (fun K hK => ?_)
                  refine goes_ Tryd.func12 (by kernel_rfl) rfl #[.agg #[.int .i64 a2_0, .int .i64 a2_1, .string a2_2]] (by rfl) rfl rfl (by (try simp only [List.map_toArray, List.map_cons, List.map_nil]); first | done | rfl | (simp only [List.length_drop, List.length_take]; rfl)) ?_
                  with_reducible refine (whirligiglaw01_ref.calls a2_0 a2_1 a2_2 t459 t460 t461 _ A94.out).mono ?_
                  rintro e w135 ⟨rfl, hb⟩
                  refine ⟨_, rfl, ?_⟩
                  have n0_ := Aside0.mk (blk_below (g := gb425) (o := .cells #[.int .i64 a1_0, .int .i64 a1_1, .string a1_2] 24 (0, 0)) (by (with_reducible repeat (first | refine blk_drewN ?_ _ | refine blk_drew ?_ | refine blk_alloc ?_ _)); exact BK425.out) hb)
                  have n1_ := Aside0.mk (blk_below (g := gb426) (o := .cells #[.int .i64 a2_0, .int .i64 a2_1, .string a2_2] 24 (0, 0)) (by (with_reducible repeat (first | refine blk_drewN ?_ _ | refine blk_drew ?_ | refine blk_alloc ?_ _)); exact BK426.out) hb)
                  have n2_ := Aside0.mk (blk_below (g := gb443) (o := .cells #[.int .i64 x444000_40, .int .i64 x444001_40, .string x444002_40] 24 (0, 0)) (by (with_reducible repeat (first | refine blk_drewN ?_ _ | refine blk_drew ?_ | refine blk_alloc ?_ _)); exact BK443.out) hb)
                  have n3_ := Aside0.mk (blk_below (g := gb466) (o := .cells #[.int .i64 0, .int .i64 0, .string (⟨#[]⟩ : ByteArray)] 28 (0, 0)) (by (with_reducible repeat (first | refine blk_drewN ?_ _ | refine blk_drew ?_ | refine blk_alloc ?_ _)); exact BK466.out) hb)
                  have n4_ := Aside0.mk (below_step (by repeat (first | (with_reducible first | exact HB.out | apply below_alloc | apply pw_below_drewN | apply below_drew1 | refine below_set ?_ GE425.out | refine below_set ?_ GE426.out | refine below_set ?_ GE443.out | refine below_set ?_ GE466.out) | exact HB.out)) hb)
                  clear BK425
                  clear BK426
                  clear BK443
                  clear BK466
                  clear HB
                  have BK425 := n0_
                  have BK426 := n1_
                  have BK443 := n2_
                  have BK466 := n3_
                  have HB := n4_
                  clear n0_ n1_ n2_ n3_ n4_
                  (try clear hb)
                  (try clear hb2)
                  (try clear hk)
                  (try clear hi)
                  refine hK.out _ _ ⟨(blk_cell BK425.out 0).trans rfl, (blk_cell BK425.out 1).trans rfl, (blk_cell BK425.out 2).trans rfl, (blk_cell BK426.out 0).trans rfl, (blk_cell BK426.out 1).trans rfl, (blk_cell BK426.out 2).trans rfl⟩ (fun hHeld => ?_)
                  clear hK K
                  refine norm_ (a' := ?_) ?_ ?_
                  rotate_left
                  ·show Act.put _ (some 93) _ = _
                   simp only [Act.put, List.setIfInBounds_toArray, List.set_cons_zero, List.set_cons_succ, i64_w, i32_w]
                   rfl
                  refine one_ (i := 5) (N := some 94) #[true, true, true, true, true, true, false, false, false, true, false, false] rfl rfl (one_of HT_.out (by kernel_rfl)) (by decide) (fun K hK => ?_)
                  refine goes_ Tryd.func23 (by kernel_rfl) rfl #[.int .i64 a0, .agg #[.int .i64 t456, .int .i64 t457, .string t458], .agg #[.int .i64 t459, .int .i64 t460, .string t461]] (by rfl) rfl rfl (by (try simp only [List.map_toArray, List.map_cons, List.map_nil]); first | done | rfl | (simp only [List.length_drop, List.length_take]; rfl)) ?_
                  with_reducible refine (whirligigref01_Reckon.calls kj40 a0 t456 t457 t458 t459 t460 t461 t462 t463 t464 t465 _ A95.out).mono ?_
                  rintro e w136 ⟨rfl, hb⟩
                  refine ⟨_, rfl, ?_⟩
                  have n0_ := Aside0.mk (blk_below (g := gb425) (o := .cells #[.int .i64 a1_0, .int .i64 a1_1, .string a1_2] 24 (0, 0)) (by (with_reducible repeat (first | refine blk_drewN ?_ _ | refine blk_drew ?_ | refine blk_alloc ?_ _)); exact BK425.out) hb)
                  have n1_ := Aside0.mk (blk_below (g := gb426) (o := .cells #[.int .i64 a2_0, .int .i64 a2_1, .string a2_2] 24 (0, 0)) (by (with_reducible repeat (first | refine blk_drewN ?_ _ | refine blk_drew ?_ | refine blk_alloc ?_ _)); exact BK426.out) hb)
                  have n2_ := Aside0.mk (blk_below (g := gb443) (o := .cells #[.int .i64 x444000_40, .int .i64 x444001_40, .string x444002_40] 24 (0, 0)) (by (with_reducible repeat (first | refine blk_drewN ?_ _ | refine blk_drew ?_ | refine blk_alloc ?_ _)); exact BK443.out) hb)
                  have n3_ := Aside0.mk (blk_below (g := gb466) (o := .cells #[.int .i64 0, .int .i64 0, .string (⟨#[]⟩ : ByteArray)] 28 (0, 0)) (by (with_reducible repeat (first | refine blk_drewN ?_ _ | refine blk_drew ?_ | refine blk_alloc ?_ _)); exact BK466.out) hb)
                  have n4_ := Aside0.mk (below_step (by repeat (first | (with_reducible first | exact HB.out | apply below_alloc | apply pw_below_drewN | apply below_drew1 | refine below_set ?_ GE425.out | refine below_set ?_ GE426.out | refine below_set ?_ GE443.out | refine below_set ?_ GE466.out) | exact HB.out)) hb)
                  clear BK425
                  clear BK426
                  clear BK443
                  clear BK466
                  clear HB
                  have BK425 := n0_
                  have BK426 := n1_
                  have BK443 := n2_
                  have BK466 := n3_
                  have HB := n4_
                  clear n0_ n1_ n2_ n3_ n4_
                  (try clear hb)
                  (try clear hb2)
                  (try clear hk)
                  (try clear hi)
                  refine hK.out _ _ ⟨(blk_cell BK425.out 0).trans rfl, (blk_cell BK425.out 1).trans rfl, (blk_cell BK425.out 2).trans rfl, (blk_cell BK426.out 0).trans rfl, (blk_cell BK426.out 1).trans rfl, (blk_cell BK426.out 2).trans rfl⟩ (fun hHeld => ?_)
                  clear hK K
                  refine norm_ (a' := ?_) ?_ ?_
                  rotate_left
                  ·show Act.put _ (some 94) _ = _
                   simp only [Act.put, List.setIfInBounds_toArray, List.set_cons_zero, List.set_cons_succ, i64_w, i32_w]
                   rfl
                  refine pure_ (i := 6) (N := some 88) (v := ?_) (a' := ?_) #[true, true, true, true, true, true, true, false, false, true, false, false] rfl rfl (any_of HT_.out (by kernel_rfl)) (fun _ _ _ h => h) (Or.inl ⟨by rfl, ?_⟩) ?_ ?_
                  rotate_left
                  ·intro w'
                   go_simp
                   with_reducible rfl
                  rotate_left
                  ·simp only [Act.put, List.setIfInBounds_toArray, List.set_cons_zero, List.set_cons_succ, i64_w, i32_w]
                   rfl
                  refine pure_ (i := 7) (N := some 95) (v := ?_) (a' := ?_) #[true, true, true, true, true, true, true, true, false, true, false, false] rfl rfl (any_of HT_.out (by kernel_rfl)) (fun _ _ _ h => h) (Or.inl ⟨by rfl, ?_⟩) ?_ ?_
                  rotate_left
                  ·intro w'
                   go_simp
                   with_reducible rfl
                  rotate_left
                  ·simp only [Act.put, List.setIfInBounds_toArray, List.set_cons_zero, List.set_cons_succ, i64_w, i32_w]
                   rfl
                  refine pure_ (i := 8) (N := some 96) (v := ?_) (a' := ?_) #[true, true, true, true, true, true, true, true, true, true, false, false] rfl rfl (any_of HT_.out (by kernel_rfl)) (fun _ _ _ h => h) (Or.inl ⟨by rfl, ?_⟩) ?_ ?_
                  rotate_left
                  ·intro w'
                   go_simp
                   with_reducible rfl
                  rotate_left
                  ·simp only [Act.put, List.setIfInBounds_toArray, List.set_cons_zero, List.set_cons_succ, i64_w, i32_w]
                   rfl
                  exact norm_ (by simp only [putAll, Act.put, List.setIfInBounds_toArray, List.set_cons_zero, List.set_cons_succ]) (hCont (gb466) _ ⟨hHeld, (by (with_reducible repeat (first | refine blk_drewN ?_ _ | refine blk_drew ?_ | refine blk_alloc ?_ _)); exact BK425.out), (by (with_reducible repeat (first | refine blk_drewN ?_ _ | refine blk_drew ?_ | refine blk_alloc ?_ _)); exact BK426.out), (by (with_reducible repeat (first | refine blk_drewN ?_ _ | refine blk_drew ?_ | refine blk_alloc ?_ _)); exact BK443.out), (by (with_reducible repeat (first | refine blk_drewN ?_ _ | refine blk_drew ?_ | refine blk_alloc ?_ _)); exact BK466.out), GW466.out, GE466.out, NB425_466.out, NB466_425.out, NB426_466.out, NB466_426.out, NB443_466.out, NB466_443.out, (by repeat (first | (with_reducible first | exact HB.out | apply below_alloc | apply pw_below_drewN | apply below_drew1 | refine below_set ?_ GE425.out | refine below_set ?_ GE426.out | refine below_set ?_ GE443.out | refine below_set ?_ GE466.out) | exact HB.out))⟩)
                rintro gb466 w137 ⟨hS_, h0_, h1_, h2_, h3_, h4_, h5_, h6_, h7_, h8_, h9_, h10_, h11_, h12_⟩
                have n0_ : Aside0 (w137.heap[gb425]? = some (.cells #[.int .i64 a1_0, .int .i64 a1_1, .string a1_2] 24 (0, 0))) := ⟨h0_⟩
                have n1_ : Aside0 (w137.heap[gb426]? = some (.cells #[.int .i64 a2_0, .int .i64 a2_1, .string a2_2] 24 (0, 0))) := ⟨h1_⟩
                have n2_ : Aside0 (w137.heap[gb443]? = some (.cells #[.int .i64 x444000_40, .int .i64 x444001_40, .string x444002_40] 24 (0, 0))) := ⟨h2_⟩
                have n3_ : Aside0 (w137.heap[gb466]? = some (.cells #[.int .i64 0, .int .i64 0, .string (⟨#[]⟩ : ByteArray)] 28 (0, 0))) := ⟨h3_⟩
                have n4_ : Aside0 (w.heap.size ≤ gb466) := ⟨h4_⟩
                have n5_ : Aside0 (w.heap.size ≤ gb466) := ⟨h5_⟩
                have n6_ : Aside0 (gb425 ≠ gb466) := ⟨h6_⟩
                have n7_ : Aside0 (gb466 ≠ gb425) := ⟨h7_⟩
                have n8_ : Aside0 (gb426 ≠ gb466) := ⟨h8_⟩
                have n9_ : Aside0 (gb466 ≠ gb426) := ⟨h9_⟩
                have n10_ : Aside0 (gb443 ≠ gb466) := ⟨h10_⟩
                have n11_ : Aside0 (gb466 ≠ gb443) := ⟨h11_⟩
                have n12_ : Aside0 (Below w.heap.size w w137) := ⟨h12_⟩
                clear BK425
                clear BK426
                clear BK443
                clear HB
                clear h0_ h1_ h2_ h3_ h4_ h5_ h6_ h7_ h8_ h9_ h10_ h11_ h12_
                have BK425 := n0_
                have BK426 := n1_
                have BK443 := n2_
                have BK466 := n3_
                have GW466 := n4_
                have GE466 := n5_
                have NB425_466 := n6_
                have NB466_425 := n7_
                have NB426_466 := n8_
                have NB466_426 := n9_
                have NB443_466 := n10_
                have NB466_443 := n11_
                have HB := n12_
                clear n0_ n1_ n2_ n3_ n4_ n5_ n6_ n7_ n8_ n9_ n10_ n11_ n12_
                have hHeld : w137.cell? ⟨gb425, 0, none⟩ = some (.int .i64 a1_0) ∧ w137.cell? ⟨gb425, 1, none⟩ = some (.int .i64 a1_1) ∧ w137.cell? ⟨gb425, 2, none⟩ = some (.string a1_2) ∧ w137.cell? ⟨gb426, 0, none⟩ = some (.int .i64 a2_0) ∧ w137.cell? ⟨gb426, 1, none⟩ = some (.int .i64 a2_1) ∧ w137.cell? ⟨gb426, 2, none⟩ = some (.string a2_2) := hS_
                refine norm_ (a' := ?_) ?_ ?_
                rotate_left
                ·simp only [putAll, Act.put, List.setIfInBounds_toArray, List.set_cons_zero, List.set_cons_succ]
                 rfl
                refine one_ (i := 10) (N := none) #[true, true, true, true, true, true, true, true, true, true, true, false] rfl rfl (one_of HT_.out (by kernel_rfl)) (by decide) (fun K hK => ?_)
                have hs138 : w137.cell? ⟨gb466, 0, none⟩ = some (.int .i64 0) := (blk_cell BK466.out 0).trans rfl
                have hfs138 := blk_frozen BK466.out 0
                have hns138_0 := NB425_466.out
                have hns138_1 := NB426_466.out
                have hns138_2 := NB443_466.out
                have hms138_0 := NB466_425.out
                have hms138_1 := NB466_426.out
                have hms138_2 := NB466_443.out
                have hs139 : w137.cell? ⟨gb466, 1, none⟩ = some (.int .i64 0) := (blk_cell BK466.out 1).trans rfl
                have hfs139 := blk_frozen BK466.out 1
                have hns139_0 := NB425_466.out
                have hns139_1 := NB426_466.out
                have hns139_2 := NB443_466.out
                have hms139_0 := NB466_425.out
                have hms139_1 := NB466_426.out
                have hms139_2 := NB466_443.out
                have hs140 : w137.cell? ⟨gb466, 2, none⟩ = some (.string (⟨#[]⟩ : ByteArray)) := (blk_cell BK466.out 2).trans rfl
                have hfs140 := blk_frozen BK466.out 2
                have hns140_0 := NB425_466.out
                have hns140_1 := NB426_466.out
                have hns140_2 := NB443_466.out
                have hms140_0 := NB466_425.out
                have hms140_1 := NB466_426.out
                have hms140_2 := NB466_443.out
                refine skip_ (w1 := ?_) (by rfl) rfl ?_ ?_
                rotate_left
                ·go_simp
                 rfl
                refine hK.out _ _ ⟨((cell_far (p := ⟨gb466, _, none⟩) NB425_466.out _).trans (((cell_far (p := ⟨gb466, _, none⟩) NB425_466.out _).trans (((cell_far (p := ⟨gb466, _, none⟩) NB425_466.out _).trans (hHeld.1)))))), ((cell_far (p := ⟨gb466, _, none⟩) NB425_466.out _).trans (((cell_far (p := ⟨gb466, _, none⟩) NB425_466.out _).trans (((cell_far (p := ⟨gb466, _, none⟩) NB425_466.out _).trans (hHeld.2.1)))))), ((cell_far (p := ⟨gb466, _, none⟩) NB425_466.out _).trans (((cell_far (p := ⟨gb466, _, none⟩) NB425_466.out _).trans (((cell_far (p := ⟨gb466, _, none⟩) NB425_466.out _).trans (hHeld.2.2.1)))))), ((cell_far (p := ⟨gb466, _, none⟩) NB426_466.out _).trans (((cell_far (p := ⟨gb466, _, none⟩) NB426_466.out _).trans (((cell_far (p := ⟨gb466, _, none⟩) NB426_466.out _).trans (hHeld.2.2.2.1)))))), ((cell_far (p := ⟨gb466, _, none⟩) NB426_466.out _).trans (((cell_far (p := ⟨gb466, _, none⟩) NB426_466.out _).trans (((cell_far (p := ⟨gb466, _, none⟩) NB426_466.out _).trans (hHeld.2.2.2.2.1)))))), ((cell_far (p := ⟨gb466, _, none⟩) NB426_466.out _).trans (((cell_far (p := ⟨gb466, _, none⟩) NB426_466.out _).trans (((cell_far (p := ⟨gb466, _, none⟩) NB426_466.out _).trans (hHeld.2.2.2.2.2))))))⟩ (fun hHeld => ?_)
                clear hK K
                refine pure_ (i := 11) (N := some 15) (v := ?_) (a' := ?_) #[true, true, true, true, true, true, true, true, true, true, true, true] rfl rfl (any_of HT_.out (by kernel_rfl)) (fun _ _ _ h => h) (Or.inl ⟨by rfl, ?_⟩) ?_ ?_
                rotate_left
                ·intro w'
                 go_simp
                 with_reducible rfl
                rotate_left
                ·simp only [Act.put, List.setIfInBounds_toArray, List.set_cons_zero, List.set_cons_succ, i64_w, i32_w]
                 rfl
                refine done_ (done_of HT_.out (by kernel_rfl)) ?_
                have hnb141 := NB425_466.out
                have hnc141 := NB466_425.out
                have hcz142_0 : w137.cell? ⟨gb425, 0, none⟩ = some (.int .i64 a1_0) := (blk_cell BK425.out 0).trans rfl
                have hcz142_1 : w137.cell? ⟨gb425, 1, none⟩ = some (.int .i64 a1_1) := (blk_cell BK425.out 1).trans rfl
                have hcz142_2 : w137.cell? ⟨gb425, 2, none⟩ = some (.string a1_2) := (blk_cell BK425.out 2).trans rfl
                have hfz142_0 := blk_frozen BK425.out 0
                have hfz142_1 := blk_frozen BK425.out 1
                have hfz142_2 := blk_frozen BK425.out 2
                have hnb143 := NB426_466.out
                have hnc143 := NB466_426.out
                have hcz144_0 : w137.cell? ⟨gb426, 0, none⟩ = some (.int .i64 a2_0) := (blk_cell BK426.out 0).trans rfl
                have hcz144_1 : w137.cell? ⟨gb426, 1, none⟩ = some (.int .i64 a2_1) := (blk_cell BK426.out 1).trans rfl
                have hcz144_2 : w137.cell? ⟨gb426, 2, none⟩ = some (.string a2_2) := (blk_cell BK426.out 2).trans rfl
                have hfz144_0 := blk_frozen BK426.out 0
                have hfz144_1 := blk_frozen BK426.out 1
                have hfz144_2 := blk_frozen BK426.out 2
                try go_wp2_with (first | ((with_reducible refine gate_callee (f := 22) rfl ?_); refine goesL_ (some 103) rfl rfl Tryd.func22 (by kernel_rfl) rfl #[.int .i64 a0, .int .i64 a1_0, .int .i64 a2_0] rfl (by (try simp only [List.map_toArray, List.map_cons, List.map_nil]); first | done | rfl | (simp only [List.length_drop, List.length_take]; rfl)) ?_; (with_reducible refine (val_Result.calls kj40 a0 a1_0 a2_0 t467 true _ A96.out).mono ?_); rintro e w' ⟨rfl, ⟨nd, rfl⟩⟩; refine ⟨_, rfl, ?_⟩))
                have n0_ : Aside0 ((((w137.setCell ⟨gb466, 0, none⟩ (.int .i64 t462)).setCell ⟨gb466, 1, none⟩ (.int .i64 t463)).setCell ⟨gb466, 2, none⟩ (.string t464)).heap[gb425]? = some (.cells #[.int .i64 a1_0, .int .i64 a1_1, .string a1_2] 24 (0, 0))) := ⟨by (with_reducible repeat (first | refine blk_drewN ?_ _ | refine blk_drew ?_ | refine blk_alloc ?_ _)); refine blk_far ?_ NB425_466.out _; (with_reducible repeat (first | refine blk_drewN ?_ _ | refine blk_drew ?_ | refine blk_alloc ?_ _)); refine blk_far ?_ NB425_466.out _; (with_reducible repeat (first | refine blk_drewN ?_ _ | refine blk_drew ?_ | refine blk_alloc ?_ _)); refine blk_far ?_ NB425_466.out _; (with_reducible repeat (first | refine blk_drewN ?_ _ | refine blk_drew ?_ | refine blk_alloc ?_ _)); exact BK425.out⟩
                have n1_ : Aside0 ((((w137.setCell ⟨gb466, 0, none⟩ (.int .i64 t462)).setCell ⟨gb466, 1, none⟩ (.int .i64 t463)).setCell ⟨gb466, 2, none⟩ (.string t464)).heap[gb426]? = some (.cells #[.int .i64 a2_0, .int .i64 a2_1, .string a2_2] 24 (0, 0))) := ⟨by (with_reducible repeat (first | refine blk_drewN ?_ _ | refine blk_drew ?_ | refine blk_alloc ?_ _)); refine blk_far ?_ NB426_466.out _; (with_reducible repeat (first | refine blk_drewN ?_ _ | refine blk_drew ?_ | refine blk_alloc ?_ _)); refine blk_far ?_ NB426_466.out _; (with_reducible repeat (first | refine blk_drewN ?_ _ | refine blk_drew ?_ | refine blk_alloc ?_ _)); refine blk_far ?_ NB426_466.out _; (with_reducible repeat (first | refine blk_drewN ?_ _ | refine blk_drew ?_ | refine blk_alloc ?_ _)); exact BK426.out⟩
                have n2_ : Aside0 ((((w137.setCell ⟨gb466, 0, none⟩ (.int .i64 t462)).setCell ⟨gb466, 1, none⟩ (.int .i64 t463)).setCell ⟨gb466, 2, none⟩ (.string t464)).heap[gb443]? = some (.cells #[.int .i64 x444000_40, .int .i64 x444001_40, .string x444002_40] 24 (0, 0))) := ⟨by (with_reducible repeat (first | refine blk_drewN ?_ _ | refine blk_drew ?_ | refine blk_alloc ?_ _)); refine blk_far ?_ NB443_466.out _; (with_reducible repeat (first | refine blk_drewN ?_ _ | refine blk_drew ?_ | refine blk_alloc ?_ _)); refine blk_far ?_ NB443_466.out _; (with_reducible repeat (first | refine blk_drewN ?_ _ | refine blk_drew ?_ | refine blk_alloc ?_ _)); refine blk_far ?_ NB443_466.out _; (with_reducible repeat (first | refine blk_drewN ?_ _ | refine blk_drew ?_ | refine blk_alloc ?_ _)); exact BK443.out⟩
                have n3_ : Aside0 ((((w137.setCell ⟨gb466, 0, none⟩ (.int .i64 t462)).setCell ⟨gb466, 1, none⟩ (.int .i64 t463)).setCell ⟨gb466, 2, none⟩ (.string t464)).heap[gb466]? = some (.cells #[.int .i64 t462, .int .i64 t463, .string t464] 28 (0, 0))) := ⟨by (with_reducible repeat (first | refine blk_drewN ?_ _ | refine blk_drew ?_ | refine blk_alloc ?_ _)); refine blk_put (cs := #[.int .i64 t462, .int .i64 t463, .string (⟨#[]⟩ : ByteArray)]) ?_ 2 _ rfl; (with_reducible repeat (first | refine blk_drewN ?_ _ | refine blk_drew ?_ | refine blk_alloc ?_ _)); refine blk_put (cs := #[.int .i64 t462, .int .i64 0, .string (⟨#[]⟩ : ByteArray)]) ?_ 1 _ rfl; (with_reducible repeat (first | refine blk_drewN ?_ _ | refine blk_drew ?_ | refine blk_alloc ?_ _)); refine blk_put (cs := #[.int .i64 0, .int .i64 0, .string (⟨#[]⟩ : ByteArray)]) ?_ 0 _ rfl; (with_reducible repeat (first | refine blk_drewN ?_ _ | refine blk_drew ?_ | refine blk_alloc ?_ _)); exact BK466.out⟩
                have n4_ : Aside0 (Below w.heap.size w (((w137.setCell ⟨gb466, 0, none⟩ (.int .i64 t462)).setCell ⟨gb466, 1, none⟩ (.int .i64 t463)).setCell ⟨gb466, 2, none⟩ (.string t464))) := ⟨by repeat (first | (with_reducible first | exact HB.out | apply below_alloc | apply pw_below_drewN | apply below_drew1 | refine below_set ?_ GE425.out | refine below_set ?_ GE426.out | refine below_set ?_ GE443.out | refine below_set ?_ GE466.out) | exact HB.out)⟩
                (try clear BK425)
                (try clear BK426)
                (try clear BK443)
                (try clear BK466)
                (try clear HB)
                generalize (((w137.setCell ⟨gb466, 0, none⟩ (.int .i64 t462)).setCell ⟨gb466, 1, none⟩ (.int .i64 t463)).setCell ⟨gb466, 2, none⟩ (.string t464)) = w145 at n0_ n1_ n2_ n3_ n4_ ⊢
                have BK425 := n0_
                have BK426 := n1_
                have BK443 := n2_
                have BK466 := n3_
                have HB := n4_
                clear n0_ n1_ n2_ n3_ n4_
                (try (rw [drewN_self w145]; generalize hq_ : World.drewN w145 _ = w145; have n0_ : Aside0 (w145.heap[gb425]? = some (.cells #[.int .i64 a1_0, .int .i64 a1_1, .string a1_2] 24 (0, 0))) := ⟨by rw [← hq_]; exact (by (with_reducible repeat (first | refine blk_drewN ?_ _ | refine blk_drew ?_ | refine blk_alloc ?_ _)); exact BK425.out)⟩; have n1_ : Aside0 (w145.heap[gb426]? = some (.cells #[.int .i64 a2_0, .int .i64 a2_1, .string a2_2] 24 (0, 0))) := ⟨by rw [← hq_]; exact (by (with_reducible repeat (first | refine blk_drewN ?_ _ | refine blk_drew ?_ | refine blk_alloc ?_ _)); exact BK426.out)⟩; have n2_ : Aside0 (w145.heap[gb443]? = some (.cells #[.int .i64 x444000_40, .int .i64 x444001_40, .string x444002_40] 24 (0, 0))) := ⟨by rw [← hq_]; exact (by (with_reducible repeat (first | refine blk_drewN ?_ _ | refine blk_drew ?_ | refine blk_alloc ?_ _)); exact BK443.out)⟩; have n3_ : Aside0 (w145.heap[gb466]? = some (.cells #[.int .i64 t462, .int .i64 t463, .string t464] 28 (0, 0))) := ⟨by rw [← hq_]; exact (by (with_reducible repeat (first | refine blk_drewN ?_ _ | refine blk_drew ?_ | refine blk_alloc ?_ _)); exact BK466.out)⟩; have n4_ : Aside0 (Below w.heap.size w w145) := ⟨by rw [← hq_]; exact (by repeat (first | (with_reducible first | exact HB.out | apply below_alloc | apply pw_below_drewN | apply below_drew1 | refine below_set ?_ GE425.out | refine below_set ?_ GE426.out | refine below_set ?_ GE443.out | refine below_set ?_ GE466.out) | exact HB.out))⟩; clear BK425 BK426 BK443 BK466 HB hq_; have BK425 := n0_; have BK426 := n1_; have BK443 := n2_; have BK466 := n3_; have HB := n4_; clear n0_ n1_ n2_ n3_ n4_))
                have n0_ := Aside0.mk (blk_drew BK425.out)
                have n1_ := Aside0.mk (blk_drew BK426.out)
                have n2_ := Aside0.mk (blk_drew BK443.out)
                have n3_ := Aside0.mk (blk_drew BK466.out)
                have n4_ := Aside0.mk (below_drew1 HB.out)
                clear BK425
                clear BK426
                clear BK443
                clear BK466
                clear HB
                have BK425 := n0_
                have BK426 := n1_
                have BK443 := n2_
                have BK466 := n3_
                have HB := n4_
                clear n0_ n1_ n2_ n3_ n4_
                refine start_ (n := 23) (S := fun w' => w'.cell? ⟨gb443, 0, none⟩ = some (.int .i64 x444000_40) ∧ w'.cell? ⟨gb443, 1, none⟩ = some (.int .i64 x444001_40) ∧ w'.cell? ⟨gb443, 2, none⟩ = some (.string x444002_40) ∧ w'.cell? ⟨gb466, 0, none⟩ = some (.int .i64 t462) ∧ w'.cell? ⟨gb466, 1, none⟩ = some (.int .i64 t463) ∧ w'.cell? ⟨gb466, 2, none⟩ = some (.string t464) ∧ w'.cell? ⟨gb425, 0, none⟩ = some (.int .i64 a1_0) ∧ w'.cell? ⟨gb425, 1, none⟩ = some (.int .i64 a1_1) ∧ w'.cell? ⟨gb425, 2, none⟩ = some (.string a1_2) ∧ w'.cell? ⟨gb426, 0, none⟩ = some (.int .i64 a2_0) ∧ w'.cell? ⟨gb426, 1, none⟩ = some (.int .i64 a2_1) ∧ w'.cell? ⟨gb426, 2, none⟩ = some (.string a2_2)) (ds := []) #[false, false, false, false, false, false, false, false, false, false, false, false, false, false, false, false, false, false, false, false, false, false, false] (by kernel_rfl) rfl rfl ⟨(blk_cell BK443.out 0).trans rfl, (blk_cell BK443.out 1).trans rfl, (blk_cell BK443.out 2).trans rfl, (blk_cell BK466.out 0).trans rfl, (blk_cell BK466.out 1).trans rfl, (blk_cell BK466.out 2).trans rfl, (blk_cell BK425.out 0).trans rfl, (blk_cell BK425.out 1).trans rfl, (blk_cell BK425.out 2).trans rfl, (blk_cell BK426.out 0).trans rfl, (blk_cell BK426.out 1).trans rfl, (blk_cell BK426.out 2).trans rfl⟩ (fun hHeld => ?_); refine with_tabW whirligiglaw01_ValReckons.tab19 whirligiglaw01_ValReckons.bits19 (fun HT_ HW_ => ?_)
                generalize w145.drew = w146 at BK425 BK426 BK443 BK466 HB hHeld ⊢
                refine pure_ (i := 0) (N := some 106) (v := ?_) (a' := ?_) #[true, false, false, false, false, false, false, false, false, false, false, false, false, false, false, false, false, false, false, false, false, false, false] rfl rfl (any_of HT_.out (by kernel_rfl)) (fun _ _ _ h => h) (Or.inl ⟨by rfl, ?_⟩) ?_ ?_
                rotate_left
                ·intro w'
                 go_simp
                 with_reducible rfl
                rotate_left
                ·simp only [Act.put, List.setIfInBounds_toArray, List.set_cons_zero, List.set_cons_succ, i64_w, i32_w]
                 rfl
                refine pure_ (i := 1) (N := some 107) (v := ?_) (a' := ?_) #[true, true, false, false, false, false, false, false, false, false, false, false, false, false, false, false, false, false, false, false, false, false, false] rfl rfl (any_of HT_.out (by kernel_rfl)) (fun _ _ _ h => h) (Or.inl ⟨by rfl, ?_⟩) ?_ ?_
                rotate_left
                ·intro w'
                 go_simp
                 with_reducible rfl
                rotate_left
                ·simp only [Act.put, List.setIfInBounds_toArray, List.set_cons_zero, List.set_cons_succ, i64_w, i32_w]
                 rfl
                refine pure_ (i := 2) (N := some 108) (v := ?_) (a' := ?_) #[true, true, true, false, false, false, false, false, false, false, false, false, false, false, false, false, false, false, false, false, false, false, false] rfl rfl (any_of HT_.out (by kernel_rfl)) (fun _ _ _ h => h) (Or.inl ⟨by rfl, ?_⟩) ?_ ?_
                rotate_left
                ·intro w'
                 go_simp
                 with_reducible rfl
                rotate_left
                ·simp only [Act.put, List.setIfInBounds_toArray, List.set_cons_zero, List.set_cons_succ, i64_w, i32_w]
                 rfl
                refine pure_ (i := 3) (N := some 109) (v := ?_) (a' := ?_) #[true, true, true, true, false, false, false, false, false, false, false, false, false, false, false, false, false, false, false, false, false, false, false] rfl rfl (any_of HT_.out (by kernel_rfl)) (fun _ _ _ h => h) (Or.inl ⟨by rfl, ?_⟩) ?_ ?_
                rotate_left
                ·intro w'
                 go_simp
                 with_reducible rfl
                rotate_left
                ·simp only [Act.put, List.setIfInBounds_toArray, List.set_cons_zero, List.set_cons_succ, i64_w, i32_w]
                 rfl
                refine take_ (i := 4) (N := some 110) (v := ?_) (a' := ?_) #[true, true, true, true, true, false, false, false, false, false, false, false, false, false, false, false, false, false, false, false, false, false, false] rfl rfl (take_ofW HT_.out HW_.out (by kernel_rfl)) (fun _ _ _ h => h) (Or.inl ⟨by rfl, ?_⟩) hHeld ?_ ?_
                rotate_left
                ·rintro w' ⟨s0, s1, s2, s3, s4, s5, s6, s7, s8, s9, s10, s11⟩
                 go_simp
                 with_reducible rfl
                rotate_left
                ·simp only [Act.put, List.setIfInBounds_toArray, List.set_cons_zero, List.set_cons_succ, i64_w, i32_w]
                 rfl
                refine take_ (i := 6) (N := some 112) (v := ?_) (a' := ?_) #[true, true, true, true, true, false, true, false, false, false, false, false, false, false, false, false, false, false, false, false, false, false, false] rfl rfl (take_ofW HT_.out HW_.out (by kernel_rfl)) (fun _ _ _ h => h) (Or.inl ⟨by rfl, ?_⟩) hHeld ?_ ?_
                rotate_left
                ·rintro w' ⟨s0, s1, s2, s3, s4, s5, s6, s7, s8, s9, s10, s11⟩
                 go_simp
                 with_reducible rfl
                rotate_left
                ·simp only [Act.put, List.setIfInBounds_toArray, List.set_cons_zero, List.set_cons_succ, i64_w, i32_w]
                 rfl
                refine one_ (i := 5) (N := some 111) #[true, true, true, true, true, true, true, false, false, false, false, false, false, false, false, false, false, false, false, false, false, false, false] rfl rfl (one_of HT_.out (by kernel_rfl)) (by decide) (fun K hK => ?_)
                refine goes_ Tryd.func12 (by kernel_rfl) rfl #[.agg #[.int .i64 x444000_40, .int .i64 x444001_40, .string x444002_40]] (by rfl) rfl rfl (by (try simp only [List.map_toArray, List.map_cons, List.map_nil]); first | done | rfl | (simp only [List.length_drop, List.length_take]; rfl)) ?_
                with_reducible refine (whirligiglaw01_ref.calls x444000_40 x444001_40 x444002_40 t469 t470 t471 _ A98.out).mono ?_
                rintro e w147 ⟨rfl, hb⟩
                refine ⟨_, rfl, ?_⟩
                have n0_ := Aside0.mk (blk_below (g := gb425) (o := .cells #[.int .i64 a1_0, .int .i64 a1_1, .string a1_2] 24 (0, 0)) (by (with_reducible repeat (first | refine blk_drewN ?_ _ | refine blk_drew ?_ | refine blk_alloc ?_ _)); exact BK425.out) hb)
                have n1_ := Aside0.mk (blk_below (g := gb426) (o := .cells #[.int .i64 a2_0, .int .i64 a2_1, .string a2_2] 24 (0, 0)) (by (with_reducible repeat (first | refine blk_drewN ?_ _ | refine blk_drew ?_ | refine blk_alloc ?_ _)); exact BK426.out) hb)
                have n2_ := Aside0.mk (blk_below (g := gb443) (o := .cells #[.int .i64 x444000_40, .int .i64 x444001_40, .string x444002_40] 24 (0, 0)) (by (with_reducible repeat (first | refine blk_drewN ?_ _ | refine blk_drew ?_ | refine blk_alloc ?_ _)); exact BK443.out) hb)
                have n3_ := Aside0.mk (blk_below (g := gb466) (o := .cells #[.int .i64 t462, .int .i64 t463, .string t464] 28 (0, 0)) (by (with_reducible repeat (first | refine blk_drewN ?_ _ | refine blk_drew ?_ | refine blk_alloc ?_ _)); exact BK466.out) hb)
                have n4_ := Aside0.mk (below_step (by repeat (first | (with_reducible first | exact HB.out | apply below_alloc | apply pw_below_drewN | apply below_drew1 | refine below_set ?_ GE425.out | refine below_set ?_ GE426.out | refine below_set ?_ GE443.out | refine below_set ?_ GE466.out) | exact HB.out)) hb)
                clear BK425
                clear BK426
                clear BK443
                clear BK466
                clear HB
                have BK425 := n0_
                have BK426 := n1_
                have BK443 := n2_
                have BK466 := n3_
                have HB := n4_
                clear n0_ n1_ n2_ n3_ n4_
                (try clear hb)
                (try clear hb2)
                (try clear hk)
                (try clear hi)
                refine hK.out _ _ ⟨(blk_cell BK443.out 0).trans rfl, (blk_cell BK443.out 1).trans rfl, (blk_cell BK443.out 2).trans rfl, (blk_cell BK466.out 0).trans rfl, (blk_cell BK466.out 1).trans rfl, (blk_cell BK466.out 2).trans rfl, (blk_cell BK425.out 0).trans rfl, (blk_cell BK425.out 1).trans rfl, (blk_cell BK425.out 2).trans rfl, (blk_cell BK426.out 0).trans rfl, (blk_cell BK426.out 1).trans rfl, (blk_cell BK426.out 2).trans rfl⟩ (fun hHeld => ?_)
                clear hK K
                refine norm_ (a' := ?_) ?_ ?_
                rotate_left
                ·show Act.put _ (some 111) _ = _
                 simp only [Act.put, List.setIfInBounds_toArray, List.set_cons_zero, List.set_cons_succ, i64_w, i32_w]
                 rfl
                refine pure_ (i := 7) (N := some 113) (v := ?_) (a' := ?_) #[true, true, true, true, true, true, true, true, false, false, false, false, false, false, false, false, false, false, false, false, false, false, false] rfl rfl (any_of HT_.out (by kernel_rfl)) (fun _ _ _ h => h) (Or.inl ⟨by rfl, ?_⟩) ?_ ?_
                rotate_left
                ·intro w'
                 go_simp
                 with_reducible rfl
                rotate_left
                ·simp only [Act.put, List.setIfInBounds_toArray, List.set_cons_zero, List.set_cons_succ, i64_w, i32_w]
                 rfl
                refine pure_ (i := 8) (N := some 114) (v := ?_) (a' := ?_) #[true, true, true, true, true, true, true, true, true, false, false, false, false, false, false, false, false, false, false, false, false, false, false] rfl rfl (any_of HT_.out (by kernel_rfl)) (fun _ _ _ h => h) (Or.inl ⟨by rfl, ?_⟩) ?_ ?_
                rotate_left
                ·intro w'
                 go_simp
                 with_reducible rfl
                rotate_left
                ·simp only [Act.put, List.setIfInBounds_toArray, List.set_cons_zero, List.set_cons_succ, i64_w, i32_w]
                 rfl
                refine pure_ (i := 9) (N := some 115) (v := ?_) (a' := ?_) #[true, true, true, true, true, true, true, true, true, true, false, false, false, false, false, false, false, false, false, false, false, false, false] rfl rfl (any_of HT_.out (by kernel_rfl)) (fun _ _ _ h => h) (Or.inl ⟨by rfl, ?_⟩) ?_ ?_
                rotate_left
                ·intro w'
                 go_simp
                 with_reducible rfl
                rotate_left
                ·simp only [Act.put, List.setIfInBounds_toArray, List.set_cons_zero, List.set_cons_succ, i64_w, i32_w]
                 rfl
                refine pure_ (i := 10) (N := some 116) (v := ?_) (a' := ?_) #[true, true, true, true, true, true, true, true, true, true, true, false, false, false, false, false, false, false, false, false, false, false, false] rfl rfl (any_of HT_.out (by kernel_rfl)) (fun _ _ _ h => h) (Or.inl ⟨by rfl, ?_⟩) ?_ ?_
                rotate_left
                ·intro w'
                 go_simp
                 with_reducible rfl
                rotate_left
                ·simp only [Act.put, List.setIfInBounds_toArray, List.set_cons_zero, List.set_cons_succ, i64_w, i32_w]
                 rfl
                refine pure_ (i := 11) (N := some 117) (v := ?_) (a' := ?_) #[true, true, true, true, true, true, true, true, true, true, true, true, false, false, false, false, false, false, false, false, false, false, false] rfl rfl (any_of HT_.out (by kernel_rfl)) (fun _ _ _ h => h) (Or.inl ⟨by rfl, ?_⟩) ?_ ?_
                rotate_left
                ·intro w'
                 go_simp
                 with_reducible rfl
                rotate_left
                ·simp only [Act.put, List.setIfInBounds_toArray, List.set_cons_zero, List.set_cons_succ, i64_w, i32_w]
                 rfl
                refine pure_ (i := 12) (N := some 118) (v := ?_) (a' := ?_) #[true, true, true, true, true, true, true, true, true, true, true, true, true, false, false, false, false, false, false, false, false, false, false] rfl rfl (any_of HT_.out (by kernel_rfl)) (fun _ _ _ h => h) (Or.inl ⟨by rfl, ?_⟩) ?_ ?_
                rotate_left
                ·intro w'
                 go_simp
                 with_reducible rfl
                rotate_left
                ·simp only [Act.put, List.setIfInBounds_toArray, List.set_cons_zero, List.set_cons_succ, i64_w, i32_w]
                 rfl
                refine pure_ (i := 13) (N := some 119) (v := ?_) (a' := ?_) #[true, true, true, true, true, true, true, true, true, true, true, true, true, true, false, false, false, false, false, false, false, false, false] rfl rfl (any_of HT_.out (by kernel_rfl)) (fun _ _ _ h => h) (Or.inl ⟨by rfl, ?_⟩) ?_ ?_
                rotate_left
                ·intro w'
                 go_simp
                 with_reducible rfl
                rotate_left
                ·simp only [Act.put, List.setIfInBounds_toArray, List.set_cons_zero, List.set_cons_succ, i64_w, i32_w]
                 rfl
                refine pure_ (i := 14) (N := some 120) (v := ?_) (a' := ?_) #[true, true, true, true, true, true, true, true, true, true, true, true, true, true, true, false, false, false, false, false, false, false, false] rfl rfl (any_of HT_.out (by kernel_rfl)) (fun _ _ _ h => h) (Or.inl ⟨by rfl, ?_⟩) ?_ ?_
                rotate_left
                ·intro w'
                 go_simp
                 with_reducible rfl
                rotate_left
                ·simp only [Act.put, List.setIfInBounds_toArray, List.set_cons_zero, List.set_cons_succ, i64_w, i32_w]
                 rfl
                refine pure_ (i := 15) (N := some 121) (v := ?_) (a' := ?_) #[true, true, true, true, true, true, true, true, true, true, true, true, true, true, true, true, false, false, false, false, false, false, false] rfl rfl (any_of HT_.out (by kernel_rfl)) (fun _ _ _ h => h) (Or.inl ⟨by rfl, ?_⟩) ?_ ?_
                rotate_left
                ·intro w'
                 go_simp
                 with_reducible rfl
                rotate_left
                ·simp only [Act.put, List.setIfInBounds_toArray, List.set_cons_zero, List.set_cons_succ, i64_w, i32_w]
                 rfl
                refine pure_ (i := 16) (N := some 122) (v := ?_) (a' := ?_) #[true, true, true, true, true, true, true, true, true, true, true, true, true, true, true, true, true, false, false, false, false, false, false] rfl rfl (any_of HT_.out (by kernel_rfl)) (fun _ _ _ h => h) (Or.inl ⟨by rfl, ?_⟩) ?_ ?_
                rotate_left
                ·intro w'
                 go_simp
                 with_reducible rfl
                rotate_left
                ·simp only [Act.put, List.setIfInBounds_toArray, List.set_cons_zero, List.set_cons_succ, i64_w, i32_w]
                 rfl
                refine pure_ (i := 18) (N := some 124) (v := ?_) (a' := ?_) #[true, true, true, true, true, true, true, true, true, true, true, true, true, true, true, true, true, false, true, false, false, false, false] rfl rfl (any_of HT_.out (by kernel_rfl)) (fun _ _ _ h => h) (Or.inl ⟨by rfl, ?_⟩) ?_ ?_
                rotate_left
                ·intro w'
                 go_simp
                 with_reducible rfl
                rotate_left
                ·simp only [Act.put, List.setIfInBounds_toArray, List.set_cons_zero, List.set_cons_succ, i64_w, i32_w]
                 rfl
                refine take_ (i := 17) (N := some 123) (v := ?_) (a' := ?_) #[true, true, true, true, true, true, true, true, true, true, true, true, true, true, true, true, true, true, true, false, false, false, false] rfl rfl (take_ofW HT_.out HW_.out (by kernel_rfl)) (fun _ _ _ h => h) (Or.inl ⟨by rfl, ?_⟩) hHeld ?_ ?_
                rotate_left
                ·rintro w' ⟨s0, s1, s2, s3, s4, s5, s6, s7, s8, s9, s10, s11⟩
                 go_simp
                 with_reducible rfl
                rotate_left
                ·simp only [Act.put, List.setIfInBounds_toArray, List.set_cons_zero, List.set_cons_succ, i64_w, i32_w]
                 rfl
                refine take_ (i := 19) (N := some 125) (v := ?_) (a' := ?_) #[true, true, true, true, true, true, true, true, true, true, true, true, true, true, true, true, true, true, true, true, false, false, false] rfl rfl (take_ofW HT_.out HW_.out (by kernel_rfl)) (fun _ _ _ h => h) (Or.inl ⟨by rfl, ?_⟩) hHeld ?_ ?_
                rotate_left
                ·rintro w' ⟨s0, s1, s2, s3, s4, s5, s6, s7, s8, s9, s10, s11⟩
                 go_simp
                 with_reducible rfl
                rotate_left
                ·simp only [Act.put, List.setIfInBounds_toArray, List.set_cons_zero, List.set_cons_succ, i64_w, i32_w]
                 rfl
                refine one_ (i := 20) (N := some 126) #[true, true, true, true, true, true, true, true, true, true, true, true, true, true, true, true, true, true, true, true, true, false, false] rfl rfl (one_of HT_.out (by kernel_rfl)) (by decide) (fun K hK => ?_)
                refine goes_ Tryd.func21 (by kernel_rfl) rfl #[.int .i64 a0, .int .i64 a1_0, .int .i64 a2_0] (by rfl) rfl rfl (by (try simp only [List.map_toArray, List.map_cons, List.map_nil]); first | done | rfl | (simp only [List.length_drop, List.length_take]; rfl)) ?_
                with_reducible refine (whirligigref01_Result.calls kj40 a0 a1_0 a2_0 t472 _ A122.out).mono ?_
                rintro e w' ⟨rfl, ⟨nd, rfl⟩⟩
                refine ⟨_, rfl, ?_⟩
                refine hK.out _ _ ⟨(blk_cell BK443.out 0).trans rfl, (blk_cell BK443.out 1).trans rfl, (blk_cell BK443.out 2).trans rfl, (blk_cell BK466.out 0).trans rfl, (blk_cell BK466.out 1).trans rfl, (blk_cell BK466.out 2).trans rfl, (blk_cell BK425.out 0).trans rfl, (blk_cell BK425.out 1).trans rfl, (blk_cell BK425.out 2).trans rfl, (blk_cell BK426.out 0).trans rfl, (blk_cell BK426.out 1).trans rfl, (blk_cell BK426.out 2).trans rfl⟩ (fun hHeld => ?_)
                clear hK K
                refine norm_ (a' := ?_) ?_ ?_
                rotate_left
                ·show Act.put _ (some 126) _ = _
                 simp only [Act.put, List.setIfInBounds_toArray, List.set_cons_zero, List.set_cons_succ, i64_w, i32_w]
                 rfl
                refine pure_ (i := 21) (N := some 127) (v := ?_) (a' := ?_) #[true, true, true, true, true, true, true, true, true, true, true, true, true, true, true, true, true, true, true, true, true, true, false] rfl rfl (any_of HT_.out (by kernel_rfl)) (fun _ _ _ h => h) (Or.inl ⟨by rfl, ?_⟩) ?_ ?_
                rotate_left
                ·intro w'
                 go_simp
                 with_reducible rfl
                rotate_left
                ·simp only [Act.put, List.setIfInBounds_toArray, List.set_cons_zero, List.set_cons_succ, i64_w, i32_w]
                 rfl
                refine pure_ (i := 22) (N := some 128) (v := ?_) (a' := ?_) #[true, true, true, true, true, true, true, true, true, true, true, true, true, true, true, true, true, true, true, true, true, true, true] rfl rfl (any_of HT_.out (by kernel_rfl)) (fun _ _ _ h => h) (Or.inl ⟨by rfl, ?_⟩) ?_ ?_
                rotate_left
                ·intro w'
                 go_simp
                 with_reducible rfl
                rotate_left
                ·simp only [Act.put, List.setIfInBounds_toArray, List.set_cons_zero, List.set_cons_succ, i64_w, i32_w]
                 rfl
                refine done_ (done_of HT_.out (by kernel_rfl)) ?_
                have hnb148 := NB443_466.out
                have hnc148 := NB466_443.out
                have hcz149_0 : w147.cell? ⟨gb443, 0, none⟩ = some (.int .i64 x444000_40) := (blk_cell BK443.out 0).trans rfl
                have hcz149_1 : w147.cell? ⟨gb443, 1, none⟩ = some (.int .i64 x444001_40) := (blk_cell BK443.out 1).trans rfl
                have hcz149_2 : w147.cell? ⟨gb443, 2, none⟩ = some (.string x444002_40) := (blk_cell BK443.out 2).trans rfl
                have hfz149_0 := blk_frozen BK443.out 0
                have hfz149_1 := blk_frozen BK443.out 1
                have hfz149_2 := blk_frozen BK443.out 2
                try go_wp2_with (first | (go_at_call 14; (with_reducible refine (val_Right_all.calls x444000_40 x444001_40 x444002_40 true _ A125.out).mono ?_); rintro e w150 ⟨rfl, hb⟩; have n0_ := Aside0.mk (blk_below (g := gb425) (o := .cells #[.int .i64 a1_0, .int .i64 a1_1, .string a1_2] 24 (0, 0)) (by (with_reducible repeat (first | refine blk_drewN ?_ _ | refine blk_drew ?_ | refine blk_alloc ?_ _)); exact BK425.out) hb); have n1_ := Aside0.mk (blk_below (g := gb426) (o := .cells #[.int .i64 a2_0, .int .i64 a2_1, .string a2_2] 24 (0, 0)) (by (with_reducible repeat (first | refine blk_drewN ?_ _ | refine blk_drew ?_ | refine blk_alloc ?_ _)); exact BK426.out) hb); have n2_ := Aside0.mk (blk_below (g := gb443) (o := .cells #[.int .i64 x444000_40, .int .i64 x444001_40, .string x444002_40] 24 (0, 0)) (by (with_reducible repeat (first | refine blk_drewN ?_ _ | refine blk_drew ?_ | refine blk_alloc ?_ _)); exact BK443.out) hb); have n3_ := Aside0.mk (blk_below (g := gb466) (o := .cells #[.int .i64 t462, .int .i64 t463, .string t464] 28 (0, 0)) (by (with_reducible repeat (first | refine blk_drewN ?_ _ | refine blk_drew ?_ | refine blk_alloc ?_ _)); exact BK466.out) hb); have n4_ := Aside0.mk (below_step (by repeat (first | (with_reducible first | exact HB.out | apply below_alloc | apply pw_below_drewN | apply below_drew1 | refine below_set ?_ GE425.out | refine below_set ?_ GE426.out | refine below_set ?_ GE443.out | refine below_set ?_ GE466.out) | exact HB.out)) hb); clear BK425; clear BK426; clear BK443; clear BK466; clear HB; have BK425 := n0_; have BK426 := n1_; have BK443 := n2_; have BK466 := n3_; have HB := n4_; clear n0_ n1_ n2_ n3_ n4_; (try clear hb); (try clear hb2); (try clear hk); (try clear hi); have hcz151_0 : w150.cell? ⟨gb443, 0, none⟩ = some (.int .i64 x444000_40) := (blk_cell BK443.out 0).trans rfl; have hcz151_1 : w150.cell? ⟨gb443, 1, none⟩ = some (.int .i64 x444001_40) := (blk_cell BK443.out 1).trans rfl; have hcz151_2 : w150.cell? ⟨gb443, 2, none⟩ = some (.string x444002_40) := (blk_cell BK443.out 2).trans rfl; have hfz151_0 := blk_frozen BK443.out 0; have hfz151_1 := blk_frozen BK443.out 1; have hfz151_2 := blk_frozen BK443.out 2))
                go_ret
                exact ⟨by first | rfl | (simp [errW_none, errW_some] <;> rfl) | (simp [*, errW_none, errW_some] <;> rfl), by repeat (first | (with_reducible first | exact HB.out | apply below_alloc | apply pw_below_drewN | apply below_drew1 | refine below_set ?_ GE425.out | refine below_set ?_ GE426.out | refine below_set ?_ GE443.out | refine below_set ?_ GE466.out) | exact HB.out)⟩
               ·replace c126 := Bool.eq_false_iff.mpr c126
                subst c126
                have H1 : (some false) = some r := by rw [if_neg (show ¬ (false = true) by decide)] at H; exact H
                clear H
                have H := H1
                clear H1
                obtain rfl := Option.some.inj H
                exact absurd hr_ (by decide)
              ·rw [if_neg c124] at H
               have c124b0 : (t465 == 0) = false := beq_eq_false_iff_ne.mpr c124
               have c124b1 : (t465 != 0) = true := bne_iff_ne.mpr c124
               obtain rfl := Option.some.inj H
               have hnb176 := NB425_426.out
               have hnc176 := NB426_425.out
               have hnb177 := NB425_443.out
               have hnc177 := NB443_425.out
               have hcz178_0 : wc.cell? ⟨gb425, 0, none⟩ = some (.int .i64 a1_0) := (blk_cell BK425.out 0).trans rfl
               have hcz178_1 : wc.cell? ⟨gb425, 1, none⟩ = some (.int .i64 a1_1) := (blk_cell BK425.out 1).trans rfl
               have hcz178_2 : wc.cell? ⟨gb425, 2, none⟩ = some (.string a1_2) := (blk_cell BK425.out 2).trans rfl
               have hfz178_0 := blk_frozen BK425.out 0
               have hfz178_1 := blk_frozen BK425.out 1
               have hfz178_2 := blk_frozen BK425.out 2
               have hnb179 := NB426_443.out
               have hnc179 := NB443_426.out
               have hcz180_0 : wc.cell? ⟨gb426, 0, none⟩ = some (.int .i64 a2_0) := (blk_cell BK426.out 0).trans rfl
               have hcz180_1 : wc.cell? ⟨gb426, 1, none⟩ = some (.int .i64 a2_1) := (blk_cell BK426.out 1).trans rfl
               have hcz180_2 : wc.cell? ⟨gb426, 2, none⟩ = some (.string a2_2) := (blk_cell BK426.out 2).trans rfl
               have hfz180_0 := blk_frozen BK426.out 0
               have hfz180_1 := blk_frozen BK426.out 1
               have hfz180_2 := blk_frozen BK426.out 2
               try go_wp2_with (first | ((with_reducible refine gate_callee (f := 21) rfl ?_); refine goesL_ (some 65) rfl rfl Tryd.func21 (by kernel_rfl) rfl #[.int .i64 a0, .int .i64 a1_0, .int .i64 a2_0] rfl (by (try simp only [List.map_toArray, List.map_cons, List.map_nil]); first | done | rfl | (simp only [List.length_drop, List.length_take]; rfl)) ?_; (with_reducible refine (whirligigref01_Result.calls kj40 a0 a1_0 a2_0 t453 _ A71.out).mono ?_); rintro e w' ⟨rfl, ⟨nd, rfl⟩⟩; refine ⟨_, rfl, ?_⟩; (try (rw [drewN_self wc]; generalize hq_ : World.drewN wc _ = wc; have n0_ : Aside0 (wc.heap[gb425]? = some (.cells #[.int .i64 a1_0, .int .i64 a1_1, .string a1_2] 24 (0, 0))) := ⟨by rw [← hq_]; exact (by (with_reducible repeat (first | refine blk_drewN ?_ _ | refine blk_drew ?_ | refine blk_alloc ?_ _)); exact BK425.out)⟩; have n1_ : Aside0 (wc.heap[gb426]? = some (.cells #[.int .i64 a2_0, .int .i64 a2_1, .string a2_2] 24 (0, 0))) := ⟨by rw [← hq_]; exact (by (with_reducible repeat (first | refine blk_drewN ?_ _ | refine blk_drew ?_ | refine blk_alloc ?_ _)); exact BK426.out)⟩; have n2_ : Aside0 (wc.heap[gb443]? = some (.cells #[.int .i64 x444000_40, .int .i64 x444001_40, .string x444002_40] 24 (0, 0))) := ⟨by rw [← hq_]; exact (by (with_reducible repeat (first | refine blk_drewN ?_ _ | refine blk_drew ?_ | refine blk_alloc ?_ _)); exact BK443.out)⟩; have n3_ : Aside0 (Below w.heap.size w wc) := ⟨by rw [← hq_]; exact (by repeat (first | (with_reducible first | exact HB.out | apply below_alloc | apply pw_below_drewN | apply below_drew1 | refine below_set ?_ GE425.out | refine below_set ?_ GE426.out | refine below_set ?_ GE443.out) | exact HB.out))⟩; clear BK425 BK426 BK443 HB hq_; have BK425 := n0_; have BK426 := n1_; have BK443 := n2_; have HB := n3_; clear n0_ n1_ n2_ n3_))))
               have n0_ := Aside0.mk (blk_drew BK425.out)
               have n1_ := Aside0.mk (blk_drew BK426.out)
               have n2_ := Aside0.mk (blk_drew BK443.out)
               have n3_ := Aside0.mk (below_drew1 HB.out)
               clear BK425
               clear BK426
               clear BK443
               clear HB
               have BK425 := n0_
               have BK426 := n1_
               have BK443 := n2_
               have HB := n3_
               clear n0_ n1_ n2_ n3_
               refine start_ (n := 12) (S := fun w' => w'.cell? ⟨gb425, 0, none⟩ = some (.int .i64 a1_0) ∧ w'.cell? ⟨gb425, 1, none⟩ = some (.int .i64 a1_1) ∧ w'.cell? ⟨gb425, 2, none⟩ = some (.string a1_2) ∧ w'.cell? ⟨gb426, 0, none⟩ = some (.int .i64 a2_0) ∧ w'.cell? ⟨gb426, 1, none⟩ = some (.int .i64 a2_1) ∧ w'.cell? ⟨gb426, 2, none⟩ = some (.string a2_2)) (ds := []) #[false, false, false, false, false, false, false, false, false, false, false, false] (by kernel_rfl) rfl rfl ⟨(blk_cell BK425.out 0).trans rfl, (blk_cell BK425.out 1).trans rfl, (blk_cell BK425.out 2).trans rfl, (blk_cell BK426.out 0).trans rfl, (blk_cell BK426.out 1).trans rfl, (blk_cell BK426.out 2).trans rfl⟩ (fun hHeld => ?_); refine with_tabW whirligiglaw01_ValReckons.tab17 whirligiglaw01_ValReckons.bits17 (fun HT_ HW_ => ?_)
               generalize wc.drew = w181 at BK425 BK426 BK443 HB hHeld ⊢
               refine pure_ (i := 0) (N := some 89) (v := ?_) (a' := ?_) #[true, false, false, false, false, false, false, false, false, false, false, false] rfl rfl (any_of HT_.out (by kernel_rfl)) (fun _ _ _ h => h) (Or.inl ⟨by rfl, ?_⟩) ?_ ?_
               rotate_left
               ·intro w'
                go_simp
                with_reducible rfl
               rotate_left
               ·simp only [Act.put, List.setIfInBounds_toArray, List.set_cons_zero, List.set_cons_succ, i64_w, i32_w]
                rfl
               refine take_ (i := 1) (N := some 90) (v := ?_) (a' := ?_) #[true, true, false, false, false, false, false, false, false, false, false, false] rfl rfl (take_ofW HT_.out HW_.out (by kernel_rfl)) (fun _ _ _ h => h) (Or.inl ⟨by rfl, ?_⟩) hHeld ?_ ?_
               rotate_left
               ·rintro w' ⟨s0, s1, s2, s3, s4, s5⟩
                go_simp
                with_reducible rfl
               rotate_left
               ·simp only [Act.put, List.setIfInBounds_toArray, List.set_cons_zero, List.set_cons_succ, i64_w, i32_w]
                rfl
               refine take_ (i := 3) (N := some 92) (v := ?_) (a' := ?_) #[true, true, false, true, false, false, false, false, false, false, false, false] rfl rfl (take_ofW HT_.out HW_.out (by kernel_rfl)) (fun _ _ _ h => h) (Or.inl ⟨by rfl, ?_⟩) hHeld ?_ ?_
               rotate_left
               ·rintro w' ⟨s0, s1, s2, s3, s4, s5⟩
                go_simp
                with_reducible rfl
               rotate_left
               ·simp only [Act.put, List.setIfInBounds_toArray, List.set_cons_zero, List.set_cons_succ, i64_w, i32_w]
                rfl
               refine join_ (σ := Nat) 2 #[true, true, true, true, true, true, true, true, true, true, false, false] (fun s_ => [(91, .agg #[.int .i64 t456, .int .i64 t457, .string t458]), (93, .agg #[.int .i64 t459, .int .i64 t460, .string t461]), (94, .tuple #[.agg #[.int .i64 t462, .int .i64 t463, .string t464], .int .i64 t465]), (14, .pointer (some ⟨s_, 0, none⟩)), (88, .tuple #[.agg #[.int .i64 t462, .int .i64 t463, .string t464], .int .i64 t465]), (95, .agg #[.int .i64 t462, .int .i64 t463, .string t464]), (96, .int .i64 t465)]) (fun s_ w' => (w'.cell? ⟨gb425, 0, none⟩ = some (.int .i64 a1_0) ∧ w'.cell? ⟨gb425, 1, none⟩ = some (.int .i64 a1_1) ∧ w'.cell? ⟨gb425, 2, none⟩ = some (.string a1_2) ∧ w'.cell? ⟨gb426, 0, none⟩ = some (.int .i64 a2_0) ∧ w'.cell? ⟨gb426, 1, none⟩ = some (.int .i64 a2_1) ∧ w'.cell? ⟨gb426, 2, none⟩ = some (.string a2_2)) ∧ (w'.heap[gb425]? = some (.cells #[.int .i64 a1_0, .int .i64 a1_1, .string a1_2] 24 (0, 0))) ∧ (w'.heap[gb426]? = some (.cells #[.int .i64 a2_0, .int .i64 a2_1, .string a2_2] 24 (0, 0))) ∧ (w'.heap[gb443]? = some (.cells #[.int .i64 x444000_40, .int .i64 x444001_40, .string x444002_40] 24 (0, 0))) ∧ (w'.heap[s_]? = some (.cells #[.int .i64 0, .int .i64 0, .string (⟨#[]⟩ : ByteArray)] 28 (0, 0))) ∧ (w.heap.size ≤ s_) ∧ (w.heap.size ≤ s_) ∧ (gb425 ≠ s_) ∧ (s_ ≠ gb425) ∧ (gb426 ≠ s_) ∧ (s_ ≠ gb426) ∧ (gb443 ≠ s_) ∧ (s_ ≠ gb443) ∧ (Below w.heap.size w w')) ?_ ?_
               rotate_left
               ·intro hCont
                refine two_ (i := 2) (j := 9) (Ni := some 91) (Nj := some 14) #[true, true, true, true, false, false, false, false, false, false, false, false] #[true, true, false, true, false, false, false, false, false, true, false, false] rfl rfl rfl rfl (two_of HT_.out (by kernel_rfl)) (by decide) (by decide) (fun K hK => ?_) (fun K hK => ?_)
                ·skip
                 refine goes_ Tryd.func12 (by kernel_rfl) rfl #[.agg #[.int .i64 a1_0, .int .i64 a1_1, .string a1_2]] (by rfl) rfl rfl (by (try simp only [List.map_toArray, List.map_cons, List.map_nil]); first | done | rfl | (simp only [List.length_drop, List.length_take]; rfl)) ?_
                 with_reducible refine (whirligiglaw01_ref.calls a1_0 a1_1 a1_2 t456 t457 t458 _ A93.out).mono ?_
                 rintro e w182 ⟨rfl, hb⟩
                 refine ⟨_, rfl, ?_⟩
                 have n0_ := Aside0.mk (blk_below (g := gb425) (o := .cells #[.int .i64 a1_0, .int .i64 a1_1, .string a1_2] 24 (0, 0)) (by (with_reducible repeat (first | refine blk_drewN ?_ _ | refine blk_drew ?_ | refine blk_alloc ?_ _)); exact BK425.out) hb)
                 have n1_ := Aside0.mk (blk_below (g := gb426) (o := .cells #[.int .i64 a2_0, .int .i64 a2_1, .string a2_2] 24 (0, 0)) (by (with_reducible repeat (first | refine blk_drewN ?_ _ | refine blk_drew ?_ | refine blk_alloc ?_ _)); exact BK426.out) hb)
                 have n2_ := Aside0.mk (blk_below (g := gb443) (o := .cells #[.int .i64 x444000_40, .int .i64 x444001_40, .string x444002_40] 24 (0, 0)) (by (with_reducible repeat (first | refine blk_drewN ?_ _ | refine blk_drew ?_ | refine blk_alloc ?_ _)); exact BK443.out) hb)
                 have n3_ := Aside0.mk (below_step (by repeat (first | (with_reducible first | exact HB.out | apply below_alloc | apply pw_below_drewN | apply below_drew1 | refine below_set ?_ GE425.out | refine below_set ?_ GE426.out | refine below_set ?_ GE443.out) | exact HB.out)) hb)
                 clear BK425
                 clear BK426
                 clear BK443
                 clear HB
                 have BK425 := n0_
                 have BK426 := n1_
                 have BK443 := n2_
                 have HB := n3_
                 clear n0_ n1_ n2_ n3_
                 (try clear hb)
                 (try clear hb2)
                 (try clear hk)
                 (try clear hi)
                 refine hK.out _ _ ⟨(blk_cell BK425.out 0).trans rfl, (blk_cell BK425.out 1).trans rfl, (blk_cell BK425.out 2).trans rfl, (blk_cell BK426.out 0).trans rfl, (blk_cell BK426.out 1).trans rfl, (blk_cell BK426.out 2).trans rfl⟩ (fun hHeld => ?_)
                 clear hK K
                 refine norm_ (a' := ?_) ?_ ?_
                 rotate_left
                 ·show Act.put _ (some 91) _ = _
                  simp only [Act.put, List.setIfInBounds_toArray, List.set_cons_zero, List.set_cons_succ, i64_w, i32_w]
                  rfl
                 refine two_ (i := 4) (j := 9) (Ni := some 93) (Nj := some 14) #[true, true, true, true, true, false, false, false, false, false, false, false] #[true, true, true, true, false, false, false, false, false, true, false, false] rfl rfl rfl rfl (two_of HT_.out (by kernel_rfl)) (by decide) (by decide) (fun K hK => ?_) (fun K hK => ?_)
                 ·skip
                  refine goes_ Tryd.func12 (by kernel_rfl) rfl #[.agg #[.int .i64 a2_0, .int .i64 a2_1, .string a2_2]] (by rfl) rfl rfl (by (try simp only [List.map_toArray, List.map_cons, List.map_nil]); first | done | rfl | (simp only [List.length_drop, List.length_take]; rfl)) ?_
                  with_reducible refine (whirligiglaw01_ref.calls a2_0 a2_1 a2_2 t459 t460 t461 _ A94.out).mono ?_
                  rintro e w183 ⟨rfl, hb⟩
                  refine ⟨_, rfl, ?_⟩
                  have n0_ := Aside0.mk (blk_below (g := gb425) (o := .cells #[.int .i64 a1_0, .int .i64 a1_1, .string a1_2] 24 (0, 0)) (by (with_reducible repeat (first | refine blk_drewN ?_ _ | refine blk_drew ?_ | refine blk_alloc ?_ _)); exact BK425.out) hb)
                  have n1_ := Aside0.mk (blk_below (g := gb426) (o := .cells #[.int .i64 a2_0, .int .i64 a2_1, .string a2_2] 24 (0, 0)) (by (with_reducible repeat (first | refine blk_drewN ?_ _ | refine blk_drew ?_ | refine blk_alloc ?_ _)); exact BK426.out) hb)
                  have n2_ := Aside0.mk (blk_below (g := gb443) (o := .cells #[.int .i64 x444000_40, .int .i64 x444001_40, .string x444002_40] 24 (0, 0)) (by (with_reducible repeat (first | refine blk_drewN ?_ _ | refine blk_drew ?_ | refine blk_alloc ?_ _)); exact BK443.out) hb)
                  have n3_ := Aside0.mk (below_step (by repeat (first | (with_reducible first | exact HB.out | apply below_alloc | apply pw_below_drewN | apply below_drew1 | refine below_set ?_ GE425.out | refine below_set ?_ GE426.out | refine below_set ?_ GE443.out) | exact HB.out)) hb)
                  clear BK425
                  clear BK426
                  clear BK443
                  clear HB
                  have BK425 := n0_
                  have BK426 := n1_
                  have BK443 := n2_
                  have HB := n3_
                  clear n0_ n1_ n2_ n3_
                  (try clear hb)
                  (try clear hb2)
                  (try clear hk)
                  (try clear hi)
                  refine hK.out _ _ ⟨(blk_cell BK425.out 0).trans rfl, (blk_cell BK425.out 1).trans rfl, (blk_cell BK425.out 2).trans rfl, (blk_cell BK426.out 0).trans rfl, (blk_cell BK426.out 1).trans rfl, (blk_cell BK426.out 2).trans rfl⟩ (fun hHeld => ?_)
                  clear hK K
                  refine norm_ (a' := ?_) ?_ ?_
                  rotate_left
                  ·show Act.put _ (some 93) _ = _
                   simp only [Act.put, List.setIfInBounds_toArray, List.set_cons_zero, List.set_cons_succ, i64_w, i32_w]
                   rfl
                  refine two_ (i := 5) (j := 9) (Ni := some 94) (Nj := some 14) #[true, true, true, true, true, true, false, false, false, false, false, false] #[true, true, true, true, true, false, false, false, false, true, false, false] rfl rfl rfl rfl (two_of HT_.out (by kernel_rfl)) (by decide) (by decide) (fun K hK => ?_) (fun K hK => ?_)
                  ·skip
                   refine goes_ Tryd.func23 (by kernel_rfl) rfl #[.int .i64 a0, .agg #[.int .i64 t456, .int .i64 t457, .string t458], .agg #[.int .i64 t459, .int .i64 t460, .string t461]] (by rfl) rfl rfl (by (try simp only [List.map_toArray, List.map_cons, List.map_nil]); first | done | rfl | (simp only [List.length_drop, List.length_take]; rfl)) ?_
                   with_reducible refine (whirligigref01_Reckon.calls kj40 a0 t456 t457 t458 t459 t460 t461 t462 t463 t464 t465 _ A95.out).mono ?_
                   rintro e w184 ⟨rfl, hb⟩
                   refine ⟨_, rfl, ?_⟩
                   have n0_ := Aside0.mk (blk_below (g := gb425) (o := .cells #[.int .i64 a1_0, .int .i64 a1_1, .string a1_2] 24 (0, 0)) (by (with_reducible repeat (first | refine blk_drewN ?_ _ | refine blk_drew ?_ | refine blk_alloc ?_ _)); exact BK425.out) hb)
                   have n1_ := Aside0.mk (blk_below (g := gb426) (o := .cells #[.int .i64 a2_0, .int .i64 a2_1, .string a2_2] 24 (0, 0)) (by (with_reducible repeat (first | refine blk_drewN ?_ _ | refine blk_drew ?_ | refine blk_alloc ?_ _)); exact BK426.out) hb)
                   have n2_ := Aside0.mk (blk_below (g := gb443) (o := .cells #[.int .i64 x444000_40, .int .i64 x444001_40, .string x444002_40] 24 (0, 0)) (by (with_reducible repeat (first | refine blk_drewN ?_ _ | refine blk_drew ?_ | refine blk_alloc ?_ _)); exact BK443.out) hb)
                   have n3_ := Aside0.mk (below_step (by repeat (first | (with_reducible first | exact HB.out | apply below_alloc | apply pw_below_drewN | apply below_drew1 | refine below_set ?_ GE425.out | refine below_set ?_ GE426.out | refine below_set ?_ GE443.out) | exact HB.out)) hb)
                   clear BK425
                   clear BK426
                   clear BK443
                   clear HB
                   have BK425 := n0_
                   have BK426 := n1_
                   have BK443 := n2_
                   have HB := n3_
                   clear n0_ n1_ n2_ n3_
                   (try clear hb)
                   (try clear hb2)
                   (try clear hk)
                   (try clear hi)
                   refine hK.out _ _ ⟨(blk_cell BK425.out 0).trans rfl, (blk_cell BK425.out 1).trans rfl, (blk_cell BK425.out 2).trans rfl, (blk_cell BK426.out 0).trans rfl, (blk_cell BK426.out 1).trans rfl, (blk_cell BK426.out 2).trans rfl⟩ (fun hHeld => ?_)
                   clear hK K
                   refine norm_ (a' := ?_) ?_ ?_
                   rotate_left
                   ·show Act.put _ (some 94) _ = _
                    simp only [Act.put, List.setIfInBounds_toArray, List.set_cons_zero, List.set_cons_succ, i64_w, i32_w]
                    rfl
                   refine pure_ (i := 6) (N := some 88) (v := ?_) (a' := ?_) #[true, true, true, true, true, true, true, false, false, false, false, false] rfl rfl (any_of HT_.out (by kernel_rfl)) (fun _ _ _ h => h) (Or.inl ⟨by rfl, ?_⟩) ?_ ?_
                   rotate_left
                   ·intro w'
                    go_simp
                    with_reducible rfl
                   rotate_left
                   ·simp only [Act.put, List.setIfInBounds_toArray, List.set_cons_zero, List.set_cons_succ, i64_w, i32_w]
                    rfl
                   refine pure_ (i := 7) (N := some 95) (v := ?_) (a' := ?_) #[true, true, true, true, true, true, true, true, false, false, false, false] rfl rfl (any_of HT_.out (by kernel_rfl)) (fun _ _ _ h => h) (Or.inl ⟨by rfl, ?_⟩) ?_ ?_
                   rotate_left
                   ·intro w'
                    go_simp
                    with_reducible rfl
                   rotate_left
                   ·simp only [Act.put, List.setIfInBounds_toArray, List.set_cons_zero, List.set_cons_succ, i64_w, i32_w]
                    rfl
                   refine pure_ (i := 8) (N := some 96) (v := ?_) (a' := ?_) #[true, true, true, true, true, true, true, true, true, false, false, false] rfl rfl (any_of HT_.out (by kernel_rfl)) (fun _ _ _ h => h) (Or.inl ⟨by rfl, ?_⟩) ?_ ?_
                   rotate_left
                   ·intro w'
                    go_simp
                    with_reducible rfl
                   rotate_left
                   ·simp only [Act.put, List.setIfInBounds_toArray, List.set_cons_zero, List.set_cons_succ, i64_w, i32_w]
                    rfl
                   refine one_ (i := 9) (N := some 14) #[true, true, true, true, true, true, true, true, true, true, false, false] rfl rfl (one_of HT_.out (by kernel_rfl)) (by decide) (fun K hK => ?_)
                   refine box_step ?hg (N := 14) ?hd (cs := #[.int .i64 0, .int .i64 0, .string (⟨#[]⟩ : ByteArray)]) (t := 28) ?hr ?_; (case hd => rfl); (case hg => rfl); (case hr => first | (go_simp; done) | (go_simp; rfl))
                   intro gb466 hg w185 hbox hb
                   have n0_ := Aside0.mk (blk_below (g := gb425) (o := .cells #[.int .i64 a1_0, .int .i64 a1_1, .string a1_2] 24 (0, 0)) (by (with_reducible repeat (first | refine blk_drewN ?_ _ | refine blk_drew ?_ | refine blk_alloc ?_ _)); exact BK425.out) hb)
                   have n1_ := Aside0.mk (blk_below (g := gb426) (o := .cells #[.int .i64 a2_0, .int .i64 a2_1, .string a2_2] 24 (0, 0)) (by (with_reducible repeat (first | refine blk_drewN ?_ _ | refine blk_drew ?_ | refine blk_alloc ?_ _)); exact BK426.out) hb)
                   have n2_ := Aside0.mk (blk_below (g := gb443) (o := .cells #[.int .i64 x444000_40, .int .i64 x444001_40, .string x444002_40] 24 (0, 0)) (by (with_reducible repeat (first | refine blk_drewN ?_ _ | refine blk_drew ?_ | refine blk_alloc ?_ _)); exact BK443.out) hb)
                   have n3_ := Aside0.mk (below_step (by repeat (first | (with_reducible first | exact HB.out | apply below_alloc | apply pw_below_drewN | apply below_drew1 | refine below_set ?_ GE425.out | refine below_set ?_ GE426.out | refine below_set ?_ GE443.out) | exact HB.out)) hb)
                   have n4_ := Aside0.mk (hbox)
                   have n5_ := Aside0.mk ((by rw [hg]; exact (below_size (by repeat (first | (with_reducible first | exact HB.out | apply below_alloc | apply pw_below_drewN | apply below_drew1 | refine below_set ?_ GE425.out | refine below_set ?_ GE426.out | refine below_set ?_ GE443.out) | exact HB.out))) : w.heap.size ≤ gb466))
                   have n6_ := Aside0.mk ((by rw [hg]; exact (below_size (by repeat (first | (with_reducible first | exact HB.out | apply below_alloc | apply pw_below_drewN | apply below_drew1 | refine below_set ?_ GE425.out | refine below_set ?_ GE426.out | refine below_set ?_ GE443.out) | exact HB.out))) : w.heap.size ≤ gb466))
                   have n7_ := Aside0.mk ((by rw [hg]; exact Nat.ne_of_lt (blk_lt (g := gb425) (o := .cells #[.int .i64 a1_0, .int .i64 a1_1, .string a1_2] 24 (0, 0)) (by (with_reducible repeat (first | refine blk_drewN ?_ _ | refine blk_drew ?_ | refine blk_alloc ?_ _)); exact BK425.out)) : gb425 ≠ gb466))
                   have n8_ := Aside0.mk ((by rw [hg]; exact Nat.ne_of_gt (blk_lt (g := gb425) (o := .cells #[.int .i64 a1_0, .int .i64 a1_1, .string a1_2] 24 (0, 0)) (by (with_reducible repeat (first | refine blk_drewN ?_ _ | refine blk_drew ?_ | refine blk_alloc ?_ _)); exact BK425.out)) : gb466 ≠ gb425))
                   have n9_ := Aside0.mk ((by rw [hg]; exact Nat.ne_of_lt (blk_lt (g := gb426) (o := .cells #[.int .i64 a2_0, .int .i64 a2_1, .string a2_2] 24 (0, 0)) (by (with_reducible repeat (first | refine blk_drewN ?_ _ | refine blk_drew ?_ | refine blk_alloc ?_ _)); exact BK426.out)) : gb426 ≠ gb466))
                   have n10_ := Aside0.mk ((by rw [hg]; exact Nat.ne_of_gt (blk_lt (g := gb426) (o := .cells #[.int .i64 a2_0, .int .i64 a2_1, .string a2_2] 24 (0, 0)) (by (with_reducible repeat (first | refine blk_drewN ?_ _ | refine blk_drew ?_ | refine blk_alloc ?_ _)); exact BK426.out)) : gb466 ≠ gb426))
                   have n11_ := Aside0.mk ((by rw [hg]; exact Nat.ne_of_lt (blk_lt (g := gb443) (o := .cells #[.int .i64 x444000_40, .int .i64 x444001_40, .string x444002_40] 24 (0, 0)) (by (with_reducible repeat (first | refine blk_drewN ?_ _ | refine blk_drew ?_ | refine blk_alloc ?_ _)); exact BK443.out)) : gb443 ≠ gb466))
                   have n12_ := Aside0.mk ((by rw [hg]; exact Nat.ne_of_gt (blk_lt (g := gb443) (o := .cells #[.int .i64 x444000_40, .int .i64 x444001_40, .string x444002_40] 24 (0, 0)) (by (with_reducible repeat (first | refine blk_drewN ?_ _ | refine blk_drew ?_ | refine blk_alloc ?_ _)); exact BK443.out)) : gb466 ≠ gb443))
                   clear BK425
                   clear BK426
                   clear BK443
                   clear HB
                   have BK425 := n0_
                   have BK426 := n1_
                   have BK443 := n2_
                   have HB := n3_
                   have BK466 := n4_
                   have GW466 := n5_
                   have GE466 := n6_
                   have NB425_466 := n7_
                   have NB466_425 := n8_
                   have NB426_466 := n9_
                   have NB466_426 := n10_
                   have NB443_466 := n11_
                   have NB466_443 := n12_
                   clear n0_ n1_ n2_ n3_ n4_ n5_ n6_ n7_ n8_ n9_ n10_ n11_ n12_
                   clear hb hbox hg
                   refine hK.out _ _ ⟨(blk_cell BK425.out 0).trans rfl, (blk_cell BK425.out 1).trans rfl, (blk_cell BK425.out 2).trans rfl, (blk_cell BK426.out 0).trans rfl, (blk_cell BK426.out 1).trans rfl, (blk_cell BK426.out 2).trans rfl⟩ (fun hHeld => ?_)
                   clear hK K
                   refine norm_ (a' := ?_) ?_ ?_
                   rotate_left
                   ·show Act.put _ (some 14) _ = _
                    simp only [Act.put, List.setIfInBounds_toArray, List.set_cons_zero, List.set_cons_succ, i64_w, i32_w]
                    rfl
                   exact norm_ (by simp only [putAll, Act.put, List.setIfInBounds_toArray, List.set_cons_zero, List.set_cons_succ]) (hCont (gb466) _ ⟨hHeld, (by (with_reducible repeat (first | refine blk_drewN ?_ _ | refine blk_drew ?_ | refine blk_alloc ?_ _)); exact BK425.out), (by (with_reducible repeat (first | refine blk_drewN ?_ _ | refine blk_drew ?_ | refine blk_alloc ?_ _)); exact BK426.out), (by (with_reducible repeat (first | refine blk_drewN ?_ _ | refine blk_drew ?_ | refine blk_alloc ?_ _)); exact BK443.out), (by (with_reducible repeat (first | refine blk_drewN ?_ _ | refine blk_drew ?_ | refine blk_alloc ?_ _)); exact BK466.out), GW466.out, GE466.out, NB425_466.out, NB466_425.out, NB426_466.out, NB466_426.out, NB443_466.out, NB466_443.out, (by repeat (first | (with_reducible first | exact HB.out | apply below_alloc | apply pw_below_drewN | apply below_drew1 | refine below_set ?_ GE425.out | refine below_set ?_ GE426.out | refine below_set ?_ GE443.out | refine below_set ?_ GE466.out) | exact HB.out))⟩)
                  ·skip
                   refine box_step ?hg (N := 14) ?hd (cs := #[.int .i64 0, .int .i64 0, .string (⟨#[]⟩ : ByteArray)]) (t := 28) ?hr ?_; (case hd => rfl); (case hg => rfl); (case hr => first | (go_simp; done) | (go_simp; rfl))
                   intro gb466 hg w184 hbox hb
                   have n0_ := Aside0.mk (blk_below (g := gb425) (o := .cells #[.int .i64 a1_0, .int .i64 a1_1, .string a1_2] 24 (0, 0)) (by (with_reducible repeat (first | refine blk_drewN ?_ _ | refine blk_drew ?_ | refine blk_alloc ?_ _)); exact BK425.out) hb)
                   have n1_ := Aside0.mk (blk_below (g := gb426) (o := .cells #[.int .i64 a2_0, .int .i64 a2_1, .string a2_2] 24 (0, 0)) (by (with_reducible repeat (first | refine blk_drewN ?_ _ | refine blk_drew ?_ | refine blk_alloc ?_ _)); exact BK426.out) hb)
                   have n2_ := Aside0.mk (blk_below (g := gb443) (o := .cells #[.int .i64 x444000_40, .int .i64 x444001_40, .string x444002_40] 24 (0, 0)) (by (with_reducible repeat (first | refine blk_drewN ?_ _ | refine blk_drew ?_ | refine blk_alloc ?_ _)); exact BK443.out) hb)
                   have n3_ := Aside0.mk (below_step (by repeat (first | (with_reducible first | exact HB.out | apply below_alloc | apply pw_below_drewN | apply below_drew1 | refine below_set ?_ GE425.out | refine below_set ?_ GE426.out | refine below_set ?_ GE443.out) | exact HB.out)) hb)
                   have n4_ := Aside0.mk (hbox)
                   have n5_ := Aside0.mk ((by rw [hg]; exact (below_size (by repeat (first | (with_reducible first | exact HB.out | apply below_alloc | apply pw_below_drewN | apply below_drew1 | refine below_set ?_ GE425.out | refine below_set ?_ GE426.out | refine below_set ?_ GE443.out) | exact HB.out))) : w.heap.size ≤ gb466))
                   have n6_ := Aside0.mk ((by rw [hg]; exact (below_size (by repeat (first | (with_reducible first | exact HB.out | apply below_alloc | apply pw_below_drewN | apply below_drew1 | refine below_set ?_ GE425.out | refine below_set ?_ GE426.out | refine below_set ?_ GE443.out) | exact HB.out))) : w.heap.size ≤ gb466))
                   have n7_ := Aside0.mk ((by rw [hg]; exact Nat.ne_of_lt (blk_lt (g := gb425) (o := .cells #[.int .i64 a1_0, .int .i64 a1_1, .string a1_2] 24 (0, 0)) (by (with_reducible repeat (first | refine blk_drewN ?_ _ | refine blk_drew ?_ | refine blk_alloc ?_ _)); exact BK425.out)) : gb425 ≠ gb466))
                   have n8_ := Aside0.mk ((by rw [hg]; exact Nat.ne_of_gt (blk_lt (g := gb425) (o := .cells #[.int .i64 a1_0, .int .i64 a1_1, .string a1_2] 24 (0, 0)) (by (with_reducible repeat (first | refine blk_drewN ?_ _ | refine blk_drew ?_ | refine blk_alloc ?_ _)); exact BK425.out)) : gb466 ≠ gb425))
                   have n9_ := Aside0.mk ((by rw [hg]; exact Nat.ne_of_lt (blk_lt (g := gb426) (o := .cells #[.int .i64 a2_0, .int .i64 a2_1, .string a2_2] 24 (0, 0)) (by (with_reducible repeat (first | refine blk_drewN ?_ _ | refine blk_drew ?_ | refine blk_alloc ?_ _)); exact BK426.out)) : gb426 ≠ gb466))
                   have n10_ := Aside0.mk ((by rw [hg]; exact Nat.ne_of_gt (blk_lt (g := gb426) (o := .cells #[.int .i64 a2_0, .int .i64 a2_1, .string a2_2] 24 (0, 0)) (by (with_reducible repeat (first | refine blk_drewN ?_ _ | refine blk_drew ?_ | refine blk_alloc ?_ _)); exact BK426.out)) : gb466 ≠ gb426))
                   have n11_ := Aside0.mk ((by rw [hg]; exact Nat.ne_of_lt (blk_lt (g := gb443) (o := .cells #[.int .i64 x444000_40, .int .i64 x444001_40, .string x444002_40] 24 (0, 0)) (by (with_reducible repeat (first | refine blk_drewN ?_ _ | refine blk_drew ?_ | refine blk_alloc ?_ _)); exact BK443.out)) : gb443 ≠ gb466))
                   have n12_ := Aside0.mk ((by rw [hg]; exact Nat.ne_of_gt (blk_lt (g := gb443) (o := .cells #[.int .i64 x444000_40, .int .i64 x444001_40, .string x444002_40] 24 (0, 0)) (by (with_reducible repeat (first | refine blk_drewN ?_ _ | refine blk_drew ?_ | refine blk_alloc ?_ _)); exact BK443.out)) : gb466 ≠ gb443))
                   clear BK425
                   clear BK426
                   clear BK443
                   clear HB
                   have BK425 := n0_
                   have BK426 := n1_
                   have BK443 := n2_
                   have HB := n3_
                   have BK466 := n4_
                   have GW466 := n5_
                   have GE466 := n6_
                   have NB425_466 := n7_
                   have NB466_425 := n8_
                   have NB426_466 := n9_
                   have NB466_426 := n10_
                   have NB443_466 := n11_
                   have NB466_443 := n12_
                   clear n0_ n1_ n2_ n3_ n4_ n5_ n6_ n7_ n8_ n9_ n10_ n11_ n12_
                   clear hb hbox hg
                   refine hK.out _ _ ⟨(blk_cell BK425.out 0).trans rfl, (blk_cell BK425.out 1).trans rfl, (blk_cell BK425.out 2).trans rfl, (blk_cell BK426.out 0).trans rfl, (blk_cell BK426.out 1).trans rfl, (blk_cell BK426.out 2).trans rfl⟩ (fun hHeld => ?_)
                   clear hK K
                   refine norm_ (a' := ?_) ?_ ?_
                   rotate_left
                   ·show Act.put _ (some 14) _ = _
                    simp only [Act.put, List.setIfInBounds_toArray, List.set_cons_zero, List.set_cons_succ, i64_w, i32_w]
                    rfl
                   refine one_ (i := 5) (N := some 94) #[true, true, true, true, true, true, false, false, false, true, false, false] rfl rfl (one_of HT_.out (by kernel_rfl)) (by decide) (fun K hK => ?_)
                   refine goes_ Tryd.func23 (by kernel_rfl) rfl #[.int .i64 a0, .agg #[.int .i64 t456, .int .i64 t457, .string t458], .agg #[.int .i64 t459, .int .i64 t460, .string t461]] (by rfl) rfl rfl (by (try simp only [List.map_toArray, List.map_cons, List.map_nil]); first | done | rfl | (simp only [List.length_drop, List.length_take]; rfl)) ?_
                   with_reducible refine (whirligigref01_Reckon.calls kj40 a0 t456 t457 t458 t459 t460 t461 t462 t463 t464 t465 _ A95.out).mono ?_
                   rintro e w185 ⟨rfl, hb⟩
                   refine ⟨_, rfl, ?_⟩
                   have n0_ := Aside0.mk (blk_below (g := gb425) (o := .cells #[.int .i64 a1_0, .int .i64 a1_1, .string a1_2] 24 (0, 0)) (by (with_reducible repeat (first | refine blk_drewN ?_ _ | refine blk_drew ?_ | refine blk_alloc ?_ _)); exact BK425.out) hb)
                   have n1_ := Aside0.mk (blk_below (g := gb426) (o := .cells #[.int .i64 a2_0, .int .i64 a2_1, .string a2_2] 24 (0, 0)) (by (with_reducible repeat (first | refine blk_drewN ?_ _ | refine blk_drew ?_ | refine blk_alloc ?_ _)); exact BK426.out) hb)
                   have n2_ := Aside0.mk (blk_below (g := gb443) (o := .cells #[.int .i64 x444000_40, .int .i64 x444001_40, .string x444002_40] 24 (0, 0)) (by (with_reducible repeat (first | refine blk_drewN ?_ _ | refine blk_drew ?_ | refine blk_alloc ?_ _)); exact BK443.out) hb)
                   have n3_ := Aside0.mk (blk_below (g := gb466) (o := .cells #[.int .i64 0, .int .i64 0, .string (⟨#[]⟩ : ByteArray)] 28 (0, 0)) (by (with_reducible repeat (first | refine blk_drewN ?_ _ | refine blk_drew ?_ | refine blk_alloc ?_ _)); exact BK466.out) hb)
                   have n4_ := Aside0.mk (below_step (by repeat (first | (with_reducible first | exact HB.out | apply below_alloc | apply pw_below_drewN | apply below_drew1 | refine below_set ?_ GE425.out | refine below_set ?_ GE426.out | refine below_set ?_ GE443.out | refine below_set ?_ GE466.out) | exact HB.out)) hb)
                   clear BK425
                   clear BK426
                   clear BK443
                   clear BK466
                   clear HB
                   have BK425 := n0_
                   have BK426 := n1_
                   have BK443 := n2_
                   have BK466 := n3_
                   have HB := n4_
                   clear n0_ n1_ n2_ n3_ n4_
                   (try clear hb)
                   (try clear hb2)
                   (try clear hk)
                   (try clear hi)
                   refine hK.out _ _ ⟨(blk_cell BK425.out 0).trans rfl, (blk_cell BK425.out 1).trans rfl, (blk_cell BK425.out 2).trans rfl, (blk_cell BK426.out 0).trans rfl, (blk_cell BK426.out 1).trans rfl, (blk_cell BK426.out 2).trans rfl⟩ (fun hHeld => ?_)
                   clear hK K
                   refine norm_ (a' := ?_) ?_ ?_
                   rotate_left
                   ·show Act.put _ (some 94) _ = _
                    simp only [Act.put, List.setIfInBounds_toArray, List.set_cons_zero, List.set_cons_succ, i64_w, i32_w]
                    rfl
                   refine pure_ (i := 6) (N := some 88) (v := ?_) (a' := ?_) #[true, true, true, true, true, true, true, false, false, true, false, false] rfl rfl (any_of HT_.out (by kernel_rfl)) (fun _ _ _ h => h) (Or.inl ⟨by rfl, ?_⟩) ?_ ?_
                   rotate_left
                   ·intro w'
                    go_simp
                    with_reducible rfl
                   rotate_left
                   ·simp only [Act.put, List.setIfInBounds_toArray, List.set_cons_zero, List.set_cons_succ, i64_w, i32_w]
                    rfl
                   refine pure_ (i := 7) (N := some 95) (v := ?_) (a' := ?_) #[true, true, true, true, true, true, true, true, false, true, false, false] rfl rfl (any_of HT_.out (by kernel_rfl)) (fun _ _ _ h => h) (Or.inl ⟨by rfl, ?_⟩) ?_ ?_
                   rotate_left
                   ·intro w'
                    go_simp
                    with_reducible rfl
                   rotate_left
                   ·simp only [Act.put, List.setIfInBounds_toArray, List.set_cons_zero, List.set_cons_succ, i64_w, i32_w]
                    rfl
                   refine pure_ (i := 8) (N := some 96) (v := ?_) (a' := ?_) #[true, true, true, true, true, true, true, true, true, true, false, false] rfl rfl (any_of HT_.out (by kernel_rfl)) (fun _ _ _ h => h) (Or.inl ⟨by rfl, ?_⟩) ?_ ?_
                   rotate_left
                   ·intro w'
                    go_simp
                    with_reducible rfl
                   rotate_left
                   ·simp only [Act.put, List.setIfInBounds_toArray, List.set_cons_zero, List.set_cons_succ, i64_w, i32_w]
                    rfl
                   exact norm_ (by simp only [putAll, Act.put, List.setIfInBounds_toArray, List.set_cons_zero, List.set_cons_succ]) (hCont (gb466) _ ⟨hHeld, (by (with_reducible repeat (first | refine blk_drewN ?_ _ | refine blk_drew ?_ | refine blk_alloc ?_ _)); exact BK425.out), (by (with_reducible repeat (first | refine blk_drewN ?_ _ | refine blk_drew ?_ | refine blk_alloc ?_ _)); exact BK426.out), (by (with_reducible repeat (first | refine blk_drewN ?_ _ | refine blk_drew ?_ | refine blk_alloc ?_ _)); exact BK443.out), (by (with_reducible repeat (first | refine blk_drewN ?_ _ | refine blk_drew ?_ | refine blk_alloc ?_ _)); exact BK466.out), GW466.out, GE466.out, NB425_466.out, NB466_425.out, NB426_466.out, NB466_426.out, NB443_466.out, NB466_443.out, (by repeat (first | (with_reducible first | exact HB.out | apply below_alloc | apply pw_below_drewN | apply below_drew1 | refine below_set ?_ GE425.out | refine below_set ?_ GE426.out | refine below_set ?_ GE443.out | refine below_set ?_ GE466.out) | exact HB.out))⟩)
                 ·skip
                  refine box_step ?hg (N := 14) ?hd (cs := #[.int .i64 0, .int .i64 0, .string (⟨#[]⟩ : ByteArray)]) (t := 28) ?hr ?_; (case hd => rfl); (case hg => rfl); (case hr => first | (go_simp; done) | (go_simp; rfl))
                  intro gb466 hg w183 hbox hb
                  have n0_ := Aside0.mk (blk_below (g := gb425) (o := .cells #[.int .i64 a1_0, .int .i64 a1_1, .string a1_2] 24 (0, 0)) (by (with_reducible repeat (first | refine blk_drewN ?_ _ | refine blk_drew ?_ | refine blk_alloc ?_ _)); exact BK425.out) hb)
                  have n1_ := Aside0.mk (blk_below (g := gb426) (o := .cells #[.int .i64 a2_0, .int .i64 a2_1, .string a2_2] 24 (0, 0)) (by (with_reducible repeat (first | refine blk_drewN ?_ _ | refine blk_drew ?_ | refine blk_alloc ?_ _)); exact BK426.out) hb)
                  have n2_ := Aside0.mk (blk_below (g := gb443) (o := .cells #[.int .i64 x444000_40, .int .i64 x444001_40, .string x444002_40] 24 (0, 0)) (by (with_reducible repeat (first | refine blk_drewN ?_ _ | refine blk_drew ?_ | refine blk_alloc ?_ _)); exact BK443.out) hb)
                  have n3_ := Aside0.mk (below_step (by repeat (first | (with_reducible first | exact HB.out | apply below_alloc | apply pw_below_drewN | apply below_drew1 | refine below_set ?_ GE425.out | refine below_set ?_ GE426.out | refine below_set ?_ GE443.out) | exact HB.out)) hb)
                  have n4_ := Aside0.mk (hbox)
                  have n5_ := Aside0.mk ((by rw [hg]; exact (below_size (by repeat (first | (with_reducible first | exact HB.out | apply below_alloc | apply pw_below_drewN | apply below_drew1 | refine below_set ?_ GE425.out | refine below_set ?_ GE426.out | refine below_set ?_ GE443.out) | exact HB.out))) : w.heap.size ≤ gb466))
                  have n6_ := Aside0.mk ((by rw [hg]; exact (below_size (by repeat (first | (with_reducible first | exact HB.out | apply below_alloc | apply pw_below_drewN | apply below_drew1 | refine below_set ?_ GE425.out | refine below_set ?_ GE426.out | refine below_set ?_ GE443.out) | exact HB.out))) : w.heap.size ≤ gb466))
                  have n7_ := Aside0.mk ((by rw [hg]; exact Nat.ne_of_lt (blk_lt (g := gb425) (o := .cells #[.int .i64 a1_0, .int .i64 a1_1, .string a1_2] 24 (0, 0)) (by (with_reducible repeat (first | refine blk_drewN ?_ _ | refine blk_drew ?_ | refine blk_alloc ?_ _)); exact BK425.out)) : gb425 ≠ gb466))
                  have n8_ := Aside0.mk ((by rw [hg]; exact Nat.ne_of_gt (blk_lt (g := gb425) (o := .cells #[.int .i64 a1_0, .int .i64 a1_1, .string a1_2] 24 (0, 0)) (by (with_reducible repeat (first | refine blk_drewN ?_ _ | refine blk_drew ?_ | refine blk_alloc ?_ _)); exact BK425.out)) : gb466 ≠ gb425))
                  have n9_ := Aside0.mk ((by rw [hg]; exact Nat.ne_of_lt (blk_lt (g := gb426) (o := .cells #[.int .i64 a2_0, .int .i64 a2_1, .string a2_2] 24 (0, 0)) (by (with_reducible repeat (first | refine blk_drewN ?_ _ | refine blk_drew ?_ | refine blk_alloc ?_ _)); exact BK426.out)) : gb426 ≠ gb466))
                  have n10_ := Aside0.mk ((by rw [hg]; exact Nat.ne_of_gt (blk_lt (g := gb426) (o := .cells #[.int .i64 a2_0, .int .i64 a2_1, .string a2_2] 24 (0, 0)) (by (with_reducible repeat (first | refine blk_drewN ?_ _ | refine blk_drew ?_ | refine blk_alloc ?_ _)); exact BK426.out)) : gb466 ≠ gb426))
                  have n11_ := Aside0.mk ((by rw [hg]; exact Nat.ne_of_lt (blk_lt (g := gb443) (o := .cells #[.int .i64 x444000_40, .int .i64 x444001_40, .string x444002_40] 24 (0, 0)) (by (with_reducible repeat (first | refine blk_drewN ?_ _ | refine blk_drew ?_ | refine blk_alloc ?_ _)); exact BK443.out)) : gb443 ≠ gb466))
                  have n12_ := Aside0.mk ((by rw [hg]; exact Nat.ne_of_gt (blk_lt (g := gb443) (o := .cells #[.int .i64 x444000_40, .int .i64 x444001_40, .string x444002_40] 24 (0, 0)) (by (with_reducible repeat (first | refine blk_drewN ?_ _ | refine blk_drew ?_ | refine blk_alloc ?_ _)); exact BK443.out)) : gb466 ≠ gb443))
                  clear BK425
                  clear BK426
                  clear BK443
                  clear HB
                  have BK425 := n0_
                  have BK426 := n1_
                  have BK443 := n2_
                  have HB := n3_
                  have BK466 := n4_
                  have GW466 := n5_
                  have GE466 := n6_
                  have NB425_466 := n7_
                  have NB466_425 := n8_
                  have NB426_466 := n9_
                  have NB466_426 := n10_
                  have NB443_466 := n11_
                  have NB466_443 := n12_
                  clear n0_ n1_ n2_ n3_ n4_ n5_ n6_ n7_ n8_ n9_ n10_ n11_ n12_
                  clear hb hbox hg
                  refine hK.out _ _ ⟨(blk_cell BK425.out 0).trans rfl, (blk_cell BK425.out 1).trans rfl, (blk_cell BK425.out 2).trans rfl, (blk_cell BK426.out 0).trans rfl, (blk_cell BK426.out 1).trans rfl, (blk_cell BK426.out 2).trans rfl⟩ (fun hHeld => ?_)
                  clear hK K
                  refine norm_ (a' := ?_) ?_ ?_
                  rotate_left
                  ·show Act.put _ (some 14) _ = _
                   simp only [Act.put, List.setIfInBounds_toArray, List.set_cons_zero, List.set_cons_succ, i64_w, i32_w]
                   rfl
                  refine one_ (i := 4) (N := some 93) #[true, true, true, true, true, false, false, false, false, true, false, false] rfl rfl (one_of HT_.out (by kernel_rfl)) (by decide) (fun K hK => ?_)
                  refine goes_ Tryd.func12 (by kernel_rfl) rfl #[.agg #[.int .i64 a2_0, .int .i64 a2_1, .string a2_2]] (by rfl) rfl rfl (by (try simp only [List.map_toArray, List.map_cons, List.map_nil]); first | done | rfl | (simp only [List.length_drop, List.length_take]; rfl)) ?_
                  with_reducible refine (whirligiglaw01_ref.calls a2_0 a2_1 a2_2 t459 t460 t461 _ A94.out).mono ?_
                  rintro e w184 ⟨rfl, hb⟩
                  refine ⟨_, rfl, ?_⟩
                  have n0_ := Aside0.mk (blk_below (g := gb425) (o := .cells #[.int .i64 a1_0, .int .i64 a1_1, .string a1_2] 24 (0, 0)) (by (with_reducible repeat (first | refine blk_drewN ?_ _ | refine blk_drew ?_ | refine blk_alloc ?_ _)); exact BK425.out) hb)
                  have n1_ := Aside0.mk (blk_below (g := gb426) (o := .cells #[.int .i64 a2_0, .int .i64 a2_1, .string a2_2] 24 (0, 0)) (by (with_reducible repeat (first | refine blk_drewN ?_ _ | refine blk_drew ?_ | refine blk_alloc ?_ _)); exact BK426.out) hb)
                  have n2_ := Aside0.mk (blk_below (g := gb443) (o := .cells #[.int .i64 x444000_40, .int .i64 x444001_40, .string x444002_40] 24 (0, 0)) (by (with_reducible repeat (first | refine blk_drewN ?_ _ | refine blk_drew ?_ | refine blk_alloc ?_ _)); exact BK443.out) hb)
                  have n3_ := Aside0.mk (blk_below (g := gb466) (o := .cells #[.int .i64 0, .int .i64 0, .string (⟨#[]⟩ : ByteArray)] 28 (0, 0)) (by (with_reducible repeat (first | refine blk_drewN ?_ _ | refine blk_drew ?_ | refine blk_alloc ?_ _)); exact BK466.out) hb)
                  have n4_ := Aside0.mk (below_step (by repeat (first | (with_reducible first | exact HB.out | apply below_alloc | apply pw_below_drewN | apply below_drew1 | refine below_set ?_ GE425.out | refine below_set ?_ GE426.out | refine below_set ?_ GE443.out | refine below_set ?_ GE466.out) | exact HB.out)) hb)
                  clear BK425
                  clear BK426
                  clear BK443
                  clear BK466
                  clear HB
                  have BK425 := n0_
                  have BK426 := n1_
                  have BK443 := n2_
                  have BK466 := n3_
                  have HB := n4_
                  clear n0_ n1_ n2_ n3_ n4_
                  (try clear hb)
                  (try clear hb2)
                  (try clear hk)
                  (try clear hi)
                  refine hK.out _ _ ⟨(blk_cell BK425.out 0).trans rfl, (blk_cell BK425.out 1).trans rfl, (blk_cell BK425.out 2).trans rfl, (blk_cell BK426.out 0).trans rfl, (blk_cell BK426.out 1).trans rfl, (blk_cell BK426.out 2).trans rfl⟩ (fun hHeld => ?_)
                  clear hK K
                  refine norm_ (a' := ?_) ?_ ?_
                  rotate_left
                  ·show Act.put _ (some 93) _ = _
                   simp only [Act.put, List.setIfInBounds_toArray, List.set_cons_zero, List.set_cons_succ, i64_w, i32_w]
                   rfl
                  refine one_ (i := 5) (N := some 94) #[true, true, true, true, true, true, false, false, false, true, false, false] rfl rfl (one_of HT_.out (by kernel_rfl)) (by decide) (fun K hK => ?_)
                  refine goes_ Tryd.func23 (by kernel_rfl) rfl #[.int .i64 a0, .agg #[.int .i64 t456, .int .i64 t457, .string t458], .agg #[.int .i64 t459, .int .i64 t460, .string t461]] (by rfl) rfl rfl (by (try simp only [List.map_toArray, List.map_cons, List.map_nil]); first | done | rfl | (simp only [List.length_drop, List.length_take]; rfl)) ?_
                  with_reducible refine (whirligigref01_Reckon.calls kj40 a0 t456 t457 t458 t459 t460 t461 t462 t463 t464 t465 _ A95.out).mono ?_
                  rintro e w185 ⟨rfl, hb⟩
                  refine ⟨_, rfl, ?_⟩
                  have n0_ := Aside0.mk (blk_below (g := gb425) (o := .cells #[.int .i64 a1_0, .int .i64 a1_1, .string a1_2] 24 (0, 0)) (by (with_reducible repeat (first | refine blk_drewN ?_ _ | refine blk_drew ?_ | refine blk_alloc ?_ _)); exact BK425.out) hb)
                  have n1_ := Aside0.mk (blk_below (g := gb426) (o := .cells #[.int .i64 a2_0, .int .i64 a2_1, .string a2_2] 24 (0, 0)) (by (with_reducible repeat (first | refine blk_drewN ?_ _ | refine blk_drew ?_ | refine blk_alloc ?_ _)); exact BK426.out) hb)
                  have n2_ := Aside0.mk (blk_below (g := gb443) (o := .cells #[.int .i64 x444000_40, .int .i64 x444001_40, .string x444002_40] 24 (0, 0)) (by (with_reducible repeat (first | refine blk_drewN ?_ _ | refine blk_drew ?_ | refine blk_alloc ?_ _)); exact BK443.out) hb)
                  have n3_ := Aside0.mk (blk_below (g := gb466) (o := .cells #[.int .i64 0, .int .i64 0, .string (⟨#[]⟩ : ByteArray)] 28 (0, 0)) (by (with_reducible repeat (first | refine blk_drewN ?_ _ | refine blk_drew ?_ | refine blk_alloc ?_ _)); exact BK466.out) hb)
                  have n4_ := Aside0.mk (below_step (by repeat (first | (with_reducible first | exact HB.out | apply below_alloc | apply pw_below_drewN | apply below_drew1 | refine below_set ?_ GE425.out | refine below_set ?_ GE426.out | refine below_set ?_ GE443.out | refine below_set ?_ GE466.out) | exact HB.out)) hb)
                  clear BK425
                  clear BK426
                  clear BK443
                  clear BK466
                  clear HB
                  have BK425 := n0_
                  have BK426 := n1_
                  have BK443 := n2_
                  have BK466 := n3_
                  have HB := n4_
                  clear n0_ n1_ n2_ n3_ n4_
                  (try clear hb)
                  (try clear hb2)
                  (try clear hk)
                  (try clear hi)
                  refine hK.out _ _ ⟨(blk_cell BK425.out 0).trans rfl, (blk_cell BK425.out 1).trans rfl, (blk_cell BK425.out 2).trans rfl, (blk_cell BK426.out 0).trans rfl, (blk_cell BK426.out 1).trans rfl, (blk_cell BK426.out 2).trans rfl⟩ (fun hHeld => ?_)
                  clear hK K
                  refine norm_ (a' := ?_) ?_ ?_
                  rotate_left
                  ·show Act.put _ (some 94) _ = _
                   simp only [Act.put, List.setIfInBounds_toArray, List.set_cons_zero, List.set_cons_succ, i64_w, i32_w]
                   rfl
                  refine pure_ (i := 6) (N := some 88) (v := ?_) (a' := ?_) #[true, true, true, true, true, true, true, false, false, true, false, false] rfl rfl (any_of HT_.out (by kernel_rfl)) (fun _ _ _ h => h) (Or.inl ⟨by rfl, ?_⟩) ?_ ?_
                  rotate_left
                  ·intro w'
                   go_simp
                   with_reducible rfl
                  rotate_left
                  ·simp only [Act.put, List.setIfInBounds_toArray, List.set_cons_zero, List.set_cons_succ, i64_w, i32_w]
                   rfl
                  refine pure_ (i := 7) (N := some 95) (v := ?_) (a' := ?_) #[true, true, true, true, true, true, true, true, false, true, false, false] rfl rfl (any_of HT_.out (by kernel_rfl)) (fun _ _ _ h => h) (Or.inl ⟨by rfl, ?_⟩) ?_ ?_
                  rotate_left
                  ·intro w'
                   go_simp
                   with_reducible rfl
                  rotate_left
                  ·simp only [Act.put, List.setIfInBounds_toArray, List.set_cons_zero, List.set_cons_succ, i64_w, i32_w]
                   rfl
                  refine pure_ (i := 8) (N := some 96) (v := ?_) (a' := ?_) #[true, true, true, true, true, true, true, true, true, true, false, false] rfl rfl (any_of HT_.out (by kernel_rfl)) (fun _ _ _ h => h) (Or.inl ⟨by rfl, ?_⟩) ?_ ?_
                  rotate_left
                  ·intro w'
                   go_simp
                   with_reducible rfl
                  rotate_left
                  ·simp only [Act.put, List.setIfInBounds_toArray, List.set_cons_zero, List.set_cons_succ, i64_w, i32_w]
                   rfl
                  exact norm_ (by simp only [putAll, Act.put, List.setIfInBounds_toArray, List.set_cons_zero, List.set_cons_succ]) (hCont (gb466) _ ⟨hHeld, (by (with_reducible repeat (first | refine blk_drewN ?_ _ | refine blk_drew ?_ | refine blk_alloc ?_ _)); exact BK425.out), (by (with_reducible repeat (first | refine blk_drewN ?_ _ | refine blk_drew ?_ | refine blk_alloc ?_ _)); exact BK426.out), (by (with_reducible repeat (first | refine blk_drewN ?_ _ | refine blk_drew ?_ | refine blk_alloc ?_ _)); exact BK443.out), (by (with_reducible repeat (first | refine blk_drewN ?_ _ | refine blk_drew ?_ | refine blk_alloc ?_ _)); exact BK466.out), GW466.out, GE466.out, NB425_466.out, NB466_425.out, NB426_466.out, NB466_426.out, NB443_466.out, NB466_443.out, (by repeat (first | (with_reducible first | exact HB.out | apply below_alloc | apply pw_below_drewN | apply below_drew1 | refine below_set ?_ GE425.out | refine below_set ?_ GE426.out | refine below_set ?_ GE443.out | refine below_set ?_ GE466.out) | exact HB.out))⟩)
                ·skip
                 refine box_step ?hg (N := 14) ?hd (cs := #[.int .i64 0, .int .i64 0, .string (⟨#[]⟩ : ByteArray)]) (t := 28) ?hr ?_; (case hd => rfl); (case hg => rfl); (case hr => first | (go_simp; done) | (go_simp; rfl))
                 intro gb466 hg w182 hbox hb
                 have n0_ := Aside0.mk (blk_below (g := gb425) (o := .cells #[.int .i64 a1_0, .int .i64 a1_1, .string a1_2] 24 (0, 0)) (by (with_reducible repeat (first | refine blk_drewN ?_ _ | refine blk_drew ?_ | refine blk_alloc ?_ _)); exact BK425.out) hb)
                 have n1_ := Aside0.mk (blk_below (g := gb426) (o := .cells #[.int .i64 a2_0, .int .i64 a2_1, .string a2_2] 24 (0, 0)) (by (with_reducible repeat (first | refine blk_drewN ?_ _ | refine blk_drew ?_ | refine blk_alloc ?_ _)); exact BK426.out) hb)
                 have n2_ := Aside0.mk (blk_below (g := gb443) (o := .cells #[.int .i64 x444000_40, .int .i64 x444001_40, .string x444002_40] 24 (0, 0)) (by (with_reducible repeat (first | refine blk_drewN ?_ _ | refine blk_drew ?_ | refine blk_alloc ?_ _)); exact BK443.out) hb)
                 have n3_ := Aside0.mk (below_step (by repeat (first | (with_reducible first | exact HB.out | apply below_alloc | apply pw_below_drewN | apply below_drew1 | refine below_set ?_ GE425.out | refine below_set ?_ GE426.out | refine below_set ?_ GE443.out) | exact HB.out)) hb)
                 have n4_ := Aside0.mk (hbox)
                 have n5_ := Aside0.mk ((by rw [hg]; exact (below_size (by repeat (first | (with_reducible first | exact HB.out | apply below_alloc | apply pw_below_drewN | apply below_drew1 | refine below_set ?_ GE425.out | refine below_set ?_ GE426.out | refine below_set ?_ GE443.out) | exact HB.out))) : w.heap.size ≤ gb466))
                 have n6_ := Aside0.mk ((by rw [hg]; exact (below_size (by repeat (first | (with_reducible first | exact HB.out | apply below_alloc | apply pw_below_drewN | apply below_drew1 | refine below_set ?_ GE425.out | refine below_set ?_ GE426.out | refine below_set ?_ GE443.out) | exact HB.out))) : w.heap.size ≤ gb466))
                 have n7_ := Aside0.mk ((by rw [hg]; exact Nat.ne_of_lt (blk_lt (g := gb425) (o := .cells #[.int .i64 a1_0, .int .i64 a1_1, .string a1_2] 24 (0, 0)) (by (with_reducible repeat (first | refine blk_drewN ?_ _ | refine blk_drew ?_ | refine blk_alloc ?_ _)); exact BK425.out)) : gb425 ≠ gb466))
                 have n8_ := Aside0.mk ((by rw [hg]; exact Nat.ne_of_gt (blk_lt (g := gb425) (o := .cells #[.int .i64 a1_0, .int .i64 a1_1, .string a1_2] 24 (0, 0)) (by (with_reducible repeat (first | refine blk_drewN ?_ _ | refine blk_drew ?_ | refine blk_alloc ?_ _)); exact BK425.out)) : gb466 ≠ gb425))
                 have n9_ := Aside0.mk ((by rw [hg]; exact Nat.ne_of_lt (blk_lt (g := gb426) (o := .cells #[.int .i64 a2_0, .int .i64 a2_1, .string a2_2] 24 (0, 0)) (by (with_reducible repeat (first | refine blk_drewN ?_ _ | refine blk_drew ?_ | refine blk_alloc ?_ _)); exact BK426.out)) : gb426 ≠ gb466))
                 have n10_ := Aside0.mk ((by rw [hg]; exact Nat.ne_of_gt (blk_lt (g := gb426) (o := .cells #[.int .i64 a2_0, .int .i64 a2_1, .string a2_2] 24 (0, 0)) (by (with_reducible repeat (first | refine blk_drewN ?_ _ | refine blk_drew ?_ | refine blk_alloc ?_ _)); exact BK426.out)) : gb466 ≠ gb426))
                 have n11_ := Aside0.mk ((by rw [hg]; exact Nat.ne_of_lt (blk_lt (g := gb443) (o := .cells #[.int .i64 x444000_40, .int .i64 x444001_40, .string x444002_40] 24 (0, 0)) (by (with_reducible repeat (first | refine blk_drewN ?_ _ | refine blk_drew ?_ | refine blk_alloc ?_ _)); exact BK443.out)) : gb443 ≠ gb466))
                 have n12_ := Aside0.mk ((by rw [hg]; exact Nat.ne_of_gt (blk_lt (g := gb443) (o := .cells #[.int .i64 x444000_40, .int .i64 x444001_40, .string x444002_40] 24 (0, 0)) (by (with_reducible repeat (first | refine blk_drewN ?_ _ | refine blk_drew ?_ | refine blk_alloc ?_ _)); exact BK443.out)) : gb466 ≠ gb443))
                 clear BK425
                 clear BK426
                 clear BK443
                 clear HB
                 have BK425 := n0_
                 have BK426 := n1_
                 have BK443 := n2_
                 have HB := n3_
                 have BK466 := n4_
                 have GW466 := n5_
                 have GE466 := n6_
                 have NB425_466 := n7_
                 have NB466_425 := n8_
                 have NB426_466 := n9_
                 have NB466_426 := n10_
                 have NB443_466 := n11_
                 have NB466_443 := n12_
                 clear n0_ n1_ n2_ n3_ n4_ n5_ n6_ n7_ n8_ n9_ n10_ n11_ n12_
                 clear hb hbox hg
                 refine hK.out _ _ ⟨(blk_cell BK425.out 0).trans rfl, (blk_cell BK425.out 1).trans rfl, (blk_cell BK425.out 2).trans rfl, (blk_cell BK426.out 0).trans rfl, (blk_cell BK426.out 1).trans rfl, (blk_cell BK426.out 2).trans rfl⟩ (fun hHeld => ?_)
                 clear hK K
                 refine norm_ (a' := ?_) ?_ ?_
                 rotate_left
                 ·show Act.put _ (some 14) _ = _
                  simp only [Act.put, List.setIfInBounds_toArray, List.set_cons_zero, List.set_cons_succ, i64_w, i32_w]
                  rfl
                 refine one_ (i := 2) (N := some 91) #[true, true, true, true, false, false, false, false, false, true, false, false] rfl rfl (one_of HT_.out (by kernel_rfl)) (by decide) (fun K hK => ?_)
                 refine goes_ Tryd.func12 (by kernel_rfl) rfl #[.agg #[.int .i64 a1_0, .int .i64 a1_1, .string a1_2]] (by rfl) rfl rfl (by (try simp only [List.map_toArray, List.map_cons, List.map_nil]); first | done | rfl | (simp only [List.length_drop, List.length_take]; rfl)) ?_
                 with_reducible refine (whirligiglaw01_ref.calls a1_0 a1_1 a1_2 t456 t457 t458 _ A93.out).mono ?_
                 rintro e w183 ⟨rfl, hb⟩
                 refine ⟨_, rfl, ?_⟩
                 have n0_ := Aside0.mk (blk_below (g := gb425) (o := .cells #[.int .i64 a1_0, .int .i64 a1_1, .string a1_2] 24 (0, 0)) (by (with_reducible repeat (first | refine blk_drewN ?_ _ | refine blk_drew ?_ | refine blk_alloc ?_ _)); exact BK425.out) hb)
                 have n1_ := Aside0.mk (blk_below (g := gb426) (o := .cells #[.int .i64 a2_0, .int .i64 a2_1, .string a2_2] 24 (0, 0)) (by (with_reducible repeat (first | refine blk_drewN ?_ _ | refine blk_drew ?_ | refine blk_alloc ?_ _)); exact BK426.out) hb)
                 have n2_ := Aside0.mk (blk_below (g := gb443) (o := .cells #[.int .i64 x444000_40, .int .i64 x444001_40, .string x444002_40] 24 (0, 0)) (by (with_reducible repeat (first | refine blk_drewN ?_ _ | refine blk_drew ?_ | refine blk_alloc ?_ _)); exact BK443.out) hb)
                 have n3_ := Aside0.mk (blk_below (g := gb466) (o := .cells #[.int .i64 0, .int .i64 0, .string (⟨#[]⟩ : ByteArray)] 28 (0, 0)) (by (with_reducible repeat (first | refine blk_drewN ?_ _ | refine blk_drew ?_ | refine blk_alloc ?_ _)); exact BK466.out) hb)
                 have n4_ := Aside0.mk (below_step (by repeat (first | (with_reducible first | exact HB.out | apply below_alloc | apply pw_below_drewN | apply below_drew1 | refine below_set ?_ GE425.out | refine below_set ?_ GE426.out | refine below_set ?_ GE443.out | refine below_set ?_ GE466.out) | exact HB.out)) hb)
                 clear BK425
                 clear BK426
                 clear BK443
                 clear BK466
                 clear HB
                 have BK425 := n0_
                 have BK426 := n1_
                 have BK443 := n2_
                 have BK466 := n3_
                 have HB := n4_
                 clear n0_ n1_ n2_ n3_ n4_
                 (try clear hb)
                 (try clear hb2)
                 (try clear hk)
                 (try clear hi)
                 refine hK.out _ _ ⟨(blk_cell BK425.out 0).trans rfl, (blk_cell BK425.out 1).trans rfl, (blk_cell BK425.out 2).trans rfl, (blk_cell BK426.out 0).trans rfl, (blk_cell BK426.out 1).trans rfl, (blk_cell BK426.out 2).trans rfl⟩ (fun hHeld => ?_)
                 clear hK K
                 refine norm_ (a' := ?_) ?_ ?_
                 rotate_left
                 ·show Act.put _ (some 91) _ = _
                  simp only [Act.put, List.setIfInBounds_toArray, List.set_cons_zero, List.set_cons_succ, i64_w, i32_w]
                  rfl
                 refine one_ (i := 4) (N := some 93) #[true, true, true, true, true, false, false, false, false, true, false, false] rfl rfl (one_of HT_.out (by kernel_rfl)) (by decide) (fun K hK => ?_)
                 refine goes_ Tryd.func12 (by kernel_rfl) rfl #[.agg #[.int .i64 a2_0, .int .i64 a2_1, .string a2_2]] (by rfl) rfl rfl (by (try simp only [List.map_toArray, List.map_cons, List.map_nil]); first | done | rfl | (simp only [List.length_drop, List.length_take]; rfl)) ?_
                 with_reducible refine (whirligiglaw01_ref.calls a2_0 a2_1 a2_2 t459 t460 t461 _ A94.out).mono ?_
                 rintro e w184 ⟨rfl, hb⟩
                 refine ⟨_, rfl, ?_⟩
                 have n0_ := Aside0.mk (blk_below (g := gb425) (o := .cells #[.int .i64 a1_0, .int .i64 a1_1, .string a1_2] 24 (0, 0)) (by (with_reducible repeat (first | refine blk_drewN ?_ _ | refine blk_drew ?_ | refine blk_alloc ?_ _)); exact BK425.out) hb)
                 have n1_ := Aside0.mk (blk_below (g := gb426) (o := .cells #[.int .i64 a2_0, .int .i64 a2_1, .string a2_2] 24 (0, 0)) (by (with_reducible repeat (first | refine blk_drewN ?_ _ | refine blk_drew ?_ | refine blk_alloc ?_ _)); exact BK426.out) hb)
                 have n2_ := Aside0.mk (blk_below (g := gb443) (o := .cells #[.int .i64 x444000_40, .int .i64 x444001_40, .string x444002_40] 24 (0, 0)) (by (with_reducible repeat (first | refine blk_drewN ?_ _ | refine blk_drew ?_ | refine blk_alloc ?_ _)); exact BK443.out) hb)
                 have n3_ := Aside0.mk (blk_below (g := gb466) (o := .cells #[.int .i64 0, .int .i64 0, .string (⟨#[]⟩ : ByteArray)] 28 (0, 0)) (by (with_reducible repeat (first | refine blk_drewN ?_ _ | refine blk_drew ?_ | refine blk_alloc ?_ _)); exact BK466.out) hb)
                 have n4_ := Aside0.mk (below_step (by repeat (first | (with_reducible first | exact HB.out | apply below_alloc | apply pw_below_drewN | apply below_drew1 | refine below_set ?_ GE425.out | refine below_set ?_ GE426.out | refine below_set ?_ GE443.out | refine below_set ?_ GE466.out) | exact HB.out)) hb)
                 clear BK425
                 clear BK426
                 clear BK443
                 clear BK466
                 clear HB
                 have BK425 := n0_
                 have BK426 := n1_
                 have BK443 := n2_
                 have BK466 := n3_
                 have HB := n4_
                 clear n0_ n1_ n2_ n3_ n4_
                 (try clear hb)
                 (try clear hb2)
                 (try clear hk)
                 (try clear hi)
                 refine hK.out _ _ ⟨(blk_cell BK425.out 0).trans rfl, (blk_cell BK425.out 1).trans rfl, (blk_cell BK425.out 2).trans rfl, (blk_cell BK426.out 0).trans rfl, (blk_cell BK426.out 1).trans rfl, (blk_cell BK426.out 2).trans rfl⟩ (fun hHeld => ?_)
                 clear hK K
                 refine norm_ (a' := ?_) ?_ ?_
                 rotate_left
                 ·show Act.put _ (some 93) _ = _
                  simp only [Act.put, List.setIfInBounds_toArray, List.set_cons_zero, List.set_cons_succ, i64_w, i32_w]
                  rfl
                 refine one_ (i := 5) (N := some 94) #[true, true, true, true, true, true, false, false, false, true, false, false] rfl rfl (one_of HT_.out (by kernel_rfl)) (by decide) (fun K hK => ?_)
                 refine goes_ Tryd.func23 (by kernel_rfl) rfl #[.int .i64 a0, .agg #[.int .i64 t456, .int .i64 t457, .string t458], .agg #[.int .i64 t459, .int .i64 t460, .string t461]] (by rfl) rfl rfl (by (try simp only [List.map_toArray, List.map_cons, List.map_nil]); first | done | rfl | (simp only [List.length_drop, List.length_take]; rfl)) ?_
                 with_reducible refine (whirligigref01_Reckon.calls kj40 a0 t456 t457 t458 t459 t460 t461 t462 t463 t464 t465 _ A95.out).mono ?_
                 rintro e w185 ⟨rfl, hb⟩
                 refine ⟨_, rfl, ?_⟩
                 have n0_ := Aside0.mk (blk_below (g := gb425) (o := .cells #[.int .i64 a1_0, .int .i64 a1_1, .string a1_2] 24 (0, 0)) (by (with_reducible repeat (first | refine blk_drewN ?_ _ | refine blk_drew ?_ | refine blk_alloc ?_ _)); exact BK425.out) hb)
                 have n1_ := Aside0.mk (blk_below (g := gb426) (o := .cells #[.int .i64 a2_0, .int .i64 a2_1, .string a2_2] 24 (0, 0)) (by (with_reducible repeat (first | refine blk_drewN ?_ _ | refine blk_drew ?_ | refine blk_alloc ?_ _)); exact BK426.out) hb)
                 have n2_ := Aside0.mk (blk_below (g := gb443) (o := .cells #[.int .i64 x444000_40, .int .i64 x444001_40, .string x444002_40] 24 (0, 0)) (by (with_reducible repeat (first | refine blk_drewN ?_ _ | refine blk_drew ?_ | refine blk_alloc ?_ _)); exact BK443.out) hb)
                 have n3_ := Aside0.mk (blk_below (g := gb466) (o := .cells #[.int .i64 0, .int .i64 0, .string (⟨#[]⟩ : ByteArray)] 28 (0, 0)) (by (with_reducible repeat (first | refine blk_drewN ?_ _ | refine blk_drew ?_ | refine blk_alloc ?_ _)); exact BK466.out) hb)
                 have n4_ := Aside0.mk (below_step (by repeat (first | (with_reducible first | exact HB.out | apply below_alloc | apply pw_below_drewN | apply below_drew1 | refine below_set ?_ GE425.out | refine below_set ?_ GE426.out | refine below_set ?_ GE443.out | refine below_set ?_ GE466.out) | exact HB.out)) hb)
                 clear BK425
                 clear BK426
                 clear BK443
                 clear BK466
                 clear HB
                 have BK425 := n0_
                 have BK426 := n1_
                 have BK443 := n2_
                 have BK466 := n3_
                 have HB := n4_
                 clear n0_ n1_ n2_ n3_ n4_
                 (try clear hb)
                 (try clear hb2)
                 (try clear hk)
                 (try clear hi)
                 refine hK.out _ _ ⟨(blk_cell BK425.out 0).trans rfl, (blk_cell BK425.out 1).trans rfl, (blk_cell BK425.out 2).trans rfl, (blk_cell BK426.out 0).trans rfl, (blk_cell BK426.out 1).trans rfl, (blk_cell BK426.out 2).trans rfl⟩ (fun hHeld => ?_)
                 clear hK K
                 refine norm_ (a' := ?_) ?_ ?_
                 rotate_left
                 ·show Act.put _ (some 94) _ = _
                  simp only [Act.put, List.setIfInBounds_toArray, List.set_cons_zero, List.set_cons_succ, i64_w, i32_w]
                  rfl
                 refine pure_ (i := 6) (N := some 88) (v := ?_) (a' := ?_) #[true, true, true, true, true, true, true, false, false, true, false, false] rfl rfl (any_of HT_.out (by kernel_rfl)) (fun _ _ _ h => h) (Or.inl ⟨by rfl, ?_⟩) ?_ ?_
                 rotate_left
                 ·intro w'
                  go_simp
                  with_reducible rfl
                 rotate_left
                 ·simp only [Act.put, List.setIfInBounds_toArray, List.set_cons_zero, List.set_cons_succ, i64_w, i32_w]
                  rfl
                 refine pure_ (i := 7) (N := some 95) (v := ?_) (a' := ?_) #[true, true, true, true, true, true, true, true, false, true, false, false] rfl rfl (any_of HT_.out (by kernel_rfl)) (fun _ _ _ h => h) (Or.inl ⟨by rfl, ?_⟩) ?_ ?_
                 rotate_left
                 ·intro w'
                  go_simp
                  with_reducible rfl
                 rotate_left
                 ·simp only [Act.put, List.setIfInBounds_toArray, List.set_cons_zero, List.set_cons_succ, i64_w, i32_w]
                  rfl
                 refine pure_ (i := 8) (N := some 96) (v := ?_) (a' := ?_) #[true, true, true, true, true, true, true, true, true, true, false, false] rfl rfl (any_of HT_.out (by kernel_rfl)) (fun _ _ _ h => h) (Or.inl ⟨by rfl, ?_⟩) ?_ ?_
                 rotate_left
                 ·intro w'
                  go_simp
                  with_reducible rfl
                 rotate_left
                 ·simp only [Act.put, List.setIfInBounds_toArray, List.set_cons_zero, List.set_cons_succ, i64_w, i32_w]
                  rfl
                 exact norm_ (by simp only [putAll, Act.put, List.setIfInBounds_toArray, List.set_cons_zero, List.set_cons_succ]) (hCont (gb466) _ ⟨hHeld, (by (with_reducible repeat (first | refine blk_drewN ?_ _ | refine blk_drew ?_ | refine blk_alloc ?_ _)); exact BK425.out), (by (with_reducible repeat (first | refine blk_drewN ?_ _ | refine blk_drew ?_ | refine blk_alloc ?_ _)); exact BK426.out), (by (with_reducible repeat (first | refine blk_drewN ?_ _ | refine blk_drew ?_ | refine blk_alloc ?_ _)); exact BK443.out), (by (with_reducible repeat (first | refine blk_drewN ?_ _ | refine blk_drew ?_ | refine blk_alloc ?_ _)); exact BK466.out), GW466.out, GE466.out, NB425_466.out, NB466_425.out, NB426_466.out, NB466_426.out, NB443_466.out, NB466_443.out, (by repeat (first | (with_reducible first | exact HB.out | apply below_alloc | apply pw_below_drewN | apply below_drew1 | refine below_set ?_ GE425.out | refine below_set ?_ GE426.out | refine below_set ?_ GE443.out | refine below_set ?_ GE466.out) | exact HB.out))⟩)
               rintro gb466 w186 ⟨hS_, h0_, h1_, h2_, h3_, h4_, h5_, h6_, h7_, h8_, h9_, h10_, h11_, h12_⟩
               have n0_ : Aside0 (w186.heap[gb425]? = some (.cells #[.int .i64 a1_0, .int .i64 a1_1, .string a1_2] 24 (0, 0))) := ⟨h0_⟩
               have n1_ : Aside0 (w186.heap[gb426]? = some (.cells #[.int .i64 a2_0, .int .i64 a2_1, .string a2_2] 24 (0, 0))) := ⟨h1_⟩
               have n2_ : Aside0 (w186.heap[gb443]? = some (.cells #[.int .i64 x444000_40, .int .i64 x444001_40, .string x444002_40] 24 (0, 0))) := ⟨h2_⟩
               have n3_ : Aside0 (w186.heap[gb466]? = some (.cells #[.int .i64 0, .int .i64 0, .string (⟨#[]⟩ : ByteArray)] 28 (0, 0))) := ⟨h3_⟩
               have n4_ : Aside0 (w.heap.size ≤ gb466) := ⟨h4_⟩
               have n5_ : Aside0 (w.heap.size ≤ gb466) := ⟨h5_⟩
               have n6_ : Aside0 (gb425 ≠ gb466) := ⟨h6_⟩
               have n7_ : Aside0 (gb466 ≠ gb425) := ⟨h7_⟩
               have n8_ : Aside0 (gb426 ≠ gb466) := ⟨h8_⟩
               have n9_ : Aside0 (gb466 ≠ gb426) := ⟨h9_⟩
               have n10_ : Aside0 (gb443 ≠ gb466) := ⟨h10_⟩
               have n11_ : Aside0 (gb466 ≠ gb443) := ⟨h11_⟩
               have n12_ : Aside0 (Below w.heap.size w w186) := ⟨h12_⟩
               clear BK425
               clear BK426
               clear BK443
               clear HB
               clear h0_ h1_ h2_ h3_ h4_ h5_ h6_ h7_ h8_ h9_ h10_ h11_ h12_
               have BK425 := n0_
               have BK426 := n1_
               have BK443 := n2_
               have BK466 := n3_
               have GW466 := n4_
               have GE466 := n5_
               have NB425_466 := n6_
               have NB466_425 := n7_
               have NB426_466 := n8_
               have NB466_426 := n9_
               have NB443_466 := n10_
               have NB466_443 := n11_
               have HB := n12_
               clear n0_ n1_ n2_ n3_ n4_ n5_ n6_ n7_ n8_ n9_ n10_ n11_ n12_
               have hHeld : w186.cell? ⟨gb425, 0, none⟩ = some (.int .i64 a1_0) ∧ w186.cell? ⟨gb425, 1, none⟩ = some (.int .i64 a1_1) ∧ w186.cell? ⟨gb425, 2, none⟩ = some (.string a1_2) ∧ w186.cell? ⟨gb426, 0, none⟩ = some (.int .i64 a2_0) ∧ w186.cell? ⟨gb426, 1, none⟩ = some (.int .i64 a2_1) ∧ w186.cell? ⟨gb426, 2, none⟩ = some (.string a2_2) := hS_
               refine norm_ (a' := ?_) ?_ ?_
               rotate_left
               ·simp only [putAll, Act.put, List.setIfInBounds_toArray, List.set_cons_zero, List.set_cons_succ]
                rfl
               refine one_ (i := 10) (N := none) #[true, true, true, true, true, true, true, true, true, true, true, false] rfl rfl (one_of HT_.out (by kernel_rfl)) (by decide) (fun K hK => ?_)
               have hs187 : w186.cell? ⟨gb466, 0, none⟩ = some (.int .i64 0) := (blk_cell BK466.out 0).trans rfl
               have hfs187 := blk_frozen BK466.out 0
               have hns187_0 := NB425_466.out
               have hns187_1 := NB426_466.out
               have hns187_2 := NB443_466.out
               have hms187_0 := NB466_425.out
               have hms187_1 := NB466_426.out
               have hms187_2 := NB466_443.out
               have hs188 : w186.cell? ⟨gb466, 1, none⟩ = some (.int .i64 0) := (blk_cell BK466.out 1).trans rfl
               have hfs188 := blk_frozen BK466.out 1
               have hns188_0 := NB425_466.out
               have hns188_1 := NB426_466.out
               have hns188_2 := NB443_466.out
               have hms188_0 := NB466_425.out
               have hms188_1 := NB466_426.out
               have hms188_2 := NB466_443.out
               have hs189 : w186.cell? ⟨gb466, 2, none⟩ = some (.string (⟨#[]⟩ : ByteArray)) := (blk_cell BK466.out 2).trans rfl
               have hfs189 := blk_frozen BK466.out 2
               have hns189_0 := NB425_466.out
               have hns189_1 := NB426_466.out
               have hns189_2 := NB443_466.out
               have hms189_0 := NB466_425.out
               have hms189_1 := NB466_426.out
               have hms189_2 := NB466_443.out
               refine skip_ (w1 := ?_) (by rfl) rfl ?_ ?_
               rotate_left
               ·go_simp
                rfl
               refine hK.out _ _ ⟨((cell_far (p := ⟨gb466, _, none⟩) NB425_466.out _).trans (((cell_far (p := ⟨gb466, _, none⟩) NB425_466.out _).trans (((cell_far (p := ⟨gb466, _, none⟩) NB425_466.out _).trans (hHeld.1)))))), ((cell_far (p := ⟨gb466, _, none⟩) NB425_466.out _).trans (((cell_far (p := ⟨gb466, _, none⟩) NB425_466.out _).trans (((cell_far (p := ⟨gb466, _, none⟩) NB425_466.out _).trans (hHeld.2.1)))))), ((cell_far (p := ⟨gb466, _, none⟩) NB425_466.out _).trans (((cell_far (p := ⟨gb466, _, none⟩) NB425_466.out _).trans (((cell_far (p := ⟨gb466, _, none⟩) NB425_466.out _).trans (hHeld.2.2.1)))))), ((cell_far (p := ⟨gb466, _, none⟩) NB426_466.out _).trans (((cell_far (p := ⟨gb466, _, none⟩) NB426_466.out _).trans (((cell_far (p := ⟨gb466, _, none⟩) NB426_466.out _).trans (hHeld.2.2.2.1)))))), ((cell_far (p := ⟨gb466, _, none⟩) NB426_466.out _).trans (((cell_far (p := ⟨gb466, _, none⟩) NB426_466.out _).trans (((cell_far (p := ⟨gb466, _, none⟩) NB426_466.out _).trans (hHeld.2.2.2.2.1)))))), ((cell_far (p := ⟨gb466, _, none⟩) NB426_466.out _).trans (((cell_far (p := ⟨gb466, _, none⟩) NB426_466.out _).trans (((cell_far (p := ⟨gb466, _, none⟩) NB426_466.out _).trans (hHeld.2.2.2.2.2))))))⟩ (fun hHeld => ?_)
               clear hK K
               refine pure_ (i := 11) (N := some 15) (v := ?_) (a' := ?_) #[true, true, true, true, true, true, true, true, true, true, true, true] rfl rfl (any_of HT_.out (by kernel_rfl)) (fun _ _ _ h => h) (Or.inl ⟨by rfl, ?_⟩) ?_ ?_
               rotate_left
               ·intro w'
                go_simp
                with_reducible rfl
               rotate_left
               ·simp only [Act.put, List.setIfInBounds_toArray, List.set_cons_zero, List.set_cons_succ, i64_w, i32_w]
                rfl
               refine done_ (done_of HT_.out (by kernel_rfl)) ?_
               have hnb190 := NB425_466.out
               have hnc190 := NB466_425.out
               have hcz191_0 : w186.cell? ⟨gb425, 0, none⟩ = some (.int .i64 a1_0) := (blk_cell BK425.out 0).trans rfl
               have hcz191_1 : w186.cell? ⟨gb425, 1, none⟩ = some (.int .i64 a1_1) := (blk_cell BK425.out 1).trans rfl
               have hcz191_2 : w186.cell? ⟨gb425, 2, none⟩ = some (.string a1_2) := (blk_cell BK425.out 2).trans rfl
               have hfz191_0 := blk_frozen BK425.out 0
               have hfz191_1 := blk_frozen BK425.out 1
               have hfz191_2 := blk_frozen BK425.out 2
               have hnb192 := NB426_466.out
               have hnc192 := NB466_426.out
               have hcz193_0 : w186.cell? ⟨gb426, 0, none⟩ = some (.int .i64 a2_0) := (blk_cell BK426.out 0).trans rfl
               have hcz193_1 : w186.cell? ⟨gb426, 1, none⟩ = some (.int .i64 a2_1) := (blk_cell BK426.out 1).trans rfl
               have hcz193_2 : w186.cell? ⟨gb426, 2, none⟩ = some (.string a2_2) := (blk_cell BK426.out 2).trans rfl
               have hfz193_0 := blk_frozen BK426.out 0
               have hfz193_1 := blk_frozen BK426.out 1
               have hfz193_2 := blk_frozen BK426.out 2
               try go_wp2_with (first | ((with_reducible refine gate_callee (f := 22) rfl ?_); refine goesL_ (some 103) rfl rfl Tryd.func22 (by kernel_rfl) rfl #[.int .i64 a0, .int .i64 a1_0, .int .i64 a2_0] rfl (by (try simp only [List.map_toArray, List.map_cons, List.map_nil]); first | done | rfl | (simp only [List.length_drop, List.length_take]; rfl)) ?_; (with_reducible refine (val_Result.calls kj40 a0 a1_0 a2_0 t467 true _ A96.out).mono ?_); rintro e w' ⟨rfl, ⟨nd, rfl⟩⟩; refine ⟨_, rfl, ?_⟩))
               have n0_ : Aside0 ((((w186.setCell ⟨gb466, 0, none⟩ (.int .i64 t462)).setCell ⟨gb466, 1, none⟩ (.int .i64 t463)).setCell ⟨gb466, 2, none⟩ (.string t464)).heap[gb425]? = some (.cells #[.int .i64 a1_0, .int .i64 a1_1, .string a1_2] 24 (0, 0))) := ⟨by (with_reducible repeat (first | refine blk_drewN ?_ _ | refine blk_drew ?_ | refine blk_alloc ?_ _)); refine blk_far ?_ NB425_466.out _; (with_reducible repeat (first | refine blk_drewN ?_ _ | refine blk_drew ?_ | refine blk_alloc ?_ _)); refine blk_far ?_ NB425_466.out _; (with_reducible repeat (first | refine blk_drewN ?_ _ | refine blk_drew ?_ | refine blk_alloc ?_ _)); refine blk_far ?_ NB425_466.out _; (with_reducible repeat (first | refine blk_drewN ?_ _ | refine blk_drew ?_ | refine blk_alloc ?_ _)); exact BK425.out⟩
               have n1_ : Aside0 ((((w186.setCell ⟨gb466, 0, none⟩ (.int .i64 t462)).setCell ⟨gb466, 1, none⟩ (.int .i64 t463)).setCell ⟨gb466, 2, none⟩ (.string t464)).heap[gb426]? = some (.cells #[.int .i64 a2_0, .int .i64 a2_1, .string a2_2] 24 (0, 0))) := ⟨by (with_reducible repeat (first | refine blk_drewN ?_ _ | refine blk_drew ?_ | refine blk_alloc ?_ _)); refine blk_far ?_ NB426_466.out _; (with_reducible repeat (first | refine blk_drewN ?_ _ | refine blk_drew ?_ | refine blk_alloc ?_ _)); refine blk_far ?_ NB426_466.out _; (with_reducible repeat (first | refine blk_drewN ?_ _ | refine blk_drew ?_ | refine blk_alloc ?_ _)); refine blk_far ?_ NB426_466.out _; (with_reducible repeat (first | refine blk_drewN ?_ _ | refine blk_drew ?_ | refine blk_alloc ?_ _)); exact BK426.out⟩
               have n2_ : Aside0 ((((w186.setCell ⟨gb466, 0, none⟩ (.int .i64 t462)).setCell ⟨gb466, 1, none⟩ (.int .i64 t463)).setCell ⟨gb466, 2, none⟩ (.string t464)).heap[gb443]? = some (.cells #[.int .i64 x444000_40, .int .i64 x444001_40, .string x444002_40] 24 (0, 0))) := ⟨by (with_reducible repeat (first | refine blk_drewN ?_ _ | refine blk_drew ?_ | refine blk_alloc ?_ _)); refine blk_far ?_ NB443_466.out _; (with_reducible repeat (first | refine blk_drewN ?_ _ | refine blk_drew ?_ | refine blk_alloc ?_ _)); refine blk_far ?_ NB443_466.out _; (with_reducible repeat (first | refine blk_drewN ?_ _ | refine blk_drew ?_ | refine blk_alloc ?_ _)); refine blk_far ?_ NB443_466.out _; (with_reducible repeat (first | refine blk_drewN ?_ _ | refine blk_drew ?_ | refine blk_alloc ?_ _)); exact BK443.out⟩
               have n3_ : Aside0 ((((w186.setCell ⟨gb466, 0, none⟩ (.int .i64 t462)).setCell ⟨gb466, 1, none⟩ (.int .i64 t463)).setCell ⟨gb466, 2, none⟩ (.string t464)).heap[gb466]? = some (.cells #[.int .i64 t462, .int .i64 t463, .string t464] 28 (0, 0))) := ⟨by (with_reducible repeat (first | refine blk_drewN ?_ _ | refine blk_drew ?_ | refine blk_alloc ?_ _)); refine blk_put (cs := #[.int .i64 t462, .int .i64 t463, .string (⟨#[]⟩ : ByteArray)]) ?_ 2 _ rfl; (with_reducible repeat (first | refine blk_drewN ?_ _ | refine blk_drew ?_ | refine blk_alloc ?_ _)); refine blk_put (cs := #[.int .i64 t462, .int .i64 0, .string (⟨#[]⟩ : ByteArray)]) ?_ 1 _ rfl; (with_reducible repeat (first | refine blk_drewN ?_ _ | refine blk_drew ?_ | refine blk_alloc ?_ _)); refine blk_put (cs := #[.int .i64 0, .int .i64 0, .string (⟨#[]⟩ : ByteArray)]) ?_ 0 _ rfl; (with_reducible repeat (first | refine blk_drewN ?_ _ | refine blk_drew ?_ | refine blk_alloc ?_ _)); exact BK466.out⟩
               have n4_ : Aside0 (Below w.heap.size w (((w186.setCell ⟨gb466, 0, none⟩ (.int .i64 t462)).setCell ⟨gb466, 1, none⟩ (.int .i64 t463)).setCell ⟨gb466, 2, none⟩ (.string t464))) := ⟨by repeat (first | (with_reducible first | exact HB.out | apply below_alloc | apply pw_below_drewN | apply below_drew1 | refine below_set ?_ GE425.out | refine below_set ?_ GE426.out | refine below_set ?_ GE443.out | refine below_set ?_ GE466.out) | exact HB.out)⟩
               (try clear BK425)
               (try clear BK426)
               (try clear BK443)
               (try clear BK466)
               (try clear HB)
               generalize (((w186.setCell ⟨gb466, 0, none⟩ (.int .i64 t462)).setCell ⟨gb466, 1, none⟩ (.int .i64 t463)).setCell ⟨gb466, 2, none⟩ (.string t464)) = w194 at n0_ n1_ n2_ n3_ n4_ ⊢
               have BK425 := n0_
               have BK426 := n1_
               have BK443 := n2_
               have BK466 := n3_
               have HB := n4_
               clear n0_ n1_ n2_ n3_ n4_
               (try (rw [drewN_self w194]; generalize hq_ : World.drewN w194 _ = w194; have n0_ : Aside0 (w194.heap[gb425]? = some (.cells #[.int .i64 a1_0, .int .i64 a1_1, .string a1_2] 24 (0, 0))) := ⟨by rw [← hq_]; exact (by (with_reducible repeat (first | refine blk_drewN ?_ _ | refine blk_drew ?_ | refine blk_alloc ?_ _)); exact BK425.out)⟩; have n1_ : Aside0 (w194.heap[gb426]? = some (.cells #[.int .i64 a2_0, .int .i64 a2_1, .string a2_2] 24 (0, 0))) := ⟨by rw [← hq_]; exact (by (with_reducible repeat (first | refine blk_drewN ?_ _ | refine blk_drew ?_ | refine blk_alloc ?_ _)); exact BK426.out)⟩; have n2_ : Aside0 (w194.heap[gb443]? = some (.cells #[.int .i64 x444000_40, .int .i64 x444001_40, .string x444002_40] 24 (0, 0))) := ⟨by rw [← hq_]; exact (by (with_reducible repeat (first | refine blk_drewN ?_ _ | refine blk_drew ?_ | refine blk_alloc ?_ _)); exact BK443.out)⟩; have n3_ : Aside0 (w194.heap[gb466]? = some (.cells #[.int .i64 t462, .int .i64 t463, .string t464] 28 (0, 0))) := ⟨by rw [← hq_]; exact (by (with_reducible repeat (first | refine blk_drewN ?_ _ | refine blk_drew ?_ | refine blk_alloc ?_ _)); exact BK466.out)⟩; have n4_ : Aside0 (Below w.heap.size w w194) := ⟨by rw [← hq_]; exact (by repeat (first | (with_reducible first | exact HB.out | apply below_alloc | apply pw_below_drewN | apply below_drew1 | refine below_set ?_ GE425.out | refine below_set ?_ GE426.out | refine below_set ?_ GE443.out | refine below_set ?_ GE466.out) | exact HB.out))⟩; clear BK425 BK426 BK443 BK466 HB hq_; have BK425 := n0_; have BK426 := n1_; have BK443 := n2_; have BK466 := n3_; have HB := n4_; clear n0_ n1_ n2_ n3_ n4_))
               have n0_ := Aside0.mk (blk_drew BK425.out)
               have n1_ := Aside0.mk (blk_drew BK426.out)
               have n2_ := Aside0.mk (blk_drew BK443.out)
               have n3_ := Aside0.mk (blk_drew BK466.out)
               have n4_ := Aside0.mk (below_drew1 HB.out)
               clear BK425
               clear BK426
               clear BK443
               clear BK466
               clear HB
               have BK425 := n0_
               have BK426 := n1_
               have BK443 := n2_
               have BK466 := n3_
               have HB := n4_
               clear n0_ n1_ n2_ n3_ n4_
               refine start_ (n := 23) (S := fun w' => w'.cell? ⟨gb443, 0, none⟩ = some (.int .i64 x444000_40) ∧ w'.cell? ⟨gb443, 1, none⟩ = some (.int .i64 x444001_40) ∧ w'.cell? ⟨gb443, 2, none⟩ = some (.string x444002_40) ∧ w'.cell? ⟨gb466, 0, none⟩ = some (.int .i64 t462) ∧ w'.cell? ⟨gb466, 1, none⟩ = some (.int .i64 t463) ∧ w'.cell? ⟨gb466, 2, none⟩ = some (.string t464) ∧ w'.cell? ⟨gb425, 0, none⟩ = some (.int .i64 a1_0) ∧ w'.cell? ⟨gb425, 1, none⟩ = some (.int .i64 a1_1) ∧ w'.cell? ⟨gb425, 2, none⟩ = some (.string a1_2) ∧ w'.cell? ⟨gb426, 0, none⟩ = some (.int .i64 a2_0) ∧ w'.cell? ⟨gb426, 1, none⟩ = some (.int .i64 a2_1) ∧ w'.cell? ⟨gb426, 2, none⟩ = some (.string a2_2)) (ds := []) #[false, false, false, false, false, false, false, false, false, false, false, false, false, false, false, false, false, false, false, false, false, false, false] (by kernel_rfl) rfl rfl ⟨(blk_cell BK443.out 0).trans rfl, (blk_cell BK443.out 1).trans rfl, (blk_cell BK443.out 2).trans rfl, (blk_cell BK466.out 0).trans rfl, (blk_cell BK466.out 1).trans rfl, (blk_cell BK466.out 2).trans rfl, (blk_cell BK425.out 0).trans rfl, (blk_cell BK425.out 1).trans rfl, (blk_cell BK425.out 2).trans rfl, (blk_cell BK426.out 0).trans rfl, (blk_cell BK426.out 1).trans rfl, (blk_cell BK426.out 2).trans rfl⟩ (fun hHeld => ?_); refine with_tabW whirligiglaw01_ValReckons.tab19 whirligiglaw01_ValReckons.bits19 (fun HT_ HW_ => ?_)
               generalize w194.drew = w195 at BK425 BK426 BK443 BK466 HB hHeld ⊢
               refine pure_ (i := 0) (N := some 106) (v := ?_) (a' := ?_) #[true, false, false, false, false, false, false, false, false, false, false, false, false, false, false, false, false, false, false, false, false, false, false] rfl rfl (any_of HT_.out (by kernel_rfl)) (fun _ _ _ h => h) (Or.inl ⟨by rfl, ?_⟩) ?_ ?_
               rotate_left
               ·intro w'
                go_simp
                with_reducible rfl
               rotate_left
               ·simp only [Act.put, List.setIfInBounds_toArray, List.set_cons_zero, List.set_cons_succ, i64_w, i32_w]
                rfl
               refine pure_ (i := 1) (N := some 107) (v := ?_) (a' := ?_) #[true, true, false, false, false, false, false, false, false, false, false, false, false, false, false, false, false, false, false, false, false, false, false] rfl rfl (any_of HT_.out (by kernel_rfl)) (fun _ _ _ h => h) (Or.inl ⟨by rfl, ?_⟩) ?_ ?_
               rotate_left
               ·intro w'
                go_simp
                with_reducible rfl
               rotate_left
               ·simp only [Act.put, List.setIfInBounds_toArray, List.set_cons_zero, List.set_cons_succ, i64_w, i32_w]
                rfl
               refine pure_ (i := 2) (N := some 108) (v := ?_) (a' := ?_) #[true, true, true, false, false, false, false, false, false, false, false, false, false, false, false, false, false, false, false, false, false, false, false] rfl rfl (any_of HT_.out (by kernel_rfl)) (fun _ _ _ h => h) (Or.inl ⟨by rfl, ?_⟩) ?_ ?_
               rotate_left
               ·intro w'
                go_simp
                with_reducible rfl
               rotate_left
               ·simp only [Act.put, List.setIfInBounds_toArray, List.set_cons_zero, List.set_cons_succ, i64_w, i32_w]
                rfl
               refine pure_ (i := 3) (N := some 109) (v := ?_) (a' := ?_) #[true, true, true, true, false, false, false, false, false, false, false, false, false, false, false, false, false, false, false, false, false, false, false] rfl rfl (any_of HT_.out (by kernel_rfl)) (fun _ _ _ h => h) (Or.inl ⟨by rfl, ?_⟩) ?_ ?_
               rotate_left
               ·intro w'
                go_simp
                with_reducible rfl
               rotate_left
               ·simp only [Act.put, List.setIfInBounds_toArray, List.set_cons_zero, List.set_cons_succ, i64_w, i32_w]
                rfl
               refine take_ (i := 4) (N := some 110) (v := ?_) (a' := ?_) #[true, true, true, true, true, false, false, false, false, false, false, false, false, false, false, false, false, false, false, false, false, false, false] rfl rfl (take_ofW HT_.out HW_.out (by kernel_rfl)) (fun _ _ _ h => h) (Or.inl ⟨by rfl, ?_⟩) hHeld ?_ ?_
               rotate_left
               ·rintro w' ⟨s0, s1, s2, s3, s4, s5, s6, s7, s8, s9, s10, s11⟩
                go_simp
                with_reducible rfl
               rotate_left
               ·simp only [Act.put, List.setIfInBounds_toArray, List.set_cons_zero, List.set_cons_succ, i64_w, i32_w]
                rfl
               refine take_ (i := 6) (N := some 112) (v := ?_) (a' := ?_) #[true, true, true, true, true, false, true, false, false, false, false, false, false, false, false, false, false, false, false, false, false, false, false] rfl rfl (take_ofW HT_.out HW_.out (by kernel_rfl)) (fun _ _ _ h => h) (Or.inl ⟨by rfl, ?_⟩) hHeld ?_ ?_
               rotate_left
               ·rintro w' ⟨s0, s1, s2, s3, s4, s5, s6, s7, s8, s9, s10, s11⟩
                go_simp
                with_reducible rfl
               rotate_left
               ·simp only [Act.put, List.setIfInBounds_toArray, List.set_cons_zero, List.set_cons_succ, i64_w, i32_w]
                rfl
               refine one_ (i := 5) (N := some 111) #[true, true, true, true, true, true, true, false, false, false, false, false, false, false, false, false, false, false, false, false, false, false, false] rfl rfl (one_of HT_.out (by kernel_rfl)) (by decide) (fun K hK => ?_)
               refine goes_ Tryd.func12 (by kernel_rfl) rfl #[.agg #[.int .i64 x444000_40, .int .i64 x444001_40, .string x444002_40]] (by rfl) rfl rfl (by (try simp only [List.map_toArray, List.map_cons, List.map_nil]); first | done | rfl | (simp only [List.length_drop, List.length_take]; rfl)) ?_
               with_reducible refine (whirligiglaw01_ref.calls x444000_40 x444001_40 x444002_40 t469 t470 t471 _ A98.out).mono ?_
               rintro e w196 ⟨rfl, hb⟩
               refine ⟨_, rfl, ?_⟩
               have n0_ := Aside0.mk (blk_below (g := gb425) (o := .cells #[.int .i64 a1_0, .int .i64 a1_1, .string a1_2] 24 (0, 0)) (by (with_reducible repeat (first | refine blk_drewN ?_ _ | refine blk_drew ?_ | refine blk_alloc ?_ _)); exact BK425.out) hb)
               have n1_ := Aside0.mk (blk_below (g := gb426) (o := .cells #[.int .i64 a2_0, .int .i64 a2_1, .string a2_2] 24 (0, 0)) (by (with_reducible repeat (first | refine blk_drewN ?_ _ | refine blk_drew ?_ | refine blk_alloc ?_ _)); exact BK426.out) hb)
               have n2_ := Aside0.mk (blk_below (g := gb443) (o := .cells #[.int .i64 x444000_40, .int .i64 x444001_40, .string x444002_40] 24 (0, 0)) (by (with_reducible repeat (first | refine blk_drewN ?_ _ | refine blk_drew ?_ | refine blk_alloc ?_ _)); exact BK443.out) hb)
               have n3_ := Aside0.mk (blk_below (g := gb466) (o := .cells #[.int .i64 t462, .int .i64 t463, .string t464] 28 (0, 0)) (by (with_reducible repeat (first | refine blk_drewN ?_ _ | refine blk_drew ?_ | refine blk_alloc ?_ _)); exact BK466.out) hb)
               have n4_ := Aside0.mk (below_step (by repeat (first | (with_reducible first | exact HB.out | apply below_alloc | apply pw_below_drewN | apply below_drew1 | refine below_set ?_ GE425.out | refine below_set ?_ GE426.out | refine below_set ?_ GE443.out | refine below_set ?_ GE466.out) | exact HB.out)) hb)
               clear BK425
               clear BK426
               clear BK443
               clear BK466
               clear HB
               have BK425 := n0_
               have BK426 := n1_
               have BK443 := n2_
               have BK466 := n3_
               have HB := n4_
               clear n0_ n1_ n2_ n3_ n4_
               (try clear hb)
               (try clear hb2)
               (try clear hk)
               (try clear hi)
               refine hK.out _ _ ⟨(blk_cell BK443.out 0).trans rfl, (blk_cell BK443.out 1).trans rfl, (blk_cell BK443.out 2).trans rfl, (blk_cell BK466.out 0).trans rfl, (blk_cell BK466.out 1).trans rfl, (blk_cell BK466.out 2).trans rfl, (blk_cell BK425.out 0).trans rfl, (blk_cell BK425.out 1).trans rfl, (blk_cell BK425.out 2).trans rfl, (blk_cell BK426.out 0).trans rfl, (blk_cell BK426.out 1).trans rfl, (blk_cell BK426.out 2).trans rfl⟩ (fun hHeld => ?_)
               clear hK K
               refine norm_ (a' := ?_) ?_ ?_
               rotate_left
               ·show Act.put _ (some 111) _ = _
                simp only [Act.put, List.setIfInBounds_toArray, List.set_cons_zero, List.set_cons_succ, i64_w, i32_w]
                rfl
               refine pure_ (i := 7) (N := some 113) (v := ?_) (a' := ?_) #[true, true, true, true, true, true, true, true, false, false, false, false, false, false, false, false, false, false, false, false, false, false, false] rfl rfl (any_of HT_.out (by kernel_rfl)) (fun _ _ _ h => h) (Or.inl ⟨by rfl, ?_⟩) ?_ ?_
               rotate_left
               ·intro w'
                go_simp
                with_reducible rfl
               rotate_left
               ·simp only [Act.put, List.setIfInBounds_toArray, List.set_cons_zero, List.set_cons_succ, i64_w, i32_w]
                rfl
               refine pure_ (i := 8) (N := some 114) (v := ?_) (a' := ?_) #[true, true, true, true, true, true, true, true, true, false, false, false, false, false, false, false, false, false, false, false, false, false, false] rfl rfl (any_of HT_.out (by kernel_rfl)) (fun _ _ _ h => h) (Or.inl ⟨by rfl, ?_⟩) ?_ ?_
               rotate_left
               ·intro w'
                go_simp
                with_reducible rfl
               rotate_left
               ·simp only [Act.put, List.setIfInBounds_toArray, List.set_cons_zero, List.set_cons_succ, i64_w, i32_w]
                rfl
               refine pure_ (i := 9) (N := some 115) (v := ?_) (a' := ?_) #[true, true, true, true, true, true, true, true, true, true, false, false, false, false, false, false, false, false, false, false, false, false, false] rfl rfl (any_of HT_.out (by kernel_rfl)) (fun _ _ _ h => h) (Or.inl ⟨by rfl, ?_⟩) ?_ ?_
               rotate_left
               ·intro w'
                go_simp
                with_reducible rfl
               rotate_left
               ·simp only [Act.put, List.setIfInBounds_toArray, List.set_cons_zero, List.set_cons_succ, i64_w, i32_w]
                rfl
               refine pure_ (i := 10) (N := some 116) (v := ?_) (a' := ?_) #[true, true, true, true, true, true, true, true, true, true, true, false, false, false, false, false, false, false, false, false, false, false, false] rfl rfl (any_of HT_.out (by kernel_rfl)) (fun _ _ _ h => h) (Or.inl ⟨by rfl, ?_⟩) ?_ ?_
               rotate_left
               ·intro w'
                go_simp
                with_reducible rfl
               rotate_left
               ·simp only [Act.put, List.setIfInBounds_toArray, List.set_cons_zero, List.set_cons_succ, i64_w, i32_w]
                rfl
               refine pure_ (i := 11) (N := some 117) (v := ?_) (a' := ?_) #[true, true, true, true, true, true, true, true, true, true, true, true, false, false, false, false, false, false, false, false, false, false, false] rfl rfl (any_of HT_.out (by kernel_rfl)) (fun _ _ _ h => h) (Or.inl ⟨by rfl, ?_⟩) ?_ ?_
               rotate_left
               ·intro w'
                go_simp
                with_reducible rfl
               rotate_left
               ·simp only [Act.put, List.setIfInBounds_toArray, List.set_cons_zero, List.set_cons_succ, i64_w, i32_w]
                rfl
               refine pure_ (i := 12) (N := some 118) (v := ?_) (a' := ?_) #[true, true, true, true, true, true, true, true, true, true, true, true, true, false, false, false, false, false, false, false, false, false, false] rfl rfl (any_of HT_.out (by kernel_rfl)) (fun _ _ _ h => h) (Or.inl ⟨by rfl, ?_⟩) ?_ ?_
               rotate_left
               ·intro w'
                go_simp
                with_reducible rfl
               rotate_left
               ·simp only [Act.put, List.setIfInBounds_toArray, List.set_cons_zero, List.set_cons_succ, i64_w, i32_w]
                rfl
               refine pure_ (i := 13) (N := some 119) (v := ?_) (a' := ?_) #[true, true, true, true, true, true, true, true, true, true, true, true, true, true, false, false, false, false, false, false, false, false, false] rfl rfl (any_of HT_.out (by kernel_rfl)) (fun _ _ _ h => h) (Or.inl ⟨by rfl, ?_⟩) ?_ ?_
               rotate_left
               ·intro w'
                go_simp
                with_reducible rfl
               rotate_left
               ·simp only [Act.put, List.setIfInBounds_toArray, List.set_cons_zero, List.set_cons_succ, i64_w, i32_w]
                rfl
               refine pure_ (i := 14) (N := some 120) (v := ?_) (a' := ?_) #[true, true, true, true, true, true, true, true, true, true, true, true, true, true, true, false, false, false, false, false, false, false, false] rfl rfl (any_of HT_.out (by kernel_rfl)) (fun _ _ _ h => h) (Or.inl ⟨by rfl, ?_⟩) ?_ ?_
               rotate_left
               ·intro w'
                go_simp
                with_reducible rfl
               rotate_left
               ·simp only [Act.put, List.setIfInBounds_toArray, List.set_cons_zero, List.set_cons_succ, i64_w, i32_w]
                rfl
               refine pure_ (i := 15) (N := some 121) (v := ?_) (a' := ?_) #[true, true, true, true, true, true, true, true, true, true, true, true, true, true, true, true, false, false, false, false, false, false, false] rfl rfl (any_of HT_.out (by kernel_rfl)) (fun _ _ _ h => h) (Or.inl ⟨by rfl, ?_⟩) ?_ ?_
               rotate_left
               ·intro w'
                go_simp
                with_reducible rfl
               rotate_left
               ·simp only [Act.put, List.setIfInBounds_toArray, List.set_cons_zero, List.set_cons_succ, i64_w, i32_w]
                rfl
               refine pure_ (i := 16) (N := some 122) (v := ?_) (a' := ?_) #[true, true, true, true, true, true, true, true, true, true, true, true, true, true, true, true, true, false, false, false, false, false, false] rfl rfl (any_of HT_.out (by kernel_rfl)) (fun _ _ _ h => h) (Or.inl ⟨by rfl, ?_⟩) ?_ ?_
               rotate_left
               ·intro w'
                go_simp
                with_reducible rfl
               rotate_left
               ·simp only [Act.put, List.setIfInBounds_toArray, List.set_cons_zero, List.set_cons_succ, i64_w, i32_w]
                rfl
               refine pure_ (i := 18) (N := some 124) (v := ?_) (a' := ?_) #[true, true, true, true, true, true, true, true, true, true, true, true, true, true, true, true, true, false, true, false, false, false, false] rfl rfl (any_of HT_.out (by kernel_rfl)) (fun _ _ _ h => h) (Or.inl ⟨by rfl, ?_⟩) ?_ ?_
               rotate_left
               ·intro w'
                go_simp
                with_reducible rfl
               rotate_left
               ·simp only [Act.put, List.setIfInBounds_toArray, List.set_cons_zero, List.set_cons_succ, i64_w, i32_w]
                rfl
               refine take_ (i := 17) (N := some 123) (v := ?_) (a' := ?_) #[true, true, true, true, true, true, true, true, true, true, true, true, true, true, true, true, true, true, true, false, false, false, false] rfl rfl (take_ofW HT_.out HW_.out (by kernel_rfl)) (fun _ _ _ h => h) (Or.inl ⟨by rfl, ?_⟩) hHeld ?_ ?_
               rotate_left
               ·rintro w' ⟨s0, s1, s2, s3, s4, s5, s6, s7, s8, s9, s10, s11⟩
                go_simp
                with_reducible rfl
               rotate_left
               ·simp only [Act.put, List.setIfInBounds_toArray, List.set_cons_zero, List.set_cons_succ, i64_w, i32_w]
                rfl
               refine take_ (i := 19) (N := some 125) (v := ?_) (a' := ?_) #[true, true, true, true, true, true, true, true, true, true, true, true, true, true, true, true, true, true, true, true, false, false, false] rfl rfl (take_ofW HT_.out HW_.out (by kernel_rfl)) (fun _ _ _ h => h) (Or.inl ⟨by rfl, ?_⟩) hHeld ?_ ?_
               rotate_left
               ·rintro w' ⟨s0, s1, s2, s3, s4, s5, s6, s7, s8, s9, s10, s11⟩
                go_simp
                with_reducible rfl
               rotate_left
               ·simp only [Act.put, List.setIfInBounds_toArray, List.set_cons_zero, List.set_cons_succ, i64_w, i32_w]
                rfl
               refine one_ (i := 20) (N := some 126) #[true, true, true, true, true, true, true, true, true, true, true, true, true, true, true, true, true, true, true, true, true, false, false] rfl rfl (one_of HT_.out (by kernel_rfl)) (by decide) (fun K hK => ?_)
               refine goes_ Tryd.func21 (by kernel_rfl) rfl #[.int .i64 a0, .int .i64 a1_0, .int .i64 a2_0] (by rfl) rfl rfl (by (try simp only [List.map_toArray, List.map_cons, List.map_nil]); first | done | rfl | (simp only [List.length_drop, List.length_take]; rfl)) ?_
               with_reducible refine (whirligigref01_Result.calls kj40 a0 a1_0 a2_0 t472 _ A122.out).mono ?_
               rintro e w' ⟨rfl, ⟨nd, rfl⟩⟩
               refine ⟨_, rfl, ?_⟩
               refine hK.out _ _ ⟨(blk_cell BK443.out 0).trans rfl, (blk_cell BK443.out 1).trans rfl, (blk_cell BK443.out 2).trans rfl, (blk_cell BK466.out 0).trans rfl, (blk_cell BK466.out 1).trans rfl, (blk_cell BK466.out 2).trans rfl, (blk_cell BK425.out 0).trans rfl, (blk_cell BK425.out 1).trans rfl, (blk_cell BK425.out 2).trans rfl, (blk_cell BK426.out 0).trans rfl, (blk_cell BK426.out 1).trans rfl, (blk_cell BK426.out 2).trans rfl⟩ (fun hHeld => ?_)
               clear hK K
               refine norm_ (a' := ?_) ?_ ?_
               rotate_left
               ·show Act.put _ (some 126) _ = _
                simp only [Act.put, List.setIfInBounds_toArray, List.set_cons_zero, List.set_cons_succ, i64_w, i32_w]
                rfl
               refine pure_ (i := 21) (N := some 127) (v := ?_) (a' := ?_) #[true, true, true, true, true, true, true, true, true, true, true, true, true, true, true, true, true, true, true, true, true, true, false] rfl rfl (any_of HT_.out (by kernel_rfl)) (fun _ _ _ h => h) (Or.inl ⟨by rfl, ?_⟩) ?_ ?_
               rotate_left
               ·intro w'
                go_simp
                with_reducible rfl
               rotate_left
               ·simp only [Act.put, List.setIfInBounds_toArray, List.set_cons_zero, List.set_cons_succ, i64_w, i32_w]
                rfl
               refine pure_ (i := 22) (N := some 128) (v := ?_) (a' := ?_) #[true, true, true, true, true, true, true, true, true, true, true, true, true, true, true, true, true, true, true, true, true, true, true] rfl rfl (any_of HT_.out (by kernel_rfl)) (fun _ _ _ h => h) (Or.inl ⟨by rfl, ?_⟩) ?_ ?_
               rotate_left
               ·intro w'
                go_simp
                with_reducible rfl
               rotate_left
               ·simp only [Act.put, List.setIfInBounds_toArray, List.set_cons_zero, List.set_cons_succ, i64_w, i32_w]
                rfl
               refine done_ (done_of HT_.out (by kernel_rfl)) ?_
               try go_wp2
               go_ret
               exact ⟨by first | rfl | (simp [errW_none, errW_some] <;> rfl) | (simp [*, errW_none, errW_some] <;> rfl), by repeat (first | (with_reducible first | exact HB.out | apply below_alloc | apply pw_below_drewN | apply below_drew1 | refine below_set ?_ GE425.out | refine below_set ?_ GE426.out | refine below_set ?_ GE443.out | refine below_set ?_ GE466.out) | exact HB.out)⟩
             ·rw [if_neg c123] at H
              have c123b0 : (t467 == t472) = false := beq_eq_false_iff_ne.mpr c123
              have c123b1 : (t467 != t472) = true := bne_iff_ne.mpr c123
              obtain rfl := Option.some.inj H
              exact absurd hr_ (by decide)
            ·replace c121 := Bool.eq_false_iff.mpr c121
             subst c121
             have H1 : (some false) = some r := by rw [if_neg (show ¬ (false = true) by decide)] at H; exact H
             clear H
             have H := H1
             clear H1
             obtain rfl := Option.some.inj H
             exact absurd hr_ (by decide)
          ·rw [if_neg c97] at H
           have c97b0 : (x8_40 == t465) = false := beq_eq_false_iff_ne.mpr c97
           have c97b1 : (x8_40 != t465) = true := bne_iff_ne.mpr c97
           obtain rfl := Option.some.inj H
           exact absurd hr_ (by decide)
 ·replace c5 := Bool.eq_false_iff.mpr c5
  subst c5
  have H1 : (some false) = some r := by rw [if_neg (show ¬ (false = true) by decide)] at H; exact H
  clear H
  have H := H1
  clear H1
  obtain rfl := Option.some.inj H
  exact absurd hr_ (by decide)

end Go.Proofs.YtbbdlcmcndhhkaaDoor.MValReckons
