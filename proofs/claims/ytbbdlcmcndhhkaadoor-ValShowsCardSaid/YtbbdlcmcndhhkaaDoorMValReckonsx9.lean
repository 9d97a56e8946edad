/- Walks of functions of package val and of its reference, written by a program (wip/myprint.sh), put right by hand where they fell. -/
import Derived.Test.YtbbdlcmcndhhkaaDoorMValReckonsx0
namespace Go.Proofs.YtbbdlcmcndhhkaaDoor.MValReckons
open Go.RowKit Go.Proofs.YtbbdlcmcndhhkaaDoorW.PrintWords Go.Proofs.YtbbdlcmcndhhkaaDoorW.PrintLast Go.Proofs.YtbbdlcmcndhhkaaDoorW.PrintMore
attribute [local go_sem] max2_int min2_int max_two min_two max_three min_three max_four min_four   -- for this text's walks alone
set_option linter.unusedVariables false
set_option linter.unusedSimpArgs false

/-! ### whirligigref01_Result: function 21 -/
mutual
def whirligigref01_Result.j0 : Nat → Int → Int → Int → Bool → Option (Int)
  | 0, _, _, _, _ => none
  | k + 1, x0, x1, x2, x12 => if x12 = true then (some 2) else (if x0 = 2 then (whirligigref01_Result.j1 k x0 x1 x2 (x1 == 1)) else (whirligigref01_Result.j1 k x0 x1 x2 false))
def whirligigref01_Result.j1 : Nat → Int → Int → Int → Bool → Option (Int)
  | 0, _, _, _, _ => none
  | k + 1, x0, x1, x2, x18 => if x18 = true then (some 1) else (if x0 < 3 then (whirligigref01_Result.j2 k x0 x1 true) else (if x0 > 15 then (whirligigref01_Result.j2 k x0 x1 true) else (if x1 = x2 then (if x1 < 1 then (whirligigref01_Result.j2 k x0 x1 true) else (whirligigref01_Result.j2 k x0 x1 (decide (x1 > 3)))) else (whirligigref01_Result.j2 k x0 x1 true))))
def whirligigref01_Result.j2 : Nat → Int → Int → Bool → Option (Int)
  | 0, _, _, _ => none
  | k + 1, x0, x1, x37 => if x37 = true then (some 0) else (if x0 ≥ 14 then (if x1 = 2 then (whirligigref01_Result.j3 k x0 x1 true) else (if x0 = 12 then (whirligigref01_Result.j3 k x0 x1 true) else (whirligigref01_Result.j3 k x0 x1 (x0 == 13)))) else (if x0 = 12 then (whirligigref01_Result.j3 k x0 x1 true) else (whirligigref01_Result.j3 k x0 x1 (x0 == 13))))
def whirligigref01_Result.j3 : Nat → Int → Int → Bool → Option (Int)
  | 0, _, _, _ => none
  | k + 1, x0, x1, x51 => if x51 = true then (some 2) else (if x0 ≥ 8 then (if x0 ≤ 11 then (whirligigref01_Result.j4 k x0 x1 (x1 != 2)) else (whirligigref01_Result.j4 k x0 x1 false)) else (whirligigref01_Result.j4 k x0 x1 false))
def whirligigref01_Result.j4 : Nat → Int → Int → Bool → Option (Int)
  | 0, _, _, _ => none
  | k + 1, x0, x1, x61 => if x61 = true then (some 2) else (if x0 = 6 then (whirligigref01_Result.j5 k x0 x1 (x1 == 3)) else (whirligigref01_Result.j5 k x0 x1 false))
def whirligigref01_Result.j5 : Nat → Int → Int → Bool → Option (Int)
  | 0, _, _, _ => none
  | k + 1, x0, x1, x67 => if x67 = true then (some 3) else (if x0 ≥ 3 then (if x0 ≤ 7 then (if x1 = 1 then (some 1) else (some 0)) else (some 0)) else (some 0))
end
def whirligigref01_Result.f (k : Nat) (a0 : Int) (a1 : Int) (a2 : Int) : Option (Int) := if a0 = 1 then (whirligigref01_Result.j0 k a0 a1 a2 (a1 == 2)) else (whirligigref01_Result.j0 k a0 a1 a2 false)
theorem whirligigref01_Result.mono_l : ∀ k, (∀ y0 y1 y2 y3, LeO (whirligigref01_Result.j0 k y0 y1 y2 y3) (whirligigref01_Result.j0 (k + 1) y0 y1 y2 y3)) ∧ (∀ y0 y1 y2 y3, LeO (whirligigref01_Result.j1 k y0 y1 y2 y3) (whirligigref01_Result.j1 (k + 1) y0 y1 y2 y3)) ∧ (∀ y0 y1 y2, LeO (whirligigref01_Result.j2 k y0 y1 y2) (whirligigref01_Result.j2 (k + 1) y0 y1 y2)) ∧ (∀ y0 y1 y2, LeO (whirligigref01_Result.j3 k y0 y1 y2) (whirligigref01_Result.j3 (k + 1) y0 y1 y2)) ∧ (∀ y0 y1 y2, LeO (whirligigref01_Result.j4 k y0 y1 y2) (whirligigref01_Result.j4 (k + 1) y0 y1 y2)) ∧ (∀ y0 y1 y2, LeO (whirligigref01_Result.j5 k y0 y1 y2) (whirligigref01_Result.j5 (k + 1) y0 y1 y2))
  | 0 => ⟨fun _ _ _ _ r h => by simp [whirligigref01_Result.j0] at h, fun _ _ _ _ r h => by simp [whirligigref01_Result.j1] at h, fun _ _ _ r h => by simp [whirligigref01_Result.j2] at h, fun _ _ _ r h => by simp [whirligigref01_Result.j3] at h, fun _ _ _ r h => by simp [whirligigref01_Result.j4] at h, fun _ _ _ r h => by simp [whirligigref01_Result.j5] at h⟩
  | k + 1 => by
    obtain ⟨ih0, ih1, ih2, ih3, ih4, ih5⟩ := whirligigref01_Result.mono_l k
    refine ⟨?_, ?_, ?_, ?_, ?_, ?_⟩
    · intro y0 y1 y2 y3
      unfold whirligigref01_Result.j0
      repeat' first
      | (with_reducible exact ih0 _ _ _ _)
      | (with_reducible exact ih1 _ _ _ _)
      | (with_reducible exact ih2 _ _ _)
      | (with_reducible exact ih3 _ _ _)
      | (with_reducible exact ih4 _ _ _)
      | (with_reducible exact ih5 _ _ _)
      | (with_reducible exact LeO.refl _)
      | (with_reducible exact LeO.none _)
      | (with_reducible refine LeO.ite ?_ ?_)
      | (with_reducible refine LeO.bind ?_ (fun _ => ?_))
      | exact ih0 _ _ _ _
      | exact ih1 _ _ _ _
      | exact ih2 _ _ _
      | exact ih3 _ _ _
      | exact ih4 _ _ _
      | exact ih5 _ _ _
      | exact LeO.none _
      | refine LeO.ite ?_ ?_
      | refine LeO.bind ?_ (fun _ => ?_)
    · intro y0 y1 y2 y3
      unfold whirligigref01_Result.j1
      repeat' first
      | (with_reducible exact ih0 _ _ _ _)
      | (with_reducible exact ih1 _ _ _ _)
      | (with_reducible exact ih2 _ _ _)
      | (with_reducible exact ih3 _ _ _)
      | (with_reducible exact ih4 _ _ _)
      | (with_reducible exact ih5 _ _ _)
      | (with_reducible exact LeO.refl _)
      | (with_reducible exact LeO.none _)
      | (with_reducible refine LeO.ite ?_ ?_)
      | (with_reducible refine LeO.bind ?_ (fun _ => ?_))
      | exact ih0 _ _ _ _
      | exact ih1 _ _ _ _
      | exact ih2 _ _ _
      | exact ih3 _ _ _
      | exact ih4 _ _ _
      | exact ih5 _ _ _
      | exact LeO.none _
      | refine LeO.ite ?_ ?_
      | refine LeO.bind ?_ (fun _ => ?_)
    · intro y0 y1 y2
      unfold whirligigref01_Result.j2
      repeat' first
      | (with_reducible exact ih0 _ _ _ _)
      | (with_reducible exact ih1 _ _ _ _)
      | (with_reducible exact ih2 _ _ _)
      | (with_reducible exact ih3 _ _ _)
      | (with_reducible exact ih4 _ _ _)
      | (with_reducible exact ih5 _ _ _)
      | (with_reducible exact LeO.refl _)
      | (with_reducible exact LeO.none _)
      | (with_reducible refine LeO.ite ?_ ?_)
      | (with_reducible refine LeO.bind ?_ (fun _ => ?_))
      | exact ih0 _ _ _ _
      | exact ih1 _ _ _ _
      | exact ih2 _ _ _
      | exact ih3 _ _ _
      | exact ih4 _ _ _
      | exact ih5 _ _ _
      | exact LeO.none _
      | refine LeO.ite ?_ ?_
      | refine LeO.bind ?_ (fun _ => ?_)
    · intro y0 y1 y2
      unfold whirligigref01_Result.j3
      repeat' first
      | (with_reducible exact ih0 _ _ _ _)
      | (with_reducible exact ih1 _ _ _ _)
      | (with_reducible exact ih2 _ _ _)
      | (with_reducible exact ih3 _ _ _)
      | (with_reducible exact ih4 _ _ _)
      | (with_reducible exact ih5 _ _ _)
      | (with_reducible exact LeO.refl _)
      | (with_reducible exact LeO.none _)
      | (with_reducible refine LeO.ite ?_ ?_)
      | (with_reducible refine LeO.bind ?_ (fun _ => ?_))
      | exact ih0 _ _ _ _
      | exact ih1 _ _ _ _
      | exact ih2 _ _ _
      | exact ih3 _ _ _
      | exact ih4 _ _ _
      | exact ih5 _ _ _
      | exact LeO.none _
      | refine LeO.ite ?_ ?_
      | refine LeO.bind ?_ (fun _ => ?_)
    · intro y0 y1 y2
      unfold whirligigref01_Result.j4
      repeat' first
      | (with_reducible exact ih0 _ _ _ _)
      | (with_reducible exact ih1 _ _ _ _)
      | (with_reducible exact ih2 _ _ _)
      | (with_reducible exact ih3 _ _ _)
      | (with_reducible exact ih4 _ _ _)
      | (with_reducible exact ih5 _ _ _)
      | (with_reducible exact LeO.refl _)
      | (with_reducible exact LeO.none _)
      | (with_reducible refine LeO.ite ?_ ?_)
      | (with_reducible refine LeO.bind ?_ (fun _ => ?_))
      | exact ih0 _ _ _ _
      | exact ih1 _ _ _ _
      | exact ih2 _ _ _
      | exact ih3 _ _ _
      | exact ih4 _ _ _
      | exact ih5 _ _ _
      | exact LeO.none _
      | refine LeO.ite ?_ ?_
      | refine LeO.bind ?_ (fun _ => ?_)
    · intro y0 y1 y2
      unfold whirligigref01_Result.j5
      repeat' first
      | (with_reducible exact ih0 _ _ _ _)
      | (with_reducible exact ih1 _ _ _ _)
      | (with_reducible exact ih2 _ _ _)
      | (with_reducible exact ih3 _ _ _)
      | (with_reducible exact ih4 _ _ _)
      | (with_reducible exact ih5 _ _ _)
      | (with_reducible exact LeO.refl _)
      | (with_reducible exact LeO.none _)
      | (with_reducible refine LeO.ite ?_ ?_)
      | (with_reducible refine LeO.bind ?_ (fun _ => ?_))
      | exact ih0 _ _ _ _
      | exact ih1 _ _ _ _
      | exact ih2 _ _ _
      | exact ih3 _ _ _
      | exact ih4 _ _ _
      | exact ih5 _ _ _
      | exact LeO.none _
      | refine LeO.ite ?_ ?_
      | refine LeO.bind ?_ (fun _ => ?_)
theorem whirligigref01_Result.mono : ∀ a0 a1 a2 k, LeO (whirligigref01_Result.f k a0 a1 a2) (whirligigref01_Result.f (k + 1) a0 a1 a2) := by
  intro a0 a1 a2 k
  obtain ⟨ih0, ih1, ih2, ih3, ih4, ih5⟩ := whirligigref01_Result.mono_l k
  unfold whirligigref01_Result.f
  repeat' first
      | (with_reducible exact ih0 _ _ _ _)
      | (with_reducible exact ih1 _ _ _ _)
      | (with_reducible exact ih2 _ _ _)
      | (with_reducible exact ih3 _ _ _)
      | (with_reducible exact ih4 _ _ _)
      | (with_reducible exact ih5 _ _ _)
      | (with_reducible exact LeO.refl _)
      | (with_reducible exact LeO.none _)
      | (with_reducible refine LeO.ite ?_ ?_)
      | (with_reducible refine LeO.bind ?_ (fun _ => ?_))
      | exact ih0 _ _ _ _
      | exact ih1 _ _ _ _
      | exact ih2 _ _ _
      | exact ih3 _ _ _
      | exact ih4 _ _ _
      | exact ih5 _ _ _
      | exact LeO.none _
      | refine LeO.ite ?_ ?_
      | refine LeO.bind ?_ (fun _ => ?_)
set_option maxHeartbeats 8000000 in
set_option maxRecDepth 100000 in
theorem whirligigref01_Result.calls (k : Nat) (a0 : Int) (a1 : Int) (a2 : Int) (r : Int) (w : World) (h : whirligigref01_Result.f k a0 a1 a2 = some r) :
    Calls Tryd.prog 21 #[.int .i64 a0, .int .i64 a1, .int .i64 a2] w fun e w' => e = .returned (.int .i64 r) ∧ Drawn0 w w' := by
  have H : (if a0 = 1 then (whirligigref01_Result.j0 k a0 a1 a2 (a1 == 2)) else (whirligigref01_Result.j0 k a0 a1 a2 false)) = some r := h
  clear h
  have HC4 := Aside0.mk H
  clear H
  go_enter Tryd.func21, Tryd.ntmps21
  go_upto_region 1 with (fail)
  go_cut [12] (fun v12 wc => ∃ (kq : Nat) (x12_3 : Bool), v12 = .bool x12_3 ∧ Aside0 (whirligigref01_Result.j0 kq a0 a1 a2 x12_3 = some r) ∧ Aside0 (kq ≤ k) ∧ Drawn0 w wc)
  case first =>
    have H := HC4.out
    clear HC4
    by_cases c5 : a0 = 1
    · rw [if_pos c5] at H
      have c5b0 : (a0 == 1) = true := beq_iff_eq.mpr c5
      have c5b1 : (a0 != 1) = false := bne_eq_false_iff_eq.mpr c5
      clear c5
      (first | rw [c5b0] | (simp only [i64_w, i32_w]; rw [c5b0]) | skip)
      have H' := Aside0.mk H
      clear H
      go_wp2
      go_meet
      case rel => exact ⟨_, ((a1 == 2)), (by first | rfl | (simp; done) | (simp [*]; done)), H', ⟨by first | omega | exact Nat.le_refl _⟩, by repeat (first | exact Drawn0.refl _ | apply Drawn0.step)⟩
    · rw [if_neg c5] at H
      have c5b0 : (a0 == 1) = false := beq_eq_false_iff_ne.mpr c5
      have c5b1 : (a0 != 1) = true := bne_iff_ne.mpr c5
      (first | rw [c5b0] | (simp only [i64_w, i32_w]; rw [c5b0]) | skip)
      have H' := Aside0.mk H
      clear H
      go_wp2
      go_meet
      case rel => exact ⟨_, (false), (by first | rfl | (simp; done) | (simp [*]; done)), H', ⟨by first | omega | exact Nat.le_refl _⟩, by repeat (first | exact Drawn0.refl _ | apply Drawn0.step)⟩
  case rest =>
    clear HC4
    try clear c2
    try clear p2
    try clear c5
    try clear c5b0
    try clear c5b1
    obtain ⟨kq, x12_3, rfl, HA, HJ3, ⟨mc3, rfl⟩⟩ := hcut
    cases kq with
    | zero => exact absurd HA.out (by simp [whirligigref01_Result.j0])
    | succ kj3 =>
      have H := HA.out
      clear HA
      simp only [whirligigref01_Result.j0] at H
      by_cases c6 : x12_3 = true
      · subst c6
        have H1 : (some 2) = some r := by rw [if_pos rfl] at H; exact H
        clear H
        have H := H1
        clear H1
        obtain rfl := Option.some.inj H
        go_wp2
        go_ret
        exact ⟨by first | rfl | (simp; done) | (simp [*]; done), by repeat (first | exact Drawn0.refl _ | apply Drawn0.step)⟩
      · replace c6 := Bool.eq_false_iff.mpr c6
        subst c6
        have H1 : (if a0 = 2 then (whirligigref01_Result.j1 kj3 a0 a1 a2 (a1 == 1)) else (whirligigref01_Result.j1 kj3 a0 a1 a2 false)) = some r := by rw [if_neg (show ¬ (false = true) by decide)] at H; exact H
        clear H
        have H := H1
        clear H1
        have HC7 := Aside0.mk H
        clear H
        go_upto_region 3 with (fail)
        go_cut [18] (fun v18 wc => ∃ (kq : Nat) (x18_6 : Bool), v18 = .bool x18_6 ∧ Aside0 (whirligigref01_Result.j1 kq a0 a1 a2 x18_6 = some r) ∧ Aside0 (kq ≤ kj3) ∧ Drawn0 w wc)
        case first =>
          have H := HC7.out
          clear HC7
          by_cases c8 : a0 = 2
          · rw [if_pos c8] at H
            have c8b0 : (a0 == 2) = true := beq_iff_eq.mpr c8
            have c8b1 : (a0 != 2) = false := bne_eq_false_iff_eq.mpr c8
            clear c8
            (first | rw [c8b0] | (simp only [i64_w, i32_w]; rw [c8b0]) | skip)
            have H' := Aside0.mk H
            clear H
            go_wp2
            go_meet
            case rel => exact ⟨_, ((a1 == 1)), (by first | rfl | (simp; done) | (simp [*]; done)), H', ⟨by have := HJ3.out; first | omega | exact Nat.le_refl _⟩, by repeat (first | exact Drawn0.refl _ | apply Drawn0.step)⟩
          · rw [if_neg c8] at H
            have c8b0 : (a0 == 2) = false := beq_eq_false_iff_ne.mpr c8
            have c8b1 : (a0 != 2) = true := bne_iff_ne.mpr c8
            (first | rw [c8b0] | (simp only [i64_w, i32_w]; rw [c8b0]) | skip)
            have H' := Aside0.mk H
            clear H
            go_wp2
            go_meet
            case rel => exact ⟨_, (false), (by first | rfl | (simp; done) | (simp [*]; done)), H', ⟨by have := HJ3.out; first | omega | exact Nat.le_refl _⟩, by repeat (first | exact Drawn0.refl _ | apply Drawn0.step)⟩
        case rest =>
          clear HC7
          try clear c2
          try clear p2
          try clear c3
          try clear c5
          try clear c5b0
          try clear c5b1
          try clear c6
          try clear c8
          try clear c8b0
          try clear c8b1
          try clear p2
          obtain ⟨kq, x18_6, rfl, HA, HJ6, ⟨mc6, rfl⟩⟩ := hcut
          cases kq with
          | zero => exact absurd HA.out (by simp [whirligigref01_Result.j1])
          | succ kj6 =>
            have H := HA.out
            clear HA
            simp only [whirligigref01_Result.j1] at H
            by_cases c9 : x18_6 = true
            · subst c9
              have H1 : (some 1) = some r := by rw [if_pos rfl] at H; exact H
              clear H
              have H := H1
              clear H1
              obtain rfl := Option.some.inj H
              go_wp2
              go_ret
              exact ⟨by first | rfl | (simp; done) | (simp [*]; done), by repeat (first | exact Drawn0.refl _ | apply Drawn0.step)⟩
            · replace c9 := Bool.eq_false_iff.mpr c9
              subst c9
              have H1 : (if a0 < 3 then (whirligigref01_Result.j2 kj6 a0 a1 true) else (if a0 > 15 then (whirligigref01_Result.j2 kj6 a0 a1 true) else (if a1 = a2 then (if a1 < 1 then (whirligigref01_Result.j2 kj6 a0 a1 true) else (whirligigref01_Result.j2 kj6 a0 a1 (decide (a1 > 3)))) else (whirligigref01_Result.j2 kj6 a0 a1 true)))) = some r := by rw [if_neg (show ¬ (false = true) by decide)] at H; exact H
              clear H
              have H := H1
              clear H1
              have HC10 := Aside0.mk H
              clear H
              go_upto_region 5 with (fail)
              go_cut [37] (fun v37 wc => ∃ (kq : Nat) (x37_9 : Bool), v37 = .bool x37_9 ∧ Aside0 (whirligigref01_Result.j2 kq a0 a1 x37_9 = some r) ∧ Aside0 (kq ≤ kj6) ∧ Drawn0 w wc)
              case first =>
                have H := HC10.out
                clear HC10
                by_cases c11 : a0 < 3
                · rw [if_pos c11] at H
                  have c11b0 : decide (a0 < 3) = true := decide_eq_true c11
                  clear c11
                  (first | rw [c11b0] | (simp only [i64_w, i32_w]; rw [c11b0]) | skip)
                  have H' := Aside0.mk H
                  clear H
                  go_wp2
                  go_meet
                  case rel => exact ⟨_, (true), (by first | rfl | (simp; done) | (simp [*]; done)), H', ⟨by have := HJ3.out; have := HJ6.out; first | omega | exact Nat.le_refl _⟩, by repeat (first | exact Drawn0.refl _ | apply Drawn0.step)⟩
                · rw [if_neg c11] at H
                  have c11b0 : decide (a0 < 3) = false := decide_eq_false c11
                  clear c11
                  (first | rw [c11b0] | (simp only [i64_w, i32_w]; rw [c11b0]) | skip)
                  by_cases c12 : a0 > 15
                  · rw [if_pos c12] at H
                    have c12b0 : decide (15 < a0) = true := decide_eq_true c12
                    clear c12
                    have H' := Aside0.mk H
                    clear H
                    go_wp2
                    go_meet
                    case rel => exact ⟨_, (true), (by first | rfl | (simp; done) | (simp [*]; done)), H', ⟨by have := HJ3.out; have := HJ6.out; first | omega | exact Nat.le_refl _⟩, by repeat (first | exact Drawn0.refl _ | apply Drawn0.step)⟩
                  · rw [if_neg c12] at H
                    have c12b0 : decide (15 < a0) = false := decide_eq_false c12
                    clear c12
                    by_cases c13 : a1 = a2
                    · rw [if_pos c13] at H
                      have c13b0 : (a1 == a2) = true := beq_iff_eq.mpr c13
                      have c13b1 : (a1 != a2) = false := bne_eq_false_iff_eq.mpr c13
                      clear c13
                      by_cases c14 : a1 < 1
                      · rw [if_pos c14] at H
                        have c14b0 : decide (a1 < 1) = true := decide_eq_true c14
                        clear c14
                        have H' := Aside0.mk H
                        clear H
                        go_wp2
                        go_meet
                        case rel => exact ⟨_, (true), (by first | rfl | (simp; done) | (simp [*]; done)), H', ⟨by have := HJ3.out; have := HJ6.out; first | omega | exact Nat.le_refl _⟩, by repeat (first | exact Drawn0.refl _ | apply Drawn0.step)⟩
                      · rw [if_neg c14] at H
                        have c14b0 : decide (a1 < 1) = false := decide_eq_false c14
                        clear c14
                        have H' := Aside0.mk H
                        clear H
                        go_wp2
                        go_meet
                        case rel => exact ⟨_, (decide (a1 > 3)), (by first | rfl | (simp; done) | (simp [*]; done)), H', ⟨by have := HJ3.out; have := HJ6.out; first | omega | exact Nat.le_refl _⟩, by repeat (first | exact Drawn0.refl _ | apply Drawn0.step)⟩
                    · rw [if_neg c13] at H
                      have c13b0 : (a1 == a2) = false := beq_eq_false_iff_ne.mpr c13
                      have c13b1 : (a1 != a2) = true := bne_iff_ne.mpr c13
                      have H' := Aside0.mk H
                      clear H
                      go_wp2
                      go_meet
                      case rel => exact ⟨_, (true), (by first | rfl | (simp; done) | (simp [*]; done)), H', ⟨by have := HJ3.out; have := HJ6.out; first | omega | exact Nat.le_refl _⟩, by repeat (first | exact Drawn0.refl _ | apply Drawn0.step)⟩
              case rest =>
                clear HC10
                try clear c1
                try clear c2
                try clear p2
                try clear c3
                try clear c5
                try clear c5b0
                try clear c5b1
                try clear c6
                try clear c8
                try clear c8b0
                try clear c8b1
                try clear c9
                try clear c11
                try clear c11b0
                try clear c12
                try clear c12b0
                try clear c13
                try clear c13b0
                try clear c13b1
                try clear c14
                try clear c14b0
                try clear p2
                obtain ⟨kq, x37_9, rfl, HA, HJ9, ⟨mc9, rfl⟩⟩ := hcut
                cases kq with
                | zero => exact absurd HA.out (by simp [whirligigref01_Result.j2])
                | succ kj9 =>
                  have H := HA.out
                  clear HA
                  simp only [whirligigref01_Result.j2] at H
                  by_cases c15 : x37_9 = true
                  · subst c15
                    have H1 : (some 0) = some r := by rw [if_pos rfl] at H; exact H
                    clear H
                    have H := H1
                    clear H1
                    obtain rfl := Option.some.inj H
                    go_wp2
                    go_ret
                    exact ⟨by first | rfl | (simp; done) | (simp [*]; done), by repeat (first | exact Drawn0.refl _ | apply Drawn0.step)⟩
                  · replace c15 := Bool.eq_false_iff.mpr c15
                    subst c15
                    have H1 : (if a0 ≥ 14 then (if a1 = 2 then (whirligigref01_Result.j3 kj9 a0 a1 true) else (if a0 = 12 then (whirligigref01_Result.j3 kj9 a0 a1 true) else (whirligigref01_Result.j3 kj9 a0 a1 (a0 == 13)))) else (if a0 = 12 then (whirligigref01_Result.j3 kj9 a0 a1 true) else (whirligigref01_Result.j3 kj9 a0 a1 (a0 == 13)))) = some r := by rw [if_neg (show ¬ (false = true) by decide)] at H; exact H
                    clear H
                    have H := H1
                    clear H1
                    have HC16 := Aside0.mk H
                    clear H
                    go_upto_region 7 with (fail)
                    go_cut [51] (fun v51 wc => ∃ (kq : Nat) (x51_15 : Bool), v51 = .bool x51_15 ∧ Aside0 (whirligigref01_Result.j3 kq a0 a1 x51_15 = some r) ∧ Aside0 (kq ≤ kj9) ∧ Drawn0 w wc)
                    case first =>
                      have H := HC16.out
                      clear HC16
                      by_cases c17 : a0 ≥ 14
                      · rw [if_pos c17] at H
                        have c17b0 : decide (14 ≤ a0) = true := decide_eq_true c17
                        clear c17
                        (first | rw [c17b0] | (simp only [i64_w, i32_w]; rw [c17b0]) | skip)
                        by_cases c18 : a1 = 2
                        · rw [if_pos c18] at H
                          have c18b0 : (a1 == 2) = true := beq_iff_eq.mpr c18
                          have c18b1 : (a1 != 2) = false := bne_eq_false_iff_eq.mpr c18
                          clear c18
                          have H' := Aside0.mk H
                          clear H
                          go_wp2
                          go_meet
                          case rel => exact ⟨_, (true), (by first | rfl | (simp; done) | (simp [*]; done)), H', ⟨by have := HJ3.out; have := HJ6.out; have := HJ9.out; first | omega | exact Nat.le_refl _⟩, by repeat (first | exact Drawn0.refl _ | apply Drawn0.step)⟩
                        · rw [if_neg c18] at H
                          have c18b0 : (a1 == 2) = false := beq_eq_false_iff_ne.mpr c18
                          have c18b1 : (a1 != 2) = true := bne_iff_ne.mpr c18
                          by_cases c19 : a0 = 12
                          · rw [if_pos c19] at H
                            have c19b0 : (a0 == 12) = true := beq_iff_eq.mpr c19
                            have c19b1 : (a0 != 12) = false := bne_eq_false_iff_eq.mpr c19
                            clear c19
                            have H' := Aside0.mk H
                            clear H
                            go_wp2
                            go_meet
                            case rel => exact ⟨_, (true), (by first | rfl | (simp; done) | (simp [*]; done)), H', ⟨by have := HJ3.out; have := HJ6.out; have := HJ9.out; first | omega | exact Nat.le_refl _⟩, by repeat (first | exact Drawn0.refl _ | apply Drawn0.step)⟩
                          · rw [if_neg c19] at H
                            have c19b0 : (a0 == 12) = false := beq_eq_false_iff_ne.mpr c19
                            have c19b1 : (a0 != 12) = true := bne_iff_ne.mpr c19
                            have H' := Aside0.mk H
                            clear H
                            go_wp2
                            go_meet
                            case rel => exact ⟨_, ((a0 == 13)), (by first | rfl | (simp; done) | (simp [*]; done)), H', ⟨by have := HJ3.out; have := HJ6.out; have := HJ9.out; first | omega | exact Nat.le_refl _⟩, by repeat (first | exact Drawn0.refl _ | apply Drawn0.step)⟩
                      · rw [if_neg c17] at H
                        have c17b0 : decide (14 ≤ a0) = false := decide_eq_false c17
                        clear c17
                        (first | rw [c17b0] | (simp only [i64_w, i32_w]; rw [c17b0]) | skip)
                        by_cases c20 : a0 = 12
                        · rw [if_pos c20] at H
                          have c20b0 : (a0 == 12) = true := beq_iff_eq.mpr c20
                          have c20b1 : (a0 != 12) = false := bne_eq_false_iff_eq.mpr c20
                          clear c20
                          have H' := Aside0.mk H
                          clear H
                          go_wp2
                          go_meet
                          case rel => exact ⟨_, (true), (by first | rfl | (simp; done) | (simp [*]; done)), H', ⟨by have := HJ3.out; have := HJ6.out; have := HJ9.out; first | omega | exact Nat.le_refl _⟩, by repeat (first | exact Drawn0.refl _ | apply Drawn0.step)⟩
                        · rw [if_neg c20] at H
                          have c20b0 : (a0 == 12) = false := beq_eq_false_iff_ne.mpr c20
                          have c20b1 : (a0 != 12) = true := bne_iff_ne.mpr c20
                          have H' := Aside0.mk H
                          clear H
                          go_wp2
                          go_meet
                          case rel => exact ⟨_, ((a0 == 13)), (by first | rfl | (simp; done) | (simp [*]; done)), H', ⟨by have := HJ3.out; have := HJ6.out; have := HJ9.out; first | omega | exact Nat.le_refl _⟩, by repeat (first | exact Drawn0.refl _ | apply Drawn0.step)⟩
                    case rest =>
                      clear HC16
                      try clear c1
                      try clear c2
                      try clear p2
                      try clear c3
                      try clear c5
                      try clear c5b0
                      try clear c5b1
                      try clear c6
                      try clear c8
                      try clear c8b0
                      try clear c8b1
                      try clear c9
                      try clear c11
                      try clear c11b0
                      try clear c12
                      try clear c12b0
                      try clear c13
                      try clear c13b0
                      try clear c13b1
                      try clear c14
                      try clear c14b0
                      try clear c15
                      try clear c17
                      try clear c17b0
                      try clear c18
                      try clear c18b0
                      try clear c18b1
                      try clear c19
                      try clear c19b0
                      try clear c19b1
                      try clear c20
                      try clear c20b0
                      try clear c20b1
                      try clear p2
                      obtain ⟨kq, x51_15, rfl, HA, HJ15, ⟨mc15, rfl⟩⟩ := hcut
                      cases kq with
                      | zero => exact absurd HA.out (by simp [whirligigref01_Result.j3])
                      | succ kj15 =>
                        have H := HA.out
                        clear HA
                        simp only [whirligigref01_Result.j3] at H
                        by_cases c21 : x51_15 = true
                        · subst c21
                          have H1 : (some 2) = some r := by rw [if_pos rfl] at H; exact H
                          clear H
                          have H := H1
                          clear H1
                          obtain rfl := Option.some.inj H
                          go_wp2
                          go_ret
                          exact ⟨by first | rfl | (simp; done) | (simp [*]; done), by repeat (first | exact Drawn0.refl _ | apply Drawn0.step)⟩
                        · replace c21 := Bool.eq_false_iff.mpr c21
                          subst c21
                          have H1 : (if a0 ≥ 8 then (if a0 ≤ 11 then (whirligigref01_Result.j4 kj15 a0 a1 (a1 != 2)) else (whirligigref01_Result.j4 kj15 a0 a1 false)) else (whirligigref01_Result.j4 kj15 a0 a1 false)) = some r := by rw [if_neg (show ¬ (false = true) by decide)] at H; exact H
                          clear H
                          have H := H1
                          clear H1
                          have HC22 := Aside0.mk H
                          clear H
                          go_upto_region 9 with (fail)
                          go_cut [61] (fun v61 wc => ∃ (kq : Nat) (x61_21 : Bool), v61 = .bool x61_21 ∧ Aside0 (whirligigref01_Result.j4 kq a0 a1 x61_21 = some r) ∧ Aside0 (kq ≤ kj15) ∧ Drawn0 w wc)
                          case first =>
                            have H := HC22.out
                            clear HC22
                            by_cases c23 : a0 ≥ 8
                            · rw [if_pos c23] at H
                              have c23b0 : decide (8 ≤ a0) = true := decide_eq_true c23
                              clear c23
                              (first | rw [c23b0] | (simp only [i64_w, i32_w]; rw [c23b0]) | skip)
                              by_cases c24 : a0 ≤ 11
                              · rw [if_pos c24] at H
                                have c24b0 : decide (a0 ≤ 11) = true := decide_eq_true c24
                                clear c24
                                have H' := Aside0.mk H
                                clear H
                                go_wp2
                                go_meet
                                case rel => exact ⟨_, ((a1 != 2)), (by first | rfl | (simp; done) | (simp [*]; done)), H', ⟨by have := HJ3.out; have := HJ6.out; have := HJ9.out; have := HJ15.out; first | omega | exact Nat.le_refl _⟩, by repeat (first | exact Drawn0.refl _ | apply Drawn0.step)⟩
                              · rw [if_neg c24] at H
                                have c24b0 : decide (a0 ≤ 11) = false := decide_eq_false c24
                                clear c24
                                have H' := Aside0.mk H
                                clear H
                                go_wp2
                                go_meet
                                case rel => exact ⟨_, (false), (by first | rfl | (simp; done) | (simp [*]; done)), H', ⟨by have := HJ3.out; have := HJ6.out; have := HJ9.out; have := HJ15.out; first | omega | exact Nat.le_refl _⟩, by repeat (first | exact Drawn0.refl _ | apply Drawn0.step)⟩
                            · rw [if_neg c23] at H
                              have c23b0 : decide (8 ≤ a0) = false := decide_eq_false c23
                              clear c23
                              (first | rw [c23b0] | (simp only [i64_w, i32_w]; rw [c23b0]) | skip)
                              have H' := Aside0.mk H
                              clear H
                              go_wp2
                              go_meet
                              case rel => exact ⟨_, (false), (by first | rfl | (simp; done) | (simp [*]; done)), H', ⟨by have := HJ3.out; have := HJ6.out; have := HJ9.out; have := HJ15.out; first | omega | exact Nat.le_refl _⟩, by repeat (first | exact Drawn0.refl _ | apply Drawn0.step)⟩
                          case rest =>
                            clear HC22
                            try clear c1
                            try clear c2
                            try clear p2
                            try clear c3
                            try clear c5
                            try clear c5b0
                            try clear c5b1
                            try clear c6
                            try clear c8
                            try clear c8b0
                            try clear c8b1
                            try clear c9
                            try clear c11
                            try clear c11b0
                            try clear c12
                            try clear c12b0
                            try clear c13
                            try clear c13b0
                            try clear c13b1
                            try clear c14
                            try clear c14b0
                            try clear c15
                            try clear c17
                            try clear c17b0
                            try clear c18
                            try clear c18b0
                            try clear c18b1
                            try clear c19
                            try clear c19b0
                            try clear c19b1
                            try clear c20
                            try clear c20b0
                            try clear c20b1
                            try clear c21
                            try clear c23
                            try clear c23b0
                            try clear c24
                            try clear c24b0
                            try clear p2
                            obtain ⟨kq, x61_21, rfl, HA, HJ21, ⟨mc21, rfl⟩⟩ := hcut
                            cases kq with
                            | zero => exact absurd HA.out (by simp [whirligigref01_Result.j4])
                            | succ kj21 =>
                              have H := HA.out
                              clear HA
                              simp only [whirligigref01_Result.j4] at H
                              by_cases c25 : x61_21 = true
                              · subst c25
                                have H1 : (some 2) = some r := by rw [if_pos rfl] at H; exact H
                                clear H
                                have H := H1
                                clear H1
                                obtain rfl := Option.some.inj H
                                go_wp2
                                go_ret
                                exact ⟨by first | rfl | (simp; done) | (simp [*]; done), by repeat (first | exact Drawn0.refl _ | apply Drawn0.step)⟩
                              · replace c25 := Bool.eq_false_iff.mpr c25
                                subst c25
                                have H1 : (if a0 = 6 then (whirligigref01_Result.j5 kj21 a0 a1 (a1 == 3)) else (whirligigref01_Result.j5 kj21 a0 a1 false)) = some r := by rw [if_neg (show ¬ (false = true) by decide)] at H; exact H
                                clear H
                                have H := H1
                                clear H1
                                have HC26 := Aside0.mk H
                                clear H
                                go_upto_region 11 with (fail)
                                go_cut [67] (fun v67 wc => ∃ (kq : Nat) (x67_25 : Bool), v67 = .bool x67_25 ∧ Aside0 (whirligigref01_Result.j5 kq a0 a1 x67_25 = some r) ∧ Aside0 (kq ≤ kj21) ∧ Drawn0 w wc)
                                case first =>
                                  have H := HC26.out
                                  clear HC26
                                  by_cases c27 : a0 = 6
                                  · rw [if_pos c27] at H
                                    have c27b0 : (a0 == 6) = true := beq_iff_eq.mpr c27
                                    have c27b1 : (a0 != 6) = false := bne_eq_false_iff_eq.mpr c27
                                    clear c27
                                    (first | rw [c27b0] | (simp only [i64_w, i32_w]; rw [c27b0]) | skip)
                                    have H' := Aside0.mk H
                                    clear H
                                    go_wp2
                                    go_meet
                                    case rel => exact ⟨_, ((a1 == 3)), (by first | rfl | (simp; done) | (simp [*]; done)), H', ⟨by have := HJ3.out; have := HJ6.out; have := HJ9.out; have := HJ15.out; have := HJ21.out; first | omega | exact Nat.le_refl _⟩, by repeat (first | exact Drawn0.refl _ | apply Drawn0.step)⟩
                                  · rw [if_neg c27] at H
                                    have c27b0 : (a0 == 6) = false := beq_eq_false_iff_ne.mpr c27
                                    have c27b1 : (a0 != 6) = true := bne_iff_ne.mpr c27
                                    (first | rw [c27b0] | (simp only [i64_w, i32_w]; rw [c27b0]) | skip)
                                    have H' := Aside0.mk H
                                    clear H
                                    go_wp2
                                    go_meet
                                    case rel => exact ⟨_, (false), (by first | rfl | (simp; done) | (simp [*]; done)), H', ⟨by have := HJ3.out; have := HJ6.out; have := HJ9.out; have := HJ15.out; have := HJ21.out; first | omega | exact Nat.le_refl _⟩, by repeat (first | exact Drawn0.refl _ | apply Drawn0.step)⟩
                                case rest =>
                                  clear HC26
                                  try clear c1
                                  try clear c2
                                  try clear p2
                                  try clear c3
                                  try clear c5
                                  try clear c5b0
                                  try clear c5b1
                                  try clear c6
                                  try clear c8
                                  try clear c8b0
                                  try clear c8b1
                                  try clear c9
                                  try clear c11
                                  try clear c11b0
                                  try clear c12
                                  try clear c12b0
                                  try clear c13
                                  try clear c13b0
                                  try clear c13b1
                                  try clear c14
                                  try clear c14b0
                                  try clear c15
                                  try clear c17
                                  try clear c17b0
                                  try clear c18
                                  try clear c18b0
                                  try clear c18b1
                                  try clear c19
                                  try clear c19b0
                                  try clear c19b1
                                  try clear c20
                                  try clear c20b0
                                  try clear c20b1
                                  try clear c21
                                  try clear c23
                                  try clear c23b0
                                  try clear c24
                                  try clear c24b0
                                  try clear c25
                                  try clear c27
                                  try clear c27b0
                                  try clear c27b1
                                  try clear p2
                                  obtain ⟨kq, x67_25, rfl, HA, HJ25, ⟨mc25, rfl⟩⟩ := hcut
                                  cases kq with
                                  | zero => exact absurd HA.out (by simp [whirligigref01_Result.j5])
                                  | succ kj25 =>
                                    have H := HA.out
                                    clear HA
                                    simp only [whirligigref01_Result.j5] at H
                                    by_cases c28 : x67_25 = true
                                    · subst c28
                                      have H1 : (some 3) = some r := by rw [if_pos rfl] at H; exact H
                                      clear H
                                      have H := H1
                                      clear H1
                                      obtain rfl := Option.some.inj H
                                      go_wp2
                                      go_ret
                                      exact ⟨by first | rfl | (simp; done) | (simp [*]; done), by repeat (first | exact Drawn0.refl _ | apply Drawn0.step)⟩
                                    · replace c28 := Bool.eq_false_iff.mpr c28
                                      subst c28
                                      have H1 : (if a0 ≥ 3 then (if a0 ≤ 7 then (if a1 = 1 then (some 1) else (some 0)) else (some 0)) else (some 0)) = some r := by rw [if_neg (show ¬ (false = true) by decide)] at H; exact H
                                      clear H
                                      have H := H1
                                      clear H1
                                      by_cases c29 : a0 ≥ 3
                                      · rw [if_pos c29] at H
                                        have c29b0 : decide (3 ≤ a0) = true := decide_eq_true c29
                                        clear c29
                                        by_cases c30 : a0 ≤ 7
                                        · rw [if_pos c30] at H
                                          have c30b0 : decide (a0 ≤ 7) = true := decide_eq_true c30
                                          clear c30
                                          by_cases c31 : a1 = 1
                                          · rw [if_pos c31] at H
                                            have c31b0 : (a1 == 1) = true := beq_iff_eq.mpr c31
                                            have c31b1 : (a1 != 1) = false := bne_eq_false_iff_eq.mpr c31
                                            clear c31
                                            obtain rfl := Option.some.inj H
                                            go_wp2
                                            go_ret
                                            exact ⟨by first | rfl | (simp; done) | (simp [*]; done), by repeat (first | exact Drawn0.refl _ | apply Drawn0.step)⟩
                                          · rw [if_neg c31] at H
                                            have c31b0 : (a1 == 1) = false := beq_eq_false_iff_ne.mpr c31
                                            have c31b1 : (a1 != 1) = true := bne_iff_ne.mpr c31
                                            obtain rfl := Option.some.inj H
                                            go_wp2
                                            go_ret
                                            exact ⟨by first | rfl | (simp; done) | (simp [*]; done), by repeat (first | exact Drawn0.refl _ | apply Drawn0.step)⟩
                                        · rw [if_neg c30] at H
                                          have c30b0 : decide (a0 ≤ 7) = false := decide_eq_false c30
                                          clear c30
                                          obtain rfl := Option.some.inj H
                                          go_wp2
                                          go_ret
                                          exact ⟨by first | rfl | (simp; done) | (simp [*]; done), by repeat (first | exact Drawn0.refl _ | apply Drawn0.step)⟩
                                      · rw [if_neg c29] at H
                                        have c29b0 : decide (3 ≤ a0) = false := decide_eq_false c29
                                        clear c29
                                        obtain rfl := Option.some.inj H
                                        go_wp2
                                        go_ret
                                        exact ⟨by first | rfl | (simp; done) | (simp [*]; done), by repeat (first | exact Drawn0.refl _ | apply Drawn0.step)⟩

/-! ### whirligigref01_truth: function 37 -/
def whirligigref01_truth.f (a0 : Bool) : Option (Int × Int × ByteArray × Int) := if a0 = true then (some (2, 1, (⟨#[]⟩ : ByteArray), 0)) else (some (2, 0, (⟨#[]⟩ : ByteArray), 0))
set_option maxHeartbeats 8000000 in
set_option maxRecDepth 100000 in
theorem whirligigref01_truth.calls (a0 : Bool) (r1 : Int) (r2 : Int) (r3 : ByteArray) (r4 : Int) (w : World) (h : whirligigref01_truth.f a0 = some (r1, r2, r3, r4)) :
    Calls Tryd.prog 37 #[.bool a0] w fun e w' => e = .returned (.tuple #[.agg #[.int .i64 r1, .int .i64 r2, .string r3], .int .i64 r4]) ∧ Below w.heap.size w w' := by
  have hu28 := Tryd.underlying28
  have HB := Aside0.mk (Below.refl w.heap.size w)
  have H : (if a0 = true then (some (2, 1, (⟨#[]⟩ : ByteArray), 0)) else (some (2, 0, (⟨#[]⟩ : ByteArray), 0))) = some (r1, r2, r3, r4) := h
  clear h
  by_cases c2 : a0 = true
  · subst c2
    have H1 : (some (2, 1, (⟨#[]⟩ : ByteArray), 0)) = some (r1, r2, r3, r4) := by rw [if_pos rfl] at H; exact H
    clear H
    have H := H1
    clear H1
    simp only [Option.some.injEq, Prod.mk.injEq] at H
    obtain ⟨rfl, rfl, rfl, rfl⟩ := H
    go_enter Tryd.func37, Tryd.ntmps37
    go_wp2_with (first | ((with_reducible refine gate_dst (N := 2) rfl ?_); refine box_event ?hg (N := 2) ?hd (cs := #[.int .i64 0, .int .i64 0, .string (⟨#[]⟩ : ByteArray)]) (t := 28) ?hr ?_; (case hd => rfl); (case hg => rfl); (case hr => first | (go_simp; done) | (go_simp; rfl)); intro gb338 hg w3 hbox hb; have n0_ := Aside0.mk (below_step (by repeat (first | (with_reducible first | exact HB.out | apply below_alloc | apply pw_below_drewN | apply below_drew1) | exact HB.out)) hb); have n1_ := Aside0.mk (hbox); have n2_ := Aside0.mk ((by rw [hg]; exact (below_size (by repeat (first | (with_reducible first | exact HB.out | apply below_alloc | apply pw_below_drewN | apply below_drew1) | exact HB.out))) : w.heap.size ≤ gb338)); have n3_ := Aside0.mk ((by rw [hg]; exact (below_size (by repeat (first | (with_reducible first | exact HB.out | apply below_alloc | apply pw_below_drewN | apply below_drew1) | exact HB.out))) : w.heap.size ≤ gb338)); clear HB; have HB := n0_; have BK338 := n1_; have GW338 := n2_; have GE338 := n3_; clear n0_ n1_ n2_ n3_; clear hb hbox hg; have hcz4_0 : w3.cell? ⟨gb338, 0, none⟩ = some (.int .i64 0) := (blk_cell BK338.out 0).trans rfl; have hcz4_1 : w3.cell? ⟨gb338, 1, none⟩ = some (.int .i64 0) := (blk_cell BK338.out 1).trans rfl; have hcz4_2 : w3.cell? ⟨gb338, 2, none⟩ = some (.string (⟨#[]⟩ : ByteArray)) := (blk_cell BK338.out 2).trans rfl; have hfz4_0 := blk_frozen BK338.out 0; have hfz4_1 := blk_frozen BK338.out 1; have hfz4_2 := blk_frozen BK338.out 2))
    refine bodyPost_ret (results_ct rfl _ _ gb338 28 #[.int .i64 2, .int .i64 1, .string (⟨#[]⟩ : ByteArray)] (0, 0) _ rfl (by (with_reducible repeat (first | refine blk_drewN ?_ _ | refine blk_drew ?_ | refine blk_alloc ?_ _)); refine blk_put (cs := #[.int .i64 2, .int .i64 1, .string (⟨#[]⟩ : ByteArray)]) ?_ 2 _ rfl; (with_reducible repeat (first | refine blk_drewN ?_ _ | refine blk_drew ?_ | refine blk_alloc ?_ _)); refine blk_put (cs := #[.int .i64 2, .int .i64 0, .string (⟨#[]⟩ : ByteArray)]) ?_ 1 _ rfl; (with_reducible repeat (first | refine blk_drewN ?_ _ | refine blk_drew ?_ | refine blk_alloc ?_ _)); refine blk_put (cs := #[.int .i64 0, .int .i64 0, .string (⟨#[]⟩ : ByteArray)]) ?_ 0 _ rfl; (with_reducible repeat (first | refine blk_drewN ?_ _ | refine blk_drew ?_ | refine blk_alloc ?_ _)); exact BK338.out) Tryd.underlying28 rfl (by kernel_rfl)) rfl ?_
    exact ⟨by first | rfl | (simp [errW_none, errW_some] <;> rfl) | (simp [*, errW_none, errW_some] <;> rfl), by repeat (first | (with_reducible first | exact HB.out | apply below_alloc | apply pw_below_drewN | apply below_drew1 | refine below_set ?_ GE338.out) | exact HB.out)⟩
  · replace c2 := Bool.eq_false_iff.mpr c2
    subst c2
    have H1 : (some (2, 0, (⟨#[]⟩ : ByteArray), 0)) = some (r1, r2, r3, r4) := by rw [if_neg (show ¬ (false = true) by decide)] at H; exact H
    clear H
    have H := H1
    clear H1
    simp only [Option.some.injEq, Prod.mk.injEq] at H
    obtain ⟨rfl, rfl, rfl, rfl⟩ := H
    go_enter Tryd.func37, Tryd.ntmps37
    go_wp2_with (first | ((with_reducible refine gate_dst (N := 2) rfl ?_); refine box_event ?hg (N := 2) ?hd (cs := #[.int .i64 0, .int .i64 0, .string (⟨#[]⟩ : ByteArray)]) (t := 28) ?hr ?_; (case hd => rfl); (case hg => rfl); (case hr => first | (go_simp; done) | (go_simp; rfl)); intro gb338 hg w5 hbox hb; have n0_ := Aside0.mk (below_step (by repeat (first | (with_reducible first | exact HB.out | apply below_alloc | apply pw_below_drewN | apply below_drew1) | exact HB.out)) hb); have n1_ := Aside0.mk (hbox); have n2_ := Aside0.mk ((by rw [hg]; exact (below_size (by repeat (first | (with_reducible first | exact HB.out | apply below_alloc | apply pw_below_drewN | apply below_drew1) | exact HB.out))) : w.heap.size ≤ gb338)); have n3_ := Aside0.mk ((by rw [hg]; exact (below_size (by repeat (first | (with_reducible first | exact HB.out | apply below_alloc | apply pw_below_drewN | apply below_drew1) | exact HB.out))) : w.heap.size ≤ gb338)); clear HB; have HB := n0_; have BK338 := n1_; have GW338 := n2_; have GE338 := n3_; clear n0_ n1_ n2_ n3_; clear hb hbox hg; have hcz6_0 : w5.cell? ⟨gb338, 0, none⟩ = some (.int .i64 0) := (blk_cell BK338.out 0).trans rfl; have hcz6_1 : w5.cell? ⟨gb338, 1, none⟩ = some (.int .i64 0) := (blk_cell BK338.out 1).trans rfl; have hcz6_2 : w5.cell? ⟨gb338, 2, none⟩ = some (.string (⟨#[]⟩ : ByteArray)) := (blk_cell BK338.out 2).trans rfl; have hfz6_0 := blk_frozen BK338.out 0; have hfz6_1 := blk_frozen BK338.out 1; have hfz6_2 := blk_frozen BK338.out 2))
    refine bodyPost_ret (results_ct rfl _ _ gb338 28 #[.int .i64 2, .int .i64 0, .string (⟨#[]⟩ : ByteArray)] (0, 0) _ rfl (by (with_reducible repeat (first | refine blk_drewN ?_ _ | refine blk_drew ?_ | refine blk_alloc ?_ _)); refine blk_put (cs := #[.int .i64 2, .int .i64 0, .string (⟨#[]⟩ : ByteArray)]) ?_ 2 _ rfl; (with_reducible repeat (first | refine blk_drewN ?_ _ | refine blk_drew ?_ | refine blk_alloc ?_ _)); refine blk_put (cs := #[.int .i64 2, .int .i64 0, .string (⟨#[]⟩ : ByteArray)]) ?_ 1 _ rfl; (with_reducible repeat (first | refine blk_drewN ?_ _ | refine blk_drew ?_ | refine blk_alloc ?_ _)); refine blk_put (cs := #[.int .i64 0, .int .i64 0, .string (⟨#[]⟩ : ByteArray)]) ?_ 0 _ rfl; (with_reducible repeat (first | refine blk_drewN ?_ _ | refine blk_drew ?_ | refine blk_alloc ?_ _)); exact BK338.out) Tryd.underlying28 rfl (by kernel_rfl)) rfl ?_
    exact ⟨by first | rfl | (simp [errW_none, errW_some] <;> rfl) | (simp [*, errW_none, errW_some] <;> rfl), by repeat (first | (with_reducible first | exact HB.out | apply below_alloc | apply pw_below_drewN | apply below_drew1 | refine below_set ?_ GE338.out) | exact HB.out)⟩

end Go.Proofs.YtbbdlcmcndhhkaaDoor.MValReckons
