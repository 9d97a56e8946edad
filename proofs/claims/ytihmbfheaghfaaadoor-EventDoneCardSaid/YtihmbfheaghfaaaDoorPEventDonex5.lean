-- PRINTED BY print.sh 35421559b90ae4d0a3588c463048766b98c2df88dd9212a6774a882060cdf62d: not written by this session
import Derived.Test.YtihmbfheaghfaaaDoorPEventDonex0
import Derived.Test.YtihmbfheaghfaaaDoorPEventDonex1
import Derived.Test.YtihmbfheaghfaaaDoorPEventDonex4
namespace Go.Proofs.YtihmbfheaghfaaaDoor.PEventDone
open Go.RowKit Go.Proofs.YtihmbfheaghfaaaDoorW.PrintWords Go.Proofs.YtihmbfheaghfaaaDoorW.PrintLast Go.Proofs.YtihmbfheaghfaaaDoorW.PrintMore
attribute [local go_sem] max2_int min2_int max_two min_two max_three min_three max_four min_four   -- for this text's walks alone
set_option linter.unusedVariables false
set_option linter.unusedSimpArgs false

/-! ### whirligigref02_Means: function 13 -/
def whirligigref02_Means.l0 : Nat → ByteArray → ByteArray → Int → Option (Bool)
  | 0, _, _, _ => none
  | k + 1, x0, x3, x4 => if (wrap64 ((wrap64 (x4 + (x0.size : Int))) + 2)) ≤ (x3.size : Int) then (if 0 ≤ x4 then (if x4 ≤ (wrap64 ((wrap64 (x4 + (x0.size : Int))) + 2)) then (if 1 + x0.size ≤ 9223372036854775807 then (if ((⟨#[32]⟩ : ByteArray) ++ x0).size + 1 ≤ 9223372036854775807 then (if (x3.extract (x4 : Int).toNat ((wrap64 ((wrap64 (x4 + (x0.size : Int))) + 2)) : Int).toNat).toList = (((⟨#[32]⟩ : ByteArray) ++ x0) ++ (⟨#[32]⟩ : ByteArray)).toList then (if x0.toList = ([] : List UInt8) then (some false) else ((whirligigref02_word.f k x0 0).bind fun t168 => (some (t168 == (x0.size : Int))))) else (whirligigref02_Means.l0 k x0 x3 (wrap64 (x4 + 1)))) else (none)) else (none)) else (none)) else (none)) else (some false)
def whirligigref02_Means.f (k : Nat) (a0 : ByteArray) : Option (Bool) := whirligigref02_Means.l0 k a0 (⟨#[32, 99, 104, 97, 114, 116, 32, 118, 97, 114, 32, 115, 116, 97, 116, 101, 32, 112, 97, 114, 97, 108, 108, 101, 108, 32, 102, 105, 110, 97, 108, 32, 100, 101, 101, 112, 32, 115, 104, 97, 108, 108, 111, 119, 32, 101, 110, 116, 101, 114, 32, 101, 120, 105, 116, 32, 111, 110, 32, 97, 117, 116, 111, 32, 101, 110, 100, 32, 105, 102, 32, 103, 111, 32, 105, 110, 110, 101, 114, 32, 100, 111, 32, 115, 101, 116, 32, 114, 97, 105, 115, 101, 32, 115, 101, 110, 100, 32, 99, 97, 110, 99, 101, 108, 32, 108, 111, 103, 32, 116, 114, 117, 101, 32, 102, 97, 108, 115, 101, 32, 110, 111, 116, 32, 97, 110, 100, 32, 111, 114, 32, 105, 110, 32]⟩ : ByteArray) 0
theorem whirligigref02_Means.mono_l : ∀ k, (∀ y0 y1 y2, LeO (whirligigref02_Means.l0 k y0 y1 y2) (whirligigref02_Means.l0 (k + 1) y0 y1 y2))
  | 0 => fun _ _ _ r h => by simp [whirligigref02_Means.l0] at h
  | k + 1 => by
    have ih0 := whirligigref02_Means.mono_l k
    · intro y0 y1 y2
      unfold whirligigref02_Means.l0
      repeat' first
      | (with_reducible exact ih0 _ _ _)
      | (with_reducible exact whirligigref02_word.mono _ _ _)
      | (with_reducible exact LeO.refl _)
      | (with_reducible exact LeO.none _)
      | (with_reducible refine LeO.ite ?_ ?_)
      | (with_reducible refine LeO.bind ?_ (fun _ => ?_))
      | exact ih0 _ _ _
      | exact whirligigref02_word.mono _ _ _
      | exact LeO.none _
      | refine LeO.ite ?_ ?_
      | refine LeO.bind ?_ (fun _ => ?_)
theorem whirligigref02_Means.mono : ∀ a0 k, LeO (whirligigref02_Means.f k a0) (whirligigref02_Means.f (k + 1) a0) := by
  intro a0 k
  have ih0 := whirligigref02_Means.mono_l k
  unfold whirligigref02_Means.f
  repeat' first
      | (with_reducible exact ih0 _ _ _)
      | (with_reducible exact whirligigref02_word.mono _ _ _)
      | (with_reducible exact LeO.refl _)
      | (with_reducible exact LeO.none _)
      | (with_reducible refine LeO.ite ?_ ?_)
      | (with_reducible refine LeO.bind ?_ (fun _ => ?_))
      | exact ih0 _ _ _
      | exact whirligigref02_word.mono _ _ _
      | exact LeO.none _
      | refine LeO.ite ?_ ?_
      | refine LeO.bind ?_ (fun _ => ?_)
set_option maxHeartbeats 8000000 in
set_option maxRecDepth 100000 in
theorem whirligigref02_Means.calls (k : Nat) (a0 : ByteArray) (r : Bool) (w : World) (h : whirligigref02_Means.f k a0 = some r) :
    Calls Tryd.prog 13 #[.string a0] w fun e w' => e = .returned (.bool r) ∧ Drawn0 w w' := by
  have H : (whirligigref02_Means.l0 k a0 (⟨#[32, 99, 104, 97, 114, 116, 32, 118, 97, 114, 32, 115, 116, 97, 116, 101, 32, 112, 97, 114, 97, 108, 108, 101, 108, 32, 102, 105, 110, 97, 108, 32, 100, 101, 101, 112, 32, 115, 104, 97, 108, 108, 111, 119, 32, 101, 110, 116, 101, 114, 32, 101, 120, 105, 116, 32, 111, 110, 32, 97, 117, 116, 111, 32, 101, 110, 100, 32, 105, 102, 32, 103, 111, 32, 105, 110, 110, 101, 114, 32, 100, 111, 32, 115, 101, 116, 32, 114, 97, 105, 115, 101, 32, 115, 101, 110, 100, 32, 99, 97, 110, 99, 101, 108, 32, 108, 111, 103, 32, 116, 114, 117, 101, 32, 102, 97, 108, 115, 101, 32, 110, 111, 116, 32, 97, 110, 100, 32, 111, 114, 32, 105, 110, 32]⟩ : ByteArray) 0) = some r := h
  clear h
  have H' := Aside0.mk H
  clear H
  go_enter Tryd.func13, Tryd.ntmps13
  go_wp2
  go_loopg [4] k (fun kq v4 w' => ∃ (x4_1 : Int), v4 = .int .i64 x4_1 ∧ Aside0 (whirligigref02_Means.l0 kq a0 (⟨#[32, 99, 104, 97, 114, 116, 32, 118, 97, 114, 32, 115, 116, 97, 116, 101, 32, 112, 97, 114, 97, 108, 108, 101, 108, 32, 102, 105, 110, 97, 108, 32, 100, 101, 101, 112, 32, 115, 104, 97, 108, 108, 111, 119, 32, 101, 110, 116, 101, 114, 32, 101, 120, 105, 116, 32, 111, 110, 32, 97, 117, 116, 111, 32, 101, 110, 100, 32, 105, 102, 32, 103, 111, 32, 105, 110, 110, 101, 114, 32, 100, 111, 32, 115, 101, 116, 32, 114, 97, 105, 115, 101, 32, 115, 101, 110, 100, 32, 99, 97, 110, 99, 101, 108, 32, 108, 111, 103, 32, 116, 114, 117, 101, 32, 102, 97, 108, 115, 101, 32, 110, 111, 116, 32, 97, 110, 100, 32, 111, 114, 32, 105, 110, 32]⟩ : ByteArray) x4_1 = some r) ∧ Aside0 (kq ≤ k) ∧ Drawn0 w w')
  case atStart => exact ⟨(0), (by first | rfl | (simp; done) | (simp [*]; done)), H', ⟨Nat.le_refl _⟩, by repeat (first | exact Drawn0.refl _ | apply Drawn0.step)⟩
  case round =>
    clear H'
    try clear c1
    obtain ⟨x4_1, rfl, HA, HK1, ⟨m1, rfl⟩⟩ := hrel
    cases gk with
    | zero => exact absurd HA.out (by simp [whirligigref02_Means.l0])
    | succ k1 =>
      have H := HA.out
      clear HA
      simp only [whirligigref02_Means.l0] at H
      generalize hD_ : (⟨#[32, 99, 104, 97, 114, 116, 32, 118, 97, 114, 32, 115, 116, 97, 116, 101, 32, 112, 97, 114, 97, 108, 108, 101, 108, 32, 102, 105, 110, 97, 108, 32, 100, 101, 101, 112, 32, 115, 104, 97, 108, 108, 111, 119, 32, 101, 110, 116, 101, 114, 32, 101, 120, 105, 116, 32, 111, 110, 32, 97, 117, 116, 111, 32, 101, 110, 100, 32, 105, 102, 32, 103, 111, 32, 105, 110, 110, 101, 114, 32, 100, 111, 32, 115, 101, 116, 32, 114, 97, 105, 115, 101, 32, 115, 101, 110, 100, 32, 99, 97, 110, 99, 101, 108, 32, 108, 111, 103, 32, 116, 114, 117, 101, 32, 102, 97, 108, 115, 101, 32, 110, 111, 116, 32, 97, 110, 100, 32, 111, 114, 32, 105, 110, 32]⟩ : ByteArray) = D_ at *
      by_cases c2 : (wrap64 ((wrap64 (x4_1 + (a0.size : Int))) + 2)) ≤ (D_.size : Int)
      · rw [if_pos c2] at H
        have c2b0 : decide ((wrap64 ((wrap64 (x4_1 + (a0.size : Int))) + 2)) ≤ (D_.size : Int)) = true := decide_eq_true c2
        clear c2
        by_cases c3 : 0 ≤ x4_1
        · rw [if_pos c3] at H
          have c3b0 := eq_true c3
          have c3b1 : decide (0 ≤ x4_1) = true := decide_eq_true c3
          clear c3
          by_cases c4 : x4_1 ≤ (wrap64 ((wrap64 (x4_1 + (a0.size : Int))) + 2))
          · rw [if_pos c4] at H
            have c4b0 := eq_true c4
            have c4b1 : decide (x4_1 ≤ (wrap64 ((wrap64 (x4_1 + (a0.size : Int))) + 2))) = true := decide_eq_true c4
            have c5b0 := eq_true (of_decide_eq_true (by first | (with_reducible assumption) | assumption) : (wrap64 ((wrap64 (x4_1 + (a0.size : Int))) + 2)) ≤ (D_.size : Int))
            by_cases c6 : 1 + a0.size ≤ 9223372036854775807
            · rw [if_pos c6] at H
              have c6b0 := eq_true c6
              have c6b1 : decide (1 + a0.size ≤ 9223372036854775807) = true := decide_eq_true c6
              try have c6b2 : (9223372036854775807 < 1 + a0.size) = False := eq_false (Nat.not_lt.2 c6)
              by_cases c7 : ((⟨#[32]⟩ : ByteArray) ++ a0).size + 1 ≤ 9223372036854775807
              · rw [if_pos c7] at H
                have c7b0 := eq_true c7
                have c7b1 : decide (((⟨#[32]⟩ : ByteArray) ++ a0).size + 1 ≤ 9223372036854775807) = true := decide_eq_true c7
                try have c7b2 : (9223372036854775807 < ((⟨#[32]⟩ : ByteArray) ++ a0).size + 1) = False := eq_false (Nat.not_lt.2 c7)
                have c7u : 1 + a0.size + 1 ≤ 9223372036854775807 := by have q_ := of_decide_eq_true c7b1; rw [ByteArray.size_append] at q_; exact q_
                have c7w : decide (1 + a0.size + 1 ≤ 9223372036854775807) = true := decide_eq_true c7u
                have c7v : (9223372036854775807 < 1 + a0.size + 1) = False := eq_false (Nat.not_lt.2 c7u)
                by_cases c8 : (D_.extract (x4_1 : Int).toNat ((wrap64 ((wrap64 (x4_1 + (a0.size : Int))) + 2)) : Int).toNat).toList = (((⟨#[32]⟩ : ByteArray) ++ a0) ++ (⟨#[32]⟩ : ByteArray)).toList
                · rw [if_pos c8] at H
                  have c8b0 : ((D_.extract (x4_1 : Int).toNat ((wrap64 ((wrap64 (x4_1 + (a0.size : Int))) + 2)) : Int).toNat).toList == (((⟨#[32]⟩ : ByteArray) ++ a0) ++ (⟨#[32]⟩ : ByteArray)).toList) = true := beq_iff_eq.mpr c8
                  have c8b1 : ((D_.extract (x4_1 : Int).toNat ((wrap64 ((wrap64 (x4_1 + (a0.size : Int))) + 2)) : Int).toNat).toList != (((⟨#[32]⟩ : ByteArray) ++ a0) ++ (⟨#[32]⟩ : ByteArray)).toList) = false := bne_eq_false_iff_eq.mpr c8
                  clear c8
                  by_cases c9 : a0.toList = ([] : List UInt8)
                  · rw [if_pos c9] at H
                    have c9b0 : (a0.toList == ([] : List UInt8)) = true := beq_iff_eq.mpr c9
                    have c9b1 : (a0.toList != ([] : List UInt8)) = false := bne_eq_false_iff_eq.mpr c9
                    clear c9
                    obtain rfl := Option.some.inj H
                    go_wp2
                    go_ret
                    exact ⟨by first | rfl | (simp; done) | (simp [*]; done), by repeat (first | exact Drawn0.refl _ | apply Drawn0.step)⟩
                  · rw [if_neg c9] at H
                    have c9b0 : (a0.toList == ([] : List UInt8)) = false := beq_eq_false_iff_ne.mpr c9
                    have c9b1 : (a0.toList != ([] : List UInt8)) = true := bne_iff_ne.mpr c9
                    replace H := Option.bind_eq_some_iff.mp H
                    obtain ⟨t168, A100, H⟩ := H
                    replace H : (some (t168 == (a0.size : Int))) = some r := H
                    have A10 := Aside0.mk A100
                    clear A100
                    obtain rfl := Option.some.inj H
                    go_wp2_with (first | (go_at_call 18; (with_reducible refine (whirligigref02_word.calls k1 a0 0 t168 _ A10.out).mono ?_); rintro e w' ⟨rfl, ⟨nd, rfl⟩⟩))
                    go_ret
                    exact ⟨by first | rfl | (simp; done) | (simp [*]; done), by repeat (first | exact Drawn0.refl _ | apply Drawn0.step)⟩
                · rw [if_neg c8] at H
                  have c8b0 : ((D_.extract (x4_1 : Int).toNat ((wrap64 ((wrap64 (x4_1 + (a0.size : Int))) + 2)) : Int).toNat).toList == (((⟨#[32]⟩ : ByteArray) ++ a0) ++ (⟨#[32]⟩ : ByteArray)).toList) = false := beq_eq_false_iff_ne.mpr c8
                  have c8b1 : ((D_.extract (x4_1 : Int).toNat ((wrap64 ((wrap64 (x4_1 + (a0.size : Int))) + 2)) : Int).toNat).toList != (((⟨#[32]⟩ : ByteArray) ++ a0) ++ (⟨#[32]⟩ : ByteArray)).toList) = true := bne_iff_ne.mpr c8
                  have H' := Aside0.mk H
                  clear H
                  go_wp2
                  go_roundg k1
                  case measure => have := HK1.out; omega
                  case rel => exact ⟨(wrap64 (x4_1 + 1)), (by first | rfl | (simp; done) | (simp [*]; done)), H', ⟨by have := HK1.out; omega⟩, by repeat (first | exact Drawn0.refl _ | apply Drawn0.step)⟩
              · rw [if_neg c7] at H
                exact absurd H (by simp)
            · rw [if_neg c6] at H
              exact absurd H (by simp)
          · rw [if_neg c4] at H
            exact absurd H (by simp)
        · rw [if_neg c3] at H
          exact absurd H (by simp)
      · rw [if_neg c2] at H
        have c2b0 : decide ((wrap64 ((wrap64 (x4_1 + (a0.size : Int))) + 2)) ≤ (D_.size : Int)) = false := decide_eq_false c2
        clear c2
        obtain rfl := Option.some.inj H
        go_wp2
        go_ret
        exact ⟨by first | rfl | (simp; done) | (simp [*]; done), by repeat (first | exact Drawn0.refl _ | apply Drawn0.step)⟩

/-! ### whirligigref02_Name: function 6 -/
def whirligigref02_Name.f (k : Nat) (a0 : ByteArray) : Option (Bool) := (whirligigref02_Lex.f k a0).bind fun bt169 => (if bt169.2.1 = 0 then (if (bt169.1.length : Int) = 1 then (if 0 < (bt169.1.length : Int) then (if ((rd_T35 bt169.1 0).f0) = 1 then (if ((rd_T35 bt169.1 0).f1).toList = a0.toList then ((whirligigref02_Means.f k a0).bind fun t176 => (some (!t176))) else (some false)) else (some false)) else (none)) else (some false)) else (some false))
theorem whirligigref02_Name.mono : ∀ a0 k, LeO (whirligigref02_Name.f k a0) (whirligigref02_Name.f (k + 1) a0) := by
  intro a0 k
  unfold whirligigref02_Name.f
  repeat' first
      | (with_reducible exact whirligigref02_Lex.mono _ _)
      | (with_reducible exact whirligigref02_Means.mono _ _)
      | (with_reducible exact LeO.refl _)
      | (with_reducible exact LeO.none _)
      | (with_reducible refine LeO.ite ?_ ?_)
      | (with_reducible refine LeO.bind ?_ (fun _ => ?_))
      | exact whirligigref02_Lex.mono _ _
      | exact whirligigref02_Means.mono _ _
      | exact LeO.none _
      | refine LeO.ite ?_ ?_
      | refine LeO.bind ?_ (fun _ => ?_)
set_option maxHeartbeats 8000000 in
set_option maxRecDepth 100000 in
theorem whirligigref02_Name.calls (k : Nat) (a0 : ByteArray) (r : Bool) (w : World) (h : whirligigref02_Name.f k a0 = some r) :
    Calls Tryd.prog 6 #[.string a0] w fun e w' => e = .returned (.bool r) ∧ Below w.heap.size w w' := by
  have HB := Aside0.mk (Below.refl w.heap.size w)
  have H : ((whirligigref02_Lex.f k a0).bind fun bt169 => (if bt169.2.1 = 0 then (if (bt169.1.length : Int) = 1 then (if 0 < (bt169.1.length : Int) then (if ((rd_T35 bt169.1 0).f0) = 1 then (if ((rd_T35 bt169.1 0).f1).toList = a0.toList then ((whirligigref02_Means.f k a0).bind fun t176 => (some (!t176))) else (some false)) else (some false)) else (none)) else (some false)) else (some false))) = some r := h
  clear h
  replace H := Option.bind_eq_some_iff.mp H
  obtain ⟨⟨t169, t170, t171⟩, A20, H⟩ := H
  replace H : (if t170 = 0 then (if (t169.length : Int) = 1 then (if 0 < (t169.length : Int) then (if ((rd_T35 t169 0).f0) = 1 then (if ((rd_T35 t169 0).f1).toList = a0.toList then ((whirligigref02_Means.f k a0).bind fun t176 => (some (!t176))) else (some false)) else (some false)) else (none)) else (some false)) else (some false)) = some r := H
  have A2 := Aside0.mk A20
  clear A20
  by_cases c3 : t170 = 0
  · rw [if_pos c3] at H
    have c3b0 : (t170 == 0) = true := beq_iff_eq.mpr c3
    have c3b1 : (t170 != 0) = false := bne_eq_false_iff_eq.mpr c3
    clear c3
    by_cases c4 : (t169.length : Int) = 1
    · rw [if_pos c4] at H
      have c4b0 : ((t169.length : Int) == 1) = true := beq_iff_eq.mpr c4
      have c4b1 : ((t169.length : Int) != 1) = false := bne_eq_false_iff_eq.mpr c4
      clear c4
      by_cases c5 : 0 < (t169.length : Int)
      · rw [if_pos c5] at H
        have c5b0 : decide (0 < (t169.length : Int)) = true := decide_eq_true c5
        have c5b1 : decide (0 < t169.length) = true := decide_eq_true (by omega)
        clear c5
        by_cases c6 : ((rd_T35 t169 0).f0) = 1
        · rw [if_pos c6] at H
          have c6b0 : (((rd_T35 t169 0).f0) == 1) = true := beq_iff_eq.mpr c6
          have c6b1 : (((rd_T35 t169 0).f0) != 1) = false := bne_eq_false_iff_eq.mpr c6
          clear c6
          by_cases c7 : ((rd_T35 t169 0).f1).toList = a0.toList
          · rw [if_pos c7] at H
            have c7b0 : (((rd_T35 t169 0).f1).toList == a0.toList) = true := beq_iff_eq.mpr c7
            have c7b1 : (((rd_T35 t169 0).f1).toList != a0.toList) = false := bne_eq_false_iff_eq.mpr c7
            clear c7
            replace H := Option.bind_eq_some_iff.mp H
            obtain ⟨t176, A80, H⟩ := H
            replace H : (some (!t176)) = some r := H
            have A8 := Aside0.mk A80
            clear A80
            obtain rfl := Option.some.inj H
            go_enter Tryd.func6, Tryd.ntmps6
            go_wp2_with (first | ((with_reducible refine gate_callee (f := 12) rfl ?_); refine goesL_ (some 8) rfl rfl Tryd.func12 (by kernel_rfl) rfl #[.string a0] rfl (by (try simp only [List.map_toArray, List.map_cons, List.map_nil]); first | done | rfl | (simp only [List.length_drop, List.length_take]; rfl)) ?_; (with_reducible refine (whirligigref02_Lex.calls k a0 t169 t170 t171 _ A2.out).mono ?_); rintro e w9 ⟨v172, rfl, ho0, hb⟩; refine ⟨_, rfl, ?_⟩; have n0_ := Aside0.mk (Kd.R_lower ho0 (below_size (by repeat (first | (with_reducible first | exact HB.out | apply below_alloc | apply pw_below_drewN | apply below_drew1) | exact HB.out)))); have n1_ := Aside0.mk (below_step (by repeat (first | (with_reducible first | exact HB.out | apply below_alloc | apply pw_below_drewN | apply below_drew1) | exact HB.out)) hb); clear HB; have HO173 := n0_; have HB := n1_; clear n0_ n1_; (try clear hb); (try clear hb2); (try clear hk); (try clear hi); (try clear ho0); obtain ⟨Ao10, co10, eo10⟩ := Kd.R_slice HO173.out; subst eo10; have p174 : 0 ≤ (0 : Int) := (by omega); have q174 : 0 < (t169.length : Int) := of_decide_eq_true (by first | (with_reducible assumption) | assumption); obtain ⟨ad174, e174, hx174_0, hx174_1, hx174_2, hx174_3⟩ := at_T35 (Kd.R_reads' HO173.out).2.2 0 p174 q174; cases e174; have qi174 : (0 < t169.length) = True := eq_true (by omega); (try rw [show ((0 : Int)).toNat = 0 from rfl] at hx174_0); (try rw [show 0 * 4 = 0 from rfl] at hx174_0); (try rw [Addr.add_zero'] at hx174_0); (try rw [show ((0 : Int)).toNat = 0 from rfl] at hx174_1); (try rw [show 0 * 4 = 0 from rfl] at hx174_1); (try rw [Addr.add_zero'] at hx174_1); (try rw [show ((0 : Int)).toNat = 0 from rfl] at hx174_2); (try rw [show 0 * 4 = 0 from rfl] at hx174_2); (try rw [Addr.add_zero'] at hx174_2); (try rw [show ((0 : Int)).toNat = 0 from rfl] at hx174_3); (try rw [show 0 * 4 = 0 from rfl] at hx174_3); (try rw [Addr.add_zero'] at hx174_3); replace p174 := eq_true p174; replace q174 := eq_true q174; have p175 : 0 ≤ (0 : Int) := (by omega); have q175 : 0 < (t169.length : Int) := of_decide_eq_true (by first | (with_reducible assumption) | assumption); obtain ⟨ad175, e175, hx175_0, hx175_1, hx175_2, hx175_3⟩ := at_T35 (Kd.R_reads' HO173.out).2.2 0 p175 q175; obtain rfl : ad174 = ad175 := (by injection e175); have qi175 : (0 < t169.length) = True := eq_true (by omega); (try rw [show ((0 : Int)).toNat = 0 from rfl] at hx175_0); (try rw [show 0 * 4 = 0 from rfl] at hx175_0); (try rw [Addr.add_zero'] at hx175_0); (try rw [show ((0 : Int)).toNat = 0 from rfl] at hx175_1); (try rw [show 0 * 4 = 0 from rfl] at hx175_1); (try rw [Addr.add_zero'] at hx175_1); (try rw [show ((0 : Int)).toNat = 0 from rfl] at hx175_2); (try rw [show 0 * 4 = 0 from rfl] at hx175_2); (try rw [Addr.add_zero'] at hx175_2); (try rw [show ((0 : Int)).toNat = 0 from rfl] at hx175_3); (try rw [show 0 * 4 = 0 from rfl] at hx175_3); (try rw [Addr.add_zero'] at hx175_3); replace p175 := eq_true p175; replace q175 := eq_true q175) | (go_at_call 13; (with_reducible refine (whirligigref02_Means.calls k a0 t176 _ A8.out).mono ?_); rintro e w' ⟨rfl, ⟨nd, rfl⟩⟩))
            go_ret
            exact ⟨by first | rfl | (simp [errW_none, errW_some] <;> rfl) | (simp [*, errW_none, errW_some] <;> rfl), by repeat (first | (with_reducible first | exact HB.out | apply below_alloc | apply pw_below_drewN | apply below_drew1) | exact HB.out)⟩
          · rw [if_neg c7] at H
            have c7b0 : (((rd_T35 t169 0).f1).toList == a0.toList) = false := beq_eq_false_iff_ne.mpr c7
            have c7b1 : (((rd_T35 t169 0).f1).toList != a0.toList) = true := bne_iff_ne.mpr c7
            obtain rfl := Option.some.inj H
            go_enter Tryd.func6, Tryd.ntmps6
            go_wp2_with (first | ((with_reducible refine gate_callee (f := 12) rfl ?_); refine goesL_ (some 8) rfl rfl Tryd.func12 (by kernel_rfl) rfl #[.string a0] rfl (by (try simp only [List.map_toArray, List.map_cons, List.map_nil]); first | done | rfl | (simp only [List.length_drop, List.length_take]; rfl)) ?_; (with_reducible refine (whirligigref02_Lex.calls k a0 t169 t170 t171 _ A2.out).mono ?_); rintro e w11 ⟨v172, rfl, ho0, hb⟩; refine ⟨_, rfl, ?_⟩; have n0_ := Aside0.mk (Kd.R_lower ho0 (below_size (by repeat (first | (with_reducible first | exact HB.out | apply below_alloc | apply pw_below_drewN | apply below_drew1) | exact HB.out)))); have n1_ := Aside0.mk (below_step (by repeat (first | (with_reducible first | exact HB.out | apply below_alloc | apply pw_below_drewN | apply below_drew1) | exact HB.out)) hb); clear HB; have HO173 := n0_; have HB := n1_; clear n0_ n1_; (try clear hb); (try clear hb2); (try clear hk); (try clear hi); (try clear ho0); obtain ⟨Ao12, co12, eo12⟩ := Kd.R_slice HO173.out; subst eo12; have p174 : 0 ≤ (0 : Int) := (by omega); have q174 : 0 < (t169.length : Int) := of_decide_eq_true (by first | (with_reducible assumption) | assumption); obtain ⟨ad174, e174, hx174_0, hx174_1, hx174_2, hx174_3⟩ := at_T35 (Kd.R_reads' HO173.out).2.2 0 p174 q174; cases e174; have qi174 : (0 < t169.length) = True := eq_true (by omega); (try rw [show ((0 : Int)).toNat = 0 from rfl] at hx174_0); (try rw [show 0 * 4 = 0 from rfl] at hx174_0); (try rw [Addr.add_zero'] at hx174_0); (try rw [show ((0 : Int)).toNat = 0 from rfl] at hx174_1); (try rw [show 0 * 4 = 0 from rfl] at hx174_1); (try rw [Addr.add_zero'] at hx174_1); (try rw [show ((0 : Int)).toNat = 0 from rfl] at hx174_2); (try rw [show 0 * 4 = 0 from rfl] at hx174_2); (try rw [Addr.add_zero'] at hx174_2); (try rw [show ((0 : Int)).toNat = 0 from rfl] at hx174_3); (try rw [show 0 * 4 = 0 from rfl] at hx174_3); (try rw [Addr.add_zero'] at hx174_3); replace p174 := eq_true p174; replace q174 := eq_true q174; have p175 : 0 ≤ (0 : Int) := (by omega); have q175 : 0 < (t169.length : Int) := of_decide_eq_true (by first | (with_reducible assumption) | assumption); obtain ⟨ad175, e175, hx175_0, hx175_1, hx175_2, hx175_3⟩ := at_T35 (Kd.R_reads' HO173.out).2.2 0 p175 q175; obtain rfl : ad174 = ad175 := (by injection e175); have qi175 : (0 < t169.length) = True := eq_true (by omega); (try rw [show ((0 : Int)).toNat = 0 from rfl] at hx175_0); (try rw [show 0 * 4 = 0 from rfl] at hx175_0); (try rw [Addr.add_zero'] at hx175_0); (try rw [show ((0 : Int)).toNat = 0 from rfl] at hx175_1); (try rw [show 0 * 4 = 0 from rfl] at hx175_1); (try rw [Addr.add_zero'] at hx175_1); (try rw [show ((0 : Int)).toNat = 0 from rfl] at hx175_2); (try rw [show 0 * 4 = 0 from rfl] at hx175_2); (try rw [Addr.add_zero'] at hx175_2); (try rw [show ((0 : Int)).toNat = 0 from rfl] at hx175_3); (try rw [show 0 * 4 = 0 from rfl] at hx175_3); (try rw [Addr.add_zero'] at hx175_3); replace p175 := eq_true p175; replace q175 := eq_true q175))
            go_ret
            exact ⟨by first | rfl | (simp [errW_none, errW_some] <;> rfl) | (simp [*, errW_none, errW_some] <;> rfl), by repeat (first | (with_reducible first | exact HB.out | apply below_alloc | apply pw_below_drewN | apply below_drew1) | exact HB.out)⟩
        · rw [if_neg c6] at H
          have c6b0 : (((rd_T35 t169 0).f0) == 1) = false := beq_eq_false_iff_ne.mpr c6
          have c6b1 : (((rd_T35 t169 0).f0) != 1) = true := bne_iff_ne.mpr c6
          obtain rfl := Option.some.inj H
          go_enter Tryd.func6, Tryd.ntmps6
          go_wp2_with (first | ((with_reducible refine gate_callee (f := 12) rfl ?_); refine goesL_ (some 8) rfl rfl Tryd.func12 (by kernel_rfl) rfl #[.string a0] rfl (by (try simp only [List.map_toArray, List.map_cons, List.map_nil]); first | done | rfl | (simp only [List.length_drop, List.length_take]; rfl)) ?_; (with_reducible refine (whirligigref02_Lex.calls k a0 t169 t170 t171 _ A2.out).mono ?_); rintro e w13 ⟨v172, rfl, ho0, hb⟩; refine ⟨_, rfl, ?_⟩; have n0_ := Aside0.mk (Kd.R_lower ho0 (below_size (by repeat (first | (with_reducible first | exact HB.out | apply below_alloc | apply pw_below_drewN | apply below_drew1) | exact HB.out)))); have n1_ := Aside0.mk (below_step (by repeat (first | (with_reducible first | exact HB.out | apply below_alloc | apply pw_below_drewN | apply below_drew1) | exact HB.out)) hb); clear HB; have HO173 := n0_; have HB := n1_; clear n0_ n1_; (try clear hb); (try clear hb2); (try clear hk); (try clear hi); (try clear ho0); obtain ⟨Ao14, co14, eo14⟩ := Kd.R_slice HO173.out; subst eo14; have p174 : 0 ≤ (0 : Int) := (by omega); have q174 : 0 < (t169.length : Int) := of_decide_eq_true (by first | (with_reducible assumption) | assumption); obtain ⟨ad174, e174, hx174_0, hx174_1, hx174_2, hx174_3⟩ := at_T35 (Kd.R_reads' HO173.out).2.2 0 p174 q174; cases e174; have qi174 : (0 < t169.length) = True := eq_true (by omega); (try rw [show ((0 : Int)).toNat = 0 from rfl] at hx174_0); (try rw [show 0 * 4 = 0 from rfl] at hx174_0); (try rw [Addr.add_zero'] at hx174_0); (try rw [show ((0 : Int)).toNat = 0 from rfl] at hx174_1); (try rw [show 0 * 4 = 0 from rfl] at hx174_1); (try rw [Addr.add_zero'] at hx174_1); (try rw [show ((0 : Int)).toNat = 0 from rfl] at hx174_2); (try rw [show 0 * 4 = 0 from rfl] at hx174_2); (try rw [Addr.add_zero'] at hx174_2); (try rw [show ((0 : Int)).toNat = 0 from rfl] at hx174_3); (try rw [show 0 * 4 = 0 from rfl] at hx174_3); (try rw [Addr.add_zero'] at hx174_3); replace p174 := eq_true p174; replace q174 := eq_true q174))
          go_ret
          exact ⟨by first | rfl | (simp [errW_none, errW_some] <;> rfl) | (simp [*, errW_none, errW_some] <;> rfl), by repeat (first | (with_reducible first | exact HB.out | apply below_alloc | apply pw_below_drewN | apply below_drew1) | exact HB.out)⟩
      · rw [if_neg c5] at H
        exact absurd H (by simp)
    · rw [if_neg c4] at H
      have c4b0 : ((t169.length : Int) == 1) = false := beq_eq_false_iff_ne.mpr c4
      have c4b1 : ((t169.length : Int) != 1) = true := bne_iff_ne.mpr c4
      obtain rfl := Option.some.inj H
      go_enter Tryd.func6, Tryd.ntmps6
      go_wp2_with (first | ((with_reducible refine gate_callee (f := 12) rfl ?_); refine goesL_ (some 8) rfl rfl Tryd.func12 (by kernel_rfl) rfl #[.string a0] rfl (by (try simp only [List.map_toArray, List.map_cons, List.map_nil]); first | done | rfl | (simp only [List.length_drop, List.length_take]; rfl)) ?_; (with_reducible refine (whirligigref02_Lex.calls k a0 t169 t170 t171 _ A2.out).mono ?_); rintro e w15 ⟨v172, rfl, ho0, hb⟩; refine ⟨_, rfl, ?_⟩; have n0_ := Aside0.mk (Kd.R_lower ho0 (below_size (by repeat (first | (with_reducible first | exact HB.out | apply below_alloc | apply pw_below_drewN | apply below_drew1) | exact HB.out)))); have n1_ := Aside0.mk (below_step (by repeat (first | (with_reducible first | exact HB.out | apply below_alloc | apply pw_below_drewN | apply below_drew1) | exact HB.out)) hb); clear HB; have HO173 := n0_; have HB := n1_; clear n0_ n1_; (try clear hb); (try clear hb2); (try clear hk); (try clear hi); (try clear ho0); obtain ⟨Ao16, co16, eo16⟩ := Kd.R_slice HO173.out; subst eo16))
      go_ret
      exact ⟨by first | rfl | (simp [errW_none, errW_some] <;> rfl) | (simp [*, errW_none, errW_some] <;> rfl), by repeat (first | (with_reducible first | exact HB.out | apply below_alloc | apply pw_below_drewN | apply below_drew1) | exact HB.out)⟩
  · rw [if_neg c3] at H
    have c3b0 : (t170 == 0) = false := beq_eq_false_iff_ne.mpr c3
    have c3b1 : (t170 != 0) = true := bne_iff_ne.mpr c3
    obtain rfl := Option.some.inj H
    go_enter Tryd.func6, Tryd.ntmps6
    go_wp2_with (first | ((with_reducible refine gate_callee (f := 12) rfl ?_); refine goesL_ (some 8) rfl rfl Tryd.func12 (by kernel_rfl) rfl #[.string a0] rfl (by (try simp only [List.map_toArray, List.map_cons, List.map_nil]); first | done | rfl | (simp only [List.length_drop, List.length_take]; rfl)) ?_; (with_reducible refine (whirligigref02_Lex.calls k a0 t169 t170 t171 _ A2.out).mono ?_); rintro e w17 ⟨v172, rfl, ho0, hb⟩; refine ⟨_, rfl, ?_⟩; have n0_ := Aside0.mk (Kd.R_lower ho0 (below_size (by repeat (first | (with_reducible first | exact HB.out | apply below_alloc | apply pw_below_drewN | apply below_drew1) | exact HB.out)))); have n1_ := Aside0.mk (below_step (by repeat (first | (with_reducible first | exact HB.out | apply below_alloc | apply pw_below_drewN | apply below_drew1) | exact HB.out)) hb); clear HB; have HO173 := n0_; have HB := n1_; clear n0_ n1_; (try clear hb); (try clear hb2); (try clear hk); (try clear hi); (try clear ho0)))
    go_ret
    exact ⟨by first | rfl | (simp [errW_none, errW_some] <;> rfl) | (simp [*, errW_none, errW_some] <;> rfl), by repeat (first | (with_reducible first | exact HB.out | apply below_alloc | apply pw_below_drewN | apply below_drew1) | exact HB.out)⟩

/-! ### event_First: function 8 -/
def event_First.l0 : Nat → ByteArray → List ByteArray → Int → Int → Option (Int)
  | 0, _, _, _, _ => none
  | k + 1, x0, x7, x8, x9 => if x9 < x8 then (if 0 ≤ x9 then (if x9 < (x7.length : Int) then ((event_Match.f (rdOf ByteArray.empty x7 x9) x0).bind fun t178 => (if t178 = true then (some x9) else (event_First.l0 k x0 x7 x8 (wrap64 (x9 + 1))))) else (none)) else (none)) else (some (-1))
def event_First.f (k : Nat) (a0 : ByteArray) (l1 : List ByteArray) : Option (Int) := event_First.l0 k a0 l1 (l1.length : Int) 0
theorem event_First.mono_l : ∀ k, (∀ y0 y1 y2 y3, LeO (event_First.l0 k y0 y1 y2 y3) (event_First.l0 (k + 1) y0 y1 y2 y3))
  | 0 => fun _ _ _ _ r h => by simp [event_First.l0] at h
  | k + 1 => by
    have ih0 := event_First.mono_l k
    · intro y0 y1 y2 y3
      unfold event_First.l0
      repeat' first
      | (with_reducible exact ih0 _ _ _ _)
      | (with_reducible exact LeO.refl _)
      | (with_reducible exact LeO.none _)
      | (with_reducible refine LeO.ite ?_ ?_)
      | (with_reducible refine LeO.bind ?_ (fun _ => ?_))
      | exact ih0 _ _ _ _
      | exact LeO.none _
      | refine LeO.ite ?_ ?_
      | refine LeO.bind ?_ (fun _ => ?_)
theorem event_First.mono : ∀ a0 a1 k, LeO (event_First.f k a0 a1) (event_First.f (k + 1) a0 a1) := by
  intro a0 a1 k
  have ih0 := event_First.mono_l k
  unfold event_First.f
  repeat' first
      | (with_reducible exact ih0 _ _ _ _)
      | (with_reducible exact LeO.refl _)
      | (with_reducible exact LeO.none _)
      | (with_reducible refine LeO.ite ?_ ?_)
      | (with_reducible refine LeO.bind ?_ (fun _ => ?_))
      | exact ih0 _ _ _ _
      | exact LeO.none _
      | refine LeO.ite ?_ ?_
      | refine LeO.bind ?_ (fun _ => ?_)
set_option maxHeartbeats 8000000 in
set_option maxRecDepth 100000 in
theorem event_First.calls (k : Nat) (a0 : ByteArray) (A1 : Option Addr) (c1 : Nat) (l1 : List ByteArray) (r : Int) (w : World) (hr1 : Kd.C Kd.string w A1 l1.length l1) (hc1 : l1.length ≤ c1) (h : event_First.f k a0 l1 = some r) :
    Calls Tryd.prog 8 #[.string a0, .slice A1 l1.length c1] w fun e w' => e = .returned (.int .i64 r) ∧ Drawn0 w w' := by
  have HR1 := Aside0.mk hr1
  have HC1 := Aside0.mk hc1
  clear hr1 hc1
  have H : (event_First.l0 k a0 l1 (l1.length : Int) 0) = some r := h
  clear h
  have H' := Aside0.mk H
  clear H
  go_enter Tryd.func8, Tryd.ntmps8
  go_wp2
  go_loopg [9] k (fun kq v9 w' => ∃ (x9_1 : Int), v9 = .int .i64 x9_1 ∧ Aside0 (event_First.l0 kq a0 l1 (l1.length : Int) x9_1 = some r) ∧ Aside0 (kq ≤ k) ∧ Drawn0 w w')
  case atStart => exact ⟨(0), (by first | rfl | (simp; done) | (simp [*]; done)), H', ⟨Nat.le_refl _⟩, by repeat (first | exact Drawn0.refl _ | apply Drawn0.step)⟩
  case round =>
    clear H'
    try clear c1
    try clear p2
    obtain ⟨x9_1, rfl, HA, HK1, ⟨m1, rfl⟩⟩ := hrel
    cases gk with
    | zero => exact absurd HA.out (by simp [event_First.l0])
    | succ k1 =>
      have H := HA.out
      clear HA
      simp only [event_First.l0] at H
      by_cases c3 : x9_1 < (l1.length : Int)
      · rw [if_pos c3] at H
        have c3b0 : decide (x9_1 < (l1.length : Int)) = true := decide_eq_true c3
        clear c3
        by_cases c4 : 0 ≤ x9_1
        · rw [if_pos c4] at H
          have c4b0 : decide (0 ≤ x9_1) = true := decide_eq_true c4
          clear c4
          by_cases c5 : x9_1 < (l1.length : Int)
          · rw [if_pos c5] at H
            have c5b0 : decide (x9_1 < (l1.length : Int)) = true := decide_eq_true c5
            clear c5
            replace H := Option.bind_eq_some_iff.mp H
            obtain ⟨t178, A60, H⟩ := H
            replace H : (if t178 = true then (some x9_1) else (event_First.l0 k1 a0 l1 (l1.length : Int) (wrap64 (x9_1 + 1)))) = some r := H
            have A6 := Aside0.mk A60
            clear A60
            by_cases c7 : t178 = true
            · subst c7
              have H1 : (some x9_1) = some r := by rw [if_pos rfl] at H; exact H
              clear H
              have H := H1
              clear H1
              obtain rfl := Option.some.inj H
              have p177 : 0 ≤ (x9_1 : Int) := of_decide_eq_true (by first | (with_reducible assumption) | assumption)
              have q177 : x9_1 < (l1.length : Int) := of_decide_eq_true (by first | (with_reducible assumption) | assumption)
              obtain ⟨ad177, e177, hx177_0⟩ := Kd.at_string HR1.out x9_1 p177 q177
              cases e177
              replace p177 := eq_true p177
              replace q177 := eq_true q177
              go_wp2_with (first | ((with_reducible refine gate_callee (f := 9) rfl ?_); refine goesL_ (some 16) rfl rfl Tryd.func9 (by kernel_rfl) rfl #[.string (rdOf ByteArray.empty l1 x9_1), .string a0] rfl (by (try simp only [List.map_toArray, List.map_cons, List.map_nil]); first | done | rfl | (simp only [List.length_drop, List.length_take]; rfl)) ?_; (with_reducible refine (event_Match.calls (rdOf ByteArray.empty l1 x9_1) a0 true _ A6.out).mono ?_); rintro e w' ⟨rfl, ⟨nd, rfl⟩⟩; refine ⟨_, rfl, ?_⟩))
              go_ret
              exact ⟨by first | rfl | (simp; done) | (simp [*]; done), by repeat (first | exact Drawn0.refl _ | apply Drawn0.step)⟩
            · replace c7 := Bool.eq_false_iff.mpr c7
              subst c7
              have H1 : (event_First.l0 k1 a0 l1 (l1.length : Int) (wrap64 (x9_1 + 1))) = some r := by rw [if_neg (show ¬ (false = true) by decide)] at H; exact H
              clear H
              have H := H1
              clear H1
              have H' := Aside0.mk H
              clear H
              have p177 : 0 ≤ (x9_1 : Int) := of_decide_eq_true (by first | (with_reducible assumption) | assumption)
              have q177 : x9_1 < (l1.length : Int) := of_decide_eq_true (by first | (with_reducible assumption) | assumption)
              obtain ⟨ad177, e177, hx177_0⟩ := Kd.at_string HR1.out x9_1 p177 q177
              cases e177
              replace p177 := eq_true p177
              replace q177 := eq_true q177
              go_wp2_with (first | ((with_reducible refine gate_callee (f := 9) rfl ?_); refine goesL_ (some 16) rfl rfl Tryd.func9 (by kernel_rfl) rfl #[.string (rdOf ByteArray.empty l1 x9_1), .string a0] rfl (by (try simp only [List.map_toArray, List.map_cons, List.map_nil]); first | done | rfl | (simp only [List.length_drop, List.length_take]; rfl)) ?_; (with_reducible refine (event_Match.calls (rdOf ByteArray.empty l1 x9_1) a0 false _ A6.out).mono ?_); rintro e w' ⟨rfl, ⟨nd, rfl⟩⟩; refine ⟨_, rfl, ?_⟩))
              go_roundg k1
              case measure => have := HK1.out; omega
              case rel => exact ⟨(wrap64 (x9_1 + 1)), (by first | rfl | (simp; done) | (simp [*]; done)), H', ⟨by have := HK1.out; omega⟩, by repeat (first | exact Drawn0.refl _ | apply Drawn0.step)⟩
          · rw [if_neg c5] at H
            exact absurd H (by simp)
        · rw [if_neg c4] at H
          exact absurd H (by simp)
      · rw [if_neg c3] at H
        have c3b0 : decide (x9_1 < (l1.length : Int)) = false := decide_eq_false c3
        clear c3
        obtain rfl := Option.some.inj H
        go_wp2
        go_ret
        exact ⟨by first | rfl | (simp; done) | (simp [*]; done), by repeat (first | exact Drawn0.refl _ | apply Drawn0.step)⟩

-- NOT PRINTED: function 38 (utf8_RuneCountInString)

-- NOT PRINTED: function 45 (utf8_decodeRuneInStringSlow)

-- NOT PRINTED: function 39 (utf8_DecodeRuneInString)

-- NOT PRINTED: function 31 (strings_explode)

-- NOT PRINTED: function 50 (bytealg_IndexByteString)

-- NOT PRINTED: function 46 (stringslite_IndexByte)

-- NOT PRINTED: function 47 (bytealg_IndexString)

/-! ### bytealg_Cutover: function 48 -/
def bytealg_Cutover.f (a0 : Int) : Option (Int) := some (wrap64 (Int.tdiv (wrap64 (a0 + 16)) 8))
set_option maxHeartbeats 8000000 in
set_option maxRecDepth 100000 in
theorem bytealg_Cutover.calls (a0 : Int) (r : Int) (w : World) (h : bytealg_Cutover.f a0 = some r) :
    Calls Tryd.prog 48 #[.int .i64 a0] w fun e w' => e = .returned (.int .i64 r) ∧ Drawn0 w w' := by
  have H : (some (wrap64 (Int.tdiv (wrap64 (a0 + 16)) 8))) = some r := h
  clear h
  obtain rfl := Option.some.inj H
  go_enter Tryd.func48, Tryd.ntmps48
  go_wp2
  go_ret
  exact ⟨by first | rfl | (simp; done) | (simp [*]; done), by repeat (first | exact Drawn0.refl _ | apply Drawn0.step)⟩

/-! ### bytealg_hashStr_string: function 51 -/
mutual
def bytealg_hashStr_string.l0 : Nat → ByteArray → Int → Int → Option (Int × Int)
  | 0, _, _, _ => none
  | k + 1, x0, x4, x5 => if x5 < (x0.size : Int) then (if 0 ≤ x5 then (bytealg_hashStr_string.l0 k x0 ((((x4 * 16777619) % 4294967296) + ((bt x0 x5) % 4294967296)) % 4294967296) (wrap64 (x5 + 1))) else (none)) else (bytealg_hashStr_string.l1 k x4 1 16777619 (x0.size : Int))
def bytealg_hashStr_string.l1 : Nat → Int → Int → Int → Int → Option (Int × Int)
  | 0, _, _, _, _ => none
  | k + 1, x4, x6, x7, x8 => if x8 > 0 then (if (Go.bits .and .i64 x8 1) = 0 then (bytealg_hashStr_string.l1 k x4 x6 ((x7 * x7) % 4294967296) (x8 / 2)) else (bytealg_hashStr_string.l1 k x4 ((x6 * x7) % 4294967296) ((x7 * x7) % 4294967296) (x8 / 2))) else (some (x4, x6))
end
def bytealg_hashStr_string.f (k : Nat) (a0 : ByteArray) : Option (Int × Int) := bytealg_hashStr_string.l0 k a0 0 0
theorem bytealg_hashStr_string.mono_l : ∀ k, (∀ y0 y1 y2, LeO (bytealg_hashStr_string.l0 k y0 y1 y2) (bytealg_hashStr_string.l0 (k + 1) y0 y1 y2)) ∧ (∀ y0 y1 y2 y3, LeO (bytealg_hashStr_string.l1 k y0 y1 y2 y3) (bytealg_hashStr_string.l1 (k + 1) y0 y1 y2 y3))
  | 0 => ⟨fun _ _ _ r h => by simp [bytealg_hashStr_string.l0] at h, fun _ _ _ _ r h => by simp [bytealg_hashStr_string.l1] at h⟩
  | k + 1 => by
    obtain ⟨ih0, ih1⟩ := bytealg_hashStr_string.mono_l k
    refine ⟨?_, ?_⟩
    · intro y0 y1 y2
      unfold bytealg_hashStr_string.l0
      repeat' first
      | (with_reducible exact ih0 _ _ _)
      | (with_reducible exact ih1 _ _ _ _)
      | (with_reducible exact LeO.refl _)
      | (with_reducible exact LeO.none _)
      | (with_reducible refine LeO.ite ?_ ?_)
      | (with_reducible refine LeO.bind ?_ (fun _ => ?_))
      | exact ih0 _ _ _
      | exact ih1 _ _ _ _
      | exact LeO.none _
      | refine LeO.ite ?_ ?_
      | refine LeO.bind ?_ (fun _ => ?_)
    · intro y0 y1 y2 y3
      unfold bytealg_hashStr_string.l1
      repeat' first
      | (with_reducible exact ih0 _ _ _)
      | (with_reducible exact ih1 _ _ _ _)
      | (with_reducible exact LeO.refl _)
      | (with_reducible exact LeO.none _)
      | (with_reducible refine LeO.ite ?_ ?_)
      | (with_reducible refine LeO.bind ?_ (fun _ => ?_))
      | exact ih0 _ _ _
      | exact ih1 _ _ _ _
      | exact LeO.none _
      | refine LeO.ite ?_ ?_
      | refine LeO.bind ?_ (fun _ => ?_)
theorem bytealg_hashStr_string.mono : ∀ a0 k, LeO (bytealg_hashStr_string.f k a0) (bytealg_hashStr_string.f (k + 1) a0) := by
  intro a0 k
  obtain ⟨ih0, ih1⟩ := bytealg_hashStr_string.mono_l k
  unfold bytealg_hashStr_string.f
  repeat' first
      | (with_reducible exact ih0 _ _ _)
      | (with_reducible exact ih1 _ _ _ _)
      | (with_reducible exact LeO.refl _)
      | (with_reducible exact LeO.none _)
      | (with_reducible refine LeO.ite ?_ ?_)
      | (with_reducible refine LeO.bind ?_ (fun _ => ?_))
      | exact ih0 _ _ _
      | exact ih1 _ _ _ _
      | exact LeO.none _
      | refine LeO.ite ?_ ?_
      | refine LeO.bind ?_ (fun _ => ?_)
set_option maxHeartbeats 8000000 in
set_option maxRecDepth 100000 in
theorem bytealg_hashStr_string.calls (k : Nat) (a0 : ByteArray) (r1 : Int) (r2 : Int) (w : World) (h : bytealg_hashStr_string.f k a0 = some (r1, r2)) :
    Calls Tryd.prog 51 #[.string a0] w fun e w' => e = .returned (.tuple #[.int .u32 r1, .int .u32 r2]) ∧ Drawn0 w w' := by
  have H : (bytealg_hashStr_string.l0 k a0 0 0) = some (r1, r2) := h
  clear h
  have H' := Aside0.mk H
  clear H
  go_enter Tryd.func51, Tryd.ntmps51
  go_wp2
  go_loopg [4, 5] k (fun kq v4 v5 w' => ∃ (x4_1 : Int) (x5_1 : Int), v4 = .int .u32 x4_1 ∧ v5 = .int .i64 x5_1 ∧ Aside0 (bytealg_hashStr_string.l0 kq a0 x4_1 x5_1 = some (r1, r2)) ∧ Aside0 (kq ≤ k) ∧ Drawn0 w w')
  case atStart => exact ⟨(0), (0), (by first | rfl | (simp; done) | (simp [*]; done)), (by first | rfl | (simp; done) | (simp [*]; done)), H', ⟨Nat.le_refl _⟩, by repeat (first | exact Drawn0.refl _ | apply Drawn0.step)⟩
  case round =>
    clear H'
    obtain ⟨x4_1, x5_1, rfl, rfl, HA, HK1, ⟨m1, rfl⟩⟩ := hrel
    cases gk with
    | zero => exact absurd HA.out (by simp [bytealg_hashStr_string.l0])
    | succ k1 =>
      have H := HA.out
      clear HA
      simp only [bytealg_hashStr_string.l0] at H
      by_cases c2 : x5_1 < (a0.size : Int)
      · rw [if_pos c2] at H
        have c2b0 : decide (x5_1 < (a0.size : Int)) = true := decide_eq_true c2
        clear c2
        by_cases c3 : 0 ≤ x5_1
        · rw [if_pos c3] at H
          have c3b0 : decide (0 ≤ x5_1) = true := decide_eq_true c3
          clear c3
          have H' := Aside0.mk H
          clear H
          have p4 : 0 ≤ (x5_1 : Int) := of_decide_eq_true (by first | (with_reducible assumption) | assumption)
          have q4 : x5_1 < (a0.size : Int) := of_decide_eq_true (by first | (with_reducible assumption) | assumption)
          have hx4 := bt_at a0 x5_1
          replace p4 := eq_true p4
          replace q4 := eq_true q4
          go_wp2
          go_roundg k1
          case measure => have := HK1.out; omega
          case rel => exact ⟨((((x4_1 * 16777619) % 4294967296) + ((bt a0 x5_1) % 4294967296)) % 4294967296), (wrap64 (x5_1 + 1)), (by first | rfl | (simp; done) | (simp [*]; done)), (by first | rfl | (simp; done) | (simp [*]; done)), H', ⟨by have := HK1.out; omega⟩, by repeat (first | exact Drawn0.refl _ | apply Drawn0.step)⟩
        · rw [if_neg c3] at H
          exact absurd H (by simp)
      · rw [if_neg c2] at H
        have c2b0 : decide (x5_1 < (a0.size : Int)) = false := decide_eq_false c2
        clear c2
        have H' := Aside0.mk H
        clear H
        go_wp2
        go_loopg [6, 7, 8] k1 (fun kq v6 v7 v8 w' => ∃ (x6_2 : Int) (x7_2 : Int) (x8_2 : Int), v6 = .int .u32 x6_2 ∧ v7 = .int .u32 x7_2 ∧ v8 = .int .i64 x8_2 ∧ Aside0 (bytealg_hashStr_string.l1 kq x4_1 x6_2 x7_2 x8_2 = some (r1, r2)) ∧ Aside0 (kq ≤ k1) ∧ Drawn0 w w')
        case atStart => exact ⟨(1), (16777619), ((a0.size : Int)), (by first | rfl | (simp; done) | (simp [*]; done)), (by first | rfl | (simp; done) | (simp [*]; done)), (by first | rfl | (simp; done) | (simp [*]; done)), H', ⟨Nat.le_refl _⟩, by repeat (first | exact Drawn0.refl _ | apply Drawn0.step)⟩
        case round =>
          clear H'
          try clear c2
          try clear c2b0
          try clear p2
          try clear c3
          try clear c3b0
          try clear p4
          try clear q4
          try clear hx4
          try clear p4
          try clear q4
          obtain ⟨x6_2, x7_2, x8_2, rfl, rfl, rfl, HA, HK2, ⟨m2, rfl⟩⟩ := hrel
          cases gk with
          | zero => exact absurd HA.out (by simp [bytealg_hashStr_string.l1])
          | succ k2 =>
            have H := HA.out
            clear HA
            simp only [bytealg_hashStr_string.l1] at H
            by_cases c5 : x8_2 > 0
            · rw [if_pos c5] at H
              have c5b0 : decide (0 < x8_2) = true := decide_eq_true c5
              clear c5
              by_cases c6 : (Go.bits .and .i64 x8_2 1) = 0
              · rw [if_pos c6] at H
                have c6b0 : ((Go.bits .and .i64 x8_2 1) == 0) = true := beq_iff_eq.mpr c6
                have c6b1 : ((Go.bits .and .i64 x8_2 1) != 0) = false := bne_eq_false_iff_eq.mpr c6
                clear c6
                have H' := Aside0.mk H
                clear H
                go_wp2
                go_roundg k2
                case measure => have := HK1.out; have := HK2.out; omega
                case rel => exact ⟨(x6_2), ((x7_2 * x7_2) % 4294967296), (x8_2 / 2), (by first | rfl | (simp; done) | (simp [*]; done)), (by first | rfl | (simp; done) | (simp [*]; done)), (by first | rfl | (simp; done) | (simp [*]; done)), H', ⟨by have := HK1.out; have := HK2.out; omega⟩, by repeat (first | exact Drawn0.refl _ | apply Drawn0.step)⟩
              · rw [if_neg c6] at H
                have c6b0 : ((Go.bits .and .i64 x8_2 1) == 0) = false := beq_eq_false_iff_ne.mpr c6
                have c6b1 : ((Go.bits .and .i64 x8_2 1) != 0) = true := bne_iff_ne.mpr c6
                have H' := Aside0.mk H
                clear H
                go_wp2
                go_roundg k2
                case measure => have := HK1.out; have := HK2.out; omega
                case rel => exact ⟨((x6_2 * x7_2) % 4294967296), ((x7_2 * x7_2) % 4294967296), (x8_2 / 2), (by first | rfl | (simp; done) | (simp [*]; done)), (by first | rfl | (simp; done) | (simp [*]; done)), (by first | rfl | (simp; done) | (simp [*]; done)), H', ⟨by have := HK1.out; have := HK2.out; omega⟩, by repeat (first | exact Drawn0.refl _ | apply Drawn0.step)⟩
            · rw [if_neg c5] at H
              have c5b0 : decide (0 < x8_2) = false := decide_eq_false c5
              clear c5
              simp only [Option.some.injEq, Prod.mk.injEq] at H
              obtain ⟨rfl, rfl⟩ := H
              go_wp2
              go_ret2
              exact ⟨by first | rfl | (simp; done) | (simp [*]; done), by repeat (first | exact Drawn0.refl _ | apply Drawn0.step)⟩

end Go.Proofs.YtihmbfheaghfaaaDoor.PEventDone
