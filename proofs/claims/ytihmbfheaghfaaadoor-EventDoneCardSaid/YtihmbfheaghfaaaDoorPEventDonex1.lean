-- PRINTED BY print.sh 35421559b90ae4d0a3588c463048766b98c2df88dd9212a6774a882060cdf62d: not written by this session
import Derived.Test.YtihmbfheaghfaaaDoorPEventDonex0
namespace Go.Proofs.YtihmbfheaghfaaaDoor.PEventDone
open Go.RowKit Go.Proofs.YtihmbfheaghfaaaDoorW.PrintWords Go.Proofs.YtihmbfheaghfaaaDoorW.PrintLast Go.Proofs.YtihmbfheaghfaaaDoorW.PrintMore
attribute [local go_sem] max2_int min2_int max_two min_two max_three min_three max_four min_four   -- for this text's walks alone
set_option linter.unusedVariables false
set_option linter.unusedSimpArgs false

/-! ### event_Done: function 7 -/
def event_Done.f (a0 : ByteArray) : Option (ByteArray) := if 11 + a0.size ≤ 9223372036854775807 then (some ((⟨#[100, 111, 110, 101, 46, 115, 116, 97, 116, 101, 46]⟩ : ByteArray) ++ a0)) else (none)
set_option maxHeartbeats 8000000 in
set_option maxRecDepth 100000 in
theorem event_Done.calls (a0 : ByteArray) (r : ByteArray) (w : World) (h : event_Done.f a0 = some r) :
    Calls Tryd.prog 7 #[.string a0] w fun e w' => e = .returned (.string r) ∧ Drawn0 w w' := by
  have H : (if 11 + a0.size ≤ 9223372036854775807 then (some ((⟨#[100, 111, 110, 101, 46, 115, 116, 97, 116, 101, 46]⟩ : ByteArray) ++ a0)) else (none)) = some r := h
  clear h
  by_cases c2 : 11 + a0.size ≤ 9223372036854775807
  · rw [if_pos c2] at H
    have c2b0 := eq_true c2
    have c2b1 : decide (11 + a0.size ≤ 9223372036854775807) = true := decide_eq_true c2
    try have c2b2 : (9223372036854775807 < 11 + a0.size) = False := eq_false (Nat.not_lt.2 c2)
    obtain rfl := Option.some.inj H
    go_enter Tryd.func7, Tryd.ntmps7
    go_wp2
    go_ret
    exact ⟨by first | rfl | (simp; done) | (simp [*]; done), by repeat (first | exact Drawn0.refl _ | apply Drawn0.step)⟩
  · rw [if_neg c2] at H
    exact absurd H (by simp)

/-! ### stringslite_HasPrefix: function 30 -/
def stringslite_HasPrefix.f (a0 : ByteArray) (a1 : ByteArray) : Option (Bool) := if (a0.size : Int) ≥ (a1.size : Int) then (if 0 ≤ (a1.size : Int) then (if (a1.size : Int) ≤ (a0.size : Int) then (some ((a0.extract 0 ((a1.size : Int) : Int).toNat).toList == a1.toList)) else (none)) else (none)) else (some false)
set_option maxHeartbeats 8000000 in
set_option maxRecDepth 100000 in
theorem stringslite_HasPrefix.calls (a0 : ByteArray) (a1 : ByteArray) (r : Bool) (w : World) (h : stringslite_HasPrefix.f a0 a1 = some r) :
    Calls Tryd.prog 30 #[.string a0, .string a1] w fun e w' => e = .returned (.bool r) ∧ Drawn0 w w' := by
  have H : (if (a0.size : Int) ≥ (a1.size : Int) then (if 0 ≤ (a1.size : Int) then (if (a1.size : Int) ≤ (a0.size : Int) then (some ((a0.extract 0 ((a1.size : Int) : Int).toNat).toList == a1.toList)) else (none)) else (none)) else (some false)) = some r := h
  clear h
  by_cases c3 : (a0.size : Int) ≥ (a1.size : Int)
  · rw [if_pos c3] at H
    have c3b0 : decide ((a1.size : Int) ≤ (a0.size : Int)) = true := decide_eq_true c3
    have c3b1 : decide (a1.size ≤ a0.size) = true := decide_eq_true (Int.ofNat_le.mp c3)
    clear c3
    by_cases c4 : 0 ≤ (a1.size : Int)
    · rw [if_pos c4] at H
      have c4b0 := eq_true c4
      have c4b1 : decide (0 ≤ (a1.size : Int)) = true := decide_eq_true c4
      clear c4
      by_cases c5 : (a1.size : Int) ≤ (a0.size : Int)
      · rw [if_pos c5] at H
        have c5b0 := eq_true c5
        have c5b1 : decide ((a1.size : Int) ≤ (a0.size : Int)) = true := decide_eq_true c5
        clear c5
        obtain rfl := Option.some.inj H
        go_enter Tryd.func30, Tryd.ntmps30
        go_wp2
        go_ret
        exact ⟨by first | rfl | (simp; done) | (simp [*]; done), by repeat (first | exact Drawn0.refl _ | apply Drawn0.step)⟩
      · rw [if_neg c5] at H
        exact absurd H (by simp)
    · rw [if_neg c4] at H
      exact absurd H (by simp)
  · rw [if_neg c3] at H
    have c3b0 : decide ((a1.size : Int) ≤ (a0.size : Int)) = false := decide_eq_false c3
    have c3b1 : decide (a1.size ≤ a0.size) = false := decide_eq_false (fun h => c3 (Int.ofNat_le.mpr h))
    clear c3
    obtain rfl := Option.some.inj H
    go_enter Tryd.func30, Tryd.ntmps30
    go_wp2
    go_ret
    exact ⟨by first | rfl | (simp; done) | (simp [*]; done), by repeat (first | exact Drawn0.refl _ | apply Drawn0.step)⟩

/-! ### stringslite_CutPrefix: function 19 -/
def stringslite_CutPrefix.f (a0 : ByteArray) (a1 : ByteArray) : Option (ByteArray × Bool) := (stringslite_HasPrefix.f a0 a1).bind fun t101 => (if t101 = true then (if 0 ≤ (a1.size : Int) then (if (a1.size : Int) ≤ (a0.size : Int) then (some (a0.extract ((a1.size : Int) : Int).toNat a0.size, true)) else (none)) else (none)) else (some (a0, false)))
set_option maxHeartbeats 8000000 in
set_option maxRecDepth 100000 in
theorem stringslite_CutPrefix.calls (a0 : ByteArray) (a1 : ByteArray) (r1 : ByteArray) (r2 : Bool) (w : World) (h : stringslite_CutPrefix.f a0 a1 = some (r1, r2)) :
    Calls Tryd.prog 19 #[.string a0, .string a1] w fun e w' => e = .returned (.tuple #[.string r1, .bool r2]) ∧ Drawn0 w w' := by
  have H : ((stringslite_HasPrefix.f a0 a1).bind fun t101 => (if t101 = true then (if 0 ≤ (a1.size : Int) then (if (a1.size : Int) ≤ (a0.size : Int) then (some (a0.extract ((a1.size : Int) : Int).toNat a0.size, true)) else (none)) else (none)) else (some (a0, false)))) = some (r1, r2) := h
  clear h
  replace H := Option.bind_eq_some_iff.mp H
  obtain ⟨t101, A30, H⟩ := H
  replace H : (if t101 = true then (if 0 ≤ (a1.size : Int) then (if (a1.size : Int) ≤ (a0.size : Int) then (some (a0.extract ((a1.size : Int) : Int).toNat a0.size, true)) else (none)) else (none)) else (some (a0, false))) = some (r1, r2) := H
  have A3 := Aside0.mk A30
  clear A30
  by_cases c4 : t101 = true
  · subst c4
    have H1 : (if 0 ≤ (a1.size : Int) then (if (a1.size : Int) ≤ (a0.size : Int) then (some (a0.extract ((a1.size : Int) : Int).toNat a0.size, true)) else (none)) else (none)) = some (r1, r2) := by rw [if_pos rfl] at H; exact H
    clear H
    have H := H1
    clear H1
    by_cases c5 : 0 ≤ (a1.size : Int)
    · rw [if_pos c5] at H
      have c5b0 := eq_true c5
      have c5b1 : decide (0 ≤ (a1.size : Int)) = true := decide_eq_true c5
      clear c5
      by_cases c6 : (a1.size : Int) ≤ (a0.size : Int)
      · rw [if_pos c6] at H
        have c6b0 := eq_true c6
        have c6b1 : decide ((a1.size : Int) ≤ (a0.size : Int)) = true := decide_eq_true c6
        clear c6
        simp only [Option.some.injEq, Prod.mk.injEq] at H
        obtain ⟨rfl, rfl⟩ := H
        go_enter Tryd.func19, Tryd.ntmps19
        go_wp2_with (first | ((with_reducible refine gate_callee (f := 30) rfl ?_); refine goesL_ (some 8) rfl rfl Tryd.func30 (by kernel_rfl) rfl #[.string a0, .string a1] rfl (by (try simp only [List.map_toArray, List.map_cons, List.map_nil]); first | done | rfl | (simp only [List.length_drop, List.length_take]; rfl)) ?_; (with_reducible refine (stringslite_HasPrefix.calls a0 a1 true _ A3.out).mono ?_); rintro e w' ⟨rfl, ⟨nd, rfl⟩⟩; refine ⟨_, rfl, ?_⟩))
        go_ret2
        exact ⟨by first | rfl | (simp; done) | (simp [*]; done), by repeat (first | exact Drawn0.refl _ | apply Drawn0.step)⟩
      · rw [if_neg c6] at H
        exact absurd H (by simp)
    · rw [if_neg c5] at H
      exact absurd H (by simp)
  · replace c4 := Bool.eq_false_iff.mpr c4
    subst c4
    have H1 : (some (a0, false)) = some (r1, r2) := by rw [if_neg (show ¬ (false = true) by decide)] at H; exact H
    clear H
    have H := H1
    clear H1
    simp only [Option.some.injEq, Prod.mk.injEq] at H
    obtain ⟨rfl, rfl⟩ := H
    go_enter Tryd.func19, Tryd.ntmps19
    go_wp2_with (first | ((with_reducible refine gate_callee (f := 30) rfl ?_); refine goesL_ (some 8) rfl rfl Tryd.func30 (by kernel_rfl) rfl #[.string a0, .string a1] rfl (by (try simp only [List.map_toArray, List.map_cons, List.map_nil]); first | done | rfl | (simp only [List.length_drop, List.length_take]; rfl)) ?_; (with_reducible refine (stringslite_HasPrefix.calls a0 a1 false _ A3.out).mono ?_); rintro e w' ⟨rfl, ⟨nd, rfl⟩⟩; refine ⟨_, rfl, ?_⟩))
    go_ret2
    exact ⟨by first | rfl | (simp; done) | (simp [*]; done), by repeat (first | exact Drawn0.refl _ | apply Drawn0.step)⟩

/-! ### strings_CutPrefix: function 14 -/
def strings_CutPrefix.f (a0 : ByteArray) (a1 : ByteArray) : Option (ByteArray × Bool) := (stringslite_CutPrefix.f a0 a1).bind fun bt102 => (some (bt102.1, bt102.2))
set_option maxHeartbeats 8000000 in
set_option maxRecDepth 100000 in
theorem strings_CutPrefix.calls (a0 : ByteArray) (a1 : ByteArray) (r1 : ByteArray) (r2 : Bool) (w : World) (h : strings_CutPrefix.f a0 a1 = some (r1, r2)) :
    Calls Tryd.prog 14 #[.string a0, .string a1] w fun e w' => e = .returned (.tuple #[.string r1, .bool r2]) ∧ Drawn0 w w' := by
  have H : ((stringslite_CutPrefix.f a0 a1).bind fun bt102 => (some (bt102.1, bt102.2))) = some (r1, r2) := h
  clear h
  replace H := Option.bind_eq_some_iff.mp H
  obtain ⟨⟨t102, t103⟩, A30, H⟩ := H
  replace H : (some (t102, t103)) = some (r1, r2) := H
  have A3 := Aside0.mk A30
  clear A30
  simp only [Option.some.injEq, Prod.mk.injEq] at H
  obtain ⟨rfl, rfl⟩ := H
  go_enter Tryd.func14, Tryd.ntmps14
  go_wp2_with (first | ((with_reducible refine gate_callee (f := 19) rfl ?_); refine goesL_ (some 8) rfl rfl Tryd.func19 (by kernel_rfl) rfl #[.string a0, .string a1] rfl (by (try simp only [List.map_toArray, List.map_cons, List.map_nil]); first | done | rfl | (simp only [List.length_drop, List.length_take]; rfl)) ?_; (with_reducible refine (stringslite_CutPrefix.calls a0 a1 t102 t103 _ A3.out).mono ?_); rintro e w' ⟨rfl, ⟨nd, rfl⟩⟩; refine ⟨_, rfl, ?_⟩))
  go_ret2
  exact ⟨by first | rfl | (simp; done) | (simp [*]; done), by repeat (first | exact Drawn0.refl _ | apply Drawn0.step)⟩

/-! ### event_Match: function 9 -/
def event_Match.f (a0 : ByteArray) (a1 : ByteArray) : Option (Bool) := if a0.toList = ([42] : List UInt8) then (some (a1.toList != ([] : List UInt8))) else ((strings_CutPrefix.f a1 a0).bind fun bt104 => (if bt104.2 = true then (if a0.toList = ([] : List UInt8) then (some false) else (if bt104.1.toList = ([] : List UInt8) then (some true) else (if 0 < (bt104.1.size : Int) then (some ((bt bt104.1 0) == 46)) else (none)))) else (some false)))
set_option maxHeartbeats 8000000 in
set_option maxRecDepth 100000 in
theorem event_Match.calls (a0 : ByteArray) (a1 : ByteArray) (r : Bool) (w : World) (h : event_Match.f a0 a1 = some r) :
    Calls Tryd.prog 9 #[.string a0, .string a1] w fun e w' => e = .returned (.bool r) ∧ Drawn0 w w' := by
  have H : (if a0.toList = ([42] : List UInt8) then (some (a1.toList != ([] : List UInt8))) else ((strings_CutPrefix.f a1 a0).bind fun bt104 => (if bt104.2 = true then (if a0.toList = ([] : List UInt8) then (some false) else (if bt104.1.toList = ([] : List UInt8) then (some true) else (if 0 < (bt104.1.size : Int) then (some ((bt bt104.1 0) == 46)) else (none)))) else (some false)))) = some r := h
  clear h
  by_cases c3 : a0.toList = ([42] : List UInt8)
  · rw [if_pos c3] at H
    have c3b0 : (a0.toList == ([42] : List UInt8)) = true := beq_iff_eq.mpr c3
    have c3b1 : (a0.toList != ([42] : List UInt8)) = false := bne_eq_false_iff_eq.mpr c3
    clear c3
    obtain rfl := Option.some.inj H
    go_enter Tryd.func9, Tryd.ntmps9
    go_wp2
    go_ret
    exact ⟨congrArg (fun b => Ending.returned (.bool b)) (by cases a1.toList <;> rfl), by repeat (first | exact Drawn0.refl _ | apply Drawn0.step)⟩
  · rw [if_neg c3] at H
    have c3b0 : (a0.toList == ([42] : List UInt8)) = false := beq_eq_false_iff_ne.mpr c3
    have c3b1 : (a0.toList != ([42] : List UInt8)) = true := bne_iff_ne.mpr c3
    replace H := Option.bind_eq_some_iff.mp H
    obtain ⟨⟨t104, t105⟩, A40, H⟩ := H
    replace H : (if t105 = true then (if a0.toList = ([] : List UInt8) then (some false) else (if t104.toList = ([] : List UInt8) then (some true) else (if 0 < (t104.size : Int) then (some ((bt t104 0) == 46)) else (none)))) else (some false)) = some r := H
    have A4 := Aside0.mk A40
    clear A40
    by_cases c5 : t105 = true
    · subst c5
      have H1 : (if a0.toList = ([] : List UInt8) then (some false) else (if t104.toList = ([] : List UInt8) then (some true) else (if 0 < (t104.size : Int) then (some ((bt t104 0) == 46)) else (none)))) = some r := by rw [if_pos rfl] at H; exact H
      clear H
      have H := H1
      clear H1
      by_cases c6 : a0.toList = ([] : List UInt8)
      · rw [if_pos c6] at H
        have c6b0 : (a0.toList == ([] : List UInt8)) = true := beq_iff_eq.mpr c6
        have c6b1 : (a0.toList != ([] : List UInt8)) = false := bne_eq_false_iff_eq.mpr c6
        clear c6
        obtain rfl := Option.some.inj H
        go_enter Tryd.func9, Tryd.ntmps9
        go_wp2_with (first | ((with_reducible refine gate_callee (f := 14) rfl ?_); refine goesL_ (some 14) rfl rfl Tryd.func14 (by kernel_rfl) rfl #[.string a1, .string a0] rfl (by (try simp only [List.map_toArray, List.map_cons, List.map_nil]); first | done | rfl | (simp only [List.length_drop, List.length_take]; rfl)) ?_; (with_reducible refine (strings_CutPrefix.calls a1 a0 t104 true _ A4.out).mono ?_); rintro e w' ⟨rfl, ⟨nd, rfl⟩⟩; refine ⟨_, rfl, ?_⟩))
        go_ret
        exact ⟨by first | rfl | (simp; done) | (simp [*]; done), by repeat (first | exact Drawn0.refl _ | apply Drawn0.step)⟩
      · rw [if_neg c6] at H
        have c6b0 : (a0.toList == ([] : List UInt8)) = false := beq_eq_false_iff_ne.mpr c6
        have c6b1 : (a0.toList != ([] : List UInt8)) = true := bne_iff_ne.mpr c6
        by_cases c7 : t104.toList = ([] : List UInt8)
        · rw [if_pos c7] at H
          have c7b0 : (t104.toList == ([] : List UInt8)) = true := beq_iff_eq.mpr c7
          have c7b1 : (t104.toList != ([] : List UInt8)) = false := bne_eq_false_iff_eq.mpr c7
          clear c7
          obtain rfl := Option.some.inj H
          go_enter Tryd.func9, Tryd.ntmps9
          go_wp2_with (first | ((with_reducible refine gate_callee (f := 14) rfl ?_); refine goesL_ (some 14) rfl rfl Tryd.func14 (by kernel_rfl) rfl #[.string a1, .string a0] rfl (by (try simp only [List.map_toArray, List.map_cons, List.map_nil]); first | done | rfl | (simp only [List.length_drop, List.length_take]; rfl)) ?_; (with_reducible refine (strings_CutPrefix.calls a1 a0 t104 true _ A4.out).mono ?_); rintro e w' ⟨rfl, ⟨nd, rfl⟩⟩; refine ⟨_, rfl, ?_⟩))
          go_ret
          exact ⟨by first | rfl | (simp; done) | (simp [*]; done), by repeat (first | exact Drawn0.refl _ | apply Drawn0.step)⟩
        · rw [if_neg c7] at H
          have c7b0 : (t104.toList == ([] : List UInt8)) = false := beq_eq_false_iff_ne.mpr c7
          have c7b1 : (t104.toList != ([] : List UInt8)) = true := bne_iff_ne.mpr c7
          by_cases c8 : 0 < (t104.size : Int)
          · rw [if_pos c8] at H
            have c8b0 : decide (0 < (t104.size : Int)) = true := decide_eq_true c8
            have c8b1 : decide (0 < t104.size) = true := decide_eq_true (by omega)
            clear c8
            obtain rfl := Option.some.inj H
            go_enter Tryd.func9, Tryd.ntmps9
            go_wp2_with (first | ((with_reducible refine gate_callee (f := 14) rfl ?_); refine goesL_ (some 14) rfl rfl Tryd.func14 (by kernel_rfl) rfl #[.string a1, .string a0] rfl (by (try simp only [List.map_toArray, List.map_cons, List.map_nil]); first | done | rfl | (simp only [List.length_drop, List.length_take]; rfl)) ?_; (with_reducible refine (strings_CutPrefix.calls a1 a0 t104 true _ A4.out).mono ?_); rintro e w' ⟨rfl, ⟨nd, rfl⟩⟩; refine ⟨_, rfl, ?_⟩; have p9 : 0 ≤ (0 : Int) := (by omega); have q9 : 0 < t104.size := (by have : (0 : Int) < (t104.size : Int) := of_decide_eq_true (by first | (with_reducible assumption) | assumption); omega); have hx9 : ∀ h : 0 < t104.size, ((t104[0]'h).toNat : Int) = bt t104 0 := bt_at t104 0; clear p9; have qi9 : (0 < (t104.size : Int)) = True := eq_true (of_decide_eq_true (by first | (with_reducible assumption) | assumption)); replace q9 := eq_true q9))
            go_ret
            exact ⟨by first | rfl | (simp; done) | (simp [*]; done), by repeat (first | exact Drawn0.refl _ | apply Drawn0.step)⟩
          · rw [if_neg c8] at H
            exact absurd H (by simp)
    · replace c5 := Bool.eq_false_iff.mpr c5
      subst c5
      have H1 : (some false) = some r := by rw [if_neg (show ¬ (false = true) by decide)] at H; exact H
      clear H
      have H := H1
      clear H1
      obtain rfl := Option.some.inj H
      go_enter Tryd.func9, Tryd.ntmps9
      go_wp2_with (first | ((with_reducible refine gate_callee (f := 14) rfl ?_); refine goesL_ (some 14) rfl rfl Tryd.func14 (by kernel_rfl) rfl #[.string a1, .string a0] rfl (by (try simp only [List.map_toArray, List.map_cons, List.map_nil]); first | done | rfl | (simp only [List.length_drop, List.length_take]; rfl)) ?_; (with_reducible refine (strings_CutPrefix.calls a1 a0 t104 false _ A4.out).mono ?_); rintro e w' ⟨rfl, ⟨nd, rfl⟩⟩; refine ⟨_, rfl, ?_⟩))
      go_ret
      exact ⟨by first | rfl | (simp; done) | (simp [*]; done), by repeat (first | exact Drawn0.refl _ | apply Drawn0.step)⟩

/-! ### whirligiglaw12_anchor: function 5 -/
def whirligiglaw12_anchor.f  : Option (Bool) := (event_Match.f (⟨#[101]⟩ : ByteArray) (⟨#[101, 46, 97]⟩ : ByteArray)).bind fun t106 => (if t106 = true then ((event_Match.f (⟨#[42]⟩ : ByteArray) (⟨#[101, 46, 97]⟩ : ByteArray)).bind fun t107 => (if t107 = true then ((event_Match.f (⟨#[101, 46, 97, 46, 98]⟩ : ByteArray) (⟨#[101, 46, 97]⟩ : ByteArray)).bind fun t108 => (if t108 = true then (some false) else ((event_Done.f (⟨#[115]⟩ : ByteArray)).bind fun t109 => (some (t109.toList == ([100, 111, 110, 101, 46, 115, 116, 97, 116, 101, 46, 115] : List UInt8)))))) else (some false))) else (some false))
set_option maxHeartbeats 8000000 in
set_option maxRecDepth 100000 in
theorem whirligiglaw12_anchor.calls  (r : Bool) (w : World) (h : whirligiglaw12_anchor.f  = some r) :
    Calls Tryd.prog 5 #[] w fun e w' => e = .returned (.bool r) ∧ Drawn0 w w' := by
  have H : ((event_Match.f (⟨#[101]⟩ : ByteArray) (⟨#[101, 46, 97]⟩ : ByteArray)).bind fun t106 => (if t106 = true then ((event_Match.f (⟨#[42]⟩ : ByteArray) (⟨#[101, 46, 97]⟩ : ByteArray)).bind fun t107 => (if t107 = true then ((event_Match.f (⟨#[101, 46, 97, 46, 98]⟩ : ByteArray) (⟨#[101, 46, 97]⟩ : ByteArray)).bind fun t108 => (if t108 = true then (some false) else ((event_Done.f (⟨#[115]⟩ : ByteArray)).bind fun t109 => (some (t109.toList == ([100, 111, 110, 101, 46, 115, 116, 97, 116, 101, 46, 115] : List UInt8)))))) else (some false))) else (some false))) = some r := h
  clear h
  replace H := Option.bind_eq_some_iff.mp H
  obtain ⟨t106, A10, H⟩ := H
  replace H : (if t106 = true then ((event_Match.f (⟨#[42]⟩ : ByteArray) (⟨#[101, 46, 97]⟩ : ByteArray)).bind fun t107 => (if t107 = true then ((event_Match.f (⟨#[101, 46, 97, 46, 98]⟩ : ByteArray) (⟨#[101, 46, 97]⟩ : ByteArray)).bind fun t108 => (if t108 = true then (some false) else ((event_Done.f (⟨#[115]⟩ : ByteArray)).bind fun t109 => (some (t109.toList == ([100, 111, 110, 101, 46, 115, 116, 97, 116, 101, 46, 115] : List UInt8)))))) else (some false))) else (some false)) = some r := H
  have A1 := Aside0.mk A10
  clear A10
  by_cases c2 : t106 = true
  · subst c2
    have H1 : ((event_Match.f (⟨#[42]⟩ : ByteArray) (⟨#[101, 46, 97]⟩ : ByteArray)).bind fun t107 => (if t107 = true then ((event_Match.f (⟨#[101, 46, 97, 46, 98]⟩ : ByteArray) (⟨#[101, 46, 97]⟩ : ByteArray)).bind fun t108 => (if t108 = true then (some false) else ((event_Done.f (⟨#[115]⟩ : ByteArray)).bind fun t109 => (some (t109.toList == ([100, 111, 110, 101, 46, 115, 116, 97, 116, 101, 46, 115] : List UInt8)))))) else (some false))) = some r := by rw [if_pos rfl] at H; exact H
    clear H
    have H := H1
    clear H1
    replace H := Option.bind_eq_some_iff.mp H
    obtain ⟨t107, A30, H⟩ := H
    replace H : (if t107 = true then ((event_Match.f (⟨#[101, 46, 97, 46, 98]⟩ : ByteArray) (⟨#[101, 46, 97]⟩ : ByteArray)).bind fun t108 => (if t108 = true then (some false) else ((event_Done.f (⟨#[115]⟩ : ByteArray)).bind fun t109 => (some (t109.toList == ([100, 111, 110, 101, 46, 115, 116, 97, 116, 101, 46, 115] : List UInt8)))))) else (some false)) = some r := H
    have A3 := Aside0.mk A30
    clear A30
    by_cases c4 : t107 = true
    · subst c4
      have H1 : ((event_Match.f (⟨#[101, 46, 97, 46, 98]⟩ : ByteArray) (⟨#[101, 46, 97]⟩ : ByteArray)).bind fun t108 => (if t108 = true then (some false) else ((event_Done.f (⟨#[115]⟩ : ByteArray)).bind fun t109 => (some (t109.toList == ([100, 111, 110, 101, 46, 115, 116, 97, 116, 101, 46, 115] : List UInt8)))))) = some r := by rw [if_pos rfl] at H; exact H
      clear H
      have H := H1
      clear H1
      replace H := Option.bind_eq_some_iff.mp H
      obtain ⟨t108, A50, H⟩ := H
      replace H : (if t108 = true then (some false) else ((event_Done.f (⟨#[115]⟩ : ByteArray)).bind fun t109 => (some (t109.toList == ([100, 111, 110, 101, 46, 115, 116, 97, 116, 101, 46, 115] : List UInt8))))) = some r := H
      have A5 := Aside0.mk A50
      clear A50
      by_cases c6 : t108 = true
      · subst c6
        have H1 : (some false) = some r := by rw [if_pos rfl] at H; exact H
        clear H
        have H := H1
        clear H1
        obtain rfl := Option.some.inj H
        go_enter Tryd.func5, Tryd.ntmps5
        go_wp2_with (first | ((with_reducible refine gate_callee (f := 9) rfl ?_); refine goesL_ (some 1) rfl rfl Tryd.func9 (by kernel_rfl) rfl #[.string (⟨#[101]⟩ : ByteArray), .string (⟨#[101, 46, 97]⟩ : ByteArray)] rfl (by (try simp only [List.map_toArray, List.map_cons, List.map_nil]); first | done | rfl | (simp only [List.length_drop, List.length_take]; rfl)) ?_; (with_reducible refine (event_Match.calls (⟨#[101]⟩ : ByteArray) (⟨#[101, 46, 97]⟩ : ByteArray) true _ A1.out).mono ?_); rintro e w' ⟨rfl, ⟨nd, rfl⟩⟩; refine ⟨_, rfl, ?_⟩) | (go_at_call 9; (with_reducible refine (event_Match.calls (⟨#[42]⟩ : ByteArray) (⟨#[101, 46, 97]⟩ : ByteArray) true _ A3.out).mono ?_); rintro e w' ⟨rfl, ⟨nd, rfl⟩⟩) | (go_at_call 9; (with_reducible refine (event_Match.calls (⟨#[101, 46, 97, 46, 98]⟩ : ByteArray) (⟨#[101, 46, 97]⟩ : ByteArray) true _ A5.out).mono ?_); rintro e w' ⟨rfl, ⟨nd, rfl⟩⟩))
        go_ret
        exact ⟨by first | rfl | (simp; done) | (simp [*]; done), by repeat (first | exact Drawn0.refl _ | apply Drawn0.step)⟩
      · replace c6 := Bool.eq_false_iff.mpr c6
        subst c6
        have H1 : ((event_Done.f (⟨#[115]⟩ : ByteArray)).bind fun t109 => (some (t109.toList == ([100, 111, 110, 101, 46, 115, 116, 97, 116, 101, 46, 115] : List UInt8)))) = some r := by rw [if_neg (show ¬ (false = true) by decide)] at H; exact H
        clear H
        have H := H1
        clear H1
        replace H := Option.bind_eq_some_iff.mp H
        obtain ⟨t109, A70, H⟩ := H
        replace H : (some (t109.toList == ([100, 111, 110, 101, 46, 115, 116, 97, 116, 101, 46, 115] : List UInt8))) = some r := H
        have A7 := Aside0.mk A70
        clear A70
        obtain rfl := Option.some.inj H
        go_enter Tryd.func5, Tryd.ntmps5
        go_wp2_with (first | ((with_reducible refine gate_callee (f := 9) rfl ?_); refine goesL_ (some 1) rfl rfl Tryd.func9 (by kernel_rfl) rfl #[.string (⟨#[101]⟩ : ByteArray), .string (⟨#[101, 46, 97]⟩ : ByteArray)] rfl (by (try simp only [List.map_toArray, List.map_cons, List.map_nil]); first | done | rfl | (simp only [List.length_drop, List.length_take]; rfl)) ?_; (with_reducible refine (event_Match.calls (⟨#[101]⟩ : ByteArray) (⟨#[101, 46, 97]⟩ : ByteArray) true _ A1.out).mono ?_); rintro e w' ⟨rfl, ⟨nd, rfl⟩⟩; refine ⟨_, rfl, ?_⟩) | (go_at_call 9; (with_reducible refine (event_Match.calls (⟨#[42]⟩ : ByteArray) (⟨#[101, 46, 97]⟩ : ByteArray) true _ A3.out).mono ?_); rintro e w' ⟨rfl, ⟨nd, rfl⟩⟩) | (go_at_call 9; (with_reducible refine (event_Match.calls (⟨#[101, 46, 97, 46, 98]⟩ : ByteArray) (⟨#[101, 46, 97]⟩ : ByteArray) false _ A5.out).mono ?_); rintro e w' ⟨rfl, ⟨nd, rfl⟩⟩) | (go_at_call 7; (with_reducible refine (event_Done.calls (⟨#[115]⟩ : ByteArray) t109 _ A7.out).mono ?_); rintro e w' ⟨rfl, ⟨nd, rfl⟩⟩))
        go_ret
        exact ⟨by first | rfl | (simp; done) | (simp [*]; done), by repeat (first | exact Drawn0.refl _ | apply Drawn0.step)⟩
    · replace c4 := Bool.eq_false_iff.mpr c4
      subst c4
      have H1 : (some false) = some r := by rw [if_neg (show ¬ (false = true) by decide)] at H; exact H
      clear H
      have H := H1
      clear H1
      obtain rfl := Option.some.inj H
      go_enter Tryd.func5, Tryd.ntmps5
      go_wp2_with (first | ((with_reducible refine gate_callee (f := 9) rfl ?_); refine goesL_ (some 1) rfl rfl Tryd.func9 (by kernel_rfl) rfl #[.string (⟨#[101]⟩ : ByteArray), .string (⟨#[101, 46, 97]⟩ : ByteArray)] rfl (by (try simp only [List.map_toArray, List.map_cons, List.map_nil]); first | done | rfl | (simp only [List.length_drop, List.length_take]; rfl)) ?_; (with_reducible refine (event_Match.calls (⟨#[101]⟩ : ByteArray) (⟨#[101, 46, 97]⟩ : ByteArray) true _ A1.out).mono ?_); rintro e w' ⟨rfl, ⟨nd, rfl⟩⟩; refine ⟨_, rfl, ?_⟩) | (go_at_call 9; (with_reducible refine (event_Match.calls (⟨#[42]⟩ : ByteArray) (⟨#[101, 46, 97]⟩ : ByteArray) false _ A3.out).mono ?_); rintro e w' ⟨rfl, ⟨nd, rfl⟩⟩))
      go_ret
      exact ⟨by first | rfl | (simp; done) | (simp [*]; done), by repeat (first | exact Drawn0.refl _ | apply Drawn0.step)⟩
  · replace c2 := Bool.eq_false_iff.mpr c2
    subst c2
    have H1 : (some false) = some r := by rw [if_neg (show ¬ (false = true) by decide)] at H; exact H
    clear H
    have H := H1
    clear H1
    obtain rfl := Option.some.inj H
    go_enter Tryd.func5, Tryd.ntmps5
    go_wp2_with (first | ((with_reducible refine gate_callee (f := 9) rfl ?_); refine goesL_ (some 1) rfl rfl Tryd.func9 (by kernel_rfl) rfl #[.string (⟨#[101]⟩ : ByteArray), .string (⟨#[101, 46, 97]⟩ : ByteArray)] rfl (by (try simp only [List.map_toArray, List.map_cons, List.map_nil]); first | done | rfl | (simp only [List.length_drop, List.length_take]; rfl)) ?_; (with_reducible refine (event_Match.calls (⟨#[101]⟩ : ByteArray) (⟨#[101, 46, 97]⟩ : ByteArray) false _ A1.out).mono ?_); rintro e w' ⟨rfl, ⟨nd, rfl⟩⟩; refine ⟨_, rfl, ?_⟩))
    go_ret
    exact ⟨by first | rfl | (simp; done) | (simp [*]; done), by repeat (first | exact Drawn0.refl _ | apply Drawn0.step)⟩

/-! ### whirligigref02_letter: function 24 -/
def whirligigref02_letter.f (a0 : Int) : Option (Bool) := if a0 ≥ 97 then (some (decide (a0 ≤ 122))) else (some false)
set_option maxHeartbeats 8000000 in
set_option maxRecDepth 100000 in
theorem whirligigref02_letter.calls (a0 : Int) (r : Bool) (w : World) (h : whirligigref02_letter.f a0 = some r) :
    Calls Tryd.prog 24 #[.int .u8 a0] w fun e w' => e = .returned (.bool r) ∧ Drawn0 w w' := by
  have H : (if a0 ≥ 97 then (some (decide (a0 ≤ 122))) else (some false)) = some r := h
  clear h
  by_cases c2 : a0 ≥ 97
  · rw [if_pos c2] at H
    have c2b0 : decide (97 ≤ a0) = true := decide_eq_true c2
    clear c2
    obtain rfl := Option.some.inj H
    go_enter Tryd.func24, Tryd.ntmps24
    go_wp2
    go_ret
    exact ⟨by first | rfl | (simp; done) | (simp [*]; done), by repeat (first | exact Drawn0.refl _ | apply Drawn0.step)⟩
  · rw [if_neg c2] at H
    have c2b0 : decide (97 ≤ a0) = false := decide_eq_false c2
    clear c2
    obtain rfl := Option.some.inj H
    go_enter Tryd.func24, Tryd.ntmps24
    go_wp2
    go_ret
    exact ⟨by first | rfl | (simp; done) | (simp [*]; done), by repeat (first | exact Drawn0.refl _ | apply Drawn0.step)⟩

/-! ### whirligigref02_inner: function 29 -/
def whirligigref02_inner.f (a0 : Int) : Option (Bool) := (whirligigref02_letter.f a0).bind fun t110 => (if t110 = true then (some true) else (if a0 ≥ 48 then (if a0 ≤ 57 then (some true) else (some (a0 == 95))) else (some (a0 == 95))))
set_option maxHeartbeats 8000000 in
set_option maxRecDepth 100000 in
theorem whirligigref02_inner.calls (a0 : Int) (r : Bool) (w : World) (h : whirligigref02_inner.f a0 = some r) :
    Calls Tryd.prog 29 #[.int .u8 a0] w fun e w' => e = .returned (.bool r) ∧ Drawn0 w w' := by
  have H : ((whirligigref02_letter.f a0).bind fun t110 => (if t110 = true then (some true) else (if a0 ≥ 48 then (if a0 ≤ 57 then (some true) else (some (a0 == 95))) else (some (a0 == 95))))) = some r := h
  clear h
  replace H := Option.bind_eq_some_iff.mp H
  obtain ⟨t110, A20, H⟩ := H
  replace H : (if t110 = true then (some true) else (if a0 ≥ 48 then (if a0 ≤ 57 then (some true) else (some (a0 == 95))) else (some (a0 == 95)))) = some r := H
  have A2 := Aside0.mk A20
  clear A20
  by_cases c3 : t110 = true
  · subst c3
    have H1 : (some true) = some r := by rw [if_pos rfl] at H; exact H
    clear H
    have H := H1
    clear H1
    obtain rfl := Option.some.inj H
    go_enter Tryd.func29, Tryd.ntmps29
    go_wp2_with (first | ((with_reducible refine gate_callee (f := 24) rfl ?_); refine goesL_ (some 4) rfl rfl Tryd.func24 (by kernel_rfl) rfl #[.int .u8 a0] rfl (by (try simp only [List.map_toArray, List.map_cons, List.map_nil]); first | done | rfl | (simp only [List.length_drop, List.length_take]; rfl)) ?_; (with_reducible refine (whirligigref02_letter.calls a0 true _ A2.out).mono ?_); rintro e w' ⟨rfl, ⟨nd, rfl⟩⟩; refine ⟨_, rfl, ?_⟩))
    go_ret
    exact ⟨by first | rfl | (simp; done) | (simp [*]; done), by repeat (first | exact Drawn0.refl _ | apply Drawn0.step)⟩
  · replace c3 := Bool.eq_false_iff.mpr c3
    subst c3
    have H1 : (if a0 ≥ 48 then (if a0 ≤ 57 then (some true) else (some (a0 == 95))) else (some (a0 == 95))) = some r := by rw [if_neg (show ¬ (false = true) by decide)] at H; exact H
    clear H
    have H := H1
    clear H1
    by_cases c4 : a0 ≥ 48
    · rw [if_pos c4] at H
      have c4b0 : decide (48 ≤ a0) = true := decide_eq_true c4
      clear c4
      by_cases c5 : a0 ≤ 57
      · rw [if_pos c5] at H
        have c5b0 : decide (a0 ≤ 57) = true := decide_eq_true c5
        clear c5
        obtain rfl := Option.some.inj H
        go_enter Tryd.func29, Tryd.ntmps29
        go_wp2_with (first | ((with_reducible refine gate_callee (f := 24) rfl ?_); refine goesL_ (some 4) rfl rfl Tryd.func24 (by kernel_rfl) rfl #[.int .u8 a0] rfl (by (try simp only [List.map_toArray, List.map_cons, List.map_nil]); first | done | rfl | (simp only [List.length_drop, List.length_take]; rfl)) ?_; (with_reducible refine (whirligigref02_letter.calls a0 false _ A2.out).mono ?_); rintro e w' ⟨rfl, ⟨nd, rfl⟩⟩; refine ⟨_, rfl, ?_⟩))
        go_ret
        exact ⟨by first | rfl | (simp; done) | (simp [*]; done), by repeat (first | exact Drawn0.refl _ | apply Drawn0.step)⟩
      · rw [if_neg c5] at H
        have c5b0 : decide (a0 ≤ 57) = false := decide_eq_false c5
        clear c5
        obtain rfl := Option.some.inj H
        go_enter Tryd.func29, Tryd.ntmps29
        go_wp2_with (first | ((with_reducible refine gate_callee (f := 24) rfl ?_); refine goesL_ (some 4) rfl rfl Tryd.func24 (by kernel_rfl) rfl #[.int .u8 a0] rfl (by (try simp only [List.map_toArray, List.map_cons, List.map_nil]); first | done | rfl | (simp only [List.length_drop, List.length_take]; rfl)) ?_; (with_reducible refine (whirligigref02_letter.calls a0 false _ A2.out).mono ?_); rintro e w' ⟨rfl, ⟨nd, rfl⟩⟩; refine ⟨_, rfl, ?_⟩))
        go_ret
        exact ⟨by first | rfl | (simp; done) | (simp [*]; done), by repeat (first | exact Drawn0.refl _ | apply Drawn0.step)⟩
    · rw [if_neg c4] at H
      have c4b0 : decide (48 ≤ a0) = false := decide_eq_false c4
      clear c4
      obtain rfl := Option.some.inj H
      go_enter Tryd.func29, Tryd.ntmps29
      go_wp2_with (first | ((with_reducible refine gate_callee (f := 24) rfl ?_); refine goesL_ (some 4) rfl rfl Tryd.func24 (by kernel_rfl) rfl #[.int .u8 a0] rfl (by (try simp only [List.map_toArray, List.map_cons, List.map_nil]); first | done | rfl | (simp only [List.length_drop, List.length_take]; rfl)) ?_; (with_reducible refine (whirligigref02_letter.calls a0 false _ A2.out).mono ?_); rintro e w' ⟨rfl, ⟨nd, rfl⟩⟩; refine ⟨_, rfl, ?_⟩))
      go_ret
      exact ⟨by first | rfl | (simp; done) | (simp [*]; done), by repeat (first | exact Drawn0.refl _ | apply Drawn0.step)⟩

/-! ### whirligigref02_word: function 18 -/
def whirligigref02_word.l0 : Nat → ByteArray → Int → Int → Option (Int)
  | 0, _, _, _ => none
  | k + 1, x0, x1, x5 => if (wrap64 (x1 + x5)) < (x0.size : Int) then (if 0 ≤ (wrap64 (x1 + x5)) then ((whirligigref02_inner.f (bt x0 (wrap64 (x1 + x5)))).bind fun t111 => (if t111 = true then (whirligigref02_word.l0 k x0 x1 (wrap64 (x5 + 1))) else (some x5))) else (none)) else (some x5)
def whirligigref02_word.f (k : Nat) (a0 : ByteArray) (a1 : Int) : Option (Int) := whirligigref02_word.l0 k a0 a1 0
theorem whirligigref02_word.mono_l : ∀ k, (∀ y0 y1 y2, LeO (whirligigref02_word.l0 k y0 y1 y2) (whirligigref02_word.l0 (k + 1) y0 y1 y2))
  | 0 => fun _ _ _ r h => by simp [whirligigref02_word.l0] at h
  | k + 1 => by
    have ih0 := whirligigref02_word.mono_l k
    · intro y0 y1 y2
      unfold whirligigref02_word.l0
      repeat' first
      | (with_reducible exact ih0 _ _ _)
      | (with_reducible exact LeO.refl _)
      | (with_reducible exact LeO.none _)
      | (with_reducible refine LeO.ite ?_ ?_)
      | (with_reducible refine LeO.bind ?_ (fun _ => ?_))
      | exact ih0 _ _ _
      | exact LeO.none _
      | refine LeO.ite ?_ ?_
      | refine LeO.bind ?_ (fun _ => ?_)
theorem whirligigref02_word.mono : ∀ a0 a1 k, LeO (whirligigref02_word.f k a0 a1) (whirligigref02_word.f (k + 1) a0 a1) := by
  intro a0 a1 k
  have ih0 := whirligigref02_word.mono_l k
  unfold whirligigref02_word.f
  repeat' first
      | (with_reducible exact ih0 _ _ _)
      | (with_reducible exact LeO.refl _)
      | (with_reducible exact LeO.none _)
      | (with_reducible refine LeO.ite ?_ ?_)
      | (with_reducible refine LeO.bind ?_ (fun _ => ?_))
      | exact ih0 _ _ _
      | exact LeO.none _
      | refine LeO.ite ?_ ?_
      | refine LeO.bind ?_ (fun _ => ?_)
set_option maxHeartbeats 8000000 in
set_option maxRecDepth 100000 in
theorem whirligigref02_word.calls (k : Nat) (a0 : ByteArray) (a1 : Int) (r : Int) (w : World) (h : whirligigref02_word.f k a0 a1 = some r) :
    Calls Tryd.prog 18 #[.string a0, .int .i64 a1] w fun e w' => e = .returned (.int .i64 r) ∧ Drawn0 w w' := by
  have H : (whirligigref02_word.l0 k a0 a1 0) = some r := h
  clear h
  have H' := Aside0.mk H
  clear H
  go_enter Tryd.func18, Tryd.ntmps18
  go_wp2
  go_loopg [5] k (fun kq v5 w' => ∃ (x5_1 : Int), v5 = .int .i64 x5_1 ∧ Aside0 (whirligigref02_word.l0 kq a0 a1 x5_1 = some r) ∧ Aside0 (kq ≤ k) ∧ Drawn0 w w')
  case atStart => exact ⟨(0), (by first | rfl | (simp; done) | (simp [*]; done)), H', ⟨Nat.le_refl _⟩, by repeat (first | exact Drawn0.refl _ | apply Drawn0.step)⟩
  case round =>
    clear H'
    try clear c1
    try clear p2
    obtain ⟨x5_1, rfl, HA, HK1, ⟨m1, rfl⟩⟩ := hrel
    cases gk with
    | zero => exact absurd HA.out (by simp [whirligigref02_word.l0])
    | succ k1 =>
      have H := HA.out
      clear HA
      simp only [whirligigref02_word.l0] at H
      by_cases c3 : (wrap64 (a1 + x5_1)) < (a0.size : Int)
      · rw [if_pos c3] at H
        have c3b0 : decide ((wrap64 (a1 + x5_1)) < (a0.size : Int)) = true := decide_eq_true c3
        clear c3
        obtain ⟨ji4, hji4⟩ : ∃ j_ : Int, (wrap64 (a1 + x5_1)) = j_ := ⟨_, rfl⟩
        replace H : (if 0 ≤ (ji4) then ((whirligigref02_inner.f (bt a0 (ji4))).bind fun t111 => (if t111 = true then (whirligigref02_word.l0 k1 a0 a1 (wrap64 (x5_1 + 1))) else (some x5_1))) else (none)) = some r := by first | (rw [hji4] at H; exact H) | (simp only [hji4] at H ⊢; exact H)
        (try rw [hji4] at c3b0)
        have hji4w : (IntKind.i64.wrap (a1 + x5_1)) = ji4 := (i64_w _).trans hji4
        by_cases c5 : 0 ≤ (ji4)
        · rw [if_pos c5] at H
          have c5b0 : decide (0 ≤ (ji4)) = true := decide_eq_true c5
          clear c5
          replace H := Option.bind_eq_some_iff.mp H
          obtain ⟨t111, A70, H⟩ := H
          replace H : (if t111 = true then (whirligigref02_word.l0 k1 a0 a1 (wrap64 (x5_1 + 1))) else (some x5_1)) = some r := H
          have A7 := Aside0.mk A70
          clear A70
          by_cases c8 : t111 = true
          · subst c8
            have H1 : (whirligigref02_word.l0 k1 a0 a1 (wrap64 (x5_1 + 1))) = some r := by rw [if_pos rfl] at H; exact H
            clear H
            have H := H1
            clear H1
            have H' := Aside0.mk H
            clear H
            have p6 : 0 ≤ ((ji4) : Int) := of_decide_eq_true (by first | (with_reducible assumption) | assumption)
            have q6 : (ji4) < (a0.size : Int) := of_decide_eq_true (by first | (with_reducible assumption) | assumption)
            have hx6 := bt_at a0 (ji4)
            replace p6 := eq_true p6
            replace q6 := eq_true q6
            go_wp2_with (first | (go_at_call 29; (with_reducible refine (whirligigref02_inner.calls (bt a0 (ji4)) true _ A7.out).mono ?_); rintro e w' ⟨rfl, ⟨nd, rfl⟩⟩))
            go_roundg k1
            case measure => have := HK1.out; omega
            case rel => exact ⟨(wrap64 (x5_1 + 1)), (by first | rfl | (simp; done) | (simp [*]; done)), H', ⟨by have := HK1.out; omega⟩, by repeat (first | exact Drawn0.refl _ | apply Drawn0.step)⟩
          · replace c8 := Bool.eq_false_iff.mpr c8
            subst c8
            have H1 : (some x5_1) = some r := by rw [if_neg (show ¬ (false = true) by decide)] at H; exact H
            clear H
            have H := H1
            clear H1
            obtain rfl := Option.some.inj H
            have p6 : 0 ≤ ((ji4) : Int) := of_decide_eq_true (by first | (with_reducible assumption) | assumption)
            have q6 : (ji4) < (a0.size : Int) := of_decide_eq_true (by first | (with_reducible assumption) | assumption)
            have hx6 := bt_at a0 (ji4)
            replace p6 := eq_true p6
            replace q6 := eq_true q6
            go_wp2_with (first | (go_at_call 29; (with_reducible refine (whirligigref02_inner.calls (bt a0 (ji4)) false _ A7.out).mono ?_); rintro e w' ⟨rfl, ⟨nd, rfl⟩⟩))
            go_ret
            exact ⟨by first | rfl | (simp; done) | (simp only [← hji4] <;> (first | rfl | simp)) | (simp [*]; done), by repeat (first | exact Drawn0.refl _ | apply Drawn0.step)⟩
        · rw [if_neg c5] at H
          exact absurd H (by simp)
      · rw [if_neg c3] at H
        have c3b0 : decide ((wrap64 (a1 + x5_1)) < (a0.size : Int)) = false := decide_eq_false c3
        clear c3
        obtain rfl := Option.some.inj H
        go_wp2
        go_ret
        exact ⟨by first | rfl | (simp; done) | (simp [*]; done), by repeat (first | exact Drawn0.refl _ | apply Drawn0.step)⟩

/-! ### whirligigref02_path: function 25 -/
def whirligigref02_path.l0 : Nat → ByteArray → Int → Int → Int → Bool → Option (Int × ByteArray × Int × Int × Int × Int)
  | 0, _, _, _, _, _ => none
  | k + 1, x0, x1, x8, x9, x10 => if x10 = true then (some (0, (⟨#[]⟩ : ByteArray), 0, 0, x1, 15)) else (if (wrap64 (x8 + 1)) < (x0.size : Int) then (if 0 ≤ x8 then (if x8 < (x0.size : Int) then (if (bt x0 x8) = 46 then (if 0 ≤ (wrap64 (x8 + 1)) then ((whirligigref02_letter.f (bt x0 (wrap64 (x8 + 1)))).bind fun t114 => (if t114 = true then ((whirligigref02_word.f k x0 (wrap64 (x8 + 1))).bind fun t115 => (whirligigref02_path.l0 k x0 x1 (wrap64 ((wrap64 (x8 + 1)) + t115)) 2 (decide (t115 > 16)))) else (if (wrap64 (x8 - x1)) > 32 then (some (0, (⟨#[]⟩ : ByteArray), 0, 0, x1, 15)) else (if 0 ≤ x1 then (if x1 ≤ x8 then (if x8 ≤ (x0.size : Int) then (some (x9, x0.extract (x1 : Int).toNat (x8 : Int).toNat, 0, x1, x8, 0)) else (none)) else (none)) else (none))))) else (none)) else (if (wrap64 (x8 - x1)) > 32 then (some (0, (⟨#[]⟩ : ByteArray), 0, 0, x1, 15)) else (if 0 ≤ x1 then (if x1 ≤ x8 then (if x8 ≤ (x0.size : Int) then (some (x9, x0.extract (x1 : Int).toNat (x8 : Int).toNat, 0, x1, x8, 0)) else (none)) else (none)) else (none)))) else (none)) else (none)) else (if (wrap64 (x8 - x1)) > 32 then (some (0, (⟨#[]⟩ : ByteArray), 0, 0, x1, 15)) else (if 0 ≤ x1 then (if x1 ≤ x8 then (if x8 ≤ (x0.size : Int) then (some (x9, x0.extract (x1 : Int).toNat (x8 : Int).toNat, 0, x1, x8, 0)) else (none)) else (none)) else (none))))
def whirligigref02_path.f (k : Nat) (a0 : ByteArray) (a1 : Int) : Option (Int × ByteArray × Int × Int × Int × Int) := (whirligigref02_word.f k a0 a1).bind fun t113 => (whirligigref02_path.l0 k a0 a1 (wrap64 (a1 + t113)) 1 (decide (t113 > 16)))
theorem whirligigref02_path.mono_l : ∀ k, (∀ y0 y1 y2 y3 y4, LeO (whirligigref02_path.l0 k y0 y1 y2 y3 y4) (whirligigref02_path.l0 (k + 1) y0 y1 y2 y3 y4))
  | 0 => fun _ _ _ _ _ r h => by simp [whirligigref02_path.l0] at h
  | k + 1 => by
    have ih0 := whirligigref02_path.mono_l k
    · intro y0 y1 y2 y3 y4
      unfold whirligigref02_path.l0
      repeat' first
      | (with_reducible exact ih0 _ _ _ _ _)
      | (with_reducible exact whirligigref02_word.mono _ _ _)
      | (with_reducible exact LeO.refl _)
      | (with_reducible exact LeO.none _)
      | (with_reducible refine LeO.ite ?_ ?_)
      | (with_reducible refine LeO.bind ?_ (fun _ => ?_))
      | exact ih0 _ _ _ _ _
      | exact whirligigref02_word.mono _ _ _
      | exact LeO.none _
      | refine LeO.ite ?_ ?_
      | refine LeO.bind ?_ (fun _ => ?_)
theorem whirligigref02_path.mono : ∀ a0 a1 k, LeO (whirligigref02_path.f k a0 a1) (whirligigref02_path.f (k + 1) a0 a1) := by
  intro a0 a1 k
  have ih0 := whirligigref02_path.mono_l k
  unfold whirligigref02_path.f
  repeat' first
      | (with_reducible exact ih0 _ _ _ _ _)
      | (with_reducible exact whirligigref02_word.mono _ _ _)
      | (with_reducible exact LeO.refl _)
      | (with_reducible exact LeO.none _)
      | (with_reducible refine LeO.ite ?_ ?_)
      | (with_reducible refine LeO.bind ?_ (fun _ => ?_))
      | exact ih0 _ _ _ _ _
      | exact whirligigref02_word.mono _ _ _
      | exact LeO.none _
      | refine LeO.ite ?_ ?_
      | refine LeO.bind ?_ (fun _ => ?_)
set_option maxHeartbeats 8000000 in
set_option maxRecDepth 100000 in
theorem whirligigref02_path.calls (k : Nat) (a0 : ByteArray) (a1 : Int) (r1 : Int) (r2 : ByteArray) (r3 : Int) (r4 : Int) (r5 : Int) (r6 : Int) (w : World) (h : whirligigref02_path.f k a0 a1 = some (r1, r2, r3, r4, r5, r6)) :
    Calls Tryd.prog 25 #[.string a0, .int .i64 a1] w fun e w' => e = .returned (.tuple #[.agg #[.int .i64 r1, .string r2, .int .i64 r3, .int .i64 r4], .int .i64 r5, .int .i64 r6]) ∧ Below w.heap.size w w' := by
  have hu35 := Tryd.underlying35
  have HB := Aside0.mk (Below.refl w.heap.size w)
  have H : ((whirligigref02_word.f k a0 a1).bind fun t113 => (whirligigref02_path.l0 k a0 a1 (wrap64 (a1 + t113)) 1 (decide (t113 > 16)))) = some (r1, r2, r3, r4, r5, r6) := h
  clear h
  replace H := Option.bind_eq_some_iff.mp H
  obtain ⟨t113, A30, H⟩ := H
  replace H : (whirligigref02_path.l0 k a0 a1 (wrap64 (a1 + t113)) 1 (decide (t113 > 16))) = some (r1, r2, r3, r4, r5, r6) := H
  have A3 := Aside0.mk A30
  clear A30
  have H' := Aside0.mk H
  clear H
  go_enter Tryd.func25, Tryd.ntmps25
  go_wp2_with (first | ((with_reducible refine gate_dst (N := 4) rfl ?_); (try (refine gate_guard (by rfl) ?_; dsimp only)); refine box_event ?hg (N := 4) ?hd (cs := #[.int .i64 0, .string (⟨#[]⟩ : ByteArray), .int .i64 0, .int .i64 0]) (t := 35) ?hr ?_; (case hd => rfl); (case hg => rfl); (case hr => first | (go_simp; done) | (go_simp; rfl)); intro gb112 hg w4 hbox hb; have n0_ := Aside0.mk (below_step (by repeat (first | (with_reducible first | exact HB.out | apply below_alloc | apply pw_below_drewN | apply below_drew1) | exact HB.out)) hb); have n1_ := Aside0.mk (hbox); have n2_ := Aside0.mk ((by rw [hg]; exact (below_size (by repeat (first | (with_reducible first | exact HB.out | apply below_alloc | apply pw_below_drewN | apply below_drew1) | exact HB.out))) : w.heap.size ≤ gb112)); have n3_ := Aside0.mk ((by rw [hg]; exact (below_size (by repeat (first | (with_reducible first | exact HB.out | apply below_alloc | apply pw_below_drewN | apply below_drew1) | exact HB.out))) : w.heap.size ≤ gb112)); clear HB; have HB := n0_; have BK112 := n1_; have GW112 := n2_; have GE112 := n3_; clear n0_ n1_ n2_ n3_; clear hb hbox hg) | ((with_reducible refine gate_callee (f := 18) rfl ?_); refine goesL_ (some 13) rfl rfl Tryd.func18 (by kernel_rfl) rfl #[.string a0, .int .i64 a1] rfl (by (try simp only [List.map_toArray, List.map_cons, List.map_nil]); first | done | rfl | (simp only [List.length_drop, List.length_take]; rfl)) ?_; (with_reducible refine (whirligigref02_word.calls k a0 a1 t113 _ A3.out).mono ?_); rintro e w' ⟨rfl, ⟨nd, rfl⟩⟩; refine ⟨_, rfl, ?_⟩))
  go_loopg [8, 9, 10] k (fun kq v8 v9 v10 w' => ∃ (x8_1 : Int) (x9_1 : Int) (x10_1 : Bool), v8 = .int .i64 x8_1 ∧ v9 = .int .i64 x9_1 ∧ v10 = .bool x10_1 ∧ Aside0 (whirligigref02_path.l0 kq a0 a1 x8_1 x9_1 x10_1 = some (r1, r2, r3, r4, r5, r6)) ∧ Aside0 (kq ≤ k) ∧ Aside0 (w'.heap[gb112]? = some (.cells #[.int .i64 0, .string (⟨#[]⟩ : ByteArray), .int .i64 0, .int .i64 0] 35 (0, 0))) ∧ Aside0 (Below w.heap.size w w'))
  case atStart => exact ⟨(wrap64 (a1 + t113)), (1), (decide (t113 > 16)), (by first | rfl | (simp; done) | (simp [*]; done)), (by first | rfl | (simp; done) | (simp [*]; done)), (by first | rfl | (simp; done) | (simp [*]; done)), H', ⟨Nat.le_refl _⟩, ⟨by (with_reducible repeat (first | refine blk_drewN ?_ _ | refine blk_drew ?_ | refine blk_alloc ?_ _)); exact BK112.out⟩, ⟨by repeat (first | (with_reducible first | exact HB.out | apply below_alloc | apply pw_below_drewN | apply below_drew1 | refine below_set ?_ GE112.out) | exact HB.out)⟩⟩
  case round =>
    clear H'
    try clear c1
    try clear c2
    try clear p2
    obtain ⟨x8_1, x9_1, x10_1, rfl, rfl, rfl, HA, HK1, BK112, HB⟩ := hrel
    cases gk with
    | zero => exact absurd HA.out (by simp [whirligigref02_path.l0])
    | succ k1 =>
      have H := HA.out
      clear HA
      simp only [whirligigref02_path.l0] at H
      by_cases c5 : x10_1 = true
      · subst c5
        have H1 : (some (0, (⟨#[]⟩ : ByteArray), 0, 0, a1, 15)) = some (r1, r2, r3, r4, r5, r6) := by rw [if_pos rfl] at H; exact H
        clear H
        have H := H1
        clear H1
        simp only [Option.some.injEq, Prod.mk.injEq] at H
        obtain ⟨rfl, rfl, rfl, rfl, rfl, rfl⟩ := H
        have hcz6_0 : wr.cell? ⟨gb112, 0, none⟩ = some (.int .i64 0) := (blk_cell BK112.out 0).trans rfl
        have hcz6_1 : wr.cell? ⟨gb112, 1, none⟩ = some (.string (⟨#[]⟩ : ByteArray)) := (blk_cell BK112.out 1).trans rfl
        have hcz6_2 : wr.cell? ⟨gb112, 2, none⟩ = some (.int .i64 0) := (blk_cell BK112.out 2).trans rfl
        have hcz6_3 : wr.cell? ⟨gb112, 3, none⟩ = some (.int .i64 0) := (blk_cell BK112.out 3).trans rfl
        have hfz6_0 := blk_frozen BK112.out 0
        have hfz6_1 := blk_frozen BK112.out 1
        have hfz6_2 := blk_frozen BK112.out 2
        have hfz6_3 := blk_frozen BK112.out 3
        go_wp2
        refine bodyPost_ret (results_ctt rfl _ _ gb112 35 #[.int .i64 0, .string (⟨#[]⟩ : ByteArray), .int .i64 0, .int .i64 0] (0, 0) _ rfl (by (with_reducible repeat (first | refine blk_drewN ?_ _ | refine blk_drew ?_ | refine blk_alloc ?_ _)); refine blk_put (cs := #[.int .i64 0, .string (⟨#[]⟩ : ByteArray), .int .i64 0, .int .i64 0]) ?_ 3 _ rfl; (with_reducible repeat (first | refine blk_drewN ?_ _ | refine blk_drew ?_ | refine blk_alloc ?_ _)); refine blk_put (cs := #[.int .i64 0, .string (⟨#[]⟩ : ByteArray), .int .i64 0, .int .i64 0]) ?_ 2 _ rfl; (with_reducible repeat (first | refine blk_drewN ?_ _ | refine blk_drew ?_ | refine blk_alloc ?_ _)); refine blk_put (cs := #[.int .i64 0, .string (⟨#[]⟩ : ByteArray), .int .i64 0, .int .i64 0]) ?_ 1 _ rfl; (with_reducible repeat (first | refine blk_drewN ?_ _ | refine blk_drew ?_ | refine blk_alloc ?_ _)); refine blk_put (cs := #[.int .i64 0, .string (⟨#[]⟩ : ByteArray), .int .i64 0, .int .i64 0]) ?_ 0 _ rfl; (with_reducible repeat (first | refine blk_drewN ?_ _ | refine blk_drew ?_ | refine blk_alloc ?_ _)); exact BK112.out) Tryd.underlying35 rfl (by kernel_rfl)) rfl ?_
        exact ⟨by first | rfl | (simp [errW_none, errW_some] <;> rfl) | (simp [*, errW_none, errW_some] <;> rfl), by repeat (first | (with_reducible first | exact HB.out | apply below_alloc | apply pw_below_drewN | apply below_drew1 | refine below_set ?_ GE112.out) | exact HB.out)⟩
      · replace c5 := Bool.eq_false_iff.mpr c5
        subst c5
        have H1 : (if (wrap64 (x8_1 + 1)) < (a0.size : Int) then (if 0 ≤ x8_1 then (if x8_1 < (a0.size : Int) then (if (bt a0 x8_1) = 46 then (if 0 ≤ (wrap64 (x8_1 + 1)) then ((whirligigref02_letter.f (bt a0 (wrap64 (x8_1 + 1)))).bind fun t114 => (if t114 = true then ((whirligigref02_word.f k1 a0 (wrap64 (x8_1 + 1))).bind fun t115 => (whirligigref02_path.l0 k1 a0 a1 (wrap64 ((wrap64 (x8_1 + 1)) + t115)) 2 (decide (t115 > 16)))) else (if (wrap64 (x8_1 - a1)) > 32 then (some (0, (⟨#[]⟩ : ByteArray), 0, 0, a1, 15)) else (if 0 ≤ a1 then (if a1 ≤ x8_1 then (if x8_1 ≤ (a0.size : Int) then (some (x9_1, a0.extract (a1 : Int).toNat (x8_1 : Int).toNat, 0, a1, x8_1, 0)) else (none)) else (none)) else (none))))) else (none)) else (if (wrap64 (x8_1 - a1)) > 32 then (some (0, (⟨#[]⟩ : ByteArray), 0, 0, a1, 15)) else (if 0 ≤ a1 then (if a1 ≤ x8_1 then (if x8_1 ≤ (a0.size : Int) then (some (x9_1, a0.extract (a1 : Int).toNat (x8_1 : Int).toNat, 0, a1, x8_1, 0)) else (none)) else (none)) else (none)))) else (none)) else (none)) else (if (wrap64 (x8_1 - a1)) > 32 then (some (0, (⟨#[]⟩ : ByteArray), 0, 0, a1, 15)) else (if 0 ≤ a1 then (if a1 ≤ x8_1 then (if x8_1 ≤ (a0.size : Int) then (some (x9_1, a0.extract (a1 : Int).toNat (x8_1 : Int).toNat, 0, a1, x8_1, 0)) else (none)) else (none)) else (none)))) = some (r1, r2, r3, r4, r5, r6) := by rw [if_neg (show ¬ (false = true) by decide)] at H; exact H
        clear H
        have H := H1
        clear H1
        by_cases c7 : (wrap64 (x8_1 + 1)) < (a0.size : Int)
        · rw [if_pos c7] at H
          have c7b0 : decide ((wrap64 (x8_1 + 1)) < (a0.size : Int)) = true := decide_eq_true c7
          clear c7
          by_cases c8 : 0 ≤ x8_1
          · rw [if_pos c8] at H
            have c8b0 : decide (0 ≤ x8_1) = true := decide_eq_true c8
            clear c8
            by_cases c9 : x8_1 < (a0.size : Int)
            · rw [if_pos c9] at H
              have c9b0 : decide (x8_1 < (a0.size : Int)) = true := decide_eq_true c9
              clear c9
              by_cases c11 : (bt a0 x8_1) = 46
              · rw [if_pos c11] at H
                have c11b0 : ((bt a0 x8_1) == 46) = true := beq_iff_eq.mpr c11
                have c11b1 : ((bt a0 x8_1) != 46) = false := bne_eq_false_iff_eq.mpr c11
                clear c11
                obtain ⟨ji12, hji12⟩ : ∃ j_ : Int, (wrap64 (x8_1 + 1)) = j_ := ⟨_, rfl⟩
                replace H : (if 0 ≤ (ji12) then ((whirligigref02_letter.f (bt a0 (ji12))).bind fun t114 => (if t114 = true then ((whirligigref02_word.f k1 a0 (ji12)).bind fun t115 => (whirligigref02_path.l0 k1 a0 a1 (wrap64 ((ji12) + t115)) 2 (decide (t115 > 16)))) else (if (wrap64 (x8_1 - a1)) > 32 then (some (0, (⟨#[]⟩ : ByteArray), 0, 0, a1, 15)) else (if 0 ≤ a1 then (if a1 ≤ x8_1 then (if x8_1 ≤ (a0.size : Int) then (some (x9_1, a0.extract (a1 : Int).toNat (x8_1 : Int).toNat, 0, a1, x8_1, 0)) else (none)) else (none)) else (none))))) else (none)) = some (r1, r2, r3, r4, r5, r6) := by first | (rw [hji12] at H; exact H) | (simp only [hji12] at H ⊢; exact H)
                (try rw [hji12] at c7b0)
                have hji12w : (IntKind.i64.wrap (x8_1 + 1)) = ji12 := (i64_w _).trans hji12
                by_cases c13 : 0 ≤ (ji12)
                · rw [if_pos c13] at H
                  have c13b0 : decide (0 ≤ (ji12)) = true := decide_eq_true c13
                  clear c13
                  replace H := Option.bind_eq_some_iff.mp H
                  obtain ⟨t114, A150, H⟩ := H
                  replace H : (if t114 = true then ((whirligigref02_word.f k1 a0 (ji12)).bind fun t115 => (whirligigref02_path.l0 k1 a0 a1 (wrap64 ((ji12) + t115)) 2 (decide (t115 > 16)))) else (if (wrap64 (x8_1 - a1)) > 32 then (some (0, (⟨#[]⟩ : ByteArray), 0, 0, a1, 15)) else (if 0 ≤ a1 then (if a1 ≤ x8_1 then (if x8_1 ≤ (a0.size : Int) then (some (x9_1, a0.extract (a1 : Int).toNat (x8_1 : Int).toNat, 0, a1, x8_1, 0)) else (none)) else (none)) else (none)))) = some (r1, r2, r3, r4, r5, r6) := H
                  have A15 := Aside0.mk A150
                  clear A150
                  by_cases c16 : t114 = true
                  · subst c16
                    have H1 : ((whirligigref02_word.f k1 a0 (ji12)).bind fun t115 => (whirligigref02_path.l0 k1 a0 a1 (wrap64 ((ji12) + t115)) 2 (decide (t115 > 16)))) = some (r1, r2, r3, r4, r5, r6) := by rw [if_pos rfl] at H; exact H
                    clear H
                    have H := H1
                    clear H1
                    replace H := Option.bind_eq_some_iff.mp H
                    obtain ⟨t115, A170, H⟩ := H
                    replace H : (whirligigref02_path.l0 k1 a0 a1 (wrap64 ((ji12) + t115)) 2 (decide (t115 > 16))) = some (r1, r2, r3, r4, r5, r6) := H
                    have A17 := Aside0.mk A170
                    clear A170
                    have H' := Aside0.mk H
                    clear H
                    have p10 : 0 ≤ (x8_1 : Int) := of_decide_eq_true (by first | (with_reducible assumption) | assumption)
                    have q10 : x8_1 < (a0.size : Int) := of_decide_eq_true (by first | (with_reducible assumption) | assumption)
                    have hx10 := bt_at a0 x8_1
                    replace p10 := eq_true p10
                    replace q10 := eq_true q10
                    have p14 : 0 ≤ ((ji12) : Int) := of_decide_eq_true (by first | (with_reducible assumption) | assumption)
                    have q14 : (ji12) < (a0.size : Int) := of_decide_eq_true (by first | (with_reducible assumption) | assumption)
                    have hx14 := bt_at a0 (ji12)
                    replace p14 := eq_true p14
                    replace q14 := eq_true q14
                    go_wp2_with (first | (go_at_call 24; (with_reducible refine (whirligigref02_letter.calls (bt a0 (ji12)) true _ A15.out).mono ?_); rintro e w' ⟨rfl, ⟨nd, rfl⟩⟩) | ((with_reducible refine gate_callee (f := 18) rfl ?_); refine goesL_ (some 44) rfl rfl Tryd.func18 (by kernel_rfl) rfl #[.string a0, .int .i64 ji12] rfl (by (try simp only [List.map_toArray, List.map_cons, List.map_nil]); first | done | (simp only [hji12]; rfl) | rfl | (simp only [List.length_drop, List.length_take]; rfl)) ?_; (with_reducible refine (whirligigref02_word.calls k1 a0 ji12 t115 _ A17.out).mono ?_); rintro e w' ⟨rfl, ⟨nd, rfl⟩⟩; refine ⟨_, rfl, ?_⟩))
                    go_roundg k1
                    case measure => have := HK1.out; omega
                    case rel => exact ⟨(wrap64 ((ji12) + t115)), (2), (decide (t115 > 16)), (by first | rfl | (simp; done) | (simp only [← hji12] <;> (first | rfl | simp)) | (simp [*]; done)), (by first | rfl | (simp; done) | (simp [*]; done)), (by first | rfl | (simp; done) | (simp [*]; done)), H', ⟨by have := HK1.out; omega⟩, ⟨by (with_reducible repeat (first | refine blk_drewN ?_ _ | refine blk_drew ?_ | refine blk_alloc ?_ _)); exact BK112.out⟩, ⟨by repeat (first | (with_reducible first | exact HB.out | apply below_alloc | apply pw_below_drewN | apply below_drew1 | refine below_set ?_ GE112.out) | exact HB.out)⟩⟩
                  · replace c16 := Bool.eq_false_iff.mpr c16
                    subst c16
                    have H1 : (if (wrap64 (x8_1 - a1)) > 32 then (some (0, (⟨#[]⟩ : ByteArray), 0, 0, a1, 15)) else (if 0 ≤ a1 then (if a1 ≤ x8_1 then (if x8_1 ≤ (a0.size : Int) then (some (x9_1, a0.extract (a1 : Int).toNat (x8_1 : Int).toNat, 0, a1, x8_1, 0)) else (none)) else (none)) else (none))) = some (r1, r2, r3, r4, r5, r6) := by rw [if_neg (show ¬ (false = true) by decide)] at H; exact H
                    clear H
                    have H := H1
                    clear H1
                    by_cases c18 : (wrap64 (x8_1 - a1)) > 32
                    · rw [if_pos c18] at H
                      have c18b0 : decide (32 < (wrap64 (x8_1 - a1))) = true := decide_eq_true c18
                      clear c18
                      simp only [Option.some.injEq, Prod.mk.injEq] at H
                      obtain ⟨rfl, rfl, rfl, rfl, rfl, rfl⟩ := H
                      have p10 : 0 ≤ (x8_1 : Int) := of_decide_eq_true (by first | (with_reducible assumption) | assumption)
                      have q10 : x8_1 < (a0.size : Int) := of_decide_eq_true (by first | (with_reducible assumption) | assumption)
                      have hx10 := bt_at a0 x8_1
                      replace p10 := eq_true p10
                      replace q10 := eq_true q10
                      have p14 : 0 ≤ ((ji12) : Int) := of_decide_eq_true (by first | (with_reducible assumption) | assumption)
                      have q14 : (ji12) < (a0.size : Int) := of_decide_eq_true (by first | (with_reducible assumption) | assumption)
                      have hx14 := bt_at a0 (ji12)
                      replace p14 := eq_true p14
                      replace q14 := eq_true q14
                      go_wp2_with (first | (go_at_call 24; (with_reducible refine (whirligigref02_letter.calls (bt a0 (ji12)) false _ A15.out).mono ?_); rintro e w' ⟨rfl, ⟨nd, rfl⟩⟩; (try (rw [drewN_self wr]; generalize hq_ : World.drewN wr _ = wr; have n0_ : Aside0 (wr.heap[gb112]? = some (.cells #[.int .i64 0, .string (⟨#[]⟩ : ByteArray), .int .i64 0, .int .i64 0] 35 (0, 0))) := ⟨by rw [← hq_]; exact (by (with_reducible repeat (first | refine blk_drewN ?_ _ | refine blk_drew ?_ | refine blk_alloc ?_ _)); exact BK112.out)⟩; have n1_ : Aside0 (Below w.heap.size w wr) := ⟨by rw [← hq_]; exact (by repeat (first | (with_reducible first | exact HB.out | apply below_alloc | apply pw_below_drewN | apply below_drew1 | refine below_set ?_ GE112.out) | exact HB.out))⟩; clear BK112 HB hq_; have BK112 := n0_; have HB := n1_; clear n0_ n1_)); have hcz19_0 : wr.cell? ⟨gb112, 0, none⟩ = some (.int .i64 0) := (blk_cell BK112.out 0).trans rfl; have hcz19_1 : wr.cell? ⟨gb112, 1, none⟩ = some (.string (⟨#[]⟩ : ByteArray)) := (blk_cell BK112.out 1).trans rfl; have hcz19_2 : wr.cell? ⟨gb112, 2, none⟩ = some (.int .i64 0) := (blk_cell BK112.out 2).trans rfl; have hcz19_3 : wr.cell? ⟨gb112, 3, none⟩ = some (.int .i64 0) := (blk_cell BK112.out 3).trans rfl; have hfz19_0 := blk_frozen BK112.out 0; have hfz19_1 := blk_frozen BK112.out 1; have hfz19_2 := blk_frozen BK112.out 2; have hfz19_3 := blk_frozen BK112.out 3))
                      refine bodyPost_ret (results_ctt rfl _ _ gb112 35 #[.int .i64 0, .string (⟨#[]⟩ : ByteArray), .int .i64 0, .int .i64 0] (0, 0) _ rfl (by (with_reducible repeat (first | refine blk_drewN ?_ _ | refine blk_drew ?_ | refine blk_alloc ?_ _)); refine blk_put (cs := #[.int .i64 0, .string (⟨#[]⟩ : ByteArray), .int .i64 0, .int .i64 0]) ?_ 3 _ rfl; (with_reducible repeat (first | refine blk_drewN ?_ _ | refine blk_drew ?_ | refine blk_alloc ?_ _)); refine blk_put (cs := #[.int .i64 0, .string (⟨#[]⟩ : ByteArray), .int .i64 0, .int .i64 0]) ?_ 2 _ rfl; (with_reducible repeat (first | refine blk_drewN ?_ _ | refine blk_drew ?_ | refine blk_alloc ?_ _)); refine blk_put (cs := #[.int .i64 0, .string (⟨#[]⟩ : ByteArray), .int .i64 0, .int .i64 0]) ?_ 1 _ rfl; (with_reducible repeat (first | refine blk_drewN ?_ _ | refine blk_drew ?_ | refine blk_alloc ?_ _)); refine blk_put (cs := #[.int .i64 0, .string (⟨#[]⟩ : ByteArray), .int .i64 0, .int .i64 0]) ?_ 0 _ rfl; (with_reducible repeat (first | refine blk_drewN ?_ _ | refine blk_drew ?_ | refine blk_alloc ?_ _)); exact BK112.out) Tryd.underlying35 rfl (by kernel_rfl)) rfl ?_
                      exact ⟨by first | rfl | (simp [errW_none, errW_some] <;> rfl) | (simp only [← hji12]; first | rfl | (simp [errW_none, errW_some] <;> rfl)) | (simp [*, errW_none, errW_some] <;> rfl), by repeat (first | (with_reducible first | exact HB.out | apply below_alloc | apply pw_below_drewN | apply below_drew1 | refine below_set ?_ GE112.out) | exact HB.out)⟩
                    · rw [if_neg c18] at H
                      have c18b0 : decide (32 < (wrap64 (x8_1 - a1))) = false := decide_eq_false c18
                      clear c18
                      by_cases c20 : 0 ≤ a1
                      · rw [if_pos c20] at H
                        have c20b0 := eq_true c20
                        have c20b1 : decide (0 ≤ a1) = true := decide_eq_true c20
                        clear c20
                        by_cases c21 : a1 ≤ x8_1
                        · rw [if_pos c21] at H
                          have c21b0 := eq_true c21
                          have c21b1 : decide (a1 ≤ x8_1) = true := decide_eq_true c21
                          clear c21
                          by_cases c22 : x8_1 ≤ (a0.size : Int)
                          · rw [if_pos c22] at H
                            have c22b0 := eq_true c22
                            have c22b1 : decide (x8_1 ≤ (a0.size : Int)) = true := decide_eq_true c22
                            clear c22
                            simp only [Option.some.injEq, Prod.mk.injEq] at H
                            obtain ⟨rfl, rfl, rfl, rfl, rfl, rfl⟩ := H
                            have p10 : 0 ≤ (x8_1 : Int) := of_decide_eq_true (by first | (with_reducible assumption) | assumption)
                            have q10 : x8_1 < (a0.size : Int) := of_decide_eq_true (by first | (with_reducible assumption) | assumption)
                            have hx10 := bt_at a0 x8_1
                            replace p10 := eq_true p10
                            replace q10 := eq_true q10
                            have p14 : 0 ≤ ((ji12) : Int) := of_decide_eq_true (by first | (with_reducible assumption) | assumption)
                            have q14 : (ji12) < (a0.size : Int) := of_decide_eq_true (by first | (with_reducible assumption) | assumption)
                            have hx14 := bt_at a0 (ji12)
                            replace p14 := eq_true p14
                            replace q14 := eq_true q14
                            go_wp2_with (first | (go_at_call 24; (with_reducible refine (whirligigref02_letter.calls (bt a0 (ji12)) false _ A15.out).mono ?_); rintro e w' ⟨rfl, ⟨nd, rfl⟩⟩; (try (rw [drewN_self wr]; generalize hq_ : World.drewN wr _ = wr; have n0_ : Aside0 (wr.heap[gb112]? = some (.cells #[.int .i64 0, .string (⟨#[]⟩ : ByteArray), .int .i64 0, .int .i64 0] 35 (0, 0))) := ⟨by rw [← hq_]; exact (by (with_reducible repeat (first | refine blk_drewN ?_ _ | refine blk_drew ?_ | refine blk_alloc ?_ _)); exact BK112.out)⟩; have n1_ : Aside0 (Below w.heap.size w wr) := ⟨by rw [← hq_]; exact (by repeat (first | (with_reducible first | exact HB.out | apply below_alloc | apply pw_below_drewN | apply below_drew1 | refine below_set ?_ GE112.out) | exact HB.out))⟩; clear BK112 HB hq_; have BK112 := n0_; have HB := n1_; clear n0_ n1_)); have hcz23_0 : wr.cell? ⟨gb112, 0, none⟩ = some (.int .i64 0) := (blk_cell BK112.out 0).trans rfl; have hcz23_1 : wr.cell? ⟨gb112, 1, none⟩ = some (.string (⟨#[]⟩ : ByteArray)) := (blk_cell BK112.out 1).trans rfl; have hcz23_2 : wr.cell? ⟨gb112, 2, none⟩ = some (.int .i64 0) := (blk_cell BK112.out 2).trans rfl; have hcz23_3 : wr.cell? ⟨gb112, 3, none⟩ = some (.int .i64 0) := (blk_cell BK112.out 3).trans rfl; have hfz23_0 := blk_frozen BK112.out 0; have hfz23_1 := blk_frozen BK112.out 1; have hfz23_2 := blk_frozen BK112.out 2; have hfz23_3 := blk_frozen BK112.out 3))
                            refine bodyPost_ret (results_ctt rfl _ _ gb112 35 #[.int .i64 x9_1, .string (a0.extract (a1 : Int).toNat (x8_1 : Int).toNat), .int .i64 0, .int .i64 a1] (0, 0) _ rfl (by (with_reducible repeat (first | refine blk_drewN ?_ _ | refine blk_drew ?_ | refine blk_alloc ?_ _)); refine blk_put (cs := #[.int .i64 x9_1, .string (a0.extract (a1 : Int).toNat (x8_1 : Int).toNat), .int .i64 0, .int .i64 0]) ?_ 3 _ rfl; (with_reducible repeat (first | refine blk_drewN ?_ _ | refine blk_drew ?_ | refine blk_alloc ?_ _)); refine blk_put (cs := #[.int .i64 x9_1, .string (a0.extract (a1 : Int).toNat (x8_1 : Int).toNat), .int .i64 0, .int .i64 0]) ?_ 2 _ rfl; (with_reducible repeat (first | refine blk_drewN ?_ _ | refine blk_drew ?_ | refine blk_alloc ?_ _)); refine blk_put (cs := #[.int .i64 x9_1, .string (⟨#[]⟩ : ByteArray), .int .i64 0, .int .i64 0]) ?_ 1 _ rfl; (with_reducible repeat (first | refine blk_drewN ?_ _ | refine blk_drew ?_ | refine blk_alloc ?_ _)); refine blk_put (cs := #[.int .i64 0, .string (⟨#[]⟩ : ByteArray), .int .i64 0, .int .i64 0]) ?_ 0 _ rfl; (with_reducible repeat (first | refine blk_drewN ?_ _ | refine blk_drew ?_ | refine blk_alloc ?_ _)); exact BK112.out) Tryd.underlying35 rfl (by kernel_rfl)) rfl ?_
                            exact ⟨by first | rfl | (simp [errW_none, errW_some] <;> rfl) | (simp only [← hji12]; first | rfl | (simp [errW_none, errW_some] <;> rfl)) | (simp [*, errW_none, errW_some] <;> rfl), by repeat (first | (with_reducible first | exact HB.out | apply below_alloc | apply pw_below_drewN | apply below_drew1 | refine below_set ?_ GE112.out) | exact HB.out)⟩
                          · rw [if_neg c22] at H
                            exact absurd H (by simp)
                        · rw [if_neg c21] at H
                          exact absurd H (by simp)
                      · rw [if_neg c20] at H
                        exact absurd H (by simp)
                · rw [if_neg c13] at H
                  exact absurd H (by simp)
              · rw [if_neg c11] at H
                have c11b0 : ((bt a0 x8_1) == 46) = false := beq_eq_false_iff_ne.mpr c11
                have c11b1 : ((bt a0 x8_1) != 46) = true := bne_iff_ne.mpr c11
                by_cases c24 : (wrap64 (x8_1 - a1)) > 32
                · rw [if_pos c24] at H
                  have c24b0 : decide (32 < (wrap64 (x8_1 - a1))) = true := decide_eq_true c24
                  clear c24
                  simp only [Option.some.injEq, Prod.mk.injEq] at H
                  obtain ⟨rfl, rfl, rfl, rfl, rfl, rfl⟩ := H
                  have p10 : 0 ≤ (x8_1 : Int) := of_decide_eq_true (by first | (with_reducible assumption) | assumption)
                  have q10 : x8_1 < (a0.size : Int) := of_decide_eq_true (by first | (with_reducible assumption) | assumption)
                  have hx10 := bt_at a0 x8_1
                  replace p10 := eq_true p10
                  replace q10 := eq_true q10
                  have hcz25_0 : wr.cell? ⟨gb112, 0, none⟩ = some (.int .i64 0) := (blk_cell BK112.out 0).trans rfl
                  have hcz25_1 : wr.cell? ⟨gb112, 1, none⟩ = some (.string (⟨#[]⟩ : ByteArray)) := (blk_cell BK112.out 1).trans rfl
                  have hcz25_2 : wr.cell? ⟨gb112, 2, none⟩ = some (.int .i64 0) := (blk_cell BK112.out 2).trans rfl
                  have hcz25_3 : wr.cell? ⟨gb112, 3, none⟩ = some (.int .i64 0) := (blk_cell BK112.out 3).trans rfl
                  have hfz25_0 := blk_frozen BK112.out 0
                  have hfz25_1 := blk_frozen BK112.out 1
                  have hfz25_2 := blk_frozen BK112.out 2
                  have hfz25_3 := blk_frozen BK112.out 3
                  go_wp2
                  refine bodyPost_ret (results_ctt rfl _ _ gb112 35 #[.int .i64 0, .string (⟨#[]⟩ : ByteArray), .int .i64 0, .int .i64 0] (0, 0) _ rfl (by (with_reducible repeat (first | refine blk_drewN ?_ _ | refine blk_drew ?_ | refine blk_alloc ?_ _)); refine blk_put (cs := #[.int .i64 0, .string (⟨#[]⟩ : ByteArray), .int .i64 0, .int .i64 0]) ?_ 3 _ rfl; (with_reducible repeat (first | refine blk_drewN ?_ _ | refine blk_drew ?_ | refine blk_alloc ?_ _)); refine blk_put (cs := #[.int .i64 0, .string (⟨#[]⟩ : ByteArray), .int .i64 0, .int .i64 0]) ?_ 2 _ rfl; (with_reducible repeat (first | refine blk_drewN ?_ _ | refine blk_drew ?_ | refine blk_alloc ?_ _)); refine blk_put (cs := #[.int .i64 0, .string (⟨#[]⟩ : ByteArray), .int .i64 0, .int .i64 0]) ?_ 1 _ rfl; (with_reducible repeat (first | refine blk_drewN ?_ _ | refine blk_drew ?_ | refine blk_alloc ?_ _)); refine blk_put (cs := #[.int .i64 0, .string (⟨#[]⟩ : ByteArray), .int .i64 0, .int .i64 0]) ?_ 0 _ rfl; (with_reducible repeat (first | refine blk_drewN ?_ _ | refine blk_drew ?_ | refine blk_alloc ?_ _)); exact BK112.out) Tryd.underlying35 rfl (by kernel_rfl)) rfl ?_
                  exact ⟨by first | rfl | (simp [errW_none, errW_some] <;> rfl) | (simp [*, errW_none, errW_some] <;> rfl), by repeat (first | (with_reducible first | exact HB.out | apply below_alloc | apply pw_below_drewN | apply below_drew1 | refine below_set ?_ GE112.out) | exact HB.out)⟩
                · rw [if_neg c24] at H
                  have c24b0 : decide (32 < (wrap64 (x8_1 - a1))) = false := decide_eq_false c24
                  clear c24
                  by_cases c26 : 0 ≤ a1
                  · rw [if_pos c26] at H
                    have c26b0 := eq_true c26
                    have c26b1 : decide (0 ≤ a1) = true := decide_eq_true c26
                    clear c26
                    by_cases c27 : a1 ≤ x8_1
                    · rw [if_pos c27] at H
                      have c27b0 := eq_true c27
                      have c27b1 : decide (a1 ≤ x8_1) = true := decide_eq_true c27
                      clear c27
                      by_cases c28 : x8_1 ≤ (a0.size : Int)
                      · rw [if_pos c28] at H
                        have c28b0 := eq_true c28
                        have c28b1 : decide (x8_1 ≤ (a0.size : Int)) = true := decide_eq_true c28
                        clear c28
                        simp only [Option.some.injEq, Prod.mk.injEq] at H
                        obtain ⟨rfl, rfl, rfl, rfl, rfl, rfl⟩ := H
                        have p10 : 0 ≤ (x8_1 : Int) := of_decide_eq_true (by first | (with_reducible assumption) | assumption)
                        have q10 : x8_1 < (a0.size : Int) := of_decide_eq_true (by first | (with_reducible assumption) | assumption)
                        have hx10 := bt_at a0 x8_1
                        replace p10 := eq_true p10
                        replace q10 := eq_true q10
                        have hcz29_0 : wr.cell? ⟨gb112, 0, none⟩ = some (.int .i64 0) := (blk_cell BK112.out 0).trans rfl
                        have hcz29_1 : wr.cell? ⟨gb112, 1, none⟩ = some (.string (⟨#[]⟩ : ByteArray)) := (blk_cell BK112.out 1).trans rfl
                        have hcz29_2 : wr.cell? ⟨gb112, 2, none⟩ = some (.int .i64 0) := (blk_cell BK112.out 2).trans rfl
                        have hcz29_3 : wr.cell? ⟨gb112, 3, none⟩ = some (.int .i64 0) := (blk_cell BK112.out 3).trans rfl
                        have hfz29_0 := blk_frozen BK112.out 0
                        have hfz29_1 := blk_frozen BK112.out 1
                        have hfz29_2 := blk_frozen BK112.out 2
                        have hfz29_3 := blk_frozen BK112.out 3
                        go_wp2
                        refine bodyPost_ret (results_ctt rfl _ _ gb112 35 #[.int .i64 x9_1, .string (a0.extract (a1 : Int).toNat (x8_1 : Int).toNat), .int .i64 0, .int .i64 a1] (0, 0) _ rfl (by (with_reducible repeat (first | refine blk_drewN ?_ _ | refine blk_drew ?_ | refine blk_alloc ?_ _)); refine blk_put (cs := #[.int .i64 x9_1, .string (a0.extract (a1 : Int).toNat (x8_1 : Int).toNat), .int .i64 0, .int .i64 0]) ?_ 3 _ rfl; (with_reducible repeat (first | refine blk_drewN ?_ _ | refine blk_drew ?_ | refine blk_alloc ?_ _)); refine blk_put (cs := #[.int .i64 x9_1, .string (a0.extract (a1 : Int).toNat (x8_1 : Int).toNat), .int .i64 0, .int .i64 0]) ?_ 2 _ rfl; (with_reducible repeat (first | refine blk_drewN ?_ _ | refine blk_drew ?_ | refine blk_alloc ?_ _)); refine blk_put (cs := #[.int .i64 x9_1, .string (⟨#[]⟩ : ByteArray), .int .i64 0, .int .i64 0]) ?_ 1 _ rfl; (with_reducible repeat (first | refine blk_drewN ?_ _ | refine blk_drew ?_ | refine blk_alloc ?_ _)); refine blk_put (cs := #[.int .i64 0, .string (⟨#[]⟩ : ByteArray), .int .i64 0, .int .i64 0]) ?_ 0 _ rfl; (with_reducible repeat (first | refine blk_drewN ?_ _ | refine blk_drew ?_ | refine blk_alloc ?_ _)); exact BK112.out) Tryd.underlying35 rfl (by kernel_rfl)) rfl ?_
                        exact ⟨by first | rfl | (simp [errW_none, errW_some] <;> rfl) | (simp [*, errW_none, errW_some] <;> rfl), by repeat (first | (with_reducible first | exact HB.out | apply below_alloc | apply pw_below_drewN | apply below_drew1 | refine below_set ?_ GE112.out) | exact HB.out)⟩
                      · rw [if_neg c28] at H
                        exact absurd H (by simp)
                    · rw [if_neg c27] at H
                      exact absurd H (by simp)
                  · rw [if_neg c26] at H
                    exact absurd H (by simp)
            · rw [if_neg c9] at H
              exact absurd H (by simp)
          · rw [if_neg c8] at H
            exact absurd H (by simp)
        · rw [if_neg c7] at H
          have c7b0 : decide ((wrap64 (x8_1 + 1)) < (a0.size : Int)) = false := decide_eq_false c7
          clear c7
          by_cases c30 : (wrap64 (x8_1 - a1)) > 32
          · rw [if_pos c30] at H
            have c30b0 : decide (32 < (wrap64 (x8_1 - a1))) = true := decide_eq_true c30
            clear c30
            simp only [Option.some.injEq, Prod.mk.injEq] at H
            obtain ⟨rfl, rfl, rfl, rfl, rfl, rfl⟩ := H
            have hcz31_0 : wr.cell? ⟨gb112, 0, none⟩ = some (.int .i64 0) := (blk_cell BK112.out 0).trans rfl
            have hcz31_1 : wr.cell? ⟨gb112, 1, none⟩ = some (.string (⟨#[]⟩ : ByteArray)) := (blk_cell BK112.out 1).trans rfl
            have hcz31_2 : wr.cell? ⟨gb112, 2, none⟩ = some (.int .i64 0) := (blk_cell BK112.out 2).trans rfl
            have hcz31_3 : wr.cell? ⟨gb112, 3, none⟩ = some (.int .i64 0) := (blk_cell BK112.out 3).trans rfl
            have hfz31_0 := blk_frozen BK112.out 0
            have hfz31_1 := blk_frozen BK112.out 1
            have hfz31_2 := blk_frozen BK112.out 2
            have hfz31_3 := blk_frozen BK112.out 3
            go_wp2
            refine bodyPost_ret (results_ctt rfl _ _ gb112 35 #[.int .i64 0, .string (⟨#[]⟩ : ByteArray), .int .i64 0, .int .i64 0] (0, 0) _ rfl (by (with_reducible repeat (first | refine blk_drewN ?_ _ | refine blk_drew ?_ | refine blk_alloc ?_ _)); refine blk_put (cs := #[.int .i64 0, .string (⟨#[]⟩ : ByteArray), .int .i64 0, .int .i64 0]) ?_ 3 _ rfl; (with_reducible repeat (first | refine blk_drewN ?_ _ | refine blk_drew ?_ | refine blk_alloc ?_ _)); refine blk_put (cs := #[.int .i64 0, .string (⟨#[]⟩ : ByteArray), .int .i64 0, .int .i64 0]) ?_ 2 _ rfl; (with_reducible repeat (first | refine blk_drewN ?_ _ | refine blk_drew ?_ | refine blk_alloc ?_ _)); refine blk_put (cs := #[.int .i64 0, .string (⟨#[]⟩ : ByteArray), .int .i64 0, .int .i64 0]) ?_ 1 _ rfl; (with_reducible repeat (first | refine blk_drewN ?_ _ | refine blk_drew ?_ | refine blk_alloc ?_ _)); refine blk_put (cs := #[.int .i64 0, .string (⟨#[]⟩ : ByteArray), .int .i64 0, .int .i64 0]) ?_ 0 _ rfl; (with_reducible repeat (first | refine blk_drewN ?_ _ | refine blk_drew ?_ | refine blk_alloc ?_ _)); exact BK112.out) Tryd.underlying35 rfl (by kernel_rfl)) rfl ?_
            exact ⟨by first | rfl | (simp [errW_none, errW_some] <;> rfl) | (simp [*, errW_none, errW_some] <;> rfl), by repeat (first | (with_reducible first | exact HB.out | apply below_alloc | apply pw_below_drewN | apply below_drew1 | refine below_set ?_ GE112.out) | exact HB.out)⟩
          · rw [if_neg c30] at H
            have c30b0 : decide (32 < (wrap64 (x8_1 - a1))) = false := decide_eq_false c30
            clear c30
            by_cases c32 : 0 ≤ a1
            · rw [if_pos c32] at H
              have c32b0 := eq_true c32
              have c32b1 : decide (0 ≤ a1) = true := decide_eq_true c32
              clear c32
              by_cases c33 : a1 ≤ x8_1
              · rw [if_pos c33] at H
                have c33b0 := eq_true c33
                have c33b1 : decide (a1 ≤ x8_1) = true := decide_eq_true c33
                clear c33
                by_cases c34 : x8_1 ≤ (a0.size : Int)
                · rw [if_pos c34] at H
                  have c34b0 := eq_true c34
                  have c34b1 : decide (x8_1 ≤ (a0.size : Int)) = true := decide_eq_true c34
                  clear c34
                  simp only [Option.some.injEq, Prod.mk.injEq] at H
                  obtain ⟨rfl, rfl, rfl, rfl, rfl, rfl⟩ := H
                  have hcz35_0 : wr.cell? ⟨gb112, 0, none⟩ = some (.int .i64 0) := (blk_cell BK112.out 0).trans rfl
                  have hcz35_1 : wr.cell? ⟨gb112, 1, none⟩ = some (.string (⟨#[]⟩ : ByteArray)) := (blk_cell BK112.out 1).trans rfl
                  have hcz35_2 : wr.cell? ⟨gb112, 2, none⟩ = some (.int .i64 0) := (blk_cell BK112.out 2).trans rfl
                  have hcz35_3 : wr.cell? ⟨gb112, 3, none⟩ = some (.int .i64 0) := (blk_cell BK112.out 3).trans rfl
                  have hfz35_0 := blk_frozen BK112.out 0
                  have hfz35_1 := blk_frozen BK112.out 1
                  have hfz35_2 := blk_frozen BK112.out 2
                  have hfz35_3 := blk_frozen BK112.out 3
                  go_wp2
                  refine bodyPost_ret (results_ctt rfl _ _ gb112 35 #[.int .i64 x9_1, .string (a0.extract (a1 : Int).toNat (x8_1 : Int).toNat), .int .i64 0, .int .i64 a1] (0, 0) _ rfl (by (with_reducible repeat (first | refine blk_drewN ?_ _ | refine blk_drew ?_ | refine blk_alloc ?_ _)); refine blk_put (cs := #[.int .i64 x9_1, .string (a0.extract (a1 : Int).toNat (x8_1 : Int).toNat), .int .i64 0, .int .i64 0]) ?_ 3 _ rfl; (with_reducible repeat (first | refine blk_drewN ?_ _ | refine blk_drew ?_ | refine blk_alloc ?_ _)); refine blk_put (cs := #[.int .i64 x9_1, .string (a0.extract (a1 : Int).toNat (x8_1 : Int).toNat), .int .i64 0, .int .i64 0]) ?_ 2 _ rfl; (with_reducible repeat (first | refine blk_drewN ?_ _ | refine blk_drew ?_ | refine blk_alloc ?_ _)); refine blk_put (cs := #[.int .i64 x9_1, .string (⟨#[]⟩ : ByteArray), .int .i64 0, .int .i64 0]) ?_ 1 _ rfl; (with_reducible repeat (first | refine blk_drewN ?_ _ | refine blk_drew ?_ | refine blk_alloc ?_ _)); refine blk_put (cs := #[.int .i64 0, .string (⟨#[]⟩ : ByteArray), .int .i64 0, .int .i64 0]) ?_ 0 _ rfl; (with_reducible repeat (first | refine blk_drewN ?_ _ | refine blk_drew ?_ | refine blk_alloc ?_ _)); exact BK112.out) Tryd.underlying35 rfl (by kernel_rfl)) rfl ?_
                  exact ⟨by first | rfl | (simp [errW_none, errW_some] <;> rfl) | (simp [*, errW_none, errW_some] <;> rfl), by repeat (first | (with_reducible first | exact HB.out | apply below_alloc | apply pw_below_drewN | apply below_drew1 | refine below_set ?_ GE112.out) | exact HB.out)⟩
                · rw [if_neg c34] at H
                  exact absurd H (by simp)
              · rw [if_neg c33] at H
                exact absurd H (by simp)
            · rw [if_neg c32] at H
              exact absurd H (by simp)

end Go.Proofs.YtihmbfheaghfaaaDoor.PEventDone
