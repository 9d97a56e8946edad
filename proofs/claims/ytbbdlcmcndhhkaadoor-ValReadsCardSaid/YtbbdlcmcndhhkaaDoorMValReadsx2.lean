-- Walks made by a program (wip/givenprint.sh); Lean checks them.
import Derived.Test.YtbbdlcmcndhhkaaDoorMValReadsx0
namespace Go.Proofs.YtbbdlcmcndhhkaaDoor.MValReckons
open Go.RowKit Go.Proofs.YtbbdlcmcndhhkaaDoorW.PrintWords Go.Proofs.YtbbdlcmcndhhkaaDoorW.PrintLast Go.Proofs.YtbbdlcmcndhhkaaDoorW.PrintMore
attribute [local go_sem] max2_int min2_int max_two min_two max_three min_three max_four min_four   -- for this text's walks alone
set_option linter.unusedVariables false
set_option linter.unusedSimpArgs false

-- NOT PRINTED: function 56 (strconv_small)

-- NOT PRINTED: function 67 (strconv_log10Pow2)

-- NOT PRINTED: function 68 (bits_Len64)

-- NOT PRINTED: function 69 (strconv_bool2_int)

-- NOT PRINTED: function 57 (strconv_numDigits)

-- NOT PRINTED: function 58 (strconv_formatBase10)

-- NOT PRINTED: function 70 (strconv_isPowerOfTwo)

-- NOT PRINTED: function 73 (bits_TrailingZeros32)

-- NOT PRINTED: function 74 (bits_TrailingZeros64)

-- NOT PRINTED: function 71 (bits_TrailingZeros)

-- NOT PRINTED: function 59 (strconv_formatBits)

-- NOT PRINTED: function 45 (strconv_FormatInt_45)

-- NOT PRINTED: function 29 (strconv_FormatInt_29)

-- NOT PRINTED: function 46 (strconv_FormatBool_46)

-- NOT PRINTED: function 30 (strconv_FormatBool_30)

/-! ### val_Value_Show: function 13 -/


-- NOT PRINTED: function 22 (val_Result)

-- NOT PRINTED: function 24 (val_Truth)

-- NOT PRINTED: function 25 (val_Of)

-- NOT PRINTED: function 32 (val_over)

-- NOT PRINTED: function 33 (val_order)

-- NOT PRINTED: function 47 (cmp_Or_int)

-- NOT PRINTED: function 60 (cmp_isNaN_int64)

-- NOT PRINTED: function 48 (cmp_Compare_int64)

-- NOT PRINTED: function 61 (cmp_isNaN_string)

-- NOT PRINTED: function 49 (cmp_Compare_string)

-- NOT PRINTED: function 34 (val_compare)

-- NOT PRINTED: function 26 (val_Word)

-- NOT PRINTED: function 35 (val_join)

-- NOT PRINTED: function 36 (val_number)

-- NOT PRINTED: function 20 (val_Reckon)

/-! ### whirligiglaw01_anchor: function 9 -/


/-! ### val_Plain: function 17 -/


-- NOT PRINTED: function 62 (strconv_lower)

-- NOT PRINTED: function 63 (strconv_underscoreOK)

-- NOT PRINTED: function 51 (strconv_ParseUint)

-- NOT PRINTED: function 43 (strconv_ParseInt_43)

-- NOT PRINTED: function 64 (stringslite_Clone)

-- NOT PRINTED: function 52 (strconv_syntaxError)

-- NOT PRINTED: function 53 (strconv_rangeError)

-- NOT PRINTED: function 65 (errors_New)

-- NOT PRINTED: function 72 (strconv_Itoa_72)

-- NOT PRINTED: function 66 (strconv_Itoa_66)

-- NOT PRINTED: function 54 (strconv_baseError)

-- NOT PRINTED: function 55 (strconv_bitSizeError)

-- NOT PRINTED: function 44 (strconv_toError)

-- NOT PRINTED: function 27 (strconv_ParseInt_27)

/-! ### val_Read: function 10 -/


/-! ### whirligigref01_Plain: function 18 -/


/-! ### whirligigref01_Digits: function 31 -/
def whirligigref01_Digits.f : Nat → Int → Option (ByteArray)
  | 0, _ => none
  | k + 1, a0 => if a0 ≤ (-10) then ((whirligigref01_Digits.f k (wrap64 (Int.tdiv a0 10))).bind fun t104 => ((whirligigref01_Digits.f k (wrap64 (-(Int.tmod a0 10)))).bind fun t105 => (if t104.size + t105.size ≤ 9223372036854775807 then (some (t104 ++ t105)) else (none)))) else (if a0 < 0 then ((whirligigref01_Digits.f k (wrap64 (-a0))).bind fun t106 => (if 1 + t106.size ≤ 9223372036854775807 then (some ((⟨#[45]⟩ : ByteArray) ++ t106)) else (none))) else (if a0 < 10 then (some (strOfNums (([(wrap64 (48 + a0)) % 256] : List Int)))) else ((whirligigref01_Digits.f k (wrap64 (Int.tdiv a0 10))).bind fun t110 => ((whirligigref01_Digits.f k (Int.tmod a0 10)).bind fun t111 => (if t110.size + t111.size ≤ 9223372036854775807 then (some (t110 ++ t111)) else (none))))))
theorem whirligigref01_Digits.mono_l : ∀ k, (∀ y0, LeO (whirligigref01_Digits.f k y0) (whirligigref01_Digits.f (k + 1) y0))
  | 0 => fun _ r h => by simp [whirligigref01_Digits.f] at h
  | k + 1 => by
    have ih0 := whirligigref01_Digits.mono_l k
    · intro y0
      unfold whirligigref01_Digits.f
      repeat' first
      | (with_reducible exact ih0 _)
      | (with_reducible exact LeO.refl _)
      | (with_reducible exact LeO.none _)
      | (with_reducible refine LeO.ite ?_ ?_)
      | (with_reducible refine LeO.bind ?_ (fun _ => ?_))
      | exact ih0 _
      | exact LeO.none _
      | refine LeO.ite ?_ ?_
      | refine LeO.bind ?_ (fun _ => ?_)
theorem whirligigref01_Digits.mono : ∀ a0 k, LeO (whirligigref01_Digits.f k a0) (whirligigref01_Digits.f (k + 1) a0) := by
  intro a0 k
  have ih0 := whirligigref01_Digits.mono_l k
  exact ih0 a0
set_option maxHeartbeats 8000000 in
set_option maxRecDepth 100000 in
theorem whirligigref01_Digits.calls (k : Nat) : ∀ (a0 : Int) (r : ByteArray) (w : World) (h : whirligigref01_Digits.f k a0 = some r),
    Calls Tryd.prog 31 #[.int .i64 a0] w fun e w' => e = .returned (.string r) ∧ Below w.heap.size w w' := by
  induction k using Nat.strongRecOn with
  | _ k ih =>
  intro a0 r w h
  cases k with
  | zero => exact absurd h (by simp [whirligigref01_Digits.f])
  | succ k =>
  simp only [whirligigref01_Digits.f] at h
  have HB := Aside0.mk (Below.refl w.heap.size w)
  have H : (if a0 ≤ (-10) then ((whirligigref01_Digits.f k (wrap64 (Int.tdiv a0 10))).bind fun t104 => ((whirligigref01_Digits.f k (wrap64 (-(Int.tmod a0 10)))).bind fun t105 => (if t104.size + t105.size ≤ 9223372036854775807 then (some (t104 ++ t105)) else (none)))) else (if a0 < 0 then ((whirligigref01_Digits.f k (wrap64 (-a0))).bind fun t106 => (if 1 + t106.size ≤ 9223372036854775807 then (some ((⟨#[45]⟩ : ByteArray) ++ t106)) else (none))) else (if a0 < 10 then (some (strOfNums (([(wrap64 (48 + a0)) % 256] : List Int)))) else ((whirligigref01_Digits.f k (wrap64 (Int.tdiv a0 10))).bind fun t110 => ((whirligigref01_Digits.f k (Int.tmod a0 10)).bind fun t111 => (if t110.size + t111.size ≤ 9223372036854775807 then (some (t110 ++ t111)) else (none))))))) = some r := h
  clear h
  by_cases c2 : a0 ≤ (-10)
  · rw [if_pos c2] at H
    have c2b0 : decide (a0 ≤ (-10)) = true := decide_eq_true c2
    clear c2
    replace H := Option.bind_eq_some_iff.mp H
    obtain ⟨t104, A30, H⟩ := H
    replace H : ((whirligigref01_Digits.f k (wrap64 (-(Int.tmod a0 10)))).bind fun t105 => (if t104.size + t105.size ≤ 9223372036854775807 then (some (t104 ++ t105)) else (none))) = some r := H
    have A3 := Aside0.mk A30
    clear A30
    replace H := Option.bind_eq_some_iff.mp H
    obtain ⟨t105, A40, H⟩ := H
    replace H : (if t104.size + t105.size ≤ 9223372036854775807 then (some (t104 ++ t105)) else (none)) = some r := H
    have A4 := Aside0.mk A40
    clear A40
    by_cases c5 : t104.size + t105.size ≤ 9223372036854775807
    · rw [if_pos c5] at H
      have c5b0 := eq_true c5
      have c5b1 : decide (t104.size + t105.size ≤ 9223372036854775807) = true := decide_eq_true c5
      try have c5b2 : (9223372036854775807 < t104.size + t105.size) = False := eq_false (Nat.not_lt.2 c5)
      obtain rfl := Option.some.inj H
      go_enter Tryd.func31, Tryd.ntmps31
      go_wp2_with (first | ((with_reducible refine gate_callee (f := 31) rfl ?_); refine goesL_ (some 7) rfl rfl Tryd.func31 (by kernel_rfl) rfl #[.int .i64 (wrap64 (Int.tdiv a0 10))] rfl (by (try simp only [List.map_toArray, List.map_cons, List.map_nil]); first | done | rfl | (simp only [List.length_drop, List.length_take]; rfl)) ?_; (with_reducible refine (ih k (by omega) (wrap64 (Int.tdiv a0 10)) t104 _ A3.out).mono ?_); rintro e w6 ⟨rfl, hb⟩; refine ⟨_, rfl, ?_⟩; have n0_ := Aside0.mk (below_step (by repeat (first | (with_reducible first | exact HB.out | apply below_alloc | apply pw_below_drewN | apply below_drew1) | exact HB.out)) hb); clear HB; have HB := n0_; clear n0_; (try clear hb); (try clear hb2); (try clear hk); (try clear hi)) | ((with_reducible refine gate_callee (f := 31) rfl ?_); refine goesL_ (some 11) rfl rfl Tryd.func31 (by kernel_rfl) rfl #[.int .i64 (wrap64 (-(Int.tmod a0 10)))] rfl (by (try simp only [List.map_toArray, List.map_cons, List.map_nil]); first | done | rfl | (simp only [List.length_drop, List.length_take]; rfl)) ?_; (with_reducible refine (ih k (by omega) (wrap64 (-(Int.tmod a0 10))) t105 _ A4.out).mono ?_); rintro e w7 ⟨rfl, hb⟩; refine ⟨_, rfl, ?_⟩; have n0_ := Aside0.mk (below_step (by repeat (first | (with_reducible first | exact HB.out | apply below_alloc | apply pw_below_drewN | apply below_drew1) | exact HB.out)) hb); clear HB; have HB := n0_; clear n0_; (try clear hb); (try clear hb2); (try clear hk); (try clear hi)))
      go_ret
      exact ⟨by first | rfl | (simp [errW_none, errW_some] <;> rfl) | (simp [*, errW_none, errW_some] <;> rfl), by repeat (first | (with_reducible first | exact HB.out | apply below_alloc | apply pw_below_drewN | apply below_drew1) | exact HB.out)⟩
    · rw [if_neg c5] at H
      exact absurd H (by simp)
  · rw [if_neg c2] at H
    have c2b0 : decide (a0 ≤ (-10)) = false := decide_eq_false c2
    clear c2
    by_cases c8 : a0 < 0
    · rw [if_pos c8] at H
      have c8b0 : decide (a0 < 0) = true := decide_eq_true c8
      clear c8
      replace H := Option.bind_eq_some_iff.mp H
      obtain ⟨t106, A90, H⟩ := H
      replace H : (if 1 + t106.size ≤ 9223372036854775807 then (some ((⟨#[45]⟩ : ByteArray) ++ t106)) else (none)) = some r := H
      have A9 := Aside0.mk A90
      clear A90
      by_cases c10 : 1 + t106.size ≤ 9223372036854775807
      · rw [if_pos c10] at H
        have c10b0 := eq_true c10
        have c10b1 : decide (1 + t106.size ≤ 9223372036854775807) = true := decide_eq_true c10
        try have c10b2 : (9223372036854775807 < 1 + t106.size) = False := eq_false (Nat.not_lt.2 c10)
        obtain rfl := Option.some.inj H
        go_enter Tryd.func31, Tryd.ntmps31
        go_wp2_with (first | ((with_reducible refine gate_callee (f := 31) rfl ?_); refine goesL_ (some 17) rfl rfl Tryd.func31 (by kernel_rfl) rfl #[.int .i64 (wrap64 (-a0))] rfl (by (try simp only [List.map_toArray, List.map_cons, List.map_nil]); first | done | rfl | (simp only [List.length_drop, List.length_take]; rfl)) ?_; (with_reducible refine (ih k (by omega) (wrap64 (-a0)) t106 _ A9.out).mono ?_); rintro e w11 ⟨rfl, hb⟩; refine ⟨_, rfl, ?_⟩; have n0_ := Aside0.mk (below_step (by repeat (first | (with_reducible first | exact HB.out | apply below_alloc | apply pw_below_drewN | apply below_drew1) | exact HB.out)) hb); clear HB; have HB := n0_; clear n0_; (try clear hb); (try clear hb2); (try clear hk); (try clear hi)))
        go_ret
        exact ⟨by first | rfl | (simp [errW_none, errW_some] <;> rfl) | (simp [*, errW_none, errW_some] <;> rfl), by repeat (first | (with_reducible first | exact HB.out | apply below_alloc | apply pw_below_drewN | apply below_drew1) | exact HB.out)⟩
      · rw [if_neg c10] at H
        exact absurd H (by simp)
    · rw [if_neg c8] at H
      have c8b0 : decide (a0 < 0) = false := decide_eq_false c8
      clear c8
      by_cases c12 : a0 < 10
      · rw [if_pos c12] at H
        have c12b0 : decide (a0 < 10) = true := decide_eq_true c12
        clear c12
        obtain ⟨y107, hy107⟩ : ∃ y_ : List Int, y_ = (([(wrap64 (48 + a0)) % 256] : List Int)) := ⟨_, rfl⟩
        replace H : (some (strOfNums y107)) = some r := by first | (rw [hy107]; with_reducible exact H) | (have H2_ := (Option.bind_some _ _).symm.trans H; rw [hy107]; with_reducible exact H2_) | (have H2_ := (Option.bind_some _ _).symm.trans H; with_reducible exact H2_) | with_reducible exact H | (rw [hy107]; exact H) | exact H
        have Ny107 := Aside0.mk hy107
        clear hy107
        obtain rfl := Option.some.inj H
        go_enter Tryd.func31, Tryd.ntmps31
        go_wp2_with (first | ((with_reducible refine gate_dst (N := 24) rfl ?_); refine Kd.R_lit (Kd.int .u8) _ 5 ?hg (N := 24) ?hd (xs := ([(wrap64 (48 + a0)) % 256] : List Int)) (inner := [.int .u8 ((wrap64 (48 + a0)) % 256)]) (ok := fun _ => True) (okp := fun _ => True) ?hr ?hp (fun _ hk => hk) trivial (Below.refl _ _) (Nat.le_refl _) (by simp) ?_; (case hd => rfl); (case hg => rfl); (case hr => first | (go_simp; done) | (go_simp; rfl)); (case hp => exact (Reps.one (show Kd.M (Kd.int .u8) _ _ _ ((wrap64 (48 + a0)) % 256) [.int .u8 ((wrap64 (48 + a0)) % 256)] from rfl) (Reps.none _ _))); intro v108 w13 ho14 hb hg_ hnew_; clear hg_ hnew_; (first | rw [← Ny107.out] at ho14 | (simp only [Int.reduceToNat] at ho14; rw [← Ny107.out] at ho14)); have n0_ := Aside0.mk (Kd.R_lower ho14 (below_size (by repeat (first | (with_reducible first | exact HB.out | apply below_alloc | apply pw_below_drewN | apply below_drew1) | exact HB.out)))); have n1_ := Aside0.mk (below_step (by repeat (first | (with_reducible first | exact HB.out | apply below_alloc | apply pw_below_drewN | apply below_drew1) | exact HB.out)) hb); clear HB; have HO109 := n0_; have HB := n1_; clear n0_ n1_; clear hb ho14; have hcv15 := own_string (P := Tryd.prog) Tryd.underlying58 Tryd.underlying5 Tryd.underlying9 (Kd.own_of_R HO109.out)))
        go_ret
        exact ⟨by first | rfl | (simp [errW_none, errW_some] <;> rfl) | (simp [*, errW_none, errW_some] <;> rfl), by repeat (first | (with_reducible first | exact HB.out | apply below_alloc | apply pw_below_drewN | apply below_drew1) | exact HB.out)⟩
      · rw [if_neg c12] at H
        have c12b0 : decide (a0 < 10) = false := decide_eq_false c12
        clear c12
        replace H := Option.bind_eq_some_iff.mp H
        obtain ⟨t110, A160, H⟩ := H
        replace H : ((whirligigref01_Digits.f k (Int.tmod a0 10)).bind fun t111 => (if t110.size + t111.size ≤ 9223372036854775807 then (some (t110 ++ t111)) else (none))) = some r := H
        have A16 := Aside0.mk A160
        clear A160
        replace H := Option.bind_eq_some_iff.mp H
        obtain ⟨t111, A170, H⟩ := H
        replace H : (if t110.size + t111.size ≤ 9223372036854775807 then (some (t110 ++ t111)) else (none)) = some r := H
        have A17 := Aside0.mk A170
        clear A170
        by_cases c18 : t110.size + t111.size ≤ 9223372036854775807
        · rw [if_pos c18] at H
          have c18b0 := eq_true c18
          have c18b1 : decide (t110.size + t111.size ≤ 9223372036854775807) = true := decide_eq_true c18
          try have c18b2 : (9223372036854775807 < t110.size + t111.size) = False := eq_false (Nat.not_lt.2 c18)
          obtain rfl := Option.some.inj H
          go_enter Tryd.func31, Tryd.ntmps31
          go_wp2_with (first | ((with_reducible refine gate_callee (f := 31) rfl ?_); refine goesL_ (some 28) rfl rfl Tryd.func31 (by kernel_rfl) rfl #[.int .i64 (wrap64 (Int.tdiv a0 10))] rfl (by (try simp only [List.map_toArray, List.map_cons, List.map_nil]); first | done | rfl | (simp only [List.length_drop, List.length_take]; rfl)) ?_; (with_reducible refine (ih k (by omega) (wrap64 (Int.tdiv a0 10)) t110 _ A16.out).mono ?_); rintro e w19 ⟨rfl, hb⟩; refine ⟨_, rfl, ?_⟩; have n0_ := Aside0.mk (below_step (by repeat (first | (with_reducible first | exact HB.out | apply below_alloc | apply pw_below_drewN | apply below_drew1) | exact HB.out)) hb); clear HB; have HB := n0_; clear n0_; (try clear hb); (try clear hb2); (try clear hk); (try clear hi)) | ((with_reducible refine gate_callee (f := 31) rfl ?_); refine goesL_ (some 31) rfl rfl Tryd.func31 (by kernel_rfl) rfl #[.int .i64 (Int.tmod a0 10)] rfl (by (try simp only [List.map_toArray, List.map_cons, List.map_nil]); first | done | rfl | (simp only [List.length_drop, List.length_take]; rfl)) ?_; (with_reducible refine (ih k (by omega) (Int.tmod a0 10) t111 _ A17.out).mono ?_); rintro e w20 ⟨rfl, hb⟩; refine ⟨_, rfl, ?_⟩; have n0_ := Aside0.mk (below_step (by repeat (first | (with_reducible first | exact HB.out | apply below_alloc | apply pw_below_drewN | apply below_drew1) | exact HB.out)) hb); clear HB; have HB := n0_; clear n0_; (try clear hb); (try clear hb2); (try clear hk); (try clear hi)))
          go_ret
          exact ⟨by first | rfl | (simp [errW_none, errW_some] <;> rfl) | (simp [*, errW_none, errW_some] <;> rfl), by repeat (first | (with_reducible first | exact HB.out | apply below_alloc | apply pw_below_drewN | apply below_drew1) | exact HB.out)⟩
        · rw [if_neg c18] at H
          exact absurd H (by simp)

theorem wrap_tdiv (x : Int) : wrap64 (Int.tdiv ((-9223372036854775808) + (x % 256)) 10) = Int.tdiv ((-9223372036854775808) + (x % 256)) 10 := by
  have h0 : 0 ≤ x % 256 := Int.emod_nonneg _ (by decide)
  have h1 : x % 256 < 256 := Int.emod_lt_of_pos _ (by decide)
  generalize x % 256 = m at h0 h1
  have e : (-9223372036854775808) + m = -(9223372036854775808 - m) := by omega
  rw [e, Int.neg_tdiv, Int.tdiv_eq_ediv_of_nonneg (by omega)]
  unfold wrap64
  omega
/-! ### whirligigref01_Number: function 28 -/
mutual
def whirligigref01_Number.j0 : Nat → ByteArray → ByteArray → Bool → Option (Int × Bool)
  | 0, _, _, _ => none
  | k + 1, x0, x4, x16 => if x16 = true then (if 1 ≤ (x0.size : Int) then (whirligigref01_Number.j1 k x0 (x0.extract 1 x0.size)) else (none)) else (whirligigref01_Number.j1 k x0 x4)
def whirligigref01_Number.j1 : Nat → ByteArray → ByteArray → Option (Int × Bool)
  | 0, _, _ => none
  | k + 1, x0, x4 => if (x4.size : Int) = 0 then (whirligigref01_Number.j2 k x0 x4 true) else (whirligigref01_Number.j2 k x0 x4 (decide ((x4.size : Int) > 19)))
def whirligigref01_Number.j2 : Nat → ByteArray → ByteArray → Bool → Option (Int × Bool)
  | 0, _, _, _ => none
  | k + 1, x0, x4, x26 => if x26 = true then (some (0, false)) else (whirligigref01_Number.l0 k x0 x4 0 0)
def whirligigref01_Number.l0 : Nat → ByteArray → ByteArray → Int → Int → Option (Int × Bool)
  | 0, _, _, _, _ => none
  | k + 1, x0, x4, x5, x6 => if x6 < (x4.size : Int) then (if 0 ≤ x6 then (if (bt x4 x6) < 48 then (whirligigref01_Number.j4 k x0 x4 x5 x6 true) else (whirligigref01_Number.j4 k x0 x4 x5 x6 (decide ((bt x4 x6) > 57)))) else (none)) else (if (x4.size : Int) = (x0.size : Int) then (if x5 = (-9223372036854775808) then (some (0, false)) else ((whirligigref01_Digits.f k (wrap64 (-x5))).bind fun t112 => (some (wrap64 (-x5), (t112.toList == x0.toList))))) else ((whirligigref01_Digits.f k x5).bind fun t113 => (some (x5, (t113.toList == x0.toList)))))
def whirligigref01_Number.j4 : Nat → ByteArray → ByteArray → Int → Int → Bool → Option (Int × Bool)
  | 0, _, _, _, _, _ => none
  | k + 1, x0, x4, x5, x6, x42 => if x42 = true then (some (0, false)) else (if 0 ≤ x6 then (if x6 < (x4.size : Int) then (if x5 < (wrap64 (Int.tdiv ((-9223372036854775808) + (((bt x4 x6) - 48) % 256)) 10)) then (some (0, false)) else (whirligigref01_Number.l0 k x0 x4 (wrap64 ((wrap64 (10 * x5)) - (((bt x4 x6) - 48) % 256))) (wrap64 (x6 + 1)))) else (none)) else (none))
end
def whirligigref01_Number.f (k : Nat) (a0 : ByteArray) : Option (Int × Bool) := if (a0.size : Int) > 0 then (if 0 < (a0.size : Int) then (whirligigref01_Number.j0 k a0 a0 ((bt a0 0) == 45)) else (none)) else (whirligigref01_Number.j0 k a0 a0 false)
theorem whirligigref01_Number.mono_l : ∀ k, (∀ y0 y1 y2, LeO (whirligigref01_Number.j0 k y0 y1 y2) (whirligigref01_Number.j0 (k + 1) y0 y1 y2)) ∧ (∀ y0 y1, LeO (whirligigref01_Number.j1 k y0 y1) (whirligigref01_Number.j1 (k + 1) y0 y1)) ∧ (∀ y0 y1 y2, LeO (whirligigref01_Number.j2 k y0 y1 y2) (whirligigref01_Number.j2 (k + 1) y0 y1 y2)) ∧ (∀ y0 y1 y2 y3, LeO (whirligigref01_Number.l0 k y0 y1 y2 y3) (whirligigref01_Number.l0 (k + 1) y0 y1 y2 y3)) ∧ (∀ y0 y1 y2 y3 y4, LeO (whirligigref01_Number.j4 k y0 y1 y2 y3 y4) (whirligigref01_Number.j4 (k + 1) y0 y1 y2 y3 y4))
  | 0 => ⟨fun _ _ _ r h => by simp [whirligigref01_Number.j0] at h, fun _ _ r h => by simp [whirligigref01_Number.j1] at h, fun _ _ _ r h => by simp [whirligigref01_Number.j2] at h, fun _ _ _ _ r h => by simp [whirligigref01_Number.l0] at h, fun _ _ _ _ _ r h => by simp [whirligigref01_Number.j4] at h⟩
  | k + 1 => by
    obtain ⟨ih0, ih1, ih2, ih3, ih4⟩ := whirligigref01_Number.mono_l k
    refine ⟨?_, ?_, ?_, ?_, ?_⟩
    · intro y0 y1 y2
      unfold whirligigref01_Number.j0
      repeat' first
      | (with_reducible exact ih0 _ _ _)
      | (with_reducible exact ih1 _ _)
      | (with_reducible exact ih2 _ _ _)
      | (with_reducible exact ih3 _ _ _ _)
      | (with_reducible exact ih4 _ _ _ _ _)
      | (with_reducible exact whirligigref01_Digits.mono _ _)
      | (with_reducible exact LeO.refl _)
      | (with_reducible exact LeO.none _)
      | (with_reducible refine LeO.ite ?_ ?_)
      | (with_reducible refine LeO.bind ?_ (fun _ => ?_))
      | exact ih0 _ _ _
      | exact ih1 _ _
      | exact ih2 _ _ _
      | exact ih3 _ _ _ _
      | exact ih4 _ _ _ _ _
      | exact whirligigref01_Digits.mono _ _
      | exact LeO.none _
      | refine LeO.ite ?_ ?_
      | refine LeO.bind ?_ (fun _ => ?_)
    · intro y0 y1
      unfold whirligigref01_Number.j1
      repeat' first
      | (with_reducible exact ih0 _ _ _)
      | (with_reducible exact ih1 _ _)
      | (with_reducible exact ih2 _ _ _)
      | (with_reducible exact ih3 _ _ _ _)
      | (with_reducible exact ih4 _ _ _ _ _)
      | (with_reducible exact whirligigref01_Digits.mono _ _)
      | (with_reducible exact LeO.refl _)
      | (with_reducible exact LeO.none _)
      | (with_reducible refine LeO.ite ?_ ?_)
      | (with_reducible refine LeO.bind ?_ (fun _ => ?_))
      | exact ih0 _ _ _
      | exact ih1 _ _
      | exact ih2 _ _ _
      | exact ih3 _ _ _ _
      | exact ih4 _ _ _ _ _
      | exact whirligigref01_Digits.mono _ _
      | exact LeO.none _
      | refine LeO.ite ?_ ?_
      | refine LeO.bind ?_ (fun _ => ?_)
    · intro y0 y1 y2
      unfold whirligigref01_Number.j2
      repeat' first
      | (with_reducible exact ih0 _ _ _)
      | (with_reducible exact ih1 _ _)
      | (with_reducible exact ih2 _ _ _)
      | (with_reducible exact ih3 _ _ _ _)
      | (with_reducible exact ih4 _ _ _ _ _)
      | (with_reducible exact whirligigref01_Digits.mono _ _)
      | (with_reducible exact LeO.refl _)
      | (with_reducible exact LeO.none _)
      | (with_reducible refine LeO.ite ?_ ?_)
      | (with_reducible refine LeO.bind ?_ (fun _ => ?_))
      | exact ih0 _ _ _
      | exact ih1 _ _
      | exact ih2 _ _ _
      | exact ih3 _ _ _ _
      | exact ih4 _ _ _ _ _
      | exact whirligigref01_Digits.mono _ _
      | exact LeO.none _
      | refine LeO.ite ?_ ?_
      | refine LeO.bind ?_ (fun _ => ?_)
    · intro y0 y1 y2 y3
      unfold whirligigref01_Number.l0
      repeat' first
      | (with_reducible exact ih0 _ _ _)
      | (with_reducible exact ih1 _ _)
      | (with_reducible exact ih2 _ _ _)
      | (with_reducible exact ih3 _ _ _ _)
      | (with_reducible exact ih4 _ _ _ _ _)
      | (with_reducible exact whirligigref01_Digits.mono _ _)
      | (with_reducible exact LeO.refl _)
      | (with_reducible exact LeO.none _)
      | (with_reducible refine LeO.ite ?_ ?_)
      | (with_reducible refine LeO.bind ?_ (fun _ => ?_))
      | exact ih0 _ _ _
      | exact ih1 _ _
      | exact ih2 _ _ _
      | exact ih3 _ _ _ _
      | exact ih4 _ _ _ _ _
      | exact whirligigref01_Digits.mono _ _
      | exact LeO.none _
      | refine LeO.ite ?_ ?_
      | refine LeO.bind ?_ (fun _ => ?_)
    · intro y0 y1 y2 y3 y4
      unfold whirligigref01_Number.j4
      repeat' first
      | (with_reducible exact ih0 _ _ _)
      | (with_reducible exact ih1 _ _)
      | (with_reducible exact ih2 _ _ _)
      | (with_reducible exact ih3 _ _ _ _)
      | (with_reducible exact ih4 _ _ _ _ _)
      | (with_reducible exact whirligigref01_Digits.mono _ _)
      | (with_reducible exact LeO.refl _)
      | (with_reducible exact LeO.none _)
      | (with_reducible refine LeO.ite ?_ ?_)
      | (with_reducible refine LeO.bind ?_ (fun _ => ?_))
      | exact ih0 _ _ _
      | exact ih1 _ _
      | exact ih2 _ _ _
      | exact ih3 _ _ _ _
      | exact ih4 _ _ _ _ _
      | exact whirligigref01_Digits.mono _ _
      | exact LeO.none _
      | refine LeO.ite ?_ ?_
      | refine LeO.bind ?_ (fun _ => ?_)
theorem whirligigref01_Number.mono : ∀ a0 k, LeO (whirligigref01_Number.f k a0) (whirligigref01_Number.f (k + 1) a0) := by
  intro a0 k
  obtain ⟨ih0, ih1, ih2, ih3, ih4⟩ := whirligigref01_Number.mono_l k
  unfold whirligigref01_Number.f
  repeat' first
      | (with_reducible exact ih0 _ _ _)
      | (with_reducible exact ih1 _ _)
      | (with_reducible exact ih2 _ _ _)
      | (with_reducible exact ih3 _ _ _ _)
      | (with_reducible exact ih4 _ _ _ _ _)
      | (with_reducible exact whirligigref01_Digits.mono _ _)
      | (with_reducible exact LeO.refl _)
      | (with_reducible exact LeO.none _)
      | (with_reducible refine LeO.ite ?_ ?_)
      | (with_reducible refine LeO.bind ?_ (fun _ => ?_))
      | exact ih0 _ _ _
      | exact ih1 _ _
      | exact ih2 _ _ _
      | exact ih3 _ _ _ _
      | exact ih4 _ _ _ _ _
      | exact whirligigref01_Digits.mono _ _
      | exact LeO.none _
      | refine LeO.ite ?_ ?_
      | refine LeO.bind ?_ (fun _ => ?_)
set_option maxHeartbeats 8000000 in
set_option maxRecDepth 100000 in
theorem whirligigref01_Number.calls (k : Nat) (a0 : ByteArray) (r1 : Int) (r2 : Bool) (w : World) (h : whirligigref01_Number.f k a0 = some (r1, r2)) :
    Calls Tryd.prog 28 #[.string a0] w fun e w' => e = .returned (.tuple #[.int .i64 r1, .bool r2]) ∧ Below w.heap.size w w' := by
  have HB := Aside0.mk (Below.refl w.heap.size w)
  have H : (if (a0.size : Int) > 0 then (if 0 < (a0.size : Int) then (whirligigref01_Number.j0 k a0 a0 ((bt a0 0) == 45)) else (none)) else (whirligigref01_Number.j0 k a0 a0 false)) = some (r1, r2) := h
  clear h
  have HC2 := Aside0.mk H
  clear H
  go_enter Tryd.func28, Tryd.ntmps28
  go_upto_region 2 with (fail)
  go_cut [16] (fun v16 wc => ∃ (kq : Nat) (x16_1 : Bool), v16 = .bool x16_1 ∧ Aside0 (whirligigref01_Number.j0 kq a0 a0 x16_1 = some (r1, r2)) ∧ Aside0 (kq ≤ k) ∧ Aside0 (Below w.heap.size w wc))
  case first =>
    have H := HC2.out
    clear HC2
    by_cases c3 : (a0.size : Int) > 0
    · rw [if_pos c3] at H
      have c3b0 : decide (0 < (a0.size : Int)) = true := decide_eq_true c3
      have c3b1 : decide (0 < a0.size) = true := decide_eq_true (by omega)
      clear c3
      (first | rw [c3b0] | (simp only [i64_w, i32_w]; rw [c3b0]) | skip)
      by_cases c4 : 0 < (a0.size : Int)
      · rw [if_pos c4] at H
        have c4b0 : decide (0 < (a0.size : Int)) = true := decide_eq_true c4
        have c4b1 : decide (0 < a0.size) = true := decide_eq_true (by omega)
        clear c4
        have H' := Aside0.mk H
        clear H
        have p5 : 0 ≤ (0 : Int) := (by omega)
        have q5 : 0 < a0.size := (by have : (0 : Int) < (a0.size : Int) := of_decide_eq_true (by first | (with_reducible assumption) | assumption); omega)
        have hx5 : ∀ h : 0 < a0.size, ((a0[0]'h).toNat : Int) = bt a0 0 := bt_at a0 0
        clear p5
        have qi5 : (0 < (a0.size : Int)) = True := eq_true (of_decide_eq_true (by first | (with_reducible assumption) | assumption))
        replace q5 := eq_true q5
        go_wp2
        go_meet
        case rel => exact ⟨_, (((bt a0 0) == 45)), (by first | rfl | (simp; done) | (simp [*]; done)), H', ⟨by first | omega | exact Nat.le_refl _⟩, ⟨by repeat (first | (with_reducible first | exact HB.out | apply below_alloc | apply pw_below_drewN | apply below_drew1) | exact HB.out)⟩⟩
      · rw [if_neg c4] at H
        exact absurd H (by simp)
    · rw [if_neg c3] at H
      have c3b0 : decide (0 < (a0.size : Int)) = false := decide_eq_false c3
      have c3b1 : decide (0 < a0.size) = false := decide_eq_false (by omega)
      clear c3
      (first | rw [c3b0] | (simp only [i64_w, i32_w]; rw [c3b0]) | skip)
      have H' := Aside0.mk H
      clear H
      go_wp2
      go_meet
      case rel => exact ⟨_, (false), (by first | rfl | (simp; done) | (simp [*]; done)), H', ⟨by first | omega | exact Nat.le_refl _⟩, ⟨by repeat (first | (with_reducible first | exact HB.out | apply below_alloc | apply pw_below_drewN | apply below_drew1) | exact HB.out)⟩⟩
  case rest =>
    clear HC2
    try clear c2
    try clear p2
    try clear c3
    try clear c3b0
    try clear c3b1
    try clear c4
    try clear c4b0
    try clear c4b1
    try clear p5
    try clear q5
    try clear hx5
    try clear qi5
    try clear p5
    try clear q5
    obtain ⟨kq, x16_1, rfl, HA, HJ1, HB⟩ := hcut
    cases kq with
    | zero => exact absurd HA.out (by simp [whirligigref01_Number.j0])
    | succ kj1 =>
      have H := HA.out
      clear HA
      simp only [whirligigref01_Number.j0] at H
      have HC6 := Aside0.mk H
      clear H
      go_upto_if 16 with (fail)
      go_cut [4] (fun v4 wc => ∃ (kq : Nat) (x4_5 : ByteArray), v4 = .string x4_5 ∧ Aside0 (whirligigref01_Number.j1 kq a0 x4_5 = some (r1, r2)) ∧ Aside0 (kq ≤ kj1) ∧ Aside0 (Below w.heap.size w wc))
      case first =>
        have H := HC6.out
        clear HC6
        by_cases c7 : x16_1 = true
        · subst c7
          have H1 : (if 1 ≤ (a0.size : Int) then (whirligigref01_Number.j1 kj1 a0 (a0.extract 1 a0.size)) else (none)) = some (r1, r2) := by rw [if_pos rfl] at H; exact H
          clear H
          have H := H1
          clear H1
          by_cases c8 : 1 ≤ (a0.size : Int)
          · rw [if_pos c8] at H
            have c8b0 := eq_true c8
            have c8b1 : decide (1 ≤ (a0.size : Int)) = true := decide_eq_true c8
            clear c8
            have H' := Aside0.mk H
            clear H
            go_wp2
            go_meet
            case rel => exact ⟨_, (a0.extract 1 a0.size), (by first | rfl | (simp; done) | (simp [*]; done)), H', ⟨by have := HJ1.out; first | omega | exact Nat.le_refl _⟩, ⟨by repeat (first | (with_reducible first | exact HB.out | apply below_alloc | apply pw_below_drewN | apply below_drew1) | exact HB.out)⟩⟩
          · rw [if_neg c8] at H
            exact absurd H (by simp)
        · replace c7 := Bool.eq_false_iff.mpr c7
          subst c7
          have H1 : (whirligigref01_Number.j1 kj1 a0 a0) = some (r1, r2) := by rw [if_neg (show ¬ (false = true) by decide)] at H; exact H
          clear H
          have H := H1
          clear H1
          have H' := Aside0.mk H
          clear H
          go_wp2
          go_meet
          case rel => exact ⟨_, (a0), (by first | rfl | (simp; done) | (simp [*]; done)), H', ⟨by have := HJ1.out; first | omega | exact Nat.le_refl _⟩, ⟨by repeat (first | (with_reducible first | exact HB.out | apply below_alloc | apply pw_below_drewN | apply below_drew1) | exact HB.out)⟩⟩
      case rest =>
        clear HC6
        try clear c2
        try clear p2
        try clear c3
        try clear c3b0
        try clear c3b1
        try clear c4
        try clear c4b0
        try clear c4b1
        try clear p5
        try clear q5
        try clear hx5
        try clear qi5
        try clear c7
        try clear c8
        try clear c8b0
        try clear c8b1
        try clear p2
        try clear p5
        try clear q5
        obtain ⟨kq, x4_5, rfl, HA, HJ5, HB⟩ := hcut
        cases kq with
        | zero => exact absurd HA.out (by simp [whirligigref01_Number.j1])
        | succ kj5 =>
          have H := HA.out
          clear HA
          simp only [whirligigref01_Number.j1] at H
          have HC9 := Aside0.mk H
          clear H
          go_upto_region 4 with (fail)
          go_cut [26] (fun v26 wc => ∃ (kq : Nat) (x26_8 : Bool), v26 = .bool x26_8 ∧ Aside0 (whirligigref01_Number.j2 kq a0 x4_5 x26_8 = some (r1, r2)) ∧ Aside0 (kq ≤ kj5) ∧ Aside0 (Below w.heap.size w wc))
          case first =>
            have H := HC9.out
            clear HC9
            by_cases c10 : (x4_5.size : Int) = 0
            · rw [if_pos c10] at H
              have c10b0 : ((x4_5.size : Int) == 0) = true := beq_iff_eq.mpr c10
              have c10b1 : ((x4_5.size : Int) != 0) = false := bne_eq_false_iff_eq.mpr c10
              clear c10
              (first | rw [c10b0] | (simp only [i64_w, i32_w]; rw [c10b0]) | skip)
              have H' := Aside0.mk H
              clear H
              go_wp2
              go_meet
              case rel => exact ⟨_, (true), (by first | rfl | (simp; done) | (simp [*]; done)), H', ⟨by have := HJ1.out; have := HJ5.out; first | omega | exact Nat.le_refl _⟩, ⟨by repeat (first | (with_reducible first | exact HB.out | apply below_alloc | apply pw_below_drewN | apply below_drew1) | exact HB.out)⟩⟩
            · rw [if_neg c10] at H
              have c10b0 : ((x4_5.size : Int) == 0) = false := beq_eq_false_iff_ne.mpr c10
              have c10b1 : ((x4_5.size : Int) != 0) = true := bne_iff_ne.mpr c10
              (first | rw [c10b0] | (simp only [i64_w, i32_w]; rw [c10b0]) | skip)
              have H' := Aside0.mk H
              clear H
              go_wp2
              go_meet
              case rel => exact ⟨_, (decide ((x4_5.size : Int) > 19)), (by first | rfl | (simp; done) | (simp [*]; done)), H', ⟨by have := HJ1.out; have := HJ5.out; first | omega | exact Nat.le_refl _⟩, ⟨by repeat (first | (with_reducible first | exact HB.out | apply below_alloc | apply pw_below_drewN | apply below_drew1) | exact HB.out)⟩⟩
          case rest =>
            clear HC9
            try clear c1
            try clear c2
            try clear p2
            try clear c3
            try clear c3b0
            try clear c3b1
            try clear c4
            try clear c4b0
            try clear c4b1
            try clear p5
            try clear q5
            try clear hx5
            try clear qi5
            try clear c7
            try clear c8
            try clear c8b0
            try clear c8b1
            try clear c10
            try clear c10b0
            try clear c10b1
            try clear p2
            try clear p5
            try clear q5
            obtain ⟨kq, x26_8, rfl, HA, HJ8, HB⟩ := hcut
            cases kq with
            | zero => exact absurd HA.out (by simp [whirligigref01_Number.j2])
            | succ kj8 =>
              have H := HA.out
              clear HA
              simp only [whirligigref01_Number.j2] at H
              by_cases c11 : x26_8 = true
              · subst c11
                have H1 : (some (0, false)) = some (r1, r2) := by rw [if_pos rfl] at H; exact H
                clear H
                have H := H1
                clear H1
                simp only [Option.some.injEq, Prod.mk.injEq] at H
                obtain ⟨rfl, rfl⟩ := H
                go_wp2
                go_ret2
                exact ⟨by first | rfl | (simp [errW_none, errW_some] <;> rfl) | (simp [*, errW_none, errW_some] <;> rfl), by repeat (first | (with_reducible first | exact HB.out | apply below_alloc | apply pw_below_drewN | apply below_drew1) | exact HB.out)⟩
              · replace c11 := Bool.eq_false_iff.mpr c11
                subst c11
                have H1 : (whirligigref01_Number.l0 kj8 a0 x4_5 0 0) = some (r1, r2) := by rw [if_neg (show ¬ (false = true) by decide)] at H; exact H
                clear H
                have H := H1
                clear H1
                have H' := Aside0.mk H
                clear H
                go_wp2
                go_loopg [5, 6] kj8 (fun kq v5 v6 w' => ∃ (x5_4 : Int) (x6_4 : Int), v5 = .int .i64 x5_4 ∧ v6 = .int .i64 x6_4 ∧ Aside0 (whirligigref01_Number.l0 kq a0 x4_5 x5_4 x6_4 = some (r1, r2)) ∧ Aside0 (kq ≤ kj8) ∧ Aside0 (Below w.heap.size w w'))
                case atStart => exact ⟨(0), (0), (by first | rfl | (simp; done) | (simp [*]; done)), (by first | rfl | (simp; done) | (simp [*]; done)), H', ⟨Nat.le_refl _⟩, ⟨by repeat (first | (with_reducible first | exact HB.out | apply below_alloc | apply pw_below_drewN | apply below_drew1) | exact HB.out)⟩⟩
                case round =>
                  clear H'
                  try clear c1
                  try clear c2
                  try clear p2
                  try clear c3
                  try clear c3b0
                  try clear c3b1
                  try clear c4
                  try clear c4b0
                  try clear c4b1
                  try clear p5
                  try clear q5
                  try clear hx5
                  try clear qi5
                  try clear c7
                  try clear c8
                  try clear c8b0
                  try clear c8b1
                  try clear c10
                  try clear c10b0
                  try clear c10b1
                  try clear c11
                  try clear p2
                  try clear p5
                  try clear q5
                  obtain ⟨x5_4, x6_4, rfl, rfl, HA, HK4, HB⟩ := hrel
                  cases gk with
                  | zero => exact absurd HA.out (by simp [whirligigref01_Number.l0])
                  | succ k4 =>
                    have H := HA.out
                    clear HA
                    simp only [whirligigref01_Number.l0] at H
                    by_cases c12 : x6_4 < (x4_5.size : Int)
                    · rw [if_pos c12] at H
                      have c12b0 : decide (x6_4 < (x4_5.size : Int)) = true := decide_eq_true c12
                      clear c12
                      have HC13 := Aside0.mk H
                      clear H
                      go_upto_region 10 with (fail)
                      go_cut [42] (fun v42 wc => ∃ (kq : Nat) (x42_12 : Bool), v42 = .bool x42_12 ∧ Aside0 (whirligigref01_Number.j4 kq a0 x4_5 x5_4 x6_4 x42_12 = some (r1, r2)) ∧ Aside0 (kq ≤ k4) ∧ Aside0 (Below w.heap.size w wc))
                      case first =>
                        have H := HC13.out
                        clear HC13
                        by_cases c14 : 0 ≤ x6_4
                        · rw [if_pos c14] at H
                          have c14b0 : decide (0 ≤ x6_4) = true := decide_eq_true c14
                          clear c14
                          (first | rw [c14b0] | (simp only [i64_w, i32_w]; rw [c14b0]) | skip)
                          by_cases c16 : (bt x4_5 x6_4) < 48
                          · rw [if_pos c16] at H
                            have c16b0 : decide ((bt x4_5 x6_4) < 48) = true := decide_eq_true c16
                            clear c16
                            have H' := Aside0.mk H
                            clear H
                            have p15 : 0 ≤ (x6_4 : Int) := of_decide_eq_true (by first | (with_reducible assumption) | assumption)
                            have q15 : x6_4 < (x4_5.size : Int) := of_decide_eq_true (by first | (with_reducible assumption) | assumption)
                            have hx15 := bt_at x4_5 x6_4
                            replace p15 := eq_true p15
                            replace q15 := eq_true q15
                            go_wp2
                            go_meet
                            case rel => exact ⟨_, (true), (by first | rfl | (simp; done) | (simp [*]; done)), H', ⟨by have := HJ1.out; have := HJ5.out; have := HJ8.out; have := HK4.out; first | omega | exact Nat.le_refl _⟩, ⟨by repeat (first | (with_reducible first | exact HB.out | apply below_alloc | apply pw_below_drewN | apply below_drew1) | exact HB.out)⟩⟩
                          · rw [if_neg c16] at H
                            have c16b0 : decide ((bt x4_5 x6_4) < 48) = false := decide_eq_false c16
                            clear c16
                            have H' := Aside0.mk H
                            clear H
                            have p15 : 0 ≤ (x6_4 : Int) := of_decide_eq_true (by first | (with_reducible assumption) | assumption)
                            have q15 : x6_4 < (x4_5.size : Int) := of_decide_eq_true (by first | (with_reducible assumption) | assumption)
                            have hx15 := bt_at x4_5 x6_4
                            replace p15 := eq_true p15
                            replace q15 := eq_true q15
                            have p17 : 0 ≤ (x6_4 : Int) := of_decide_eq_true (by first | (with_reducible assumption) | assumption)
                            have q17 : x6_4 < (x4_5.size : Int) := of_decide_eq_true (by first | (with_reducible assumption) | assumption)
                            have hx17 := bt_at x4_5 x6_4
                            replace p17 := eq_true p17
                            replace q17 := eq_true q17
                            go_wp2
                            go_meet
                            case rel => exact ⟨_, (decide ((bt x4_5 x6_4) > 57)), (by first | rfl | (simp; done) | (simp [*]; done)), H', ⟨by have := HJ1.out; have := HJ5.out; have := HJ8.out; have := HK4.out; first | omega | exact Nat.le_refl _⟩, ⟨by repeat (first | (with_reducible first | exact HB.out | apply below_alloc | apply pw_below_drewN | apply below_drew1) | exact HB.out)⟩⟩
                        · rw [if_neg c14] at H
                          exact absurd H (by simp)
                      case rest =>
                        clear HC13
                        try clear c1
                        try clear p1
                        try clear q1
                        try clear hx1
                        try clear c2
                        try clear p2
                        try clear c3
                        try clear c3b0
                        try clear c3b1
                        try clear c4
                        try clear c4b0
                        try clear c4b1
                        try clear p5
                        try clear q5
                        try clear hx5
                        try clear qi5
                        try clear c7
                        try clear c8
                        try clear c8b0
                        try clear c8b1
                        try clear c10
                        try clear c10b0
                        try clear c10b1
                        try clear c11
                        try clear c12
                        try clear c12b0
                        try clear c14
                        try clear c14b0
                        try clear p15
                        try clear q15
                        try clear hx15
                        try clear c16
                        try clear c16b0
                        try clear p17
                        try clear q17
                        try clear hx17
                        try clear p15
                        try clear p17
                        try clear p2
                        try clear p5
                        try clear q15
                        try clear q17
                        try clear q5
                        obtain ⟨kq, x42_12, rfl, HA, HJ12, HB⟩ := hcut
                        cases kq with
                        | zero => exact absurd HA.out (by simp [whirligigref01_Number.j4])
                        | succ kj12 =>
                          have H := HA.out
                          clear HA
                          simp only [whirligigref01_Number.j4] at H
                          by_cases c18 : x42_12 = true
                          · subst c18
                            have H1 : (some (0, false)) = some (r1, r2) := by rw [if_pos rfl] at H; exact H
                            clear H
                            have H := H1
                            clear H1
                            simp only [Option.some.injEq, Prod.mk.injEq] at H
                            obtain ⟨rfl, rfl⟩ := H
                            go_wp2
                            go_ret2
                            exact ⟨by first | rfl | (simp [errW_none, errW_some] <;> rfl) | (simp [*, errW_none, errW_some] <;> rfl), by repeat (first | (with_reducible first | exact HB.out | apply below_alloc | apply pw_below_drewN | apply below_drew1) | exact HB.out)⟩
                          · replace c18 := Bool.eq_false_iff.mpr c18
                            subst c18
                            have H1 : (if 0 ≤ x6_4 then (if x6_4 < (x4_5.size : Int) then (if x5_4 < (wrap64 (Int.tdiv ((-9223372036854775808) + (((bt x4_5 x6_4) - 48) % 256)) 10)) then (some (0, false)) else (whirligigref01_Number.l0 kj12 a0 x4_5 (wrap64 ((wrap64 (10 * x5_4)) - (((bt x4_5 x6_4) - 48) % 256))) (wrap64 (x6_4 + 1)))) else (none)) else (none)) = some (r1, r2) := by rw [if_neg (show ¬ (false = true) by decide)] at H; exact H
                            clear H
                            have H := H1
                            clear H1
                            by_cases c19 : 0 ≤ x6_4
                            · rw [if_pos c19] at H
                              have c19b0 : decide (0 ≤ x6_4) = true := decide_eq_true c19
                              clear c19
                              by_cases c20 : x6_4 < (x4_5.size : Int)
                              · rw [if_pos c20] at H
                                have c20b0 : decide (x6_4 < (x4_5.size : Int)) = true := decide_eq_true c20
                                clear c20
                                by_cases c22 : x5_4 < (wrap64 (Int.tdiv ((-9223372036854775808) + (((bt x4_5 x6_4) - 48) % 256)) 10))
                                · rw [if_pos c22] at H
                                  have c22b0 : decide (x5_4 < (wrap64 (Int.tdiv ((-9223372036854775808) + (((bt x4_5 x6_4) - 48) % 256)) 10))) = true := decide_eq_true c22
                                  have c22w : decide (x5_4 < (Int.tdiv ((-9223372036854775808) + (((bt x4_5 x6_4) - 48) % 256)) 10)) = true := by rw [← wrap_tdiv]; exact c22b0
                                  clear c22
                                  simp only [Option.some.injEq, Prod.mk.injEq] at H
                                  obtain ⟨rfl, rfl⟩ := H
                                  have p21 : 0 ≤ (x6_4 : Int) := of_decide_eq_true (by first | (with_reducible assumption) | assumption)
                                  have q21 : x6_4 < (x4_5.size : Int) := of_decide_eq_true (by first | (with_reducible assumption) | assumption)
                                  have hx21 := bt_at x4_5 x6_4
                                  replace p21 := eq_true p21
                                  replace q21 := eq_true q21
                                  go_wp2
                                  go_ret2
                                  exact ⟨by first | rfl | (simp [errW_none, errW_some] <;> rfl) | (simp [*, errW_none, errW_some] <;> rfl), by repeat (first | (with_reducible first | exact HB.out | apply below_alloc | apply pw_below_drewN | apply below_drew1) | exact HB.out)⟩
                                · rw [if_neg c22] at H
                                  have c22b0 : decide (x5_4 < (wrap64 (Int.tdiv ((-9223372036854775808) + (((bt x4_5 x6_4) - 48) % 256)) 10))) = false := decide_eq_false c22
                                  have c22w : decide (x5_4 < (Int.tdiv ((-9223372036854775808) + (((bt x4_5 x6_4) - 48) % 256)) 10)) = false := by rw [← wrap_tdiv]; exact c22b0
                                  clear c22
                                  have H' := Aside0.mk H
                                  clear H
                                  have p21 : 0 ≤ (x6_4 : Int) := of_decide_eq_true (by first | (with_reducible assumption) | assumption)
                                  have q21 : x6_4 < (x4_5.size : Int) := of_decide_eq_true (by first | (with_reducible assumption) | assumption)
                                  have hx21 := bt_at x4_5 x6_4
                                  replace p21 := eq_true p21
                                  replace q21 := eq_true q21
                                  go_wp2
                                  go_roundg kj12
                                  case measure => have := HJ1.out; have := HJ5.out; have := HJ8.out; have := HK4.out; have := HJ12.out; omega
                                  case rel => exact ⟨(wrap64 ((wrap64 (10 * x5_4)) - (((bt x4_5 x6_4) - 48) % 256))), (wrap64 (x6_4 + 1)), (by first | rfl | (simp; done) | (simp [*]; done)), (by first | rfl | (simp; done) | (simp [*]; done)), H', ⟨by have := HJ1.out; have := HJ5.out; have := HJ8.out; have := HK4.out; have := HJ12.out; omega⟩, ⟨by repeat (first | (with_reducible first | exact HB.out | apply below_alloc | apply pw_below_drewN | apply below_drew1) | exact HB.out)⟩⟩
                              · rw [if_neg c20] at H
                                exact absurd H (by simp)
                            · rw [if_neg c19] at H
                              exact absurd H (by simp)
                    · rw [if_neg c12] at H
                      have c12b0 : decide (x6_4 < (x4_5.size : Int)) = false := decide_eq_false c12
                      clear c12
                      by_cases c23 : (x4_5.size : Int) = (a0.size : Int)
                      · rw [if_pos c23] at H
                        have c23b0 : ((x4_5.size : Int) == (a0.size : Int)) = true := beq_iff_eq.mpr c23
                        have c23b1 : ((x4_5.size : Int) != (a0.size : Int)) = false := bne_eq_false_iff_eq.mpr c23
                        have c23b2 : (x4_5.size == a0.size) = true := by first | simpa using c23 | (simp at c23 ⊢; omega)
                        clear c23
                        by_cases c24 : x5_4 = (-9223372036854775808)
                        · rw [if_pos c24] at H
                          have c24b0 : (x5_4 == (-9223372036854775808)) = true := beq_iff_eq.mpr c24
                          have c24b1 : (x5_4 != (-9223372036854775808)) = false := bne_eq_false_iff_eq.mpr c24
                          clear c24
                          simp only [Option.some.injEq, Prod.mk.injEq] at H
                          obtain ⟨rfl, rfl⟩ := H
                          go_wp2
                          go_ret2
                          exact ⟨by first | rfl | (simp [errW_none, errW_some] <;> rfl) | (simp [*, errW_none, errW_some] <;> rfl), by repeat (first | (with_reducible first | exact HB.out | apply below_alloc | apply pw_below_drewN | apply below_drew1) | exact HB.out)⟩
                        · rw [if_neg c24] at H
                          have c24b0 : (x5_4 == (-9223372036854775808)) = false := beq_eq_false_iff_ne.mpr c24
                          have c24b1 : (x5_4 != (-9223372036854775808)) = true := bne_iff_ne.mpr c24
                          replace H := Option.bind_eq_some_iff.mp H
                          obtain ⟨t112, A250, H⟩ := H
                          replace H : (some (wrap64 (-x5_4), (t112.toList == a0.toList))) = some (r1, r2) := H
                          have A25 := Aside0.mk A250
                          clear A250
                          simp only [Option.some.injEq, Prod.mk.injEq] at H
                          obtain ⟨rfl, rfl⟩ := H
                          go_wp2_with (first | ((with_reducible refine gate_callee (f := 31) rfl ?_); refine goesL_ (some 68) rfl rfl Tryd.func31 (by kernel_rfl) rfl #[.int .i64 (wrap64 (-x5_4))] rfl (by (try simp only [List.map_toArray, List.map_cons, List.map_nil]); first | done | rfl | (simp only [List.length_drop, List.length_take]; rfl)) ?_; (with_reducible refine (whirligigref01_Digits.calls k4 (wrap64 (-x5_4)) t112 _ A25.out).mono ?_); rintro e w26 ⟨rfl, hb⟩; refine ⟨_, rfl, ?_⟩; have n0_ := Aside0.mk (below_step (by repeat (first | (with_reducible first | exact HB.out | apply below_alloc | apply pw_below_drewN | apply below_drew1) | exact HB.out)) hb); clear HB; have HB := n0_; clear n0_; (try clear hb); (try clear hb2); (try clear hk); (try clear hi)))
                          go_ret2
                          exact ⟨by first | rfl | (simp [errW_none, errW_some] <;> rfl) | (simp [*, errW_none, errW_some] <;> rfl), by repeat (first | (with_reducible first | exact HB.out | apply below_alloc | apply pw_below_drewN | apply below_drew1) | exact HB.out)⟩
                      · rw [if_neg c23] at H
                        have c23b0 : ((x4_5.size : Int) == (a0.size : Int)) = false := beq_eq_false_iff_ne.mpr c23
                        have c23b1 : ((x4_5.size : Int) != (a0.size : Int)) = true := bne_iff_ne.mpr c23
                        have c23b2 : (x4_5.size == a0.size) = false := by first | simpa using c23 | (simp at c23 ⊢; omega)
                        replace H := Option.bind_eq_some_iff.mp H
                        obtain ⟨t113, A270, H⟩ := H
                        replace H : (some (x5_4, (t113.toList == a0.toList))) = some (r1, r2) := H
                        have A27 := Aside0.mk A270
                        clear A270
                        simp only [Option.some.injEq, Prod.mk.injEq] at H
                        obtain ⟨rfl, rfl⟩ := H
                        go_wp2_with (first | ((with_reducible refine gate_callee (f := 31) rfl ?_); refine goesL_ (some 68) rfl rfl Tryd.func31 (by kernel_rfl) rfl #[.int .i64 x5_4] rfl (by (try simp only [List.map_toArray, List.map_cons, List.map_nil]); first | done | rfl | (simp only [List.length_drop, List.length_take]; rfl)) ?_; (with_reducible refine (whirligigref01_Digits.calls k4 x5_4 t113 _ A27.out).mono ?_); rintro e w28 ⟨rfl, hb⟩; refine ⟨_, rfl, ?_⟩; have n0_ := Aside0.mk (below_step (by repeat (first | (with_reducible first | exact HB.out | apply below_alloc | apply pw_below_drewN | apply below_drew1) | exact HB.out)) hb); clear HB; have HB := n0_; clear n0_; (try clear hb); (try clear hb2); (try clear hk); (try clear hi)))
                        go_ret2
                        exact ⟨by first | rfl | (simp [errW_none, errW_some] <;> rfl) | (simp [*, errW_none, errW_some] <;> rfl), by repeat (first | (with_reducible first | exact HB.out | apply below_alloc | apply pw_below_drewN | apply below_drew1) | exact HB.out)⟩

end Go.Proofs.YtbbdlcmcndhhkaaDoor.MValReckons
