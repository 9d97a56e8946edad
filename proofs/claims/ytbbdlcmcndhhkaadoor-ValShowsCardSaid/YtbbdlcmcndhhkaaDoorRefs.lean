/- What the reference's reckoning with numbers comes to, in closed form. -/
import Derived.Test.YtbbdlcmcndhhkaaDoorNums
import Derived.Test.YtbbdlcmcndhhkaaDoorMValReckonsx12
namespace Go.Proofs.YtbbdlcmcndhhkaaDoor.MValReckons
open Go Go.RowKit Go.Proofs.YtbbdlcmcndhhkaaDoorW.PrintWords Go.Proofs.YtbbdlcmcndhhkaaDoorW.PrintLast Go.Proofs.YtbbdlcmcndhhkaaDoorW.PrintMore
set_option linter.unusedVariables false
set_option linter.unusedSimpArgs false

theorem res_bad {v : Int} (h : ¬ InR v) : res v = (0, 0, ⟨#[]⟩, 21) := if_neg h
theorem res_ok {v : Int} (h : InR v) : res v = (1, v, ⟨#[]⟩, 0) := if_pos h
theorem some_bad {v : Int} (h : ¬ InR v) : some ((0, 0, (⟨#[]⟩ : ByteArray), 21) : Int × Int × ByteArray × Int) = some (res v) := by rw [res_bad h]
theorem some_ok {v : Int} (h : InR v) : some ((1, wrap64 v, (⟨#[]⟩ : ByteArray), 0) : Int × Int × ByteArray × Int) = some (res v) := by rw [res_ok h, wrap_in h]
theorem ref_sum {n m : Int} (hn : InR n) (hm : InR m) : whirligigref01_sum.f n m = some (res (n + m)) := by
  unfold whirligigref01_sum.f
  unfold InR at hn hm
  have h1 : m > 0 → wrap64 (9223372036854775807 - m) = 9223372036854775807 - m := fun h => wrap_in (by unfold InR; omega)
  have h2 : m < 0 → wrap64 (-9223372036854775808 - m) = -9223372036854775808 - m := fun h => wrap_in (by unfold InR; omega)
  split
  · rw [h1 (by assumption), if_neg (show ¬ m < 0 by omega)]
    split
    · exact some_bad (by unfold InR; omega)
    · exact some_ok (by unfold InR; omega)
  · split
    · rw [h2 (by assumption)]
      split
      · exact some_bad (by unfold InR; omega)
      · exact some_ok (by unfold InR; omega)
    · exact some_ok (by unfold InR; omega)
theorem ref_less {n m : Int} (hn : InR n) (hm : InR m) : whirligigref01_less.f n m = some (res (n - m)) := by
  unfold whirligigref01_less.f
  have hn' := hn
  unfold InR at hn hm
  split
  · split
    · exact some_bad (by unfold InR; omega)
    · exact some_ok (by unfold InR; omega)
  · have e : wrap64 (-m) = -m := wrap_in (by unfold InR; omega)
    rw [some_eta, e, ref_sum hn' (by unfold InR; omega), Int.sub_eq_add_neg]
theorem ref_divide {n m : Int} (hn : InR n) (hm : InR m) (b : Bool) (k : Nat) : whirligigref01_divide.f (k + 1) n m b = num (if b then 5 else 4) n m := by
  unfold whirligigref01_divide.f
  by_cases h0 : m = 0
  · subst h0; rw [if_pos rfl]; cases b
    · exact (num_div0 n).symm
    · exact (num_rem0 n).symm
  rw [if_neg h0]
  by_cases h1 : m = -1
  · subst h1
    by_cases hl : n = -9223372036854775808
    · subst hl; cases b <;> rfl
    · rw [if_neg hl]
      have hr : InR (-n) := by unfold InR at hn ⊢; omega
      have e : Int.tdiv n (-1) = -n := by rw [Int.tdiv_neg, Int.tdiv_one]
      cases b
      · rw [if_neg (by decide), num_div1 hn, res_ok hr]
        simp [whirligigref01_divide.j0, e, wrap_in hr]
      · rw [if_pos rfl, num_rem1 n]
        simp [whirligigref01_divide.j0, e, wrap_in hr, wrap_in hn, wrap_in (n := 0) (by decide), Int.mul_neg]
  · have e : (if n = -9223372036854775808 then whirligigref01_divide.j0 (k + 1) n m b (m == -1) else whirligigref01_divide.j0 (k + 1) n m b false) = whirligigref01_divide.j0 (k + 1) n m b false := by
      rw [beq_eq_false_iff_ne.2 h1]
      split <;> rfl
    rw [e]
    have hd := wrap_in (tdiv_in hn h0 h1)
    obtain ⟨ha, hb⟩ := back_in (m := m) hn
    cases b
    · rw [if_neg (by decide), num_div hn h0 h1]
      simp [whirligigref01_divide.j0, h0, hd]
    · rw [if_pos rfl, num_rem hn h0 h1]
      have hc : InR (n - n.tdiv m * m) := by
        have a : (n.tmod m).natAbs = n.natAbs % m.natAbs := Int.natAbs_tmod n m
        have := Nat.mod_lt n.natAbs (y := m.natAbs) (by omega)
        unfold InR at hm ⊢
        omega
      simp [whirligigref01_divide.j0, h0, hd, wrap_in ha, wrap_in hc]
      omega
/-! ### the product, digit by digit -/
theorem product_l0 : ∀ (j : Nat) (x y out : Int), -9223372036854775808 ≤ x → x ≤ 0 → -(2 ^ j : Nat) < y → y ≤ 0 → -9223372036854775808 ≤ y → -9223372036854775808 ≤ out → out ≤ 0 →
    whirligigref01_product.l0 (2 * j + 1) x y out = some (if -9223372036854775808 ≤ out - x * y then (1, out - x * y, ⟨#[]⟩) else (0, 0, ⟨#[]⟩))
  | 0, x, y, out, _, _, h, h', _, ho, _ => by
    have : y = 0 := by simp at h; omega
    subst this
    simp [whirligigref01_product.l0, ho]
  | j + 1, x, y, out, hx, hx', hy, hy', hyl, ho, ho' => by
    by_cases h0 : y = 0
    · subst h0
      simp [whirligigref01_product.l0, ho]
    · have hq : y = 2 * y.tdiv 2 + y.tmod 2 := (Int.mul_tdiv_add_tmod y 2).symm
      have ht : y.tmod 2 = 0 ∨ y.tmod 2 = -1 := by
        have a : (y.tmod 2).natAbs = y.natAbs % 2 := Int.natAbs_tmod y 2
        have b := Int.tmod_nonneg 2 (a := -y) (by omega)
        rw [Int.neg_tmod] at b
        omega
      have hw : wrap64 (y.tdiv 2) = y.tdiv 2 := wrap_in (by unfold InR; omega)
      have hb : -((2 ^ j : Nat) : Int) < y.tdiv 2 := by
        have : (2 ^ (j + 1) : Nat) = 2 * 2 ^ j := by rw [Nat.pow_succ, Nat.mul_comm]
        omega
      have hxy : x * y = 2 * (x * y.tdiv 2) + x * y.tmod 2 := by
        conv => lhs; rw [hq]
        rw [Int.mul_add, Int.mul_left_comm]
      have j1e : ∀ (k : Nat) (o : Int), whirligigref01_product.j1 (k + 1) x y o = if (wrap64 (Int.tdiv y 2)) = 0 then (whirligigref01_product.l0 k x (wrap64 (Int.tdiv y 2)) o) else (if x < (-4611686018427387904) then (some (0, 0, (⟨#[]⟩ : ByteArray))) else (whirligigref01_product.l0 k (wrap64 (2 * x)) (wrap64 (Int.tdiv y 2)) o)) := fun k o => by rw [whirligigref01_product.j1]
      have l0e : ∀ (k : Nat) (o : Int), whirligigref01_product.l0 (k + 1) x y o = if (Int.tmod y 2) = 0 then (whirligigref01_product.j1 k x y o) else (if o < (wrap64 ((-9223372036854775808) - x)) then (some (0, 0, (⟨#[]⟩ : ByteArray))) else (whirligigref01_product.j1 k x y (wrap64 (o + x)))) := fun k o => by rw [whirligigref01_product.l0, if_neg h0]
      rw [hw] at j1e
      generalize y.tdiv 2 = q at *
      generalize y.tmod 2 = t at *
      have hq0 : q ≤ 0 := by omega
      have hpos : 0 ≤ x * q := Int.mul_nonneg_of_nonpos_of_nonpos hx' hq0
      -- what follows the first store, at any sum so far
      have step : ∀ o : Int, -9223372036854775808 ≤ o → o ≤ 0 → whirligigref01_product.j1 (2 * j + 2) x y o = some (if -9223372036854775808 ≤ o - 2 * (x * q) then (1, o - 2 * (x * q), ⟨#[]⟩) else (0, 0, ⟨#[]⟩)) := by
        intro o h1 h2
        rw [j1e (2 * j + 1) o]
        by_cases hz : q = 0
        · rw [if_pos hz, product_l0 j x q o hx hx' (by omega) (by omega) (by omega) h1 h2]
          subst hz
          simp
        · rw [if_neg hz]
          by_cases hf : x < -4611686018427387904
          · rw [if_pos hf]
            have hm : x * q ≥ x * (-1) := Int.mul_le_mul_of_nonpos_left hx' (by omega)
            rw [if_neg (by omega)]
          · rw [if_neg hf]
            have hw2 : wrap64 (2 * x) = 2 * x := wrap_in (by unfold InR; omega)
            rw [hw2, product_l0 j (2 * x) q o (by omega) (by omega) (by omega) (by omega) (by omega) h1 h2, Int.mul_assoc]
      rw [show 2 * (j + 1) + 1 = (2 * j + 2) + 1 from by omega, l0e]
      rcases ht with rfl | rfl
      · rw [if_pos rfl, step out ho ho', hxy]
        simp
      · rw [if_neg (by decide)]
        have hw3 : wrap64 (-9223372036854775808 - x) = -9223372036854775808 - x := wrap_in (by unfold InR; omega)
        rw [hw3, hxy]
        by_cases hc : out < -9223372036854775808 - x
        · rw [if_pos hc, if_neg (by omega)]
        · rw [if_neg hc]
          have hw4 : wrap64 (out + x) = out + x := wrap_in (by unfold InR; omega)
          rw [hw4, step (out + x) (by omega) (by omega)]
          rw [show out + x - 2 * (x * q) = out - (2 * (x * q) + x * -1) from by omega]
theorem mul_signs (a b : Int) : a * b = if (decide (a < 0) == decide (b < 0)) = true then (-(a.natAbs : Int)) * (-(b.natAbs : Int)) else -((-(a.natAbs : Int)) * (-(b.natAbs : Int))) := by
  rcases Int.lt_or_le a 0 with h | h <;> rcases Int.lt_or_le b 0 with g | g
  · rw [show -(a.natAbs : Int) = a from by omega, show -(b.natAbs : Int) = b from by omega]; simp [h, g]
  · rw [show -(a.natAbs : Int) = a from by omega, show -(b.natAbs : Int) = -b from by omega, Int.mul_neg]
    simp [h, show ¬ b < 0 from by omega]
  · rw [show -(a.natAbs : Int) = -a from by omega, show -(b.natAbs : Int) = b from by omega, Int.neg_mul]
    simp [g, show ¬ a < 0 from by omega]
  · rw [show -(a.natAbs : Int) = -a from by omega, show -(b.natAbs : Int) = -b from by omega, Int.neg_mul_neg]
    simp [show ¬ a < 0 from by omega, show ¬ b < 0 from by omega]
theorem times_j2 {a b x y : Int} (ha : InR a) (hb : InR b) (hx : x = -(a.natAbs : Int)) (hy : y = -(b.natAbs : Int)) (f : Bool) (hf : f = true → ¬ InR (a * b)) :
    whirligigref01_times.j2 130 a b x y f = some (res (a * b)) := by
  unfold InR at ha hb
  rw [whirligigref01_times.j2]
  cases f with
  | true => rw [if_pos rfl]; exact some_bad (hf rfl)
  | false =>
    rw [if_neg (by decide), whirligigref01_product.f, product_l0 64 x y 0 (by omega) (by omega) (by simp; omega) (by omega) (by omega) (by omega) (by omega)]
    have hs := mul_signs a b
    rw [← hx, ← hy] at hs
    have hp : 0 ≤ x * y := Int.mul_nonneg_of_nonpos_of_nonpos (by omega) (by omega)
    generalize x * y = M at *
    by_cases hM : -9223372036854775808 ≤ 0 - M
    · rw [if_pos hM]
      simp only [Option.bind_some]
      rw [if_neg (by omega), whirligigref01_times.j3, if_neg (by decide)]
      split
      · rename_i hc
        rw [if_pos hc] at hs
        split
        · exact some_bad (by rw [hs]; unfold InR; omega)
        · rw [hs, show -(0 - M) = M from by omega]
          exact some_ok (by unfold InR; omega)
      · rename_i hc
        rw [if_neg hc] at hs
        rw [hs, res_ok (by unfold InR; omega), show 0 - M = -M from by omega]
    · rw [if_neg hM]
      simp only [Option.bind_some]
      rw [if_neg (by decide), whirligigref01_times.j3, if_pos (by decide)]
      refine some_bad ?_
      rw [hs]
      unfold InR
      split <;> omega
theorem times_j1 {a b x y : Int} (ha : InR a) (hb : InR b) (hx : x = -(a.natAbs : Int)) (hy : y = -(b.natAbs : Int)) :
    whirligigref01_times.j1 131 a b x y = some (res (a * b)) := by
  have ha' := ha
  have hb' := hb
  unfold InR at ha hb
  rw [whirligigref01_times.j1]
  split
  · exact times_j2 ha' hb' hx hy false nofun
  · rename_i h0
    obtain ⟨X, hX⟩ : ∃ X, X = -(mx x (-9223372036854775807)) := ⟨_, rfl⟩
    have hXr : 1 ≤ X ∧ X ≤ 9223372036854775807 ∧ X ≤ -x := by
      rw [hX]; unfold mx; split <;> omega
    have hw : wrap64 (-(mx x (-9223372036854775807))) = X := by rw [← hX]; exact wrap_in (by unfold InR; omega)
    rw [hw, if_neg (by omega)]
    have hd : Int.tdiv (-9223372036854775807) X = -(9223372036854775807 / X) := by
      rw [Int.neg_tdiv, Int.tdiv_eq_ediv_of_nonneg (by decide)]
    have hD0 : 0 ≤ 9223372036854775807 / X := Int.ediv_nonneg (by decide) (by omega)
    have hD1 : 9223372036854775807 / X ≤ 9223372036854775807 := Int.ediv_le_self _ (by decide)
    have hDm : 9223372036854775807 < X * (9223372036854775807 / X) + X := by
      have h1 := Int.mul_ediv_add_emod 9223372036854775807 X
      have h2 := Int.emod_lt_of_pos 9223372036854775807 (show 0 < X by omega)
      omega
    rw [hd]
    generalize 9223372036854775807 / X = D at *
    rw [wrap_in (n := -D) (by unfold InR; omega), wrap_in (n := -D - 1) (by unfold InR; omega)]
    refine times_j2 ha' hb' hx hy _ ?_
    intro hf
    have hf := of_decide_eq_true hf
    have hs := mul_signs a b
    rw [← hx, ← hy] at hs
    have h1 : X * (D + 2) ≤ X * (-y) := Int.mul_le_mul_of_nonneg_left (by omega) (by omega)
    have h2 : X * (-y) ≤ (-x) * (-y) := Int.mul_le_mul_of_nonneg_right (by omega) (by omega)
    rw [Int.neg_mul_neg] at h2
    rw [Int.mul_add] at h1
    generalize x * y = M at *
    generalize X * -y = Z at *
    generalize X * D = E at *
    rw [hs]
    unfold InR
    split <;> omega
theorem ref_times {a b : Int} (ha : InR a) (hb : InR b) : whirligigref01_times.f 132 a b = some (res (a * b)) := by
  have ha' := ha
  have hb' := hb
  unfold InR at ha hb
  have hm : ∀ n : Int, InR n → n ≠ -9223372036854775808 → mn n (wrap64 (-n)) = -(n.natAbs : Int) := by
    intro n hn h
    unfold InR at hn
    rw [wrap_in (by unfold InR; omega)]
    unfold mn
    split <;> omega
  unfold whirligigref01_times.f
  have key : ∀ x, x = -(a.natAbs : Int) → whirligigref01_times.j0 132 a b x (mn b (wrap64 (-b))) = some (res (a * b)) := by
    intro x hx
    rw [whirligigref01_times.j0]
    split
    · rename_i h; exact times_j1 ha' hb' hx (by omega)
    · rename_i h; exact times_j1 ha' hb' hx (hm b hb' h)
  split
  · exact key a (by omega)
  · rename_i h; exact key _ (hm a ha' h)
end Go.Proofs.YtbbdlcmcndhhkaaDoor.MValReckons
