/- Sets of numbers from 0 to 63, plain: the bits of a number, the lowest and the highest one, one less. -/
import Derived.Laws.BitsAllLaws
import Derived.Lib.BitFns
import Derived.Test.YtimodbkfjaknhaaDoorWMore
namespace Go.Proofs.YtimodbkfjaknhaaDoor.BPlain
open Go Go.RowKit Go.Proofs
set_option linter.unusedVariables false
/-- The numbers of f bits of s, the first one n, rising. -/
def els : Nat → Nat → Nat → List Int
  | 0, _, _ => []
  | f + 1, n, s => (if s % 2 = 1 then [(n : Int)] else []) ++ els f (n + 1) (s / 2)
/-- A set's numbers, rising. -/
def lst (s : Nat) : List Int := els 64 0 s
theorem els_zero : ∀ f n, els f n 0 = []
  | 0, _ => rfl
  | f + 1, n => by
    rw [els, if_neg (by decide)]
    exact els_zero f (n + 1)
theorem els_length : ∀ f n s, (els f n s).length ≤ f
  | 0, _, _ => Nat.le_refl _
  | f + 1, n, s => by
    have := els_length f (n + 1) (s / 2)
    rw [els, List.length_append]
    split <;> simp <;> omega
theorem els_mem : ∀ f n s x, x ∈ els f n s → ∃ k : Nat, x = (n + k : Nat) ∧ k < f ∧ s.testBit k = true
  | f + 1, n, s, x, h => by
    rw [els, List.mem_append] at h
    rcases h with h | h
    · split at h
      · rename_i hs
        exact ⟨0, by simpa using h, Nat.succ_pos _, by rw [Nat.testBit_zero]; exact decide_eq_true hs⟩
      · cases h
    · obtain ⟨k, hx, hk, hb⟩ := els_mem f (n + 1) (s / 2) x h
      exact ⟨k + 1, by rw [hx]; congr 1; omega, by omega, by rw [Nat.testBit_succ]; exact hb⟩
theorem mem_els : ∀ f n s k, k < f → s.testBit k = true → ((n + k : Nat) : Int) ∈ els f n s
  | f + 1, n, s, 0, _, hb => by
    rw [Nat.testBit_zero] at hb
    rw [els, if_pos (of_decide_eq_true hb)]
    simp
  | f + 1, n, s, k + 1, hk, hb => by
    rw [els, List.mem_append]
    right
    have := mem_els f (n + 1) (s / 2) k (by omega) (by rw [← Nat.testBit_succ]; exact hb)
    rwa [show n + 1 + k = n + (k + 1) by omega] at this
theorem low : ∀ s : Nat, 0 < s → ∃ k m, s = 2 ^ k * (2 * m + 1) := by
  intro s
  induction s using Nat.strongRecOn with
  | ind s ih =>
    intro h
    by_cases h2 : s % 2 = 1
    · exact ⟨0, s / 2, by omega⟩
    · obtain ⟨k, m, e⟩ := ih (s / 2) (by omega) (by omega)
      refine ⟨k + 1, m, ?_⟩
      have : s = 2 * (s / 2) := by omega
      rw [this, e, Nat.pow_succ]
      generalize 2 ^ k = P
      generalize 2 * m + 1 = q
      rw [Nat.mul_comm P 2, Nat.mul_assoc]
theorem els_low : ∀ (k f n m : Nat), k < f → els f n (2 ^ k * (2 * m + 1)) = ((n + k : Nat) : Int) :: els f n (2 ^ k * (2 * m))
  | 0, f + 1, n, m, _ => by
    rw [Nat.pow_zero, Nat.one_mul, Nat.one_mul, els, els, if_pos (by omega), if_neg (by omega), show (2 * m + 1) / 2 = m by omega, show 2 * m / 2 = m by omega]
    rfl
  | k + 1, f + 1, n, m, h => by
    have e1 : 2 ^ (k + 1) * (2 * m + 1) = 2 * (2 ^ k * (2 * m + 1)) := by rw [Nat.pow_succ, Nat.mul_comm (2 ^ k) 2, Nat.mul_assoc]
    have e2 : 2 ^ (k + 1) * (2 * m) = 2 * (2 ^ k * (2 * m)) := by rw [Nat.pow_succ, Nat.mul_comm (2 ^ k) 2, Nat.mul_assoc]
    rw [e1, e2, els, els, if_neg (by omega), if_neg (by omega), Nat.mul_div_cancel_left _ (by decide), Nat.mul_div_cancel_left _ (by decide), List.nil_append, List.nil_append, els_low k f (n + 1) m (by omega)]
    congr 2
    omega
theorem low_lt {k m : Nat} (h : 2 ^ k * (2 * m + 1) < 18446744073709551616) : k < 64 := by
  rcases Nat.lt_or_ge k 64 with h1 | h1
  · exact h1
  · have h2 : 2 ^ 64 ≤ 2 ^ k := Nat.pow_le_pow_right (by decide) h1
    have h3 : 2 ^ k * 1 ≤ 2 ^ k * (2 * m + 1) := Nat.mul_le_mul_left _ (by omega)
    have h4 : (2 : Nat) ^ 64 = 18446744073709551616 := by decide
    omega
theorem odd_and_even (m i : Nat) : ((2 * m + 1).testBit i && (2 * m).testBit i) = (2 * m).testBit i := by
  cases i with
  | zero => rw [Nat.testBit_zero, Nat.testBit_zero]; simp
  | succ i => rw [Nat.testBit_succ, Nat.testBit_succ, show (2 * m + 1) / 2 = m by omega, show 2 * m / 2 = m by omega, Bool.and_self]
/-- A number and one less have its bits but the lowest one. -/
theorem and_pred (k m : Nat) : (2 ^ k * (2 * m + 1)) &&& (2 ^ k * (2 * m + 1) - 1) = 2 ^ k * (2 * m) := by
  have hp : 0 < 2 ^ k := Nat.pow_pos (by decide)
  have e : 2 ^ k * (2 * m + 1) - 1 = 2 ^ k * (2 * m) + (2 ^ k - 1) := by rw [Nat.mul_add, Nat.mul_one]; omega
  apply Nat.eq_of_testBit_eq
  intro j
  rw [Nat.testBit_and, e, Nat.testBit_two_pow_mul_add _ (by omega), Nat.testBit_two_pow_mul, Nat.testBit_two_pow_mul]
  by_cases hj : j < k
  · rw [if_pos hj, decide_eq_false (by omega)]
    rfl
  · rw [if_neg hj, decide_eq_true (by omega), Bool.true_and, Bool.true_and, odd_and_even]
/-- A number and its negative have its lowest bit. -/
theorem and_neg (k m : Nat) (h : 2 ^ k * (2 * m + 1) < 18446744073709551616) : (2 ^ k * (2 * m + 1)) &&& (18446744073709551616 - 2 ^ k * (2 * m + 1)) = 2 ^ k := by
  have hk := low_lt h
  have hp : 0 < 2 ^ k := Nat.pow_pos (by decide)
  have e64 : (18446744073709551616 : Nat) = 2 ^ k * (2 * 2 ^ (63 - k)) := by
    rw [Nat.mul_comm 2, ← Nat.pow_succ, ← Nat.pow_add, show k + Nat.succ (63 - k) = 64 by omega]
  have hm : m < 2 ^ (63 - k) := by
    rw [e64] at h
    have := Nat.lt_of_mul_lt_mul_left h
    omega
  have e : 18446744073709551616 - 2 ^ k * (2 * m + 1) = 2 ^ k * (2 * (2 ^ (63 - k) - (m + 1)) + 1) := by
    rw [e64, ← Nat.mul_sub]
    congr 1
    omega
  rw [e]
  apply Nat.eq_of_testBit_eq
  intro j
  have e1 : 2 ^ k = 2 ^ k * 1 := (Nat.mul_one _).symm
  rw [Nat.testBit_and, Nat.testBit_two_pow_mul, Nat.testBit_two_pow_mul]
  conv => rhs; rw [e1, Nat.testBit_two_pow_mul]
  by_cases hj : j < k
  · rw [decide_eq_false (by omega)]
    rfl
  · rw [decide_eq_true (by omega), Bool.true_and, Bool.true_and, Bool.true_and]
    generalize j - k = i
    cases i with
    | zero => rw [Nat.testBit_zero, Nat.testBit_zero, Nat.testBit_zero]; simp
    | succ i =>
      rw [Nat.testBit_succ, Nat.testBit_succ, Nat.testBit_succ, show (2 * m + 1) / 2 = m by omega, show (2 * (2 ^ (63 - k) - (m + 1)) + 1) / 2 = 2 ^ (63 - k) - (m + 1) by omega, Nat.testBit_two_pow_sub_succ hm, show 1 / 2 = 0 by rfl, Nat.zero_testBit]
      cases m.testBit i <;> simp
/-- The table of the lowest bit's place. -/
def tz : List Nat := [0, 1, 56, 2, 57, 49, 28, 3, 61, 58, 42, 50, 38, 29, 17, 4, 62, 47, 59, 36, 45, 43, 51, 22, 53, 39, 33, 30, 24, 18, 12, 5, 63, 55, 48, 27, 60, 41, 37, 16, 46, 35, 44, 21, 52, 32, 23, 11, 54, 26, 40, 15, 34, 20, 31, 10, 25, 14, 19, 9, 13, 8, 7, 6]
def at_ (k : Nat) : Nat := 2 ^ k * 285870213051353865 % 18446744073709551616 / 288230376151711744
theorem tz_at : ∀ k < 64, at_ k < 64 ∧ tz.getD (at_ k) 0 = k := by decide +kernel
end Go.Proofs.YtimodbkfjaknhaaDoor.BPlain
