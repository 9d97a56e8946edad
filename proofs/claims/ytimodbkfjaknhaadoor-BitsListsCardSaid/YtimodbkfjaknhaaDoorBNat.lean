/- Sets as numbers: what is taken away, joined and met, bit by bit. -/
import Derived.Laws.BitsAllLaws
import Derived.Test.YtimodbkfjaknhaaDoorBOnes
namespace Go.Proofs.YtimodbkfjaknhaaDoor.BPlain
open Go Go.RowKit Go.Proofs
set_option linter.unusedVariables false
def nl (a b : Nat) : Nat := a &&& (18446744073709551615 - b)
theorem nl_lt (a b : Nat) (h : a < 18446744073709551616) : nl a b < 18446744073709551616 := Nat.lt_of_le_of_lt Nat.and_le_left h
theorem and_lt (a b : Nat) (h : a < 18446744073709551616) : a &&& b < 18446744073709551616 := Nat.lt_of_le_of_lt Nat.and_le_left h
theorem or_lt (a b : Nat) (h : a < 18446744073709551616) (hb : b < 18446744073709551616) : a ||| b < 18446744073709551616 := Nat.or_lt_two_pow (n := 64) h hb
theorem nl_bit (a b i : Nat) (hb : b < 18446744073709551616) : (nl a b).testBit i = (a.testBit i && (decide (i < 64) && !b.testBit i)) := by
  have h := Nat.testBit_two_pow_sub_succ (n := 64) (x := b) hb i
  rw [show 2 ^ 64 - (b + 1) = 18446744073709551615 - b by omega] at h
  rw [nl, Nat.testBit_and, h]
theorem top (a i : Nat) (h : a < 18446744073709551616) (hi : ¬ i < 64) : a.testBit i = false :=
  Nat.testBit_lt_two_pow (Nat.lt_of_lt_of_le h (Nat.pow_le_pow_right (n := 2) (by decide) (show 64 ≤ i by omega)))
theorem law1 (s t u : Nat) (hu : u < 18446744073709551616) : nl (s ||| t) u = nl s u ||| nl t u := by
  apply Nat.eq_of_testBit_eq
  intro i
  rw [Nat.testBit_or, nl_bit _ _ _ hu, nl_bit _ _ _ hu, nl_bit _ _ _ hu, Nat.testBit_or]
  cases s.testBit i <;> cases t.testBit i <;> simp
theorem law2 (s t : Nat) (hs : s < 18446744073709551616) (ht : t < 18446744073709551616) : (s &&& t) ||| nl s t = s := by
  apply Nat.eq_of_testBit_eq
  intro i
  rw [Nat.testBit_or, nl_bit _ _ _ ht, Nat.testBit_and]
  by_cases hi : i < 64
  · cases s.testBit i <;> cases t.testBit i <;> simp [hi]
  · rw [top s i hs hi]; simp
theorem nl_zero (s t : Nat) (ht : t < 18446744073709551616) : (∀ i, s.testBit i = true → t.testBit i = true) → nl s t = 0 := by
  intro h
  apply Nat.eq_of_testBit_eq
  intro i
  rw [nl_bit _ _ _ ht, Nat.zero_testBit]
  cases hs : s.testBit i
  · simp
  · simp [h i hs]
theorem law3 (s t : Nat) (hs : s < 18446744073709551616) : nl (s &&& t) s = 0 :=
  nl_zero _ _ hs fun i h => by rw [Nat.testBit_and] at h; exact (by simpa using h : _ ∧ _).1
theorem law4 (s t u : Nat) (hs : s < 18446744073709551616) (ht : t < 18446744073709551616) (hu : u < 18446744073709551616) : nl s (s ||| t ||| u) = 0 :=
  nl_zero _ _ (or_lt _ _ (or_lt _ _ hs ht) hu) fun i h => by rw [Nat.testBit_or, Nat.testBit_or, h]; rfl
theorem law5 (s t : Nat) (hs : s < 18446744073709551616) (ht : t < 18446744073709551616) : ((cnt 64 (s ||| t) : Nat) : Int) = wrap64 (wrap64 (((cnt 64 s : Nat) : Int) + ((cnt 64 t : Nat) : Int)) - ((cnt 64 (s &&& t) : Nat) : Int)) := by
  have h := cnt_or_and 64 s t
  have h1 := cnt_le 64 s
  have h2 := cnt_le 64 t
  have h3 := cnt_le 64 (s &&& t)
  unfold wrap64
  omega
end Go.Proofs.YtimodbkfjaknhaaDoor.BPlain
