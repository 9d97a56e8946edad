/- Bits of texts that are turned round, plain. -/
import Derived.Test.YtlbplbbkljjnnaaDoorCrc
namespace Go.Proofs.YtlbplbbkljjnnaaDoor.Flip
set_option linter.unusedSimpArgs false
open Crc
/-- A byte with one bit turned round. -/
def flipB (c : UInt8) (t : Nat) : UInt8 := UInt8.ofNat (c.toNat ^^^ 2 ^ t)
theorem pow8 (t : Nat) (ht : t < 8) : 2 ^ t < 256 := Nat.pow_lt_pow_right (m := t) (n := 8) (by decide) ht
theorem flipB_toNat (c : UInt8) (t : Nat) (ht : t < 8) : (flipB c t).toNat = c.toNat ^^^ 2 ^ t := by
  unfold flipB
  rw [UInt8.toNat_ofNat', Nat.mod_eq_of_lt]
  exact Nat.xor_lt_two_pow (n := 8) c.toNat_lt (pow8 t ht)
theorem byteW_bit (c : UInt8) (j : Nat) (hj : j < 8) : (byteW c).getLsbD j = c.toNat.testBit j := by
  unfold byteW
  rw [BitVec.getLsbD_ofNat, decide_eq_true (by omega : j < 32), Bool.true_and]
/-- A text with one bit turned round. -/
def flip (l : List UInt8) (q : Nat) : List UInt8 := l.set (q / 8) (flipB (l.getD (q / 8) 0) (q % 8))
theorem flip_length (l : List UInt8) (q : Nat) : (flip l q).length = l.length := by unfold flip; rw [List.length_set]
theorem flip_bits (l : List UInt8) (q : Nat) (hq : q < 8 * l.length) (k : Nat) (hk : k < 8 * l.length) : (allBits (flip l q))[k]? = (allBits l)[k]?.map fun b => b ^^ decide (k = q) := by
  rw [allBits_get _ _ (by rw [flip_length]; exact hk), allBits_get _ _ hk]
  unfold flip
  have hkl : k / 8 < l.length := by omega
  have hql : q / 8 < l.length := by omega
  have hm : k % 8 < 8 := Nat.mod_lt _ (by omega)
  by_cases e : q / 8 = k / 8
  · rw [e, List.getElem?_set_self hkl, List.getElem?_eq_getElem hkl, List.getD_eq_getElem?_getD, List.getElem?_eq_getElem hkl]
    simp only [Option.map_some, Option.getD_some]
    rw [byteW_bit _ _ hm, byteW_bit _ _ hm, flipB_toNat _ _ (Nat.mod_lt _ (by omega)), Nat.testBit_xor, Nat.testBit_two_pow]
    congr 2
    apply decide_eq_decide.2
    omega
  · rw [List.getElem?_set_ne e, List.getElem?_eq_getElem hkl]
    have : decide (k = q) = false := decide_eq_false (fun h => e (by rw [h]))
    simp [this]
/-- A text whose bits from p on are turned round where f has a bit, i places of them. -/
def flips (l : List UInt8) (p : Nat) (f : W) : Nat → List UInt8
  | 0 => l
  | i + 1 => if f.getLsbD i then flip (flips l p f i) (p + i) else flips l p f i
theorem flips_length (l : List UInt8) (p : Nat) (f : W) : ∀ i, (flips l p f i).length = l.length
  | 0 => rfl
  | i + 1 => by
    unfold flips
    split
    · rw [flip_length, flips_length l p f i]
    · exact flips_length l p f i
theorem flips_bits (l : List UInt8) (p : Nat) (f : W) : ∀ i, p + i ≤ 8 * l.length → ∀ k, k < 8 * l.length →
    (allBits (flips l p f i))[k]? = (allBits l)[k]?.map fun b => (b ^^ (decide (p ≤ k) && decide (k < p + i) && f.getLsbD (k - p)))
  | 0, hi, k, hk => by
    have e : (fun b : Bool => (b ^^ (decide (p ≤ k) && decide (k < p + 0) && f.getLsbD (k - p)))) = id := by
      funext b
      have : (decide (p ≤ k) && decide (k < p + 0)) = false := by
        by_cases h : p ≤ k
        · have h2 : decide (k < p + 0) = false := decide_eq_false (by omega)
          rw [h2, Bool.and_false]
        · rw [decide_eq_false h, Bool.false_and]
      rw [this, Bool.false_and, Bool.xor_false]
      rfl
    rw [e, Option.map_id]
    rfl
  | i + 1, hi, k, hk => by
    have ih := flips_bits l p f i (by omega) k hk
    unfold flips
    by_cases hf : f.getLsbD i = true
    · rw [if_pos hf, flip_bits _ _ (by rw [flips_length]; omega) _ (by rw [flips_length]; exact hk), ih, Option.map_map]
      congr 1
      funext b
      simp only [Function.comp]
      by_cases e : k = p + i
      · subst e
        have h1 : ¬ p + i < p + i := by omega
        simp [hf]
      · have : decide (k < p + (i + 1)) = decide (k < p + i) := decide_eq_decide.2 (by omega)
        rw [this]
        simp [e]
    · rw [if_neg hf, ih]
      congr 1
      funext b
      by_cases e : k = p + i
      · subst e
        simp only [Bool.not_eq_true] at hf
        simp [hf]
      · have : decide (k < p + (i + 1)) = decide (k < p + i) := decide_eq_decide.2 (by omega)
        rw [this]
theorem flips_ne (l : List UInt8) (p : Nat) (f : W) (hp : p + 32 ≤ 8 * l.length) (hf : f ≠ 0#32) : of (flips l p f 32) ≠ of l :=
  burst (flips_length l p f 32).symm p 32 f hp hf (BitVec.ushiftRight_eq_zero (Nat.le_refl _)) (flips_bits l p f 32 hp)
theorem flip_ne (l : List UInt8) (q : Nat) (hq : q < 8 * l.length) : of (flip l q) ≠ of l := by
  refine burst (flip_length l q).symm q 1 1#32 (by omega) (by decide) (by decide) fun k hk => ?_
  rw [flip_bits l q hq k hk]
  congr 1
  funext b
  by_cases e : k = q
  · subst e; simp
  · have : decide (k = q) = false := decide_eq_false e
    rw [this]
    by_cases h1 : q ≤ k
    · have h2 : ¬ k < q + 1 := by omega
      simp [h2]
    · simp [h1]
end Go.Proofs.YtlbplbbkljjnnaaDoor.Flip
