/- How many bits a number has: counted one by one, and byte by byte. -/
import Derived.Laws.BitsAllLaws
import Derived.Test.YtimodbkfjaknhaaDoorBPlain
namespace Go.Proofs.YtimodbkfjaknhaaDoor.BPlain
open Go Go.RowKit Go.Proofs
set_option linter.unusedVariables false
def cnt : Nat → Nat → Nat
  | 0, _ => 0
  | f + 1, s => s % 2 + cnt f (s / 2)
theorem cnt_els : ∀ f n s, (els f n s).length = cnt f s
  | 0, _, _ => rfl
  | f + 1, n, s => by
    rw [els, cnt, List.length_append, cnt_els f (n + 1) (s / 2)]
    have : s % 2 = 0 ∨ s % 2 = 1 := by omega
    rcases this with h | h <;> simp [h]
theorem cnt_le : ∀ f s, cnt f s ≤ f
  | 0, _ => Nat.le_refl _
  | f + 1, s => by
    have := cnt_le f (s / 2)
    rw [cnt]
    omega
theorem cnt_or_and : ∀ f a b, cnt f (a ||| b) + cnt f (a &&& b) = cnt f a + cnt f b
  | 0, _, _ => rfl
  | f + 1, a, b => by
    have ih := cnt_or_and f (a / 2) (b / 2)
    have h1 : (a ||| b) / 2 = a / 2 ||| b / 2 := Nat.or_div_two
    have h2 : (a &&& b) / 2 = a / 2 &&& b / 2 := Nat.and_div_two
    have h3 : (a ||| b) % 2 + (a &&& b) % 2 = a % 2 + b % 2 := by
      have e1 := Nat.or_mod_two_eq_one (a := a) (b := b)
      have e2 := Nat.and_mod_two_eq_one (a := a) (b := b)
      omega
    rw [cnt, cnt, cnt, cnt, h1, h2]
    omega
/-- A number out of its bytes, the lowest one first. -/
def val : List Nat → Nat
  | [] => 0
  | b :: r => b + 256 * val r
theorem land_two (k a b c d : Nat) (hb : b < 2 ^ k) (hd : d < 2 ^ k) : (b + 2 ^ k * a) &&& (d + 2 ^ k * c) = (b &&& d) + 2 ^ k * (a &&& c) := by
  rw [Nat.add_comm b, Nat.add_comm d, Nat.add_comm (b &&& d)]
  have hbd : b &&& d < 2 ^ k := Nat.lt_of_le_of_lt Nat.and_le_left hb
  apply Nat.eq_of_testBit_eq
  intro j
  rw [Nat.testBit_and, Nat.testBit_two_pow_mul_add _ hb, Nat.testBit_two_pow_mul_add _ hd, Nat.testBit_two_pow_mul_add _ hbd]
  split
  · rw [Nat.testBit_and]
  · rw [Nat.testBit_and]
theorem land_byte (a b c d : Nat) (hb : b < 256) (hd : d < 256) : (b + 256 * a) &&& (d + 256 * c) = (b &&& d) + 256 * (a &&& c) := land_two 8 a b c d hb hd
theorem byte_half : ∀ b < 256, ∀ y < 2, (b / 2 + 128 * y) &&& 85 = b / 2 &&& 85 := by decide +kernel
theorem byte_quarter : ∀ b < 256, ∀ y < 4, (b / 4 + 64 * y) &&& 51 = b / 4 &&& 51 := by decide +kernel
theorem val_half (r : List Nat) : ∀ (bs : List Nat), (∀ b ∈ bs, b < 256) → (val bs / 2) &&& val (bs.map fun _ => 85) = val (bs.map fun b => b / 2 &&& 85)
  | [], _ => rfl
  | b :: bs, h => by
    have hb := h b List.mem_cons_self
    have ih := val_half r bs (fun x hx => h x (List.mem_cons_of_mem _ hx))
    have e : (b + 256 * val bs) / 2 = (b / 2 + 128 * (val bs % 2)) + 256 * (val bs / 2) := by omega
    simp only [List.map_cons, val]
    rw [e, land_byte _ _ _ _ (by omega) (by decide), ih, byte_half b hb _ (by omega)]
theorem val_quarter : ∀ (bs : List Nat), (∀ b ∈ bs, b < 256) → (val bs / 4) &&& val (bs.map fun _ => 51) = val (bs.map fun b => b / 4 &&& 51)
  | [], _ => rfl
  | b :: bs, h => by
    have hb := h b List.mem_cons_self
    have ih := val_quarter bs (fun x hx => h x (List.mem_cons_of_mem _ hx))
    have e : (b + 256 * val bs) / 4 = (b / 4 + 64 * (val bs % 4)) + 256 * (val bs / 4) := by omega
    simp only [List.map_cons, val]
    rw [e, land_byte _ _ _ _ (by omega) (by decide), ih, byte_quarter b hb _ (by omega)]
theorem val_mask (m : Nat) (hm : m < 256) : ∀ (bs : List Nat), (∀ b ∈ bs, b < 256) → val bs &&& val (bs.map fun _ => m) = val (bs.map fun b => b &&& m)
  | [], _ => by simp [val]
  | b :: bs, h => by
    have hb := h b List.mem_cons_self
    have ih := val_mask m hm bs (fun x hx => h x (List.mem_cons_of_mem _ hx))
    simp only [List.map_cons, val]
    rw [land_byte _ _ _ _ hb hm, ih]
theorem val_add (f g : Nat → Nat) : ∀ bs : List Nat, val (bs.map f) + val (bs.map g) = val (bs.map fun b => f b + g b)
  | [] => rfl
  | b :: bs => by
    have ih := val_add f g bs
    simp only [List.map_cons, val]
    omega
def s1 (b : Nat) : Nat := (b / 2 &&& 85) + (b &&& 85)
def s2 (b : Nat) : Nat := (s1 b / 4 &&& 51) + (s1 b &&& 51)
def s3 (b : Nat) : Nat := (s2 b / 16 + s2 b) &&& 15
theorem bytes_all : ∀ b < 256, s1 b < 256 ∧ s2 b < 256 ∧ s2 b % 16 ≤ 4 ∧ s2 b / 16 ≤ 4 ∧ s3 b = cnt 8 b := by decide +kernel
theorem byte_six : ∀ c < 256, c % 16 ≤ 4 → c / 16 ≤ 4 → ∀ y < 5, (c / 16 + 16 * y + c) &&& 15 = (c / 16 + c) &&& 15 := by decide +kernel
/-- Nibbles, each at most 4: the sum of each two. -/
theorem val_six : ∀ (bs : List Nat), (∀ b ∈ bs, b < 256 ∧ b % 16 ≤ 4 ∧ b / 16 ≤ 4) → (val bs / 16 + val bs) &&& val (bs.map fun _ => 15) = val (bs.map fun b => (b / 16 + b) &&& 15) ∧ val bs % 16 ≤ 4
  | [], _ => ⟨rfl, Nat.zero_le _⟩
  | b :: bs, h => by
    obtain ⟨hb, h1, h2⟩ := h b List.mem_cons_self
    obtain ⟨ih, hv⟩ := val_six bs (fun x hx => h x (List.mem_cons_of_mem _ hx))
    have e : (b + 256 * val bs) / 16 + (b + 256 * val bs) = (b / 16 + 16 * (val bs % 16) + b) + 256 * (val bs / 16 + val bs) := by omega
    have hlt : b / 16 + 16 * (val bs % 16) + b < 256 := by omega
    simp only [List.map_cons, val]
    exact ⟨by rw [e, land_byte _ _ _ _ hlt (by decide), ih, byte_six b hb h1 h2 _ (by omega)], by omega⟩
/-- The eight bytes. -/
def bytes8 (s : Nat) : List Nat := [s % 256, s / 256 % 256, s / 65536 % 256, s / 16777216 % 256, s / 4294967296 % 256, s / 1099511627776 % 256, s / 281474976710656 % 256, s / 72057594037927936 % 256]
theorem val8 (s : Nat) (h : s < 18446744073709551616) : val (bytes8 s) = s := by
  simp only [bytes8, val]
  omega
theorem cnt_byte (f s : Nat) : cnt (f + 8) s = cnt 8 (s % 256) + cnt f (s / 256) := by
  have e8 : ∀ x, cnt 8 x = x % 2 + (x / 2 % 2 + (x / 2 / 2 % 2 + (x / 2 / 2 / 2 % 2 + (x / 2 / 2 / 2 / 2 % 2 + (x / 2 / 2 / 2 / 2 / 2 % 2 + (x / 2 / 2 / 2 / 2 / 2 / 2 % 2 + (x / 2 / 2 / 2 / 2 / 2 / 2 / 2 % 2 + 0))))))) := fun _ => rfl
  have e9 : cnt (f + 8) s = s % 2 + (s / 2 % 2 + (s / 2 / 2 % 2 + (s / 2 / 2 / 2 % 2 + (s / 2 / 2 / 2 / 2 % 2 + (s / 2 / 2 / 2 / 2 / 2 % 2 + (s / 2 / 2 / 2 / 2 / 2 / 2 % 2 + (s / 2 / 2 / 2 / 2 / 2 / 2 / 2 % 2 + cnt f (s / 2 / 2 / 2 / 2 / 2 / 2 / 2 / 2)))))))) := rfl
  rw [e9, e8, show s / 2 / 2 / 2 / 2 / 2 / 2 / 2 / 2 = s / 256 by omega]
  omega
theorem cnt64 (s : Nat) : cnt 64 s = ((bytes8 s).map (cnt 8)).sum := by
  have h0 : cnt 64 (s) = cnt 8 (s % 256) + cnt 56 (s / 256) := cnt_byte 56 _
  rw [show s / 256 = s / 256 by omega] at h0
  have h1 : cnt 56 (s / 256) = cnt 8 (s / 256 % 256) + cnt 48 (s / 256 / 256) := cnt_byte 48 _
  rw [show s / 256 / 256 = s / 65536 by omega] at h1
  have h2 : cnt 48 (s / 65536) = cnt 8 (s / 65536 % 256) + cnt 40 (s / 65536 / 256) := cnt_byte 40 _
  rw [show s / 65536 / 256 = s / 16777216 by omega] at h2
  have h3 : cnt 40 (s / 16777216) = cnt 8 (s / 16777216 % 256) + cnt 32 (s / 16777216 / 256) := cnt_byte 32 _
  rw [show s / 16777216 / 256 = s / 4294967296 by omega] at h3
  have h4 : cnt 32 (s / 4294967296) = cnt 8 (s / 4294967296 % 256) + cnt 24 (s / 4294967296 / 256) := cnt_byte 24 _
  rw [show s / 4294967296 / 256 = s / 1099511627776 by omega] at h4
  have h5 : cnt 24 (s / 1099511627776) = cnt 8 (s / 1099511627776 % 256) + cnt 16 (s / 1099511627776 / 256) := cnt_byte 16 _
  rw [show s / 1099511627776 / 256 = s / 281474976710656 by omega] at h5
  have h6 : cnt 16 (s / 281474976710656) = cnt 8 (s / 281474976710656 % 256) + cnt 8 (s / 281474976710656 / 256) := cnt_byte 8 _
  rw [show s / 281474976710656 / 256 = s / 72057594037927936 by omega] at h6
  have h7 : cnt 8 (s / 72057594037927936) = cnt 8 (s / 72057594037927936 % 256) + cnt 0 (s / 72057594037927936 / 256) := cnt_byte 0 _
  rw [h0, h1, h2, h3, h4, h5, h6, h7]
  simp only [bytes8, List.map_cons, List.map_nil, List.sum_cons, List.sum_nil]
  rfl
end Go.Proofs.YtimodbkfjaknhaaDoor.BPlain
