/- Numbers and their numerals: the document's digits are the library's. -/
import Derived.Test.YthpfekjbfhldcaaDoorSayP
import Derived.Lib.ItoaLen
import Derived.Lib.Strings
import Derived.Lib.IndexBytes
namespace Go.Proofs.YthpfekjbfhldcaaDoor.SayP
open Go.RowKit Go.Proofs Go.Proofs.YthpfekjbfhldcaaDoorW.PrintWords Go.Proofs.YthpfekjbfhldcaaDoorW.PrintLast Go.Proofs.YthpfekjbfhldcaaDoorW.PrintMore
set_option linter.unusedVariables false
def InI (n : Int) : Prop := -9223372036854775808 ≤ n ∧ n ≤ 9223372036854775807
theorem wrf (x : Int) (h0 : -9223372036854775808 ≤ x) (h1 : x ≤ 9223372036854775807) : wrap64 x = x := by unfold wrap64; omega
theorem wrin (x : Int) : InI (wrap64 x) := by unfold InI wrap64; omega
theorem ba_append (l m : List UInt8) : (⟨l.toArray⟩ : ByteArray) ++ (⟨m.toArray⟩ : ByteArray) = ⟨(l ++ m).toArray⟩ := by
  apply ByteArray.ext
  rw [ByteArray.data_append]
  exact List.append_toArray l m
theorem ba_size (l : List UInt8) : (⟨l.toArray⟩ : ByteArray).size = l.length := rfl
theorem ba_toList (l : List UInt8) : (⟨l.toArray⟩ : ByteArray).toList = l := by rw [Lib.toList_data]
theorem digit_str (a : Int) (h0 : 0 ≤ a) (h1 : a < 10) : strOfNums ([(wrap64 (48 + a)) % 256] : List Int) = ⟨[UInt8.ofNat (48 + a.toNat)].toArray⟩ := by
  obtain ⟨n, rfl⟩ := Int.eq_ofNat_of_zero_le h0
  have hn : n < 10 := by omega
  match n, hn with
  | 0, _ => decide +kernel
  | 1, _ => decide +kernel
  | 2, _ => decide +kernel
  | 3, _ => decide +kernel
  | 4, _ => decide +kernel
  | 5, _ => decide +kernel
  | 6, _ => decide +kernel
  | 7, _ => decide +kernel
  | 8, _ => decide +kernel
  | 9, _ => decide +kernel
theorem digit_v (a : Int) (k : Nat) (hk : 1 ≤ k) (h0 : 0 ≤ a) (h1 : a < 10) : whirligigref01_Digits.f k a = some ⟨(Lib.decDigits a.toNat).toArray⟩ := by
  obtain ⟨k, rfl⟩ : ∃ j, k = j + 1 := ⟨k - 1, by omega⟩
  rw [whirligigref01_Digits.f, if_neg (by omega), if_neg (by omega), if_pos h1, digit_str a h0 h1, Lib.decDigits_one (by omega)]
theorem dec_big (u : Nat) (h : ¬ u < 10) : Lib.decDigits u = Lib.decDigits (u / 10) ++ [UInt8.ofNat (48 + u % 10)] := by
  rw [Lib.decDigits, dif_neg h]
theorem dec_len (u : Nat) (h : u ≤ 9223372036854775808) : (Lib.decDigits u).length ≤ 21 := by
  have h1 := Lib.itoa_length_le (-(u : Int)) (by omega) (by omega)
  unfold Lib.itoa at h1
  split at h1
  · rw [Int.natAbs_neg, Int.natAbs_natCast, List.length_cons] at h1
    omega
  · obtain rfl : u = 0 := by omega
    rw [Lib.decDigits_one (by omega)]
    decide
theorem digits_v : ∀ (n : Nat) (a : Int) (k : Nat), n + 3 ≤ k → -((10 : Int) ^ n) < a → a < (10 : Int) ^ n → -9223372036854775808 ≤ a → a ≤ 9223372036854775807 → whirligigref01_Digits.f k a = some ⟨(Lib.itoa a).toArray⟩ := by
  intro n
  induction n with
  | zero =>
    intro a k hk h0 h1 _ _
    rw [Int.pow_zero] at h0 h1
    obtain rfl : a = 0 := by omega
    exact digit_v 0 k (by omega) (by decide) (by decide)
  | succ n ih =>
    intro a k hk h0 h1 h2 h3
    obtain ⟨k, rfl⟩ : ∃ j, k = j + 1 := ⟨k - 1, by omega⟩
    rw [Int.pow_succ] at h0 h1
    by_cases c1 : a ≤ (-10)
    · have e1 : Int.tdiv a 10 = -((-a) / 10) := by rw [← Int.tdiv_eq_ediv_of_nonneg (by omega), Int.neg_tdiv, Int.neg_neg]
      have e2 : Int.tmod a 10 = -((-a) % 10) := by rw [← Int.tmod_eq_emod_of_nonneg (by omega), Int.neg_tmod, Int.neg_neg]
      have e3 : wrap64 (Int.tdiv a 10) = -((-a) / 10) := by rw [e1]; exact wrf _ (by omega) (by omega)
      have e4 : wrap64 (-(Int.tmod a 10)) = (-a) % 10 := by rw [e2, Int.neg_neg]; exact wrf _ (by omega) (by omega)
      clear e1 e2
      have g1 := ih (-((-a) / 10)) k (by clear e3 e4; omega) (by clear e3 e4; omega) (by clear e3 e4; omega) (by clear e3 e4; omega) (by clear e3 e4; omega)
      have g2 := digit_v ((-a) % 10) k (by clear e3 e4 g1; omega) (by clear e3 e4 g1; omega) (by clear e3 e4 g1; omega)
      have e5 : Lib.itoa (-((-a) / 10)) = 45 :: Lib.decDigits (a.natAbs / 10) := by
        unfold Lib.itoa
        rw [if_pos (by clear e3 e4 g1 g2; omega)]
        congr 2
        clear e3 e4 g1 g2; omega
      have e6 : Lib.decDigits ((-a) % 10).toNat = [UInt8.ofNat (48 + a.natAbs % 10)] := by
        rw [Lib.decDigits_one (by clear e3 e4 g1 g2 e5; omega)]
        congr 3
        clear e3 e4 g1 g2 e5; omega
      have e7 : Lib.itoa a = (45 :: Lib.decDigits (a.natAbs / 10)) ++ [UInt8.ofNat (48 + a.natAbs % 10)] := by
        unfold Lib.itoa
        rw [if_pos (by clear e3 e4 g1 g2 e5 e6; omega), dec_big a.natAbs (by clear e3 e4 g1 g2 e5 e6; omega), List.cons_append]
      have e8 := dec_len (a.natAbs / 10) (by clear e3 e4 g1 g2 e5 e6 e7; omega)
      rw [whirligigref01_Digits.f, if_pos c1, e3, e4, g1, g2, Option.bind_some, Option.bind_some, e5, e6, ba_append, ← e7, if_pos (by rw [ba_size, ba_size, List.length_cons]; show _ + 1 ≤ _; clear e3 e4 g1 g2 e5 e6 e7; omega)]
    · by_cases c2 : a < 0
      · have e : wrap64 (-a) = -a := wrf _ (by omega) (by omega)
        have g := digit_v (-a) k (by clear e; omega) (by clear e; omega) (by clear e; omega)
        have e5 : (-a).toNat = a.natAbs := by clear e g; omega
        have e6 : Lib.itoa a = [45] ++ Lib.decDigits a.natAbs := by unfold Lib.itoa; rw [if_pos c2]; rfl
        have e8 := dec_len a.natAbs (by clear e g e5 e6; omega)
        have e9 : (⟨#[45]⟩ : ByteArray) = ⟨[45].toArray⟩ := rfl
        rw [whirligigref01_Digits.f, if_neg c1, if_pos c2, e, g, Option.bind_some, e5, e9, ba_append, ← e6, if_pos (by rw [ba_size]; clear e g e5 e6 e9; omega)]
      · have e0 : Lib.itoa a = Lib.decDigits a.toNat := by unfold Lib.itoa; rw [if_neg c2]
        by_cases c3 : a < 10
        · rw [digit_v a (k + 1) (by omega) (by omega) c3, e0]
        · have e1 : wrap64 (Int.tdiv a 10) = a / 10 := by rw [Int.tdiv_eq_ediv_of_nonneg (by omega)]; exact wrf _ (by omega) (by omega)
          have e2 : Int.tmod a 10 = a % 10 := Int.tmod_eq_emod_of_nonneg (by clear e1; omega)
          have g1 := ih (a / 10) k (by clear e1 e2; omega) (by clear e1 e2; omega) (by clear e1 e2; omega) (by clear e1 e2; omega) (by clear e1 e2; omega)
          have g2 := digit_v (a % 10) k (by clear e1 e2 g1; omega) (by clear e1 e2 g1; omega) (by clear e1 e2 g1; omega)
          have e5 : Lib.itoa (a / 10) = Lib.decDigits (a.toNat / 10) := by
            unfold Lib.itoa
            rw [if_neg (by clear e1 e2 g1 g2; omega)]
            congr 1
            clear e1 e2 g1 g2; omega
          have e6 : Lib.decDigits (a % 10).toNat = [UInt8.ofNat (48 + a.toNat % 10)] := by
            rw [Lib.decDigits_one (by clear e1 e2 g1 g2 e5; omega)]
            congr 3
            clear e1 e2 g1 g2 e5; omega
          have e7 : Lib.itoa a = Lib.decDigits (a.toNat / 10) ++ [UInt8.ofNat (48 + a.toNat % 10)] := by rw [e0, dec_big a.toNat (by clear e1 e2 g1 g2 e5 e6; omega)]
          have e8 := dec_len (a.toNat / 10) (by clear e1 e2 g1 g2 e5 e6 e7; omega)
          rw [whirligigref01_Digits.f, if_neg c1, if_neg c2, if_neg c3, e1, e2, g1, g2, Option.bind_some, Option.bind_some, e5, e6, ba_append, ← e7, if_pos (by rw [ba_size, ba_size]; show _ + 1 ≤ _; clear e1 e2 g1 g2 e5 e6 e7; omega)]
theorem digits_itoa (a : Int) (k : Nat) (hk : 30 ≤ k) (h : InI a) : whirligigref01_Digits.f k a = some ⟨(Lib.itoa a).toArray⟩ :=
  digits_v 20 a k (by omega) (Int.lt_of_lt_of_le (by decide) h.1) (Int.lt_of_le_of_lt h.2 (by decide)) h.1 h.2
end Go.Proofs.YthpfekjbfhldcaaDoor.SayP
