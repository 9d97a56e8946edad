/- ValReads: numbers and their numerals; Read as the document has it; the law answers true; the walk over all arguments, in a memory whose listed variables start as the program lays them. -/
import Derived.Test.YtbbdlcmcndhhkaaDoorMValReadsx3
import Derived.Test.YtbbdlcmcndhhkaaDoorReck
import Derived.Lib.ItoaLen
import Derived.Test.YtbbdlcmcndhhkaaDoorRows
import Derived.Lib.LaidTab
import Derived.Stop.LaidErr
import Derived.MakeChecks
import Derived.OpenShut
import Derived.Stop.ErrReads
namespace Go.Proofs.YtbbdlcmcndhhkaaDoor.MValReckons
open Go.RowKit Go.Proofs Go.Proofs.YtbbdlcmcndhhkaaDoorW.PrintWords Go.Proofs.YtbbdlcmcndhhkaaDoorW.PrintLast Go.Proofs.YtbbdlcmcndhhkaaDoorW.PrintMore
set_option linter.unusedVariables false
def InI (n : Int) : Prop := -9223372036854775808 ≤ n ∧ n ≤ 9223372036854775807
theorem wrf (x : Int) (h0 : -9223372036854775808 ≤ x) (h1 : x ≤ 9223372036854775807) : wrap64 x = x := by unfold wrap64; omega
theorem wrin (x : Int) : InI (wrap64 x) := by unfold InI wrap64; omega
theorem ba_append (l m : List UInt8) : (⟨l.toArray⟩ : ByteArray) ++ (⟨m.toArray⟩ : ByteArray) = ⟨(l ++ m).toArray⟩ := by
  apply ByteArray.ext
  rw [ByteArray.data_append]
  exact List.append_toArray l m
theorem ba_size (l : List UInt8) : (⟨l.toArray⟩ : ByteArray).size = l.length := rfl
theorem ba_toList (l : List UInt8) : (⟨l.toArray⟩ : ByteArray).toList = l := by rw [Lib.toList_data]
theorem digit_str (a : Int) (h0 : 0 ≤ a) (h1 : a < 10) : strOfNums ([(wrap64 (48 + a)) % 256] : List Int) = ⟨[UInt8.ofNat (48 + a.toNat)].toArray⟩ := by
  obtain ⟨n, rfl⟩ := Int.eq_ofNat_of_zero_le h0
  have hn : n < 10 := by omega
  match n, hn with
  | 0, _ => decide +kernel
  | 1, _ => decide +kernel
  | 2, _ => decide +kernel
  | 3, _ => decide +kernel
  | 4, _ => decide +kernel
  | 5, _ => decide +kernel
  | 6, _ => decide +kernel
  | 7, _ => decide +kernel
  | 8, _ => decide +kernel
  | 9, _ => decide +kernel
theorem digit_v (a : Int) (k : Nat) (hk : 1 ≤ k) (h0 : 0 ≤ a) (h1 : a < 10) : whirligigref01_Digits.f k a = some ⟨(Lib.decDigits a.toNat).toArray⟩ := by
  obtain ⟨k, rfl⟩ : ∃ j, k = j + 1 := ⟨k - 1, by omega⟩
  rw [whirligigref01_Digits.f, if_neg (by omega), if_neg (by omega), if_pos h1, digit_str a h0 h1, Lib.decDigits_one (by omega)]
theorem dec_big (u : Nat) (h : ¬ u < 10) : Lib.decDigits u = Lib.decDigits (u / 10) ++ [UInt8.ofNat (48 + u % 10)] := by
  rw [Lib.decDigits, dif_neg h]
theorem dec_len (u : Nat) (h : u ≤ 9223372036854775808) : (Lib.decDigits u).length ≤ 21 := by
  have h1 := Lib.itoa_length_le (-(u : Int)) (by omega) (by omega)
  unfold Lib.itoa at h1
  split at h1
  · rw [Int.natAbs_neg, Int.natAbs_natCast, List.length_cons] at h1
    omega
  · obtain rfl : u = 0 := by omega
    rw [Lib.decDigits_one (by omega)]
    decide
theorem digits_v : ∀ (n : Nat) (a : Int) (k : Nat), n + 3 ≤ k → -((10 : Int) ^ n) < a → a < (10 : Int) ^ n → -9223372036854775808 ≤ a → a ≤ 9223372036854775807 → whirligigref01_Digits.f k a = some ⟨(Lib.itoa a).toArray⟩ := by
  intro n
  induction n with
  | zero =>
    intro a k hk h0 h1 _ _
    rw [Int.pow_zero] at h0 h1
    obtain rfl : a = 0 := by omega
    exact digit_v 0 k (by omega) (by decide) (by decide)
  | succ n ih =>
    intro a k hk h0 h1 h2 h3
    obtain ⟨k, rfl⟩ : ∃ j, k = j + 1 := ⟨k - 1, by omega⟩
    rw [Int.pow_succ] at h0 h1
    by_cases c1 : a ≤ (-10)
    · have e1 : Int.tdiv a 10 = -((-a) / 10) := by rw [← Int.tdiv_eq_ediv_of_nonneg (by omega), Int.neg_tdiv, Int.neg_neg]
      have e2 : Int.tmod a 10 = -((-a) % 10) := by rw [← Int.tmod_eq_emod_of_nonneg (by omega), Int.neg_tmod, Int.neg_neg]
      have e3 : wrap64 (Int.tdiv a 10) = -((-a) / 10) := by rw [e1]; exact wrf _ (by omega) (by omega)
      have e4 : wrap64 (-(Int.tmod a 10)) = (-a) % 10 := by rw [e2, Int.neg_neg]; exact wrf _ (by omega) (by omega)
      clear e1 e2
      have g1 := ih (-((-a) / 10)) k (by clear e3 e4; omega) (by clear e3 e4; omega) (by clear e3 e4; omega) (by clear e3 e4; omega) (by clear e3 e4; omega)
      have g2 := digit_v ((-a) % 10) k (by clear e3 e4 g1; omega) (by clear e3 e4 g1; omega) (by clear e3 e4 g1; omega)
      have e5 : Lib.itoa (-((-a) / 10)) = 45 :: Lib.decDigits (a.natAbs / 10) := by
        unfold Lib.itoa
        rw [if_pos (by clear e3 e4 g1 g2; omega)]
        congr 2
        clear e3 e4 g1 g2; omega
      have e6 : Lib.decDigits ((-a) % 10).toNat = [UInt8.ofNat (48 + a.natAbs % 10)] := by
        rw [Lib.decDigits_one (by clear e3 e4 g1 g2 e5; omega)]
        congr 3
        clear e3 e4 g1 g2 e5; omega
      have e7 : Lib.itoa a = (45 :: Lib.decDigits (a.natAbs / 10)) ++ [UInt8.ofNat (48 + a.natAbs % 10)] := by
        unfold Lib.itoa
        rw [if_pos (by clear e3 e4 g1 g2 e5 e6; omega), dec_big a.natAbs (by clear e3 e4 g1 g2 e5 e6; omega), List.cons_append]
      have e8 := dec_len (a.natAbs / 10) (by clear e3 e4 g1 g2 e5 e6 e7; omega)
      rw [whirligigref01_Digits.f, if_pos c1, e3, e4, g1, g2, Option.bind_some, Option.bind_some, e5, e6, ba_append, ← e7, if_pos (by rw [ba_size, ba_size, List.length_cons]; show _ + 1 ≤ _; clear e3 e4 g1 g2 e5 e6 e7; omega)]
    · by_cases c2 : a < 0
      · have e : wrap64 (-a) = -a := wrf _ (by omega) (by omega)
        have g := digit_v (-a) k (by clear e; omega) (by clear e; omega) (by clear e; omega)
        have e5 : (-a).toNat = a.natAbs := by clear e g; omega
        have e6 : Lib.itoa a = [45] ++ Lib.decDigits a.natAbs := by unfold Lib.itoa; rw [if_pos c2]; rfl
        have e8 := dec_len a.natAbs (by clear e g e5 e6; omega)
        have e9 : (⟨#[45]⟩ : ByteArray) = ⟨[45].toArray⟩ := rfl
        rw [whirligigref01_Digits.f, if_neg c1, if_pos c2, e, g, Option.bind_some, e5, e9, ba_append, ← e6, if_pos (by rw [ba_size]; clear e g e5 e6 e9; omega)]
      · have e0 : Lib.itoa a = Lib.decDigits a.toNat := by unfold Lib.itoa; rw [if_neg c2]
        by_cases c3 : a < 10
        · rw [digit_v a (k + 1) (by omega) (by omega) c3, e0]
        · have e1 : wrap64 (Int.tdiv a 10) = a / 10 := by rw [Int.tdiv_eq_ediv_of_nonneg (by omega)]; exact wrf _ (by omega) (by omega)
          have e2 : Int.tmod a 10 = a % 10 := Int.tmod_eq_emod_of_nonneg (by clear e1; omega)
          have g1 := ih (a / 10) k (by clear e1 e2; omega) (by clear e1 e2; omega) (by clear e1 e2; omega) (by clear e1 e2; omega) (by clear e1 e2; omega)
          have g2 := digit_v (a % 10) k (by clear e1 e2 g1; omega) (by clear e1 e2 g1; omega) (by clear e1 e2 g1; omega)
          have e5 : Lib.itoa (a / 10) = Lib.decDigits (a.toNat / 10) := by
            unfold Lib.itoa
            rw [if_neg (by clear e1 e2 g1 g2; omega)]
            congr 1
            clear e1 e2 g1 g2; omega
          have e6 : Lib.decDigits (a % 10).toNat = [UInt8.ofNat (48 + a.toNat % 10)] := by
            rw [Lib.decDigits_one (by clear e1 e2 g1 g2 e5; omega)]
            congr 3
            clear e1 e2 g1 g2 e5; omega
          have e7 : Lib.itoa a = Lib.decDigits (a.toNat / 10) ++ [UInt8.ofNat (48 + a.toNat % 10)] := by rw [e0, dec_big a.toNat (by clear e1 e2 g1 g2 e5 e6; omega)]
          have e8 := dec_len (a.toNat / 10) (by clear e1 e2 g1 g2 e5 e6 e7; omega)
          rw [whirligigref01_Digits.f, if_neg c1, if_neg c2, if_neg c3, e1, e2, g1, g2, Option.bind_some, Option.bind_some, e5, e6, ba_append, ← e7, if_pos (by rw [ba_size, ba_size]; show _ + 1 ≤ _; clear e1 e2 g1 g2 e5 e6 e7; omega)]
theorem digits_itoa (a : Int) (k : Nat) (hk : 30 ≤ k) (h : InI a) : whirligigref01_Digits.f k a = some ⟨(Lib.itoa a).toArray⟩ :=
  digits_v 20 a k (by omega) (Int.lt_of_lt_of_le (by decide) h.1) (Int.lt_of_le_of_lt h.2 (by decide)) h.1 h.2
/-- ParseInt reads a numeral back. -/
theorem parse_dec : ∀ (u : Nat) (rest : List UInt8), u ≤ 18446744073709551615 → Lib.parseUintM 18446744073709551615 0 (Lib.decDigits u ++ rest) = Lib.parseUintM 18446744073709551615 u rest := by
  intro u
  induction u using Nat.strongRecOn with
  | _ u ih =>
    intro rest hu
    have hstep : ∀ (acc d : Nat) (r : List UInt8), d < 10 → acc * 10 + d ≤ 18446744073709551615 → Lib.parseUintM 18446744073709551615 acc (UInt8.ofNat (48 + d) :: r) = Lib.parseUintM 18446744073709551615 (acc * 10 + d) r := fun acc d r hd ha => by
      have e : (UInt8.ofNat (48 + d)).toNat = 48 + d := by rw [UInt8.toNat_ofNat']; omega
      rw [Lib.parseUintM, e, if_pos (by omega), if_neg (by omega), if_neg (by omega), Nat.add_sub_cancel_left]
    by_cases h : u < 10
    · rw [Lib.decDigits_one h]
      have := hstep 0 u rest h (by omega)
      rw [Nat.zero_mul, Nat.zero_add] at this
      exact this
    · rw [dec_big u h, List.append_assoc, ih (u / 10) (by omega) _ (by omega)]
      have := hstep (u / 10) (u % 10) rest (by omega) (by omega)
      rw [show u / 10 * 10 + u % 10 = u by omega] at this
      exact this
theorem dec_head (u : Nat) : ∃ d r, d < 10 ∧ Lib.decDigits u = UInt8.ofNat (48 + d) :: r := by
  induction u using Nat.strongRecOn with
  | _ u ih =>
    by_cases h : u < 10
    · exact ⟨u, [], h, Lib.decDigits_one h⟩
    · obtain ⟨d, r, hd, e⟩ := ih (u / 10) (by omega)
      exact ⟨d, r ++ [UInt8.ofNat (48 + u % 10)], hd, by rw [dec_big u h, e, List.cons_append]⟩
theorem dig_nat (d : Nat) (h : d < 10) : (UInt8.ofNat (48 + d)).toNat = 48 + d := by rw [UInt8.toNat_ofNat']; omega
theorem parse_itoa (n : Int) (h : InI n) : Lib.parseIntB 64 (Lib.itoa n) = .ok n := by
  obtain ⟨h0, h1⟩ := h
  have hp : ∀ u : Nat, u ≤ 18446744073709551615 → Lib.parseUintB 64 (Lib.decDigits u) = .ok u := fun u hu => by
    obtain ⟨d, r, hd, e⟩ := dec_head u
    unfold Lib.parseUintB
    rw [if_neg (by rw [e]; simp)]
    have := parse_dec u [] hu
    rw [List.append_nil] at this
    exact this
  unfold Lib.itoa
  by_cases hn : n < 0
  · rw [if_pos hn]
    unfold Lib.parseIntB
    dsimp only
    rw [if_pos (by decide), hp n.natAbs (by omega)]
    dsimp only
    rw [if_neg (fun h => h.1 (by decide)), if_neg (fun h => absurd h.2 (by show ¬ (9223372036854775808 < n.natAbs); omega)), if_pos (by decide)]
    congr 1
    omega
  · rw [if_neg hn]
    obtain ⟨d, r, hd, e⟩ := dec_head n.toNat
    have hpn := hp n.toNat (by omega)
    rw [e] at hpn ⊢
    unfold Lib.parseIntB
    dsimp only
    have ed := dig_nat d hd
    rw [ed, if_neg (by omega), hpn]
    dsimp only
    rw [if_neg (fun h => absurd h.2 (by show ¬ (9223372036854775808 ≤ n.toNat); omega)), if_neg (fun h => absurd h.1 (by omega)), if_neg (by omega)]
    congr 1
    omega
end Go.Proofs.YtbbdlcmcndhhkaaDoor.MValReckons
namespace Go.Proofs.YtbbdlcmcndhhkaaDoor.MValReckons
open Go.RowKit Go.Proofs Go.Proofs.YtbbdlcmcndhhkaaDoorW.PrintWords Go.Proofs.YtbbdlcmcndhhkaaDoorW.PrintLast Go.Proofs.YtbbdlcmcndhhkaaDoorW.PrintMore
set_option linter.unusedVariables false
theorem bt_split (t : ByteArray) (l r : List UInt8) (c : UInt8) (h : t.data.toList = l ++ c :: r) : bt t (l.length : Nat) = (c.toNat : Int) := by
  have hl : l.length < t.data.toList.length := by rw [h, List.length_append, List.length_cons]; omega
  rw [bt_elem t l.length hl]
  simp only [h, List.getElem_append_right (Nat.le_refl _), Nat.sub_self, List.getElem_cons_zero]
theorem len_split (t : ByteArray) (l r : List UInt8) (h : t.data.toList = l ++ r) : t.size = l.length + r.length := by
  have : t.data.toList.length = t.size := rfl
  rw [← this, h, List.length_append]
theorem num_step (s t : ByteArray) (m u i d : Nat) (hd : d < 10) (hu : 10 * u + d ≤ 9223372036854775808) (hi : i < t.size) (ht : t.size ≤ 1000) (hb : bt t (i : Int) = ((48 + d : Nat) : Int)) :
    whirligigref01_Number.l0 (m + 2) s t (-(u : Int)) i = whirligigref01_Number.l0 m s t (-((10 * u + d : Nat) : Int)) ((i + 1 : Nat) : Int) := by
  have e0 : (((48 + d : Nat) : Int) - 48) % 256 = (d : Int) := by omega
  have e1 : wrap64 ((i : Int) + 1) = ((i + 1 : Nat) : Int) := (wrf _ (by omega) (by omega)).trans (by omega)
  have e2 : wrap64 (Int.tdiv ((-9223372036854775808) + (d : Int)) 10) = -((9223372036854775808 - (d : Int)) / 10) := by
    rw [show (-9223372036854775808) + (d : Int) = -(9223372036854775808 - (d : Int)) by omega, Int.neg_tdiv, Int.tdiv_eq_ediv_of_nonneg (by omega)]
    exact wrf _ (by omega) (by omega)
  have e3 : wrap64 ((wrap64 (10 * -(u : Int))) - (d : Int)) = -((10 * u + d : Nat) : Int) := by
    rw [wrf (10 * -(u : Int)) (by omega) (by omega), wrf _ (by omega) (by omega)]
    omega
  rw [whirligigref01_Number.l0, if_pos (by clear e0 e1 e2 e3; omega), if_pos (by clear e0 e1 e2 e3; omega), hb, if_neg (by clear e0 e1 e2 e3; omega), whirligigref01_Number.j4, hb, e0, e1, e2, e3,
    decide_eq_false (by clear e0 e1 e2 e3; omega), if_neg (by decide), if_pos (by clear e0 e1 e2 e3; omega), if_pos (by clear e0 e1 e2 e3; omega), if_neg (by clear e0 e1 e2 e3; omega)]
theorem num_loop (s t : ByteArray) (ht : t.size ≤ 1000) : ∀ (u m : Nat) (rest : List UInt8), u ≤ 9223372036854775808 → t.data.toList = Lib.decDigits u ++ rest →
    whirligigref01_Number.l0 (m + 2 * (Lib.decDigits u).length) s t 0 0 = whirligigref01_Number.l0 m s t (-(u : Int)) ((Lib.decDigits u).length : Nat) := by
  intro u
  induction u using Nat.strongRecOn with
  | _ u ih =>
    intro m rest hu hl
    by_cases h : u < 10
    · rw [Lib.decDigits_one h] at hl ⊢
      have hs := len_split t _ _ hl
      have := num_step s t m 0 0 u h (by omega) (by rw [List.length_singleton] at hs; omega) ht ((bt_split t [] rest _ hl).trans (by rw [dig_nat u h]))
      simpa using this
    · rw [dec_big u h] at hl ⊢
      rw [List.append_assoc] at hl
      have hs := len_split t _ _ hl
      have g := ih (u / 10) (by omega) (m + 2) _ (by omega) hl
      have hb := bt_split t _ _ _ hl
      have := num_step s t m (u / 10) _ (u % 10) (by omega) (by omega) (by rw [List.singleton_append, List.length_cons] at hs; omega) ht (hb.trans (by rw [dig_nat (u % 10) (by omega)]))
      rw [show 10 * (u / 10) + u % 10 = u by omega] at this
      rw [List.length_append, List.length_singleton, show m + 2 * ((Lib.decDigits (u / 10)).length + 1) = m + 2 + 2 * (Lib.decDigits (u / 10)).length by omega, g, this]
theorem nDig19 (u : Nat) (h : u < 10000000000000000000) : (Lib.decDigits u).length ≤ 19 := by
  rw [Lib.decDigits_length]
  by_cases h0 : u < 10
  · rw [Lib.nDigits_small h0]; omega
  · apply Classical.byContradiction
    intro hc
    have hp : ∀ (n v : Nat), n + 1 ≤ Lib.nDigits v → v = 0 ∨ 10 ^ n ≤ v := by
      intro n
      induction n with
      | zero => intro v _; omega
      | succ n ihn =>
        intro v hv
        by_cases hv0 : v < 10
        · rw [Lib.nDigits_small hv0] at hv; omega
        · rw [Lib.nDigits_big hv0] at hv
          rcases ihn (v / 10) (by omega) with g | g
          · omega
          · right; rw [Nat.pow_succ]; omega
    rcases hp 19 u (by omega) with g | g
    · omega
    · have : (10 : Nat) ^ 19 = 10000000000000000000 := by decide
      omega
/-- What a pass over the digits answers: with true, the number whose numeral the text is. -/
def NumR (s : ByteArray) (r : Int × Bool) : Prop := r.2 = true → InI r.1 ∧ Lib.itoa r.1 = s.toList
theorem num_end (s : ByteArray) (v : Int) (k : Nat) (hk : 30 ≤ k) (hv : InI v) : ∃ r, NumR s r ∧ ((whirligigref01_Digits.f k v).bind fun t => (some (v, (t.toList == s.toList)))) = some r := by
  refine ⟨_, ?_, by rw [digits_itoa v k hk hv, Option.bind_some]⟩
  intro h
  refine ⟨hv, ?_⟩
  have := eq_of_beq (show ((⟨(Lib.itoa v).toArray⟩ : ByteArray).toList == s.toList) = true from h)
  rwa [ba_toList] at this
theorem numr_false (s : ByteArray) (v : Int) : NumR s (v, false) := fun h => by cases h
theorem num_l0 (s x : ByteArray) (hx : x.size ≤ 1000) : ∀ (d i k : Nat) (n : Int), x.size - i = d → 2 * d + 50 ≤ k → i ≤ x.size → InI n → ∃ r, NumR s r ∧ whirligigref01_Number.l0 k s x n i = some r := by
  intro d
  induction d with
  | zero =>
    intro i k n hd hk hi hn
    obtain ⟨k, rfl⟩ : ∃ j, k = j + 1 := ⟨k - 1, by omega⟩
    rw [whirligigref01_Number.l0, if_neg (by omega)]
    split
    · split
      · exact ⟨_, numr_false _ _, rfl⟩
      · exact num_end s _ k (by omega) (wrin _)
    · exact num_end s _ k (by omega) hn
  | succ d ih =>
    intro i k n hd hk hi hn
    obtain ⟨k, rfl⟩ : ∃ j, k = j + 1 + 1 := ⟨k - 2, by omega⟩
    have c1 : (i : Int) < (x.size : Int) := by omega
    have c2 : (0 : Int) ≤ (i : Int) := Int.natCast_nonneg _
    have k1 : x.size - (i + 1) = d := by omega
    have k2 : 2 * d + 50 ≤ k := by omega
    have k3 : i + 1 ≤ x.size := by omega
    have e : wrap64 ((i : Int) + 1) = ((i + 1 : Nat) : Int) := (wrf _ (by omega) (by omega)).trans (by omega)
    have hj : ∀ b, ∃ r, NumR s r ∧ whirligigref01_Number.j4 (k + 1) s x n i b = some r := by
      intro b
      rw [whirligigref01_Number.j4, e, if_pos c2, if_pos c1]
      split
      · exact ⟨_, numr_false _ _, rfl⟩
      · split
        · exact ⟨_, numr_false _ _, rfl⟩
        · exact ih (i + 1) k _ k1 k2 k3 (wrin _)
    rw [whirligigref01_Number.l0, if_pos c1, if_pos c2]
    split
    · exact hj _
    · exact hj _
theorem num_f (s : ByteArray) (hs : s.size ≤ 300) (k : Nat) (hk : 700 ≤ k) : ∃ r, NumR s r ∧ whirligigref01_Number.f k s = some r := by
  obtain ⟨k, rfl⟩ : ∃ j, k = j + 1 + 1 + 1 := ⟨k - 3, by omega⟩
  have h2 : ∀ (x : ByteArray) (b : Bool), x.size ≤ 300 → ∃ r, NumR s r ∧ whirligigref01_Number.j2 (k + 1) s x b = some r := by
    intro x b hx
    rw [whirligigref01_Number.j2]
    split
    · exact ⟨_, numr_false _ _, rfl⟩
    · exact num_l0 s x (by omega) (x.size - 0) 0 k 0 rfl (by omega) (by omega) ⟨by decide, by decide⟩
  have h1 : ∀ (x : ByteArray), x.size ≤ 300 → ∃ r, NumR s r ∧ whirligigref01_Number.j1 (k + 1 + 1) s x = some r := by
    intro x hx
    rw [whirligigref01_Number.j1]
    split
    · exact h2 x _ hx
    · exact h2 x _ hx
  unfold whirligigref01_Number.f
  by_cases h : (s.size : Int) > 0
  · rw [if_pos h, if_pos h, whirligigref01_Number.j0]
    split
    · rw [if_pos (by omega)]
      exact h1 _ (by rw [ByteArray.size_extract]; omega)
    · exact h1 s hs
  · rw [if_neg h, whirligigref01_Number.j0, if_neg (by decide)]
    exact h1 s hs
theorem extract_tail (s : ByteArray) (c : UInt8) (l : List UInt8) (h : s.data.toList = c :: l) : (s.extract 1 s.size).data.toList = l := by
  rw [ByteArray.data_extract, Array.toList_extract, List.extract_eq_take_drop, h, List.drop_succ_cons, List.drop_zero]
  have : s.data.toList.length = s.size := rfl
  rw [h, List.length_cons] at this
  exact List.take_of_length_le (by omega)
theorem num_back (s : ByteArray) (n : Int) (hn : InI n) (h : s.toList = Lib.itoa n) : whirligigref01_Number.f 700 s = some (n, true) := by
  rw [Lib.toList_data] at h
  obtain ⟨d, r, hd, e⟩ := dec_head n.natAbs
  have hb : n.natAbs ≤ 9223372036854775808 := by have := hn.1; have := hn.2; omega
  have hl := nDig19 n.natAbs (by omega)
  by_cases c : n < 0
  · have hi : Lib.itoa n = 45 :: Lib.decDigits n.natAbs := by unfold Lib.itoa; rw [if_pos c]
    rw [hi] at h
    have hx := extract_tail s _ _ h
    have hs := len_split s [45] _ h
    have hs' : s.size = 1 + (Lib.decDigits n.natAbs).length := hs
    have h0 : bt s 0 = 45 := bt_split s [] _ _ h
    have hxs := len_split (s.extract 1 s.size) _ [] (hx.trans (List.append_nil _).symm)
    rw [List.length_nil, Nat.add_zero] at hxs
    have hg : 1 ≤ (Lib.decDigits n.natAbs).length := by rw [e, List.length_cons]; omega
    have hloop := num_loop s (s.extract 1 s.size) (by omega) n.natAbs (697 - 2 * (Lib.decDigits n.natAbs).length) [] hb (hx.trans (List.append_nil _).symm)
    rw [show 697 - 2 * (Lib.decDigits n.natAbs).length + 2 * (Lib.decDigits n.natAbs).length = 697 by omega] at hloop
    unfold whirligigref01_Number.f
    rw [if_pos (by omega), if_pos (by omega), h0, whirligigref01_Number.j0, if_pos (by decide), if_pos (by omega), whirligigref01_Number.j1, if_neg (by omega), decide_eq_false (by omega), whirligigref01_Number.j2, if_neg (by decide), hloop]
    obtain ⟨m, em⟩ : ∃ m, 697 - 2 * (Lib.decDigits n.natAbs).length = m + 1 := ⟨696 - 2 * (Lib.decDigits n.natAbs).length, by omega⟩
    have en : -(n.natAbs : Int) = n := by omega
    rw [em, en, whirligigref01_Number.l0, if_neg (by omega), if_neg (by omega), digits_itoa n m (by omega) hn, Option.bind_some, ba_toList, hi, Lib.toList_data, h, beq_self_eq_true]
  · have hi : Lib.itoa n = Lib.decDigits n.natAbs := by unfold Lib.itoa; rw [if_neg c]; congr 1; omega
    rw [hi] at h
    have hs := len_split s _ [] (h.trans (List.append_nil _).symm)
    rw [List.length_nil, Nat.add_zero] at hs
    have h0 : bt s 0 = ((48 + d : Nat) : Int) := (bt_split s [] r _ (h.trans e)).trans (by rw [dig_nat d hd])
    have hg : 1 ≤ (Lib.decDigits n.natAbs).length := by rw [e, List.length_cons]; omega
    have hloop := num_loop s s (by omega) n.natAbs (697 - 2 * (Lib.decDigits n.natAbs).length) [] hb (h.trans (List.append_nil _).symm)
    rw [show 697 - 2 * (Lib.decDigits n.natAbs).length + 2 * (Lib.decDigits n.natAbs).length = 697 by omega] at hloop
    have hne : (bt s 0 == 45) = false := by rw [h0]; apply Bool.eq_false_iff.2; intro hc; have := eq_of_beq hc; omega
    unfold whirligigref01_Number.f
    rw [if_pos (by omega), if_pos (by omega), hne, whirligigref01_Number.j0, if_neg (by decide), whirligigref01_Number.j1, if_neg (by omega), decide_eq_false (by omega), whirligigref01_Number.j2, if_neg (by decide), hloop]
    obtain ⟨m, em⟩ : ∃ m, 697 - 2 * (Lib.decDigits n.natAbs).length = m + 1 := ⟨696 - 2 * (Lib.decDigits n.natAbs).length, by omega⟩
    have hn2 := hn.2
    have en : wrap64 (-(-(n.natAbs : Int))) = n := (wrf _ (by omega) (by omega)).trans (by omega)
    rw [em, whirligigref01_Number.l0, if_neg (by omega), if_pos rfl, if_neg (by omega), en, digits_itoa n m (by omega) hn, Option.bind_some, ba_toList, hi, Lib.toList_data, h, beq_self_eq_true]
end Go.Proofs.YtbbdlcmcndhhkaaDoor.MValReckons
namespace Go.Proofs.YtbbdlcmcndhhkaaDoor.MValReckons
open Go.RowKit Go.Proofs Go.Proofs.YtbbdlcmcndhhkaaDoorW.PrintWords Go.Proofs.YtbbdlcmcndhhkaaDoorW.PrintLast Go.Proofs.YtbbdlcmcndhhkaaDoorW.PrintMore
set_option linter.unusedVariables false
theorem itoa_head (n : Int) : ∃ c r, Lib.itoa n = c :: r ∧ (c.toNat = 45 ∨ 48 ≤ c.toNat) := by
  unfold Lib.itoa
  split
  · exact ⟨_, _, rfl, .inl rfl⟩
  · obtain ⟨d, r, hd, e⟩ := dec_head n.toNat
    exact ⟨_, r, e, .inr (by rw [dig_nat d hd]; omega)⟩
theorem numF_quote (s : ByteArray) (h : bt s 0 = 39) : numF s = (0, 0, 11) := by
  unfold numF
  split
  · split
    · rename_i v hv hi
      obtain ⟨c, r, e, hc⟩ := itoa_head v
      rw [hi, Lib.toList_data] at e
      have := bt_split s [] r c e
      rw [List.length_nil] at this
      have hh := this.symm.trans h
      omega
    · rfl
  · rfl
theorem number_numF (s : ByteArray) (hs : s.size ≤ 300) : ∃ v b, whirligigref01_Number.f 700 s = some (v, b) ∧ numF s = if b = true then (1, v, 0) else (0, 0, 11) := by
  obtain ⟨⟨v, b⟩, hr, hf⟩ := num_f s hs 700 (Nat.le_refl _)
  refine ⟨v, b, hf, ?_⟩
  cases b with
  | true =>
    obtain ⟨h1, h2⟩ := hr rfl
    have h3 : Lib.parseIntB 64 s.data.toList = .ok v := by rw [← Lib.toList_data, ← h2]; exact parse_itoa v h1
    rw [numF_ok h3, if_pos h2, if_pos rfl]
  | false =>
    rw [if_neg (by decide)]
    unfold numF
    split
    · split
      · rename_i u hu hi
        have := num_back s u (parse_range hu) hi.symm
        rw [this] at hf
        cases hf
      · rfl
    · rfl
theorem read_f (s : ByteArray) (hs : s.size ≤ 300) : whirligigref01_Read.f 701 s = some (readF s) := by
  unfold whirligigref01_Read.f readF
  by_cases c1 : s.toList = ([116, 114, 117, 101] : List UInt8)
  · rw [if_pos c1, if_pos c1]
  rw [if_neg c1, if_neg c1]
  by_cases c2 : s.toList = ([102, 97, 108, 115, 101] : List UInt8)
  · rw [if_pos c2, if_pos c2]
  rw [if_neg c2, if_neg c2]
  have hno : whirligigref01_Read.j0 701 s false = some ((numF s).1, (numF s).2.1, ⟨#[]⟩, (numF s).2.2) := by
    obtain ⟨v, b, h1, h2⟩ := number_numF s hs
    rw [whirligigref01_Read.j0, if_neg (by decide), h1, Option.bind_some, h2]
    cases b <;> rfl
  by_cases c3 : (s.size : Int) ≥ 2
  · have e : wrap64 ((s.size : Int) - 1) = ((s.size - 1 : Nat) : Int) := (wrf _ (by omega) (by omega)).trans (by omega)
    rw [if_pos c3, if_pos (by omega), e]
    by_cases c4 : bt s 0 = 39
    · rw [if_pos c4, if_pos (by omega), if_pos (by omega)]
      by_cases c5 : bt s ((s.size - 1 : Nat) : Int) = 39
      · rw [beq_iff_eq.2 c5, whirligigref01_Read.j0, if_pos rfl, e, if_pos (by omega), if_pos (by omega), Int.toNat_natCast, at_rounds (fun j => whirligigref01_Plain.mono _ j) (by omega : 50 ≤ 700) (plain_f (s.extract 1 (s.size - 1))), Option.bind_some]
        by_cases c6 : plainB (s.extract 1 (s.size - 1)) = true
        · have ht : textB s = true := by unfold textB; rw [c6, decide_eq_true (by omega), beq_iff_eq.2 c4, beq_iff_eq.2 c5]; rfl
          rw [if_pos c6, if_pos ht]
        · have ht : ¬ textB s = true := by unfold textB; rw [Bool.eq_false_iff.2 c6, Bool.and_false, Bool.and_false, Bool.and_false]; decide
          rw [if_neg c6, if_neg ht, numF_quote s c4]
      · have ht : ¬ textB s = true := by unfold textB; rw [beq_eq_false_iff_ne.2 c5, Bool.false_and, Bool.and_false, Bool.and_false]; decide
        rw [beq_eq_false_iff_ne.2 c5, hno, if_neg ht]
    · have ht : ¬ textB s = true := by unfold textB; rw [beq_eq_false_iff_ne.2 c4, Bool.false_and, Bool.and_false]; decide
      rw [if_neg c4, hno, if_neg ht]
  · have ht : ¬ textB s = true := by unfold textB; rw [decide_eq_false (by omega), Bool.false_and]; decide
    rw [if_neg c3, hno, if_neg ht]
theorem quote_list (s : ByteArray) (h : textB s = true) : ((⟨#[39]⟩ : ByteArray) ++ s.extract 1 (s.size - 1) ++ (⟨#[39]⟩ : ByteArray)).toList = s.toList := by
  unfold textB at h
  rw [Bool.and_eq_true, Bool.and_eq_true, Bool.and_eq_true] at h
  obtain ⟨h1, h2, h3, h4⟩ := h
  have h1 := of_decide_eq_true h1
  have h2 := eq_of_beq h2
  have h3 := eq_of_beq h3
  rw [Lib.toList_data, Lib.toList_data, ByteArray.data_append, ByteArray.data_append, ByteArray.data_extract, Array.toList_append, Array.toList_append, Array.toList_extract]
  obtain ⟨l, hl⟩ : ∃ l, l = s.data.toList := ⟨_, rfl⟩
  have hlen : l.length = s.size := by rw [hl]; rfl
  rw [bt_elem s (s.size - 1) (by rw [← hl]; omega)] at h3
  have h2' : bt s ((0 : Nat) : Int) = 39 := h2
  rw [bt_elem s 0 (by rw [← hl]; omega)] at h2'
  simp only [← hl] at h2' h3 ⊢
  have q : ∀ c : UInt8, (c.toNat : Int) = 39 → c = 39 := fun c h => UInt8.toNat_inj.1 (by show c.toNat = 39; omega)
  have a1 := q _ h2'
  have a3 := q _ h3
  rw [← hl]
  show [39] ++ l.extract 1 (s.size - 1) ++ [39] = l
  rw [List.extract_eq_take_drop, ← hlen]
  apply List.ext_getElem
  · simp only [List.length_append, List.length_take, List.length_drop, List.length_singleton]; omega
  · intro i g1 g2
    by_cases i0 : i = 0
    · subst i0; simp [a1]
    · by_cases il : i = l.length - 1
      · subst il
        rw [List.getElem_append_right (by simp only [List.length_append, List.length_take, List.length_drop, List.length_singleton]; omega)]
        simp only [List.getElem_singleton]
        simp only [hlen]
        exact a3.symm
      · rw [List.getElem_append_left (by simp only [List.length_append, List.length_take, List.length_drop, List.length_singleton]; omega), List.getElem_append_right (by simp only [List.length_singleton]; omega)]
        simp only [List.getElem_take, List.getElem_drop, List.length_singleton]
        congr 1
        omega
/-- What is read shows the text again, and is right. -/
theorem read_shows (s : ByteArray) (hs : s.size ≤ 300) (h : (readF s).2.2.2 = 0) :
    (∃ t, val_Show_all.f (readF s).1 (readF s).2.1 (readF s).2.2.1 = some t ∧ t.toList = s.toList) ∧ val_Right_all.f (readF s).1 (readF s).2.1 (readF s).2.2.1 = some true := by
  have z : (⟨#[]⟩ : ByteArray).size ≤ 140737488351232 := by decide
  unfold readF at h ⊢
  by_cases c1 : s.toList = ([116, 114, 117, 101] : List UInt8)
  · rw [if_pos c1]
    refine ⟨⟨bStr true, ?_, c1.symm ▸ ba_toList [116, 114, 117, 101]⟩, by decide +kernel⟩
    unfold val_Show_all.f
    rw [if_pos ⟨z, by decide, by decide⟩]
    rfl
  rw [if_neg c1] at h ⊢
  by_cases c2 : s.toList = ([102, 97, 108, 115, 101] : List UInt8)
  · rw [if_pos c2]
    refine ⟨⟨bStr false, ?_, c2.symm ▸ ba_toList [102, 97, 108, 115, 101]⟩, by decide +kernel⟩
    unfold val_Show_all.f
    rw [if_pos ⟨z, by decide, by decide⟩]
    rfl
  rw [if_neg c2] at h ⊢
  by_cases c3 : textB s = true
  · rw [if_pos c3]
    have hx : (s.extract 1 (s.size - 1)).size ≤ 140737488351232 := by rw [ByteArray.size_extract]; omega
    refine ⟨⟨_, ?_, quote_list s c3⟩, ?_⟩
    · unfold val_Show_all.f
      rw [if_pos ⟨hx, (by decide : (-9223372036854775808 : Int) ≤ 0), (by decide : (0 : Int) ≤ 9223372036854775807)⟩]
      rfl
    · unfold textB at c3
      rw [Bool.and_eq_true, Bool.and_eq_true, Bool.and_eq_true] at c3
      unfold val_Right_all.f
      rw [if_pos rfl, if_pos hx, c3.2.2.2]
      rfl
  · rw [if_neg c3] at h ⊢
    obtain ⟨v, b, h1, h2⟩ := number_numF s hs
    cases b with
    | false =>
      rw [h2] at h
      exact absurd (show (11 : Int) = 0 from h) (by decide)
    | true =>
      have hn : numF s = (1, v, 0) := h2
      rw [hn]
      have : InI v ∧ Lib.itoa v = s.toList := by
        obtain ⟨r, hr, hf⟩ := num_f s hs 700 (Nat.le_refl _)
        rw [h1] at hf
        cases hf
        exact hr rfl
      refine ⟨⟨⟨(Lib.itoa v).toArray⟩, ?_, by rw [ba_toList]; exact this.2⟩, ?_⟩
      · unfold val_Show_all.f
        rw [if_pos ⟨z, this.1.1, this.1.2⟩]
        rfl
      · have : (⟨#[]⟩ : ByteArray).toList = ([] : List UInt8) := ba_toList []
        unfold val_Right_all.f val_Value_Right.f
        rw [if_neg (show ¬ (1 : Int) = 3 by decide), if_pos rfl, this]
        rfl
theorem valReads_f (s : ByteArray) : whirligiglaw01_ValReads.f 800 s = some true := by
  have han : whirligiglaw01_anchor.f 800 = some true := at_rounds (fun j => whirligiglaw01_anchor.mono j) (by omega : 30 ≤ 800) anchor_f
  unfold whirligiglaw01_ValReads.f
  rw [han, Option.bind_some, if_pos rfl]
  by_cases hs : (s.size : Int) > 300
  · rw [if_pos hs]
  rw [if_neg hs]
  have hs' : s.size ≤ 300 := by omega
  have r1 : val_Read.f s = some (readF s) := by unfold val_Read.f; rw [if_pos (by omega)]
  have r2 : whirligigref01_Read.f 800 s = some (readF s) := at_rounds (fun j => whirligigref01_Read.mono _ j) (by omega : 701 ≤ 800) (read_f s hs')
  rw [r1, r2, Option.bind_some, Option.bind_some, if_pos rfl]
  unfold whirligiglaw01_ref.f
  rw [Option.bind_some]
  simp only [beq_self_eq_true, Bool.not_true, Bool.or_false]
  rw [whirligiglaw01_ValReads.j0, if_neg (by decide)]
  by_cases he : (readF s).2.2.2 = 0
  · obtain ⟨⟨t, h1, h2⟩, h3⟩ := read_shows s hs' he
    rw [if_pos he, h1, Option.bind_some, if_pos h2, h3]
    rfl
  · rw [if_neg he]
end Go.Proofs.YtbbdlcmcndhhkaaDoor.MValReckons
namespace Go.Proofs.YtbbdlcmcndhhkaaDoor.MValReckons
open Go.RowKit Go.Proofs Go.Proofs.YtbbdlcmcndhhkaaDoorW.PrintWords
set_option linter.unusedVariables false
theorem errstar : "*" ++ "errors.errorString" = "*errors.errorString" := by decide
theorem errstr_iff (u : TypeId) (h : Tryd.prog.typeName? 3 u = some "*errors.errorString") : u = 103 :=
  typeName_ptr_named (nm := "errors.errorString") (by rw [errstar]; kernel_rfl) (by kernel_rfl) (by decide) u (by rw [errstar]; exact h)
theorem tab_of {w : World} (hL : laidMetH Tryd.prog Rows.valReadsRow.laid w) : Tab w := by
  rw [MakeChecks.laidMetH_plain _ _ _ (by kernel_rfl)] at hL
  have h3 := laidMet.tail (laidMet.tail hL)
  have h4 := laidMet.tail h3
  have h5 := laidMet.tail h4
  have ht := Lib.tabIs_of_head (g := 2) (k := .u64) (zs := Lib.pow10Tab) (t := 97) (e := 75) (n := 20) (by kernel_rfl) (by kernel_rfl) (by kernel_rfl) (by kernel_rfl) (by kernel_rfl) (by kernel_rfl) h3
  obtain ⟨a, s, h1, _⟩ := laid_sentinel (g := 1) (ti := 51) (tp := 103) (te := 105) (ts := 9) (ms := #[("Error", 32)]) (f := ⟨"s", 9, 0, false, "", "errors", 0⟩) h4 (by kernel_rfl) (by kernel_rfl) (by kernel_rfl) errstr_iff (by kernel_rfl) (by kernel_rfl) rfl rfl (by kernel_rfl) (by kernel_rfl) (by kernel_rfl)
  obtain ⟨b, t, g1, _⟩ := laid_sentinel (g := 0) (ti := 51) (tp := 103) (te := 105) (ts := 9) (ms := #[("Error", 32)]) (f := ⟨"s", 9, 0, false, "", "errors", 0⟩) h5 (by kernel_rfl) (by kernel_rfl) (by kernel_rfl) errstr_iff (by kernel_rfl) (by kernel_rfl) rfl rfl (by kernel_rfl) (by kernel_rfl) (by kernel_rfl)
  exact ⟨ht, ⟨_, _, (World.var?_cell (by kernel_rfl) g1 0).trans rfl⟩, ⟨_, _, (World.var?_cell (by kernel_rfl) h1 0).trans rfl⟩⟩
theorem valReads_walk (s : ByteArray) (w : World) (w0 : s.size ≤ 140737488351232) (hL : laidMetH Tryd.prog Rows.valReadsRow.laid w) :
    Calls Tryd.prog 3 #[.string s] w fun e w' => e = .returned (.bool true) ∧ Below w.heap.size w w' :=
  whirligiglaw01_ValReads.calls 800 s true w (tab_of hL) (valReads_f s)
end Go.Proofs.YtbbdlcmcndhhkaaDoor.MValReckons
