/- ValShows: numbers and their numerals; the text of a right value is read as the value; the law answers true; the walk over all arguments, in a memory whose listed variables start as the program lays them. -/
import Derived.Test.YtbbdlcmcndhhkaaDoorMValShowsx3
import Derived.Test.YtbbdlcmcndhhkaaDoorReck
import Derived.Lib.ItoaLen
import Derived.Test.YtbbdlcmcndhhkaaDoorRows
import Derived.Lib.LaidTab
import Derived.Stop.LaidErr
import Derived.MakeChecks
import Derived.OpenShut
import Derived.Stop.ErrReads
namespace Go.Proofs.YtbbdlcmcndhhkaaDoor.MValReckons
open Go.RowKit Go.Proofs Go.Proofs.YtbbdlcmcndhhkaaDoorW.PrintWords Go.Proofs.YtbbdlcmcndhhkaaDoorW.PrintLast Go.Proofs.YtbbdlcmcndhhkaaDoorW.PrintMore
set_option linter.unusedVariables false
def InI (n : Int) : Prop := -9223372036854775808 ≤ n ∧ n ≤ 9223372036854775807
theorem wrf (x : Int) (h0 : -9223372036854775808 ≤ x) (h1 : x ≤ 9223372036854775807) : wrap64 x = x := by unfold wrap64; omega
theorem wrin (x : Int) : InI (wrap64 x) := by unfold InI wrap64; omega
theorem ba_append (l m : List UInt8) : (⟨l.toArray⟩ : ByteArray) ++ (⟨m.toArray⟩ : ByteArray) = ⟨(l ++ m).toArray⟩ := by
  apply ByteArray.ext
  rw [ByteArray.data_append]
  exact List.append_toArray l m
theorem ba_size (l : List UInt8) : (⟨l.toArray⟩ : ByteArray).size = l.length := rfl
theorem ba_toList (l : List UInt8) : (⟨l.toArray⟩ : ByteArray).toList = l := by rw [Lib.toList_data]
theorem digit_str (a : Int) (h0 : 0 ≤ a) (h1 : a < 10) : strOfNums ([(wrap64 (48 + a)) % 256] : List Int) = ⟨[UInt8.ofNat (48 + a.toNat)].toArray⟩ := by
  obtain ⟨n, rfl⟩ := Int.eq_ofNat_of_zero_le h0
  have hn : n < 10 := by omega
  match n, hn with
  | 0, _ => decide +kernel
  | 1, _ => decide +kernel
  | 2, _ => decide +kernel
  | 3, _ => decide +kernel
  | 4, _ => decide +kernel
  | 5, _ => decide +kernel
  | 6, _ => decide +kernel
  | 7, _ => decide +kernel
  | 8, _ => decide +kernel
  | 9, _ => decide +kernel
theorem digit_v (a : Int) (k : Nat) (hk : 1 ≤ k) (h0 : 0 ≤ a) (h1 : a < 10) : whirligigref01_Digits.f k a = some ⟨(Lib.decDigits a.toNat).toArray⟩ := by
  obtain ⟨k, rfl⟩ : ∃ j, k = j + 1 := ⟨k - 1, by omega⟩
  rw [whirligigref01_Digits.f, if_neg (by omega), if_neg (by omega), if_pos h1, digit_str a h0 h1, Lib.decDigits_one (by omega)]
theorem dec_big (u : Nat) (h : ¬ u < 10) : Lib.decDigits u = Lib.decDigits (u / 10) ++ [UInt8.ofNat (48 + u % 10)] := by
  rw [Lib.decDigits, dif_neg h]
theorem dec_len (u : Nat) (h : u ≤ 9223372036854775808) : (Lib.decDigits u).length ≤ 21 := by
  have h1 := Lib.itoa_length_le (-(u : Int)) (by omega) (by omega)
  unfold Lib.itoa at h1
  split at h1
  · rw [Int.natAbs_neg, Int.natAbs_natCast, List.length_cons] at h1
    omega
  · obtain rfl : u = 0 := by omega
    rw [Lib.decDigits_one (by omega)]
    decide
theorem digits_v : ∀ (n : Nat) (a : Int) (k : Nat), n + 3 ≤ k → -((10 : Int) ^ n) < a → a < (10 : Int) ^ n → -9223372036854775808 ≤ a → a ≤ 9223372036854775807 → whirligigref01_Digits.f k a = some ⟨(Lib.itoa a).toArray⟩ := by
  intro n
  induction n with
  | zero =>
    intro a k hk h0 h1 _ _
    rw [Int.pow_zero] at h0 h1
    obtain rfl : a = 0 := by omega
    exact digit_v 0 k (by omega) (by decide) (by decide)
  | succ n ih =>
    intro a k hk h0 h1 h2 h3
    obtain ⟨k, rfl⟩ : ∃ j, k = j + 1 := ⟨k - 1, by omega⟩
    rw [Int.pow_succ] at h0 h1
    by_cases c1 : a ≤ (-10)
    · have e1 : Int.tdiv a 10 = -((-a) / 10) := by rw [← Int.tdiv_eq_ediv_of_nonneg (by omega), Int.neg_tdiv, Int.neg_neg]
      have e2 : Int.tmod a 10 = -((-a) % 10) := by rw [← Int.tmod_eq_emod_of_nonneg (by omega), Int.neg_tmod, Int.neg_neg]
      have e3 : wrap64 (Int.tdiv a 10) = -((-a) / 10) := by rw [e1]; exact wrf _ (by omega) (by omega)
      have e4 : wrap64 (-(Int.tmod a 10)) = (-a) % 10 := by rw [e2, Int.neg_neg]; exact wrf _ (by omega) (by omega)
      clear e1 e2
      have g1 := ih (-((-a) / 10)) k (by clear e3 e4; omega) (by clear e3 e4; omega) (by clear e3 e4; omega) (by clear e3 e4; omega) (by clear e3 e4; omega)
      have g2 := digit_v ((-a) % 10) k (by clear e3 e4 g1; omega) (by clear e3 e4 g1; omega) (by clear e3 e4 g1; omega)
      have e5 : Lib.itoa (-((-a) / 10)) = 45 :: Lib.decDigits (a.natAbs / 10) := by
        unfold Lib.itoa
        rw [if_pos (by clear e3 e4 g1 g2; omega)]
        congr 2
        clear e3 e4 g1 g2; omega
      have e6 : Lib.decDigits ((-a) % 10).toNat = [UInt8.ofNat (48 + a.natAbs % 10)] := by
        rw [Lib.decDigits_one (by clear e3 e4 g1 g2 e5; omega)]
        congr 3
        clear e3 e4 g1 g2 e5; omega
      have e7 : Lib.itoa a = (45 :: Lib.decDigits (a.natAbs / 10)) ++ [UInt8.ofNat (48 + a.natAbs % 10)] := by
        unfold Lib.itoa
        rw [if_pos (by clear e3 e4 g1 g2 e5 e6; omega), dec_big a.natAbs (by clear e3 e4 g1 g2 e5 e6; omega), List.cons_append]
      have e8 := dec_len (a.natAbs / 10) (by clear e3 e4 g1 g2 e5 e6 e7; omega)
      rw [whirligigref01_Digits.f, if_pos c1, e3, e4, g1, g2, Option.bind_some, Option.bind_some, e5, e6, ba_append, ← e7, if_pos (by rw [ba_size, ba_size, List.length_cons]; show _ + 1 ≤ _; clear e3 e4 g1 g2 e5 e6 e7; omega)]
    · by_cases c2 : a < 0
      · have e : wrap64 (-a) = -a := wrf _ (by omega) (by omega)
        have g := digit_v (-a) k (by clear e; omega) (by clear e; omega) (by clear e; omega)
        have e5 : (-a).toNat = a.natAbs := by clear e g; omega
        have e6 : Lib.itoa a = [45] ++ Lib.decDigits a.natAbs := by unfold Lib.itoa; rw [if_pos c2]; rfl
        have e8 := dec_len a.natAbs (by clear e g e5 e6; omega)
        have e9 : (⟨#[45]⟩ : ByteArray) = ⟨[45].toArray⟩ := rfl
        rw [whirligigref01_Digits.f, if_neg c1, if_pos c2, e, g, Option.bind_some, e5, e9, ba_append, ← e6, if_pos (by rw [ba_size]; clear e g e5 e6 e9; omega)]
      · have e0 : Lib.itoa a = Lib.decDigits a.toNat := by unfold Lib.itoa; rw [if_neg c2]
        by_cases c3 : a < 10
        · rw [digit_v a (k + 1) (by omega) (by omega) c3, e0]
        · have e1 : wrap64 (Int.tdiv a 10) = a / 10 := by rw [Int.tdiv_eq_ediv_of_nonneg (by omega)]; exact wrf _ (by omega) (by omega)
          have e2 : Int.tmod a 10 = a % 10 := Int.tmod_eq_emod_of_nonneg (by clear e1; omega)
          have g1 := ih (a / 10) k (by clear e1 e2; omega) (by clear e1 e2; omega) (by clear e1 e2; omega) (by clear e1 e2; omega) (by clear e1 e2; omega)
          have g2 := digit_v (a % 10) k (by clear e1 e2 g1; omega) (by clear e1 e2 g1; omega) (by clear e1 e2 g1; omega)
          have e5 : Lib.itoa (a / 10) = Lib.decDigits (a.toNat / 10) := by
            unfold Lib.itoa
            rw [if_neg (by clear e1 e2 g1 g2; omega)]
            congr 1
            clear e1 e2 g1 g2; omega
          have e6 : Lib.decDigits (a % 10).toNat = [UInt8.ofNat (48 + a.toNat % 10)] := by
            rw [Lib.decDigits_one (by clear e1 e2 g1 g2 e5; omega)]
            congr 3
            clear e1 e2 g1 g2 e5; omega
          have e7 : Lib.itoa a = Lib.decDigits (a.toNat / 10) ++ [UInt8.ofNat (48 + a.toNat % 10)] := by rw [e0, dec_big a.toNat (by clear e1 e2 g1 g2 e5 e6; omega)]
          have e8 := dec_len (a.toNat / 10) (by clear e1 e2 g1 g2 e5 e6 e7; omega)
          rw [whirligigref01_Digits.f, if_neg c1, if_neg c2, if_neg c3, e1, e2, g1, g2, Option.bind_some, Option.bind_some, e5, e6, ba_append, ← e7, if_pos (by rw [ba_size, ba_size]; show _ + 1 ≤ _; clear e1 e2 g1 g2 e5 e6 e7; omega)]
theorem digits_itoa (a : Int) (k : Nat) (hk : 30 ≤ k) (h : InI a) : whirligigref01_Digits.f k a = some ⟨(Lib.itoa a).toArray⟩ :=
  digits_v 20 a k (by omega) (Int.lt_of_lt_of_le (by decide) h.1) (Int.lt_of_le_of_lt h.2 (by decide)) h.1 h.2
/-- ParseInt reads a numeral back. -/
theorem parse_dec : ∀ (u : Nat) (rest : List UInt8), u ≤ 18446744073709551615 → Lib.parseUintM 18446744073709551615 0 (Lib.decDigits u ++ rest) = Lib.parseUintM 18446744073709551615 u rest := by
  intro u
  induction u using Nat.strongRecOn with
  | _ u ih =>
    intro rest hu
    have hstep : ∀ (acc d : Nat) (r : List UInt8), d < 10 → acc * 10 + d ≤ 18446744073709551615 → Lib.parseUintM 18446744073709551615 acc (UInt8.ofNat (48 + d) :: r) = Lib.parseUintM 18446744073709551615 (acc * 10 + d) r := fun acc d r hd ha => by
      have e : (UInt8.ofNat (48 + d)).toNat = 48 + d := by rw [UInt8.toNat_ofNat']; omega
      rw [Lib.parseUintM, e, if_pos (by omega), if_neg (by omega), if_neg (by omega), Nat.add_sub_cancel_left]
    by_cases h : u < 10
    · rw [Lib.decDigits_one h]
      have := hstep 0 u rest h (by omega)
      rw [Nat.zero_mul, Nat.zero_add] at this
      exact this
    · rw [dec_big u h, List.append_assoc, ih (u / 10) (by omega) _ (by omega)]
      have := hstep (u / 10) (u % 10) rest (by omega) (by omega)
      rw [show u / 10 * 10 + u % 10 = u by omega] at this
      exact this
theorem dec_head (u : Nat) : ∃ d r, d < 10 ∧ Lib.decDigits u = UInt8.ofNat (48 + d) :: r := by
  induction u using Nat.strongRecOn with
  | _ u ih =>
    by_cases h : u < 10
    · exact ⟨u, [], h, Lib.decDigits_one h⟩
    · obtain ⟨d, r, hd, e⟩ := ih (u / 10) (by omega)
      exact ⟨d, r ++ [UInt8.ofNat (48 + u % 10)], hd, by rw [dec_big u h, e, List.cons_append]⟩
theorem dig_nat (d : Nat) (h : d < 10) : (UInt8.ofNat (48 + d)).toNat = 48 + d := by rw [UInt8.toNat_ofNat']; omega
theorem parse_itoa (n : Int) (h : InI n) : Lib.parseIntB 64 (Lib.itoa n) = .ok n := by
  obtain ⟨h0, h1⟩ := h
  have hp : ∀ u : Nat, u ≤ 18446744073709551615 → Lib.parseUintB 64 (Lib.decDigits u) = .ok u := fun u hu => by
    obtain ⟨d, r, hd, e⟩ := dec_head u
    unfold Lib.parseUintB
    rw [if_neg (by rw [e]; simp)]
    have := parse_dec u [] hu
    rw [List.append_nil] at this
    exact this
  unfold Lib.itoa
  by_cases hn : n < 0
  · rw [if_pos hn]
    unfold Lib.parseIntB
    dsimp only
    rw [if_pos (by decide), hp n.natAbs (by omega)]
    dsimp only
    rw [if_neg (fun h => h.1 (by decide)), if_neg (fun h => absurd h.2 (by show ¬ (9223372036854775808 < n.natAbs); omega)), if_pos (by decide)]
    congr 1
    omega
  · rw [if_neg hn]
    obtain ⟨d, r, hd, e⟩ := dec_head n.toNat
    have hpn := hp n.toNat (by omega)
    rw [e] at hpn ⊢
    unfold Lib.parseIntB
    dsimp only
    have ed := dig_nat d hd
    rw [ed, if_neg (by omega), hpn]
    dsimp only
    rw [if_neg (fun h => absurd h.2 (by show ¬ (9223372036854775808 ≤ n.toNat); omega)), if_neg (fun h => absurd h.1 (by omega)), if_neg (by omega)]
    congr 1
    omega
end Go.Proofs.YtbbdlcmcndhhkaaDoor.MValReckons
namespace Go.Proofs.YtbbdlcmcndhhkaaDoor.MValReckons
open Go.RowKit Go.Proofs Go.Proofs.YtbbdlcmcndhhkaaDoorW.PrintWords Go.Proofs.YtbbdlcmcndhhkaaDoorW.PrintLast Go.Proofs.YtbbdlcmcndhhkaaDoorW.PrintMore
set_option linter.unusedVariables false
theorem bt_split (t : ByteArray) (l r : List UInt8) (c : UInt8) (h : t.data.toList = l ++ c :: r) : bt t (l.length : Nat) = (c.toNat : Int) := by
  have hl : l.length < t.data.toList.length := by rw [h, List.length_append, List.length_cons]; omega
  rw [bt_elem t l.length hl]
  simp only [h, List.getElem_append_right (Nat.le_refl _), Nat.sub_self, List.getElem_cons_zero]
theorem itoa_head (n : Int) : ∃ c r, Lib.itoa n = c :: r ∧ (c.toNat = 45 ∨ 48 ≤ c.toNat ∧ c.toNat ≤ 57) := by
  unfold Lib.itoa
  split
  · exact ⟨_, _, rfl, .inl rfl⟩
  · obtain ⟨d, r, hd, e⟩ := dec_head n.toNat
    exact ⟨_, r, e, .inr (by rw [dig_nat d hd]; omega)⟩
/-- The right values: what Right answers. -/
def rightB (k n : Int) (s : ByteArray) : Bool := if k = 3 then n == 0 && plainB s else s.toList == ([] : List UInt8) && (k == 1 || (k == 2 && (n == 0 || n == 1)))
theorem right_val (k n : Int) (s : ByteArray) (hs : s.size ≤ 300) : val_Right_all.f k n s = some (rightB k n s) := by
  unfold val_Right_all.f val_Value_Right.f rightB
  by_cases h3 : k = 3
  · rw [if_pos h3, if_pos (by omega), if_pos h3]
  · rw [if_neg h3, if_neg h3, if_neg h3]
    by_cases h1 : k = 1
    · subst h1; simp
    · by_cases h2 : k = 2
      · subst h2
        by_cases hs : s.toList = []
        · by_cases hn : n = 0 <;> simp [hs, hn]
        · simp [hs]
      · simp [h1, h2]
theorem right_ref (k n : Int) (s : ByteArray) (j : Nat) (hj : 50 ≤ j) : whirligigref01_Right.f j k n s = some (rightB k n s) := by
  unfold whirligigref01_Right.f rightB
  by_cases h3 : k = 3
  · rw [if_pos h3, if_pos h3]
    by_cases hn : n = 0
    · rw [if_pos hn, at_rounds (fun j => whirligigref01_Plain.mono _ j) hj (plain_f s), Option.bind_some, hn]
      rfl
    · rw [if_neg hn, beq_eq_false_iff_ne.2 hn, Bool.false_and]
  · rw [if_neg h3, if_neg h3]
    by_cases hs : s.toList = []
    · rw [if_pos hs]
      by_cases h1 : k = 1
      · subst h1; simp [hs]
      · by_cases h2 : k = 2
        · subst h2
          by_cases hn : n = 0 <;> simp [hs, hn]
        · simp [h1, h2]
    · simp [hs]
theorem nil_of_list (s : ByteArray) (h : s.toList = []) : s = ⟨#[]⟩ := by
  apply ByteArray.ext
  rw [Lib.toList_data] at h
  apply Array.toList_inj.1
  exact h
theorem quoted (s : ByteArray) : ((⟨#[39]⟩ : ByteArray) ++ s ++ (⟨#[39]⟩ : ByteArray)).data.toList = 39 :: (s.data.toList ++ [39]) := by
  rw [ByteArray.data_append, ByteArray.data_append, Array.toList_append, Array.toList_append]
  rfl
/-- Read of the text of a right value. -/
theorem read_show (k n : Int) (s : ByteArray) (hn : InI n) (h : rightB k n s = true) : (showF k n s).size ≤ 60 ∧ readF (showF k n s) = (k, n, s, 0) := by
  unfold rightB at h
  by_cases h3 : k = 3
  · rw [if_pos h3, Bool.and_eq_true] at h
    have hn0 : n = 0 := eq_of_beq h.1
    subst h3 hn0
    have hp := h.2
    have hsz : s.size ≤ 48 := by unfold plainB at hp; rw [Bool.and_eq_true] at hp; exact of_decide_eq_true hp.2
    have e : showF 3 0 s = (⟨#[39]⟩ : ByteArray) ++ s ++ (⟨#[39]⟩ : ByteArray) := rfl
    rw [e]
    generalize hq : (⟨#[39]⟩ : ByteArray) ++ s ++ (⟨#[39]⟩ : ByteArray) = q
    have hl : q.data.toList = 39 :: (s.data.toList ++ [39]) := hq ▸ quoted s
    have hqs : q.size = s.size + 2 := by
      have h1 : q.data.toList.length = q.size := rfl
      have h2 : s.data.toList.length = s.size := rfl
      rw [hl, List.length_cons, List.length_append, List.length_singleton] at h1
      omega
    have b0 : bt q 0 = 39 := bt_split q [] _ _ hl
    have bl : bt q ((q.size - 1 : Nat) : Int) = 39 := by
      have := bt_split q (39 :: s.data.toList) [] 39 (by rw [hl]; rfl)
      have h2 : (39 :: s.data.toList).length = q.size - 1 := by
        have : s.data.toList.length = s.size := rfl
        rw [List.length_cons]; omega
      rw [h2] at this
      exact this
    have hx : q.extract 1 (q.size - 1) = s := by
      apply ByteArray.ext
      apply Array.toList_inj.1
      rw [ByteArray.data_extract, Array.toList_extract, List.extract_eq_take_drop, hl, List.drop_succ_cons, List.drop_zero]
      exact List.take_left' (by show s.size = _; omega)
    have ht : textB q = true := by
      unfold textB
      rw [decide_eq_true (by omega), beq_iff_eq.2 b0, beq_iff_eq.2 bl, hx, hp]
      rfl
    have n1 : ¬ q.toList = ([116, 114, 117, 101] : List UInt8) := by
      intro hc; rw [Lib.toList_data, hl] at hc; cases hc
    have n2 : ¬ q.toList = ([102, 97, 108, 115, 101] : List UInt8) := by
      intro hc; rw [Lib.toList_data, hl] at hc; cases hc
    refine ⟨by omega, ?_⟩
    unfold readF
    rw [if_neg n1, if_neg n2, if_pos ht, hx]
  · rw [if_neg h3, Bool.and_eq_true] at h
    have hs := nil_of_list s (eq_of_beq h.1)
    subst hs
    rcases Bool.or_eq_true_iff.1 h.2 with h1 | h2
    · have h1 := eq_of_beq h1
      subst h1
      have e : showF 1 n ⟨#[]⟩ = ⟨(Lib.itoa n).toArray⟩ := rfl
      have hsz := Lib.itoa_length_le n hn.1 hn.2
      obtain ⟨c, r, hc, hcc⟩ := itoa_head n
      have n1 : ¬ Lib.itoa n = ([116, 114, 117, 101] : List UInt8) := by
        intro hx; rw [hx] at hc; cases hc; revert hcc; decide
      have n2 : ¬ Lib.itoa n = ([102, 97, 108, 115, 101] : List UInt8) := by
        intro hx; rw [hx] at hc; cases hc; revert hcc; decide
      have b0 : bt (⟨(Lib.itoa n).toArray⟩ : ByteArray) 0 = (c.toNat : Int) := bt_split _ [] r c hc
      have ht : ¬ textB (⟨(Lib.itoa n).toArray⟩ : ByteArray) = true := by
        unfold textB
        rw [b0, beq_eq_false_iff_ne.2 (by omega), Bool.false_and, Bool.and_false]
        decide
      rw [e]
      refine ⟨by show (Lib.itoa n).length ≤ 60; omega, ?_⟩
      unfold readF
      rw [ba_toList, if_neg n1, if_neg n2, if_neg ht, numF_ok (show Lib.parseIntB 64 (⟨(Lib.itoa n).toArray⟩ : ByteArray).data.toList = .ok n from parse_itoa n hn), ba_toList, if_pos rfl]
    · rw [Bool.and_eq_true] at h2
      have hk := eq_of_beq h2.1
      subst hk
      rcases Bool.or_eq_true_iff.1 h2.2 with g | g
      · have g := eq_of_beq g
        subst g
        have e : showF 2 0 ⟨#[]⟩ = bStr false := rfl
        rw [e]
        have l : (bStr false).toList = ([102, 97, 108, 115, 101] : List UInt8) := ba_toList _
        refine ⟨by decide, ?_⟩
        unfold readF
        rw [l, if_neg (by decide), if_pos rfl]
      · have g := eq_of_beq g
        subst g
        have e : showF 2 1 ⟨#[]⟩ = bStr true := rfl
        rw [e]
        have l : (bStr true).toList = ([116, 114, 117, 101] : List UInt8) := ba_toList _
        refine ⟨by decide, ?_⟩
        unfold readF
        rw [l, if_pos rfl]
theorem show_ref (k n : Int) (s : ByteArray) (hn : InI n) (h : rightB k n s = true) (j : Nat) (hj : 30 ≤ j) : whirligigref01_Show.f j k n s = some (showF k n s) := by
  unfold rightB at h
  unfold whirligigref01_Show.f showF
  by_cases h1 : k = 1
  · rw [if_pos h1, if_pos h1, digits_itoa n j hj hn]
    rfl
  rw [if_neg h1, if_neg h1]
  by_cases h3 : k = 3
  · rw [if_pos h3, Bool.and_eq_true] at h
    have hp := h.2
    have hsz : s.size ≤ 48 := by unfold plainB at hp; rw [Bool.and_eq_true] at hp; exact of_decide_eq_true hp.2
    rw [if_pos h3, if_neg (show ¬ k = 2 by omega), if_pos (by omega), if_pos (by rw [ByteArray.size_append]; show 1 + s.size + 1 ≤ _; omega)]
  · rw [if_neg h3, Bool.and_eq_true] at h
    have h2 := h.2
    rw [beq_eq_false_iff_ne.2 h1, Bool.false_or, Bool.and_eq_true] at h2
    rw [if_neg h3, if_pos (eq_of_beq h2.1)]
    rcases Bool.or_eq_true_iff.1 h2.2 with g | g <;> have g := eq_of_beq g <;> subst g <;> rfl
theorem valShows_f (k n : Int) (s : ByteArray) (hn : InI n) : whirligiglaw01_ValShows.f 800 k n s = some true := by
  have han : whirligiglaw01_anchor.f 800 = some true := at_rounds (fun j => whirligiglaw01_anchor.mono j) (by omega : 30 ≤ 800) anchor_f
  have hlast : s.size ≤ 300 → whirligiglaw01_ValShows.j0 800 false k n s = some true := by
    intro hs
    rw [whirligiglaw01_ValShows.j0, if_neg (by decide), right_val k n s hs, Option.bind_some]
    by_cases hr : rightB k n s = true
    · obtain ⟨h1, h2⟩ := read_show k n s hn hr
      have e1 : val_Show_all.f k n s = some (showF k n s) := by unfold val_Show_all.f; rw [if_pos ⟨by omega, hn.1, hn.2⟩]
      have e2 : val_Read.f (showF k n s) = some (k, n, s, 0) := by unfold val_Read.f; rw [if_pos (by omega), h2]
      rw [if_pos hr, e1, Option.bind_some, e2, Option.bind_some, Option.bind_some]
      unfold whirligiglaw01_ref.f
      rw [Option.bind_some, show_ref k n s hn hr 799 (by omega), Option.bind_some, if_pos rfl, if_pos rfl, beq_self_eq_true, beq_self_eq_true, beq_self_eq_true]
      rfl
    · rw [if_neg hr]
  unfold whirligiglaw01_ValShows.f
  rw [han, Option.bind_some, if_pos rfl]
  by_cases hs : (s.size : Int) > 300
  · rw [if_pos hs]
  rw [if_neg hs]
  have hs' : s.size ≤ 300 := by omega
  have hl := hlast hs'
  have p1 : val_Plain.f s = some (plainB s) := by unfold val_Plain.f; rw [if_pos (by omega)]
  have p2 : whirligigref01_Plain.f 800 s = some (plainB s) := at_rounds (fun j => whirligigref01_Plain.mono _ j) (by omega : 50 ≤ 800) (plain_f s)
  have hb : ∀ b : Bool, (b != b) = false := fun b => by cases b <;> rfl
  rw [right_val k n s hs', Option.bind_some]
  unfold whirligiglaw01_ref.f
  rw [Option.bind_some, right_ref k n s 800 (by omega), Option.bind_some, hb, if_neg (by decide)]
  unfold val_Value_Yes.f
  rw [Option.bind_some, p1, p2, Option.bind_some, Option.bind_some, hb, hl]
  by_cases h2 : k = 2
  · rw [if_pos h2, h2, beq_self_eq_true, Bool.true_and, hb, if_neg (by decide)]
  · rw [if_neg h2, beq_eq_false_iff_ne.2 h2, Bool.false_and, if_neg (by decide)]
end Go.Proofs.YtbbdlcmcndhhkaaDoor.MValReckons
namespace Go.Proofs.YtbbdlcmcndhhkaaDoor.MValReckons
open Go.RowKit Go.Proofs Go.Proofs.YtbbdlcmcndhhkaaDoorW.PrintWords
set_option linter.unusedVariables false
theorem errstar : "*" ++ "errors.errorString" = "*errors.errorString" := by decide
theorem errstr_iff (u : TypeId) (h : Tryd.prog.typeName? 3 u = some "*errors.errorString") : u = 103 :=
  typeName_ptr_named (nm := "errors.errorString") (by rw [errstar]; kernel_rfl) (by kernel_rfl) (by decide) u (by rw [errstar]; exact h)
theorem tab_of {w : World} (hL : laidMetH Tryd.prog Rows.valShowsRow.laid w) : Tab w := by
  rw [MakeChecks.laidMetH_plain _ _ _ (by kernel_rfl)] at hL
  have h3 := laidMet.tail (laidMet.tail hL)
  have h4 := laidMet.tail h3
  have h5 := laidMet.tail h4
  have ht := Lib.tabIs_of_head (g := 2) (k := .u64) (zs := Lib.pow10Tab) (t := 97) (e := 75) (n := 20) (by kernel_rfl) (by kernel_rfl) (by kernel_rfl) (by kernel_rfl) (by kernel_rfl) (by kernel_rfl) h3
  obtain ⟨a, s, h1, _⟩ := laid_sentinel (g := 1) (ti := 51) (tp := 103) (te := 105) (ts := 9) (ms := #[("Error", 32)]) (f := ⟨"s", 9, 0, false, "", "errors", 0⟩) h4 (by kernel_rfl) (by kernel_rfl) (by kernel_rfl) errstr_iff (by kernel_rfl) (by kernel_rfl) rfl rfl (by kernel_rfl) (by kernel_rfl) (by kernel_rfl)
  obtain ⟨b, t, g1, _⟩ := laid_sentinel (g := 0) (ti := 51) (tp := 103) (te := 105) (ts := 9) (ms := #[("Error", 32)]) (f := ⟨"s", 9, 0, false, "", "errors", 0⟩) h5 (by kernel_rfl) (by kernel_rfl) (by kernel_rfl) errstr_iff (by kernel_rfl) (by kernel_rfl) rfl rfl (by kernel_rfl) (by kernel_rfl) (by kernel_rfl)
  exact ⟨ht, ⟨_, _, (World.var?_cell (by kernel_rfl) g1 0).trans rfl⟩, ⟨_, _, (World.var?_cell (by kernel_rfl) h1 0).trans rfl⟩⟩
theorem valShows_walk (k n : Int) (s : ByteArray) (w : World) (w0 : (Lit.int .i64 k).wf = true) (w1 : (Lit.int .i64 n).wf = true) (w2 : s.size ≤ maxLen) (hL : laidMetH Tryd.prog Rows.valShowsRow.laid w) :
    Calls Tryd.prog 4 #[.agg #[.int .i64 k, .int .i64 n, .string s]] w fun e w' => e = .returned (.bool true) ∧ Below w.heap.size w w' :=
  whirligiglaw01_ValShows.calls 800 k n s true w (tab_of hL) (valShows_f k n s (bounds_i64 w1))
end Go.Proofs.YtbbdlcmcndhhkaaDoor.MValReckons
