/- EventDone, plain (under way): numbers, tokens, lines, names. -/
import Derived.Test.YtihmbfheaghfaaaDoorNames
import Derived.Lib.Strings
import Derived.Lib.IndexBytes
import Derived.Lib.PathFns
namespace Go.Proofs.YtihmbfheaghfaaaDoor.PEventDone
open Go.RowKit Go.Proofs Go.Proofs.YtihmbfheaghfaaaDoorW.PrintWords Go.Proofs.YtihmbfheaghfaaaDoorW.PrintMore
set_option linter.unusedVariables false
theorem wr_fit (x : Int) (h0 : -9223372036854775808 ≤ x) (h1 : x ≤ 9223372036854775807) : wrap64 x = x := by unfold wrap64; omega
theorem wr_in (x : Int) : -9223372036854775808 ≤ wrap64 x ∧ wrap64 x ≤ 9223372036854775807 := by unfold wrap64; omega
theorem strOne (x : Int) : (strOfNums ([x] : List Int)).size = 1 := rfl
theorem digit_f (a : Int) (k : Nat) (hk : 1 ≤ k) (h0 : 0 ≤ a) (h1 : a < 10) : ∃ t : ByteArray, t.size = 1 ∧ whirligigref01_Digits.f k a = some t := by
  obtain ⟨k, rfl⟩ : ∃ j, k = j + 1 := ⟨k - 1, by omega⟩
  refine ⟨strOfNums (([(wrap64 (48 + a)) % 256] : List Int)), strOne _, ?_⟩
  rw [whirligigref01_Digits.f, if_neg (by omega), if_neg (by omega), if_pos h1]
theorem digits_n : ∀ (n : Nat) (a : Int) (k : Nat), n ≤ 30 → n + 3 ≤ k → -((10 : Int) ^ n) < a → a < (10 : Int) ^ n → -9223372036854775808 ≤ a → a ≤ 9223372036854775807 →
    ∃ t : ByteArray, t.size ≤ n + 3 ∧ whirligigref01_Digits.f k a = some t := by
  intro n
  induction n with
  | zero =>
    intro a k hn hk h0 h1 _ _
    rw [Int.pow_zero] at h0 h1
    obtain ⟨t, g0, g1⟩ := digit_f a k (by omega) (by omega) (by omega)
    exact ⟨t, by omega, g1⟩
  | succ n ih =>
    intro a k hn hk h0 h1 h2 h3
    obtain ⟨k, rfl⟩ : ∃ j, k = j + 1 := ⟨k - 1, by omega⟩
    rw [Int.pow_succ] at h0 h1
    by_cases c1 : a ≤ (-10)
    · have e1 : Int.tdiv a 10 = -((-a) / 10) := by rw [← Int.tdiv_eq_ediv_of_nonneg (by omega), Int.neg_tdiv, Int.neg_neg]
      have e2 : Int.tmod a 10 = -((-a) % 10) := by rw [← Int.tmod_eq_emod_of_nonneg (by omega), Int.neg_tmod, Int.neg_neg]
      have e3 : wrap64 (Int.tdiv a 10) = -((-a) / 10) := by rw [e1]; exact wr_fit _ (by omega) (by omega)
      have e4 : wrap64 (-(Int.tmod a 10)) = (-a) % 10 := by rw [e2, Int.neg_neg]; exact wr_fit _ (by omega) (by omega)
      clear e1 e2
      obtain ⟨t, g0, g1⟩ := ih (-((-a) / 10)) k (by clear e3 e4; omega) (by clear e3 e4; omega) (by clear e3 e4; omega) (by clear e3 e4; omega) (by clear e3 e4; omega) (by clear e3 e4; omega)
      obtain ⟨u, q0, q1⟩ := digit_f ((-a) % 10) k (by clear e3 e4; omega) (by clear e3 e4; omega) (by clear e3 e4; omega)
      refine ⟨t ++ u, by clear e3 e4; rw [ByteArray.size_append]; omega, ?_⟩
      rw [whirligigref01_Digits.f, if_pos c1, e3, e4, g1, q1, Option.bind_some, Option.bind_some, if_pos (by clear e3 e4; omega)]
    · by_cases c2 : a < 0
      · have e : wrap64 (-a) = -a := wr_fit _ (by omega) (by omega)
        obtain ⟨u, q0, q1⟩ := digit_f (-a) k (by clear e; omega) (by clear e; omega) (by clear e; omega)
        refine ⟨(⟨#[45]⟩ : ByteArray) ++ u, by clear e; rw [ByteArray.size_append]; show 1 + u.size ≤ _; omega, ?_⟩
        rw [whirligigref01_Digits.f, if_neg c1, if_pos c2, e, q1, Option.bind_some, if_pos (by clear e; omega)]
      · by_cases c3 : a < 10
        · obtain ⟨u, q0, q1⟩ := digit_f a (k + 1) (by omega) (by omega) c3
          exact ⟨u, by omega, q1⟩
        · have e1 : wrap64 (Int.tdiv a 10) = a / 10 := by rw [Int.tdiv_eq_ediv_of_nonneg (by omega)]; exact wr_fit _ (by omega) (by omega)
          have e2 : Int.tmod a 10 = a % 10 := Int.tmod_eq_emod_of_nonneg (by clear e1; omega)
          obtain ⟨t, g0, g1⟩ := ih (a / 10) k (by clear e1 e2; omega) (by clear e1 e2; omega) (by clear e1 e2; omega) (by clear e1 e2; omega) (by clear e1 e2; omega) (by clear e1 e2; omega)
          obtain ⟨u, q0, q1⟩ := digit_f (a % 10) k (by clear e1 e2; omega) (by clear e1 e2; omega) (by clear e1 e2; omega)
          refine ⟨t ++ u, by clear e1 e2; rw [ByteArray.size_append]; omega, ?_⟩
          rw [whirligigref01_Digits.f, if_neg c1, if_neg c2, if_neg c3, e1, e2, g1, q1, Option.bind_some, Option.bind_some, if_pos (by clear e1 e2; omega)]
theorem digits_f (a : Int) (k : Nat) (hk : 30 ≤ k) (h0 : -9223372036854775808 ≤ a) (h1 : a ≤ 9223372036854775807) : ∃ t : ByteArray, whirligigref01_Digits.f k a = some t := by
  obtain ⟨t, _, g⟩ := digits_n 20 a k (by omega) (by omega) (Int.lt_of_lt_of_le (by decide) h0) (Int.lt_of_le_of_lt h1 (by decide)) h0 h1
  exact ⟨t, g⟩
theorem num_l0 (s x : ByteArray) (hx : x.size ≤ 200) : ∀ (d i k : Nat) (n : Int), x.size - i = d → 2 * d + 50 ≤ k → i ≤ x.size → -9223372036854775808 ≤ n → n ≤ 9223372036854775807 → ∃ r, whirligigref01_Number.l0 k s x n i = some r := by
  intro d
  induction d with
  | zero =>
    intro i k n hd hk hi hn0 hn1
    obtain ⟨k, rfl⟩ : ∃ j, k = j + 1 := ⟨k - 1, by omega⟩
    rw [whirligigref01_Number.l0, if_neg (by omega)]
    obtain ⟨t, ht⟩ := digits_f n k (by omega) hn0 hn1
    obtain ⟨u, hu⟩ := digits_f (wrap64 (-n)) k (by omega) (wr_in _).1 (wr_in _).2
    rw [ht, hu, Option.bind_some, Option.bind_some]
    split
    · split
      · exact ⟨_, rfl⟩
      · exact ⟨_, rfl⟩
    · exact ⟨_, rfl⟩
  | succ d ih =>
    intro i k n hd hk hi hn0 hn1
    obtain ⟨k, rfl⟩ : ∃ j, k = j + 1 + 1 := ⟨k - 2, by omega⟩
    have c1 : (i : Int) < (x.size : Int) := by omega
    have c2 : (0 : Int) ≤ (i : Int) := Int.natCast_nonneg _
    have k1 : x.size - (i + 1) = d := by omega
    have k2 : 2 * d + 50 ≤ k := by omega
    have k3 : i + 1 ≤ x.size := by omega
    have e : wrap64 ((i : Int) + 1) = ((i + 1 : Nat) : Int) := (wr_id _ (by omega) (by omega)).trans (by omega)
    have hj : ∀ b, ∃ r, whirligigref01_Number.j4 (k + 1) s x n i b = some r := by
      intro b
      rw [whirligigref01_Number.j4, e, if_pos c2, if_pos c1]
      split
      · exact ⟨_, rfl⟩
      · split
        · exact ⟨_, rfl⟩
        · exact ih (i + 1) k _ k1 k2 k3 (wr_in _).1 (wr_in _).2
    rw [whirligigref01_Number.l0, if_pos c1, if_pos c2]
    split
    · exact hj _
    · exact hj _
theorem num_f (s : ByteArray) (hs : s.size ≤ 200) (k : Nat) (hk : 500 ≤ k) : ∃ r, whirligigref01_Number.f k s = some r := by
  obtain ⟨k, rfl⟩ : ∃ j, k = j + 1 + 1 + 1 := ⟨k - 3, by omega⟩
  have h2 : ∀ (x : ByteArray) (b : Bool), x.size ≤ 200 → ∃ r, whirligigref01_Number.j2 (k + 1) s x b = some r := by
    intro x b hx
    rw [whirligigref01_Number.j2]
    split
    · exact ⟨_, rfl⟩
    · exact num_l0 s x hx (x.size - 0) 0 k 0 rfl (by omega) (by omega) (by decide) (by decide)
  have h1 : ∀ (x : ByteArray), x.size ≤ 200 → ∃ r, whirligigref01_Number.j1 (k + 1 + 1) s x = some r := by
    intro x hx
    rw [whirligigref01_Number.j1]
    split
    · exact h2 x _ hx
    · exact h2 x _ hx
  unfold whirligigref01_Number.f
  by_cases h : (s.size : Int) > 0
  · rw [if_pos h, if_pos h, whirligigref01_Number.j0]
    split
    · rw [if_pos (by omega)]
      exact h1 _ (by rw [ByteArray.size_extract]; omega)
    · exact h1 s hs
  · rw [if_neg h, whirligigref01_Number.j0, if_neg (by decide)]
    exact h1 s hs
theorem number_j1 (s : ByteArray) (hs : s.size ≤ 200) (a e : Nat) (ha : a < e) (he : e ≤ s.size) (k : Nat) (hk : 510 ≤ k) : ∃ r : Tok, Good s a r ∧ whirligigref02_number.j1 k s a e = some r := by
  obtain ⟨k, rfl⟩ : ∃ j, k = j + 1 + 1 := ⟨k - 2, by omega⟩
  have c0 : (0 : Int) ≤ (a : Int) := Int.natCast_nonneg _
  have c1 : (a : Int) < (s.size : Int) := by omega
  have c2 : (a : Int) ≤ (e : Int) := by omega
  have c3 : (e : Int) ≤ (s.size : Int) := by omega
  have h2 : ∀ b, ∃ r : Tok, Good s a r ∧ whirligigref02_number.j2 (k + 1) s a e b = some r := by
    intro b
    obtain ⟨r, hr⟩ := num_f (s.extract a e) (by rw [ByteArray.size_extract]; omega) k (by omega)
    rw [whirligigref02_number.j2, if_pos c0, if_pos c2, if_pos c3, Int.toNat_natCast, Int.toNat_natCast, hr, Option.bind_some]
    split
    · exact ⟨_, .inl (show (11 : Int) ≠ 0 by decide), rfl⟩
    · split
      · exact ⟨_, .inr ⟨rfl, e, rfl, ha, he, fun h => absurd h (show ¬ (3 : Int) = 1 by decide)⟩, rfl⟩
      · exact ⟨_, .inl (show (21 : Int) ≠ 0 by decide), rfl⟩
  rw [whirligigref02_number.j1, if_pos c0, if_pos c1]
  split
  · exact h2 _
  · exact h2 _
theorem number_l0 (s : ByteArray) (hs : s.size ≤ 200) (a : Nat) : ∀ (d e k : Nat), s.size - e = d → d + 520 ≤ k → a < e → e ≤ s.size → ∃ r : Tok, Good s a r ∧ whirligigref02_number.l0 k s a e = some r := by
  intro d
  induction d with
  | zero =>
    intro e k hd hk ha he
    obtain ⟨k, rfl⟩ : ∃ j, k = j + 1 := ⟨k - 1, by omega⟩
    rw [whirligigref02_number.l0, if_neg (by omega)]
    exact number_j1 s hs a e ha he k (by omega)
  | succ d ih =>
    intro e k hd hk ha he
    obtain ⟨k, rfl⟩ : ∃ j, k = j + 1 := ⟨k - 1, by omega⟩
    have c1 : (e : Int) < (s.size : Int) := by omega
    have k1 : s.size - (e + 1) = d := by omega
    have k2 : d + 520 ≤ k := by omega
    have k3 : a < e + 1 := by omega
    have k4 : e + 1 ≤ s.size := by omega
    have k5 : 510 ≤ k := by omega
    have e1 : wrap64 ((e : Int) + 1) = ((e + 1 : Nat) : Int) := (wr_id _ (by omega) (by omega)).trans (by omega)
    rw [whirligigref02_number.l0, if_pos c1, if_pos (Int.natCast_nonneg e), e1]
    split
    · split
      · exact ih (e + 1) k k1 k2 k3 k4
      · exact number_j1 s hs a e ha he k k5
    · exact number_j1 s hs a e ha he k k5
theorem number_f (s : ByteArray) (hs : s.size ≤ 200) (a : Nat) (ha : a < s.size) (k : Nat) (hk : 800 ≤ k) (h0 : bt s (a : Int) ≥ 48) (h1 : bt s (a : Int) ≤ 57) : ∃ r : Tok, Good s a r ∧ whirligigref02_number.f k s a = some r := by
  obtain ⟨k, rfl⟩ : ∃ j, k = j + 1 := ⟨k - 1, by omega⟩
  have c1 : (a : Int) < (s.size : Int) := by omega
  have e1 : wrap64 ((a : Int) + 1) = ((a + 1 : Nat) : Int) := (wr_id _ (by clear h0 h1; omega) (by clear h0 h1; omega)).trans (by clear h0 h1; omega)
  rw [whirligigref02_number.f, whirligigref02_number.l0, if_pos c1, if_pos (Int.natCast_nonneg a), if_pos h0, if_pos h1, e1]
  clear e1 h0 h1
  exact number_l0 s hs a (s.size - (a + 1)) (a + 1) k rfl (by omega) (by omega) (by omega)
theorem token_f (s : ByteArray) (hs : s.size ≤ 200) (a : Nat) (ha : a < s.size) (k : Nat) (hk : 900 ≤ k) : ∃ r : Tok, Good s a r ∧ whirligigref02_Token.f k s a = some r := by
  obtain ⟨k, rfl⟩ : ∃ j, k = j + 1 := ⟨k - 1, by omega⟩
  have c1 : (a : Int) < (s.size : Int) := by omega
  unfold whirligigref02_Token.f
  rw [if_pos (Int.natCast_nonneg a), if_pos c1, letter_f, Option.bind_some]
  have hj : ∀ b, (b = true → bt s (a : Int) ≥ 48 ∧ bt s (a : Int) ≤ 57) → ∃ r : Tok, Good s a r ∧ whirligigref02_Token.j0 (k + 1) s a (bt s (a : Int)) b = some r := by
    intro b hb
    rw [whirligigref02_Token.j0]
    split
    · obtain ⟨r, g0, g1⟩ := number_f s hs a ha k (by omega) (hb (by assumption)).1 (hb (by assumption)).2
      exact ⟨r, g0, by rw [g1]; rfl⟩
    · split
      · obtain ⟨r, g0, g1⟩ := quote_f s hs a ha k (by omega)
        exact ⟨r, g0, by rw [g1]; rfl⟩
      · obtain ⟨r, g0, g1⟩ := sign_f s hs a ha k (by omega)
        exact ⟨r, g0, by rw [g1]; rfl⟩
  cases hl : (decide (97 ≤ bt s (a : Int)) && decide (bt s (a : Int) ≤ 122)) with
  | true =>
    obtain ⟨r, g0, g1⟩ := path_f s hs a (k + 1) ha (by omega) (by unfold innerB; rw [hl]; rfl)
    exact ⟨r, g0, by rw [if_pos rfl, g1]; rfl⟩
  | false =>
    rw [if_neg (by decide)]
    split
    · exact hj _ (fun h => ⟨by assumption, of_decide_eq_true h⟩)
    · exact hj _ (fun h => by cases h)
/-- What is said of each token of a line. -/
def TokP (s : ByteArray) (t : S35) : Prop := t.f0 = 1 → ∃ a e : Nat, a < e ∧ e ≤ s.size ∧ t.f1 = s.extract a e ∧ ∀ j, a ≤ j → j < e → innerB (bt s (j : Int)) = true
theorem lex_l0 (s : ByteArray) (hs : s.size ≤ 200) : ∀ (d a k : Nat) (out : List S35), s.size - a = d → d + 1000 ≤ k → out.length ≤ 120 → (∀ t ∈ out, TokP s t) →
    ∃ r : (List S35) × Int × Int, (∀ t ∈ r.1, TokP s t) ∧ whirligigref02_Lex.l0 k s out a = some r := by
  intro d
  induction d using Nat.strongRecOn with
  | _ d ih =>
    intro a k out hd hk hl ho
    obtain ⟨k, rfl⟩ : ∃ j, k = j + 1 := ⟨k - 1, by omega⟩
    rw [whirligigref02_Lex.l0]
    by_cases h : (a : Int) < (s.size : Int)
    · have e1 : wrap64 ((a : Int) + 1) = ((a + 1 : Nat) : Int) := (wr_id _ (by omega) (by omega)).trans (by omega)
      rw [if_pos h, if_pos (Int.natCast_nonneg a), e1]
      clear e1
      split
      · exact ih (s.size - (a + 1)) (by omega) (a + 1) k out rfl (by omega) hl ho
      · split
        · exact ⟨(([] : List S35), 13, (a : Int)), fun t ht => (by cases ht), rfl⟩
        · obtain ⟨r, g0, g1⟩ := token_f s hs a (by omega) k (by omega)
          rw [g1, Option.bind_some]
          rcases g0 with g0 | ⟨g2, e, g3, g4, g5, g6⟩
          · rw [if_neg g0]; exact ⟨(([] : List S35), r.2.2.2.2.2, (a : Int)), fun t ht => (by cases ht), rfl⟩
          · rw [if_pos g2, if_pos (by omega), g3]
            refine ih (s.size - e) (by omega) e k _ rfl (by omega) (by rw [List.length_append]; show out.length + 1 ≤ 120; omega) (fun t ht => ?_)
            rcases List.mem_append.mp ht with ht | ht
            · exact ho t ht
            · rw [List.mem_singleton] at ht
              subst ht
              exact fun h1 => ⟨a, e, g4, g5, (g6 h1).1, (g6 h1).2⟩
    · rw [if_neg h]; exact ⟨_, ho, rfl⟩
theorem means_l0 (s x : ByteArray) (hs : s.size ≤ 200) (hx : x.size ≤ 1000) : ∀ (d i k : Nat), x.size - i = d → d + 300 ≤ k → i ≤ x.size → ∃ b, whirligigref02_Means.l0 k s x i = some b := by
  intro d
  induction d with
  | zero =>
    intro i k hd hk hi
    obtain ⟨k, rfl⟩ : ∃ j, k = j + 1 := ⟨k - 1, by omega⟩
    have e1 : wrap64 ((i : Int) + (s.size : Int)) = ((i + s.size : Nat) : Int) := (wr_id _ (by omega) (by omega)).trans (by omega)
    have e2 : wrap64 (((i + s.size : Nat) : Int) + 2) = ((i + s.size + 2 : Nat) : Int) := (wr_id _ (by clear e1; omega) (by clear e1; omega)).trans (by clear e1; omega)
    refine ⟨false, ?_⟩
    rw [whirligigref02_Means.l0, e1, e2, if_neg (by clear e1 e2; omega)]
  | succ d ih =>
    intro i k hd hk hi
    obtain ⟨k, rfl⟩ : ∃ j, k = j + 1 := ⟨k - 1, by omega⟩
    have e1 : wrap64 ((i : Int) + (s.size : Int)) = ((i + s.size : Nat) : Int) := (wr_id _ (by omega) (by omega)).trans (by omega)
    have e2 : wrap64 (((i + s.size : Nat) : Int) + 2) = ((i + s.size + 2 : Nat) : Int) := (wr_id _ (by clear e1; omega) (by clear e1; omega)).trans (by clear e1; omega)
    have e3 : wrap64 ((i : Int) + 1) = ((i + 1 : Nat) : Int) := (wr_id _ (by clear e1 e2; omega) (by clear e1 e2; omega)).trans (by clear e1 e2; omega)
    rw [whirligigref02_Means.l0, e1, e2, e3]
    clear e1 e2 e3
    split
    · rw [if_pos (Int.natCast_nonneg i), if_pos (by omega), if_pos (by omega), if_pos (by rw [ByteArray.size_append]; show 1 + s.size + 1 ≤ _; omega)]
      split
      · split
        · exact ⟨_, rfl⟩
        · obtain ⟨m, _, _, g⟩ := word_f s hs 0 k (by omega) (by omega)
          have g' : whirligigref02_word.f k s 0 = some (m : Int) := g
          rw [g', Option.bind_some]
          exact ⟨_, rfl⟩
      · exact ih (i + 1) k (by omega) (by omega) (by omega)
    · exact ⟨_, rfl⟩
set_option maxRecDepth 10000 in
theorem means_f (s : ByteArray) (hs : s.size ≤ 200) (k : Nat) (hk : 1300 ≤ k) : ∃ b, whirligigref02_Means.f k s = some b := by
  unfold whirligigref02_Means.f
  generalize hD : (⟨#[32, 99, 104, 97, 114, 116, 32, 118, 97, 114, 32, 115, 116, 97, 116, 101, 32, 112, 97, 114, 97, 108, 108, 101, 108, 32, 102, 105, 110, 97, 108, 32, 100, 101, 101, 112, 32, 115, 104, 97, 108, 108, 111, 119, 32, 101, 110, 116, 101, 114, 32, 101, 120, 105, 116, 32, 111, 110, 32, 97, 117, 116, 111, 32, 101, 110, 100, 32, 105, 102, 32, 103, 111, 32, 105, 110, 110, 101, 114, 32, 100, 111, 32, 115, 101, 116, 32, 114, 97, 105, 115, 101, 32, 115, 101, 110, 100, 32, 99, 97, 110, 99, 101, 108, 32, 108, 111, 103, 32, 116, 114, 117, 101, 32, 102, 97, 108, 115, 101, 32, 110, 111, 116, 32, 97, 110, 100, 32, 111, 114, 32, 105, 110, 32]⟩ : ByteArray) = D
  have hD2 : D.size ≤ 1000 := by rw [← hD]; decide
  clear hD
  exact means_l0 s D hs hD2 (D.size - 0) 0 k rfl (by omega) (by omega)
theorem name_f (s : ByteArray) (hs : s.size ≤ 200) (k : Nat) (hk : 1300 ≤ k) : ∃ b, whirligigref02_Name.f k s = some b ∧ (b = true → ∀ j : Nat, j < s.size → innerB (bt s (j : Int)) = true) := by
  unfold whirligigref02_Name.f whirligigref02_Lex.f
  obtain ⟨r, g0, g1⟩ := lex_l0 s hs (s.size - 0) 0 k [] rfl (by omega) (by decide) (fun t ht => by cases ht)
  have g1' : whirligigref02_Lex.l0 k s [] 0 = some r := g1
  rw [g1', Option.bind_some]
  split
  · split
    · rename_i h1 h2
      rw [if_pos (by omega)]
      obtain ⟨l, q⟩ := r
      match l, g0, h2 with
      | [t], g0, _ =>
        have e : rd_T35 [t] 0 = t := rfl
        rw [e]
        split
        · split
          · rename_i h3 h4
            obtain ⟨b, hb⟩ := means_f s hs k hk
            rw [hb, Option.bind_some]
            refine ⟨_, rfl, fun _ => ?_⟩
            obtain ⟨a, e, c1, c2, c3, c4⟩ := g0 t List.mem_cons_self h3
            have h5 := congrArg List.length h4
            rw [c3, Lib.toList_data, Lib.toList_data, ← Lib.size_eq, ← Lib.size_eq, ByteArray.size_extract] at h5
            intro j hj
            exact c4 j (by omega) (by omega)
          · exact ⟨_, rfl, fun h => by cases h⟩
        · exact ⟨_, rfl, fun h => by cases h⟩
    · exact ⟨_, rfl, fun h => by cases h⟩
  · exact ⟨_, rfl, fun h => by cases h⟩
theorem bt_nth (s : ByteArray) (j : Nat) (hj : j < s.data.toList.length) : bt s (j : Int) = ((s.data.toList[j]).toNat : Int) := by
  obtain ⟨⟨l⟩⟩ := s
  have h : (j : Int).toNat < (⟨⟨l⟩⟩ : ByteArray).size := by rw [Int.toNat_natCast]; exact hj
  unfold bt
  rw [dif_pos h]
  rfl
theorem no_dot (s : ByteArray) (h : ∀ j : Nat, j < s.size → innerB (bt s (j : Int)) = true) : (46 : UInt8) ∉ s.data.toList := by
  intro hm
  obtain ⟨j, hj, e⟩ := List.mem_iff_getElem.mp hm
  have := h j (by rw [Lib.size_eq]; exact hj)
  rw [bt_nth s j hj, e] at this
  cases this
end Go.Proofs.YtihmbfheaghfaaaDoor.PEventDone
