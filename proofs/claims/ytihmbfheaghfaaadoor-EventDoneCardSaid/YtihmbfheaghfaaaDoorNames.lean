/- EventDone, plain (under way): words of names. -/
import Derived.Test.YtihmbfheaghfaaaDoorPEventDonex5
namespace Go.Proofs.YtihmbfheaghfaaaDoor.PEventDone
open Go.RowKit Go.Proofs Go.Proofs.YtihmbfheaghfaaaDoorW.PrintWords Go.Proofs.YtihmbfheaghfaaaDoorW.PrintMore
set_option linter.unusedVariables false
theorem wr_id (x : Int) (h0 : -100000 ≤ x) (h1 : x ≤ 100000) : wrap64 x = x := by unfold wrap64; omega
/-- May a byte stand in a word? -/
def innerB (c : Int) : Bool := (decide (97 ≤ c) && decide (c ≤ 122)) || (decide (48 ≤ c) && decide (c ≤ 57)) || (c == 95)
theorem letter_f (c : Int) : whirligigref02_letter.f c = some (decide (97 ≤ c) && decide (c ≤ 122)) := by
  unfold whirligigref02_letter.f
  by_cases h : c ≥ 97
  · rw [if_pos h, decide_eq_true h]; rfl
  · rw [if_neg h, decide_eq_false h]; rfl
theorem inner_f (c : Int) : whirligigref02_inner.f c = some (innerB c) := by
  unfold whirligigref02_inner.f innerB
  rw [letter_f, Option.bind_some]
  cases h1 : (decide (97 ≤ c) && decide (c ≤ 122)) with
  | true => rfl
  | false =>
    rw [if_neg (by decide)]
    by_cases h2 : c ≥ 48
    · rw [if_pos h2, decide_eq_true h2]
      by_cases h3 : c ≤ 57
      · rw [if_pos h3, decide_eq_true h3]; rfl
      · rw [if_neg h3, decide_eq_false h3]; rfl
    · rw [if_neg h2, decide_eq_false h2]; rfl
theorem inner_dot : innerB 46 = false := rfl
/-- A word: so many bytes, none of them a dot. -/
theorem word_l0 (s : ByteArray) (hs : s.size ≤ 200) (a : Nat) (ha : a ≤ s.size) : ∀ (d n k : Nat), s.size - a - n = d → d < k → a + n ≤ s.size → (∀ j, j < n → innerB (bt s ((a + j : Nat) : Int)) = true) →
    ∃ m : Nat, n ≤ m ∧ a + m ≤ s.size ∧ (∀ j, j < m → innerB (bt s ((a + j : Nat) : Int)) = true) ∧ whirligigref02_word.l0 k s a n = some (m : Int) := by
  intro d
  induction d with
  | zero =>
    intro n k hd hk h1 hin
    obtain ⟨k, rfl⟩ : ∃ j, k = j + 1 := ⟨k - 1, by omega⟩
    refine ⟨n, Nat.le_refl _, h1, hin, ?_⟩
    have c : ¬ (((a + n : Nat) : Int) < (s.size : Int)) := by omega
    have e : wrap64 ((a : Int) + (n : Int)) = ((a + n : Nat) : Int) := (wr_id _ (by omega) (by omega)).trans (by omega)
    rw [whirligigref02_word.l0, e, if_neg c]
  | succ d ih =>
    intro n k hd hk h1 hin
    obtain ⟨k, rfl⟩ : ∃ j, k = j + 1 := ⟨k - 1, by omega⟩
    have c : ((a + n : Nat) : Int) < (s.size : Int) := by omega
    have c0 : (0 : Int) ≤ ((a + n : Nat) : Int) := Int.natCast_nonneg _
    have k1 : s.size - a - (n + 1) = d := by omega
    have k2 : d < k := by omega
    have k3 : a + (n + 1) ≤ s.size := by omega
    have e2 : wrap64 ((n : Int) + 1) = ((n + 1 : Nat) : Int) := (wr_id _ (by omega) (by omega)).trans (by omega)
    have e : wrap64 ((a : Int) + (n : Int)) = ((a + n : Nat) : Int) := (wr_id _ (by clear e2; omega) (by clear e2; omega)).trans (by clear e2; omega)
    by_cases hb : innerB (bt s ((a + n : Nat) : Int)) = true
    · obtain ⟨m, g0, g1, g2, g3⟩ := ih (n + 1) k k1 k2 k3 (fun j hj => by
        by_cases hj2 : j = n
        · subst hj2; exact hb
        · exact hin j (by clear e e2; omega))
      refine ⟨m, Nat.le_of_succ_le g0, g1, g2, ?_⟩
      rw [whirligigref02_word.l0, e, if_pos c, if_pos c0, inner_f, Option.bind_some, if_pos hb, e2]
      exact g3
    · refine ⟨n, Nat.le_refl _, h1, hin, ?_⟩
      rw [whirligigref02_word.l0, e, if_pos c, if_pos c0, inner_f, Option.bind_some, if_neg hb]
theorem word_f (s : ByteArray) (hs : s.size ≤ 200) (a k : Nat) (ha : a ≤ s.size) (hk : 201 ≤ k) : ∃ m : Nat, a + m ≤ s.size ∧ (∀ j, j < m → innerB (bt s ((a + j : Nat) : Int)) = true) ∧ whirligigref02_word.f k s a = some (m : Int) := by
  obtain ⟨m, _, g1, g2, g3⟩ := word_l0 s hs a ha (s.size - a - 0) 0 k rfl (by omega) (by omega) (fun j hj => absurd hj (by omega))
  exact ⟨m, g1, g2, g3⟩
abbrev Tok := Int × ByteArray × Int × Int × Int × Int
/-- What a token's parse answers: an error, or a token that goes further; of kind 1 just where it is one word. -/
def Good (s : ByteArray) (a : Nat) (r : Tok) : Prop :=
  r.2.2.2.2.2 ≠ 0 ∨ (r.2.2.2.2.2 = 0 ∧ ∃ e : Nat, r.2.2.2.2.1 = (e : Int) ∧ a < e ∧ e ≤ s.size ∧ (r.1 = 1 → r.2.1 = s.extract a e ∧ ∀ j, a ≤ j → j < e → innerB (bt s (j : Int)) = true))
theorem tail_p (s : ByteArray) (hs : s.size ≤ 200) (a e : Nat) (ha : a < e) (he : e ≤ s.size) (kd : Int) (hk : kd = 1 → ∀ j, a ≤ j → j < e → innerB (bt s (j : Int)) = true) :
    ∃ r : Tok, Good s a r ∧ (if (wrap64 ((e : Int) - (a : Int))) > 32 then (some ((0 : Int), (⟨#[]⟩ : ByteArray), (0 : Int), (0 : Int), (a : Int), (15 : Int))) else (if 0 ≤ (a : Int) then (if (a : Int) ≤ (e : Int) then (if (e : Int) ≤ (s.size : Int) then (some (kd, s.extract (a : Int).toNat (e : Int).toNat, (0 : Int), (a : Int), (e : Int), (0 : Int))) else (none)) else (none)) else (none))) = some r := by
  by_cases h : (wrap64 ((e : Int) - (a : Int))) > 32
  · exact ⟨((0 : Int), (⟨#[]⟩ : ByteArray), (0 : Int), (0 : Int), (a : Int), (15 : Int)), .inl (show (15 : Int) ≠ 0 by decide), by rw [if_pos h]⟩
  · have c1 : (0 : Int) ≤ (a : Int) := Int.natCast_nonneg _
    have c2 : (a : Int) ≤ (e : Int) := by clear h; omega
    have c3 : (e : Int) ≤ (s.size : Int) := by clear h; omega
    refine ⟨(kd, s.extract a e, 0, (a : Int), (e : Int), 0), .inr ⟨rfl, e, rfl, ha, he, fun h1 => ⟨rfl, hk h1⟩⟩, ?_⟩
    rw [if_neg h, if_pos c1, if_pos c2, if_pos c3, Int.toNat_natCast, Int.toNat_natCast]
theorem path_l0 (s : ByteArray) (hs : s.size ≤ 200) (a : Nat) : ∀ (d e k : Nat) (kd : Int) (long : Bool), s.size - e = d → d + 300 ≤ k → a < e → e ≤ s.size → (kd = 1 → ∀ j, a ≤ j → j < e → innerB (bt s (j : Int)) = true) →
    ∃ r : Tok, Good s a r ∧ whirligigref02_path.l0 k s a e kd long = some r := by
  intro d
  induction d using Nat.strongRecOn with
  | _ d ih =>
    intro e k kd long hd hk ha he hkd
    obtain ⟨k, rfl⟩ : ∃ j, k = j + 1 := ⟨k - 1, by omega⟩
    cases long with
    | true => exact ⟨((0 : Int), (⟨#[]⟩ : ByteArray), (0 : Int), (0 : Int), (a : Int), (15 : Int)), .inl (show (15 : Int) ≠ 0 by decide), by rw [whirligigref02_path.l0, if_pos rfl]⟩
    | false =>
      obtain ⟨r, g1, g2⟩ := tail_p s hs a e ha he kd hkd
      have e1 : wrap64 ((e : Int) + 1) = ((e + 1 : Nat) : Int) := (wr_id _ (by clear g2; omega) (by clear g2; omega)).trans (by clear g2; omega)
      by_cases h1 : e + 1 < s.size
      · have c1 : ((e + 1 : Nat) : Int) < (s.size : Int) := by clear g2 e1; omega
        have c2 : (0 : Int) ≤ (e : Int) := Int.natCast_nonneg _
        have c3 : (e : Int) < (s.size : Int) := by clear g2 e1; omega
        have c4 : (0 : Int) ≤ ((e + 1 : Nat) : Int) := Int.natCast_nonneg _
        by_cases h2 : bt s (e : Int) = 46
        · cases h3 : (decide (97 ≤ bt s ((e + 1 : Nat) : Int)) && decide (bt s ((e + 1 : Nat) : Int) ≤ 122)) with
          | true =>
            obtain ⟨m, w1, w2, w3⟩ := word_f s hs (e + 1) k (by clear g2 e1; omega) (by clear g2 e1; omega)
            have e2 : wrap64 (((e + 1 : Nat) : Int) + (m : Int)) = ((e + 1 + m : Nat) : Int) := (wr_id _ (by clear g2 e1 w3; omega) (by clear g2 e1 w3; omega)).trans (by clear g2 e1 w3; omega)
            obtain ⟨r', q1, q2⟩ := ih (s.size - (e + 1 + m)) (by clear g2 e1 e2 w3; omega) (e + 1 + m) k 2 (decide ((m : Int) > 16)) rfl (by clear g2 e1 e2 w3; omega) (by clear g2 e1 e2 w3; omega) w1 (fun h => absurd h (by decide))
            refine ⟨r', q1, ?_⟩
            rw [whirligigref02_path.l0, if_neg (by decide), e1, if_pos c1, if_pos c2, if_pos c3, if_pos h2, if_pos c4, letter_f, h3, Option.bind_some, if_pos rfl, w3, Option.bind_some, e2]
            exact q2
          | false =>
            refine ⟨r, g1, ?_⟩
            rw [whirligigref02_path.l0, if_neg (by decide), e1, if_pos c1, if_pos c2, if_pos c3, if_pos h2, if_pos c4, letter_f, h3, Option.bind_some, if_neg (by decide)]
            exact g2
        · refine ⟨r, g1, ?_⟩
          rw [whirligigref02_path.l0, if_neg (by decide), e1, if_pos c1, if_pos c2, if_pos c3, if_neg h2]
          exact g2
      · have c1 : ¬ (((e + 1 : Nat) : Int) < (s.size : Int)) := by clear g2 e1; omega
        refine ⟨r, g1, ?_⟩
        rw [whirligigref02_path.l0, if_neg (by decide), e1, if_neg c1]
        exact g2
theorem path_f (s : ByteArray) (hs : s.size ≤ 200) (a k : Nat) (ha : a < s.size) (hk : 600 ≤ k) (hl : innerB (bt s (a : Int)) = true) : ∃ r : Tok, Good s a r ∧ whirligigref02_path.f k s a = some r := by
  obtain ⟨k', rfl⟩ : ∃ j, k = j + 1 := ⟨k - 1, by omega⟩
  have hw : ∃ m : Nat, 1 ≤ m ∧ a + m ≤ s.size ∧ (∀ j, j < m → innerB (bt s ((a + j : Nat) : Int)) = true) ∧ whirligigref02_word.f (k' + 1) s a = some (m : Int) := by
    obtain ⟨m, g0, g1, g2, g3⟩ := word_l0 s hs a (by omega) (s.size - a - 1) 1 k' rfl (by omega) (by omega) (fun j hj => by
      obtain rfl : j = 0 := by omega
      exact hl)
    refine ⟨m, g0, g1, g2, ?_⟩
    have e : wrap64 ((a : Int) + 0) = (a : Int) := (wr_id _ (by clear g3; omega) (by clear g3; omega)).trans (by clear g3; omega)
    have c1 : (a : Int) < (s.size : Int) := by clear g3 e; omega
    have c2 : (0 : Int) ≤ (a : Int) := Int.natCast_nonneg _
    have e2 : wrap64 ((0 : Int) + 1) = ((1 : Nat) : Int) := wr_id _ (by decide) (by decide)
    rw [whirligigref02_word.f, whirligigref02_word.l0, e, if_pos c1, if_pos c2, inner_f, hl, Option.bind_some, if_pos rfl, e2]
    exact g3
  obtain ⟨m, g0, g1, g2, g3⟩ := hw
  have e : wrap64 ((a : Int) + (m : Int)) = ((a + m : Nat) : Int) := (wr_id _ (by clear g3; omega) (by clear g3; omega)).trans (by clear g3; omega)
  obtain ⟨r, q1, q2⟩ := path_l0 s hs a (s.size - (a + m)) (a + m) (k' + 1) 1 (decide ((m : Int) > 16)) rfl (by clear g3 e; omega) (by clear g3 e; omega) g1 (fun _ j h1 h2 => by
    have := g2 (j - a) (by clear g3 e; omega)
    rw [show a + (j - a) = j by clear g3 e; omega] at this
    exact this)
  refine ⟨r, q1, ?_⟩
  rw [whirligigref02_path.f, g3, Option.bind_some, e]
  exact q2
def signs : ByteArray := ⟨#[40, 41, 59, 58, 43, 45, 42, 47, 37, 60, 62, 61]⟩
theorem sign_l0 (s : ByteArray) (hs : s.size ≤ 200) (a : Nat) (ha : a < s.size) (c : Int) : ∀ (d i k : Nat), 12 - i = d → d < k → i ≤ 12 → ∃ r : Tok, Good s a r ∧ whirligigref02_sign.l0 k s a c signs i = some r := by
  intro d
  induction d with
  | zero =>
    intro i k hd hk hi
    obtain ⟨k, rfl⟩ : ∃ j, k = j + 1 := ⟨k - 1, by omega⟩
    have c1 : ¬ ((i : Int) < (signs.size : Int)) := by show ¬ ((i : Int) < 12); omega
    exact ⟨((0 : Int), (⟨#[]⟩ : ByteArray), (0 : Int), (0 : Int), (a : Int), (11 : Int)), .inl (show (11 : Int) ≠ 0 by decide), by rw [whirligigref02_sign.l0, if_neg c1]⟩
  | succ d ih =>
    intro i k hd hk hi
    obtain ⟨k, rfl⟩ : ∃ j, k = j + 1 := ⟨k - 1, by omega⟩
    have c1 : (i : Int) < (signs.size : Int) := by show (i : Int) < 12; omega
    have c2 : (0 : Int) ≤ (i : Int) := Int.natCast_nonneg _
    by_cases h : bt signs (i : Int) = c
    · have c3 : (0 : Int) ≤ (a : Int) := Int.natCast_nonneg _
      have c4 : (a : Int) ≤ ((a + 1 : Nat) : Int) := by omega
      have c5 : ((a + 1 : Nat) : Int) ≤ (s.size : Int) := by omega
      have e : wrap64 ((a : Int) + 1) = ((a + 1 : Nat) : Int) := (wr_id _ (by omega) (by omega)).trans (by omega)
      refine ⟨((5 : Int), s.extract a (a + 1), (0 : Int), (a : Int), ((a + 1 : Nat) : Int), (0 : Int)), .inr ⟨rfl, a + 1, rfl, by clear e; omega, by clear e; omega, fun h => absurd h (show ¬ (5 : Int) = 1 by decide)⟩, ?_⟩
      rw [whirligigref02_sign.l0, if_pos c1, if_pos c2, if_pos h, e, if_pos c3, if_pos c4, if_pos c5, Int.toNat_natCast, Int.toNat_natCast]
    · have e : wrap64 ((i : Int) + 1) = ((i + 1 : Nat) : Int) := (wr_id _ (by omega) (by omega)).trans (by omega)
      obtain ⟨r, g1, g2⟩ := ih (i + 1) k (by clear e; omega) (by clear e; omega) (by clear e; omega)
      refine ⟨r, g1, ?_⟩
      rw [whirligigref02_sign.l0, if_pos c1, if_pos c2, if_neg h, e]
      exact g2
theorem sign_j0 (s : ByteArray) (hs : s.size ≤ 200) (a : Nat) (ha : a < s.size) (c : Int) (k : Nat) (hk : 20 ≤ k) (b : Bool) (hb : b = true → a + 2 ≤ s.size) : ∃ r : Tok, Good s a r ∧ whirligigref02_sign.j0 k s a c b = some r := by
  obtain ⟨k, rfl⟩ : ∃ j, k = j + 1 := ⟨k - 1, by omega⟩
  cases b with
  | true =>
    have h2 := hb rfl
    have c3 : (0 : Int) ≤ (a : Int) := Int.natCast_nonneg _
    have c4 : (a : Int) ≤ ((a + 2 : Nat) : Int) := by omega
    have c5 : ((a + 2 : Nat) : Int) ≤ (s.size : Int) := by omega
    have e : wrap64 ((a : Int) + 2) = ((a + 2 : Nat) : Int) := (wr_id _ (by omega) (by omega)).trans (by omega)
    refine ⟨((5 : Int), s.extract a (a + 2), (0 : Int), (a : Int), ((a + 2 : Nat) : Int), (0 : Int)), .inr ⟨rfl, a + 2, rfl, by clear e; omega, h2, fun h => absurd h (show ¬ (5 : Int) = 1 by decide)⟩, ?_⟩
    rw [whirligigref02_sign.j0, if_pos rfl, e, if_pos c3, if_pos c4, if_pos c5, Int.toNat_natCast, Int.toNat_natCast]
  | false =>
    obtain ⟨r, g1, g2⟩ := sign_l0 s hs a ha c (12 - 0) 0 k rfl (by omega) (by omega)
    refine ⟨r, g1, ?_⟩
    rw [whirligigref02_sign.j0, if_neg (by decide)]
    exact g2
theorem sign_f (s : ByteArray) (hs : s.size ≤ 200) (a : Nat) (ha : a < s.size) (k : Nat) (hk : 20 ≤ k) : ∃ r : Tok, Good s a r ∧ whirligigref02_sign.f k s a = some r := by
  have c1 : (0 : Int) ≤ (a : Int) := Int.natCast_nonneg _
  have c2 : (a : Int) < (s.size : Int) := by omega
  have e : wrap64 ((a : Int) + 1) = ((a + 1 : Nat) : Int) := (wr_id _ (by omega) (by omega)).trans (by omega)
  unfold whirligigref02_sign.f
  rw [if_pos c1, if_pos c2, e]
  have c3 : (0 : Int) ≤ ((a + 1 : Nat) : Int) := Int.natCast_nonneg _
  by_cases h : ((a + 1 : Nat) : Int) < (s.size : Int)
  · have h2 : a + 2 ≤ s.size := by clear e; omega
    rw [if_pos h, if_pos c3]
    split
    · split
      · exact sign_j0 s hs a ha _ k hk _ (fun _ => h2)
      · split
        · exact sign_j0 s hs a ha _ k hk _ (fun _ => h2)
        · exact sign_j0 s hs a ha _ k hk _ (fun _ => h2)
    · exact sign_j0 s hs a ha _ k hk _ (fun _ => h2)
  · rw [if_neg h]
    exact sign_j0 s hs a ha _ k hk _ (fun h => by cases h)
theorem plain_l0 (x : ByteArray) (hx : x.size ≤ 48) : ∀ (d i k : Nat), x.size - i = d → d < k → i ≤ x.size → ∃ b, whirligigref01_Plain.l0 k x i = some b := by
  intro d
  induction d with
  | zero =>
    intro i k hd hk hi
    obtain ⟨k, rfl⟩ : ∃ j, k = j + 1 := ⟨k - 1, by omega⟩
    exact ⟨true, by rw [whirligigref01_Plain.l0, if_neg (by omega)]⟩
  | succ d ih =>
    intro i k hd hk hi
    obtain ⟨k, rfl⟩ : ∃ j, k = j + 1 := ⟨k - 1, by omega⟩
    have c1 : (i : Int) < (x.size : Int) := by omega
    have k1 : x.size - (i + 1) = d := by omega
    have k2 : d < k := by omega
    have k3 : i + 1 ≤ x.size := by omega
    have e : wrap64 ((i : Int) + 1) = ((i + 1 : Nat) : Int) := (wr_id _ (by omega) (by omega)).trans (by omega)
    rw [whirligigref01_Plain.l0, if_pos c1, if_pos (Int.natCast_nonneg i), e]
    split
    · exact ⟨_, rfl⟩
    · split
      · exact ⟨_, rfl⟩
      · split
        · exact ⟨_, rfl⟩
        · exact ih (i + 1) k k1 k2 k3
theorem plain_f (x : ByteArray) (k : Nat) (hk : 60 ≤ k) : ∃ b, whirligigref01_Plain.f k x = some b := by
  unfold whirligigref01_Plain.f
  by_cases h : (x.size : Int) > 48
  · exact ⟨false, by rw [if_pos h]⟩
  · rw [if_neg h]
    exact plain_l0 x (by omega) (x.size - 0) 0 k rfl (by omega) (by omega)
theorem quote_j1 (s : ByteArray) (hs : s.size ≤ 200) (a e : Nat) (ha : a < e) (he : e ≤ s.size) (k : Nat) (hk : 70 ≤ k) : ∃ r : Tok, Good s a r ∧ whirligigref02_quote.j1 k s a e = some r := by
  obtain ⟨k, rfl⟩ : ∃ j, k = j + 1 := ⟨k - 1, by omega⟩
  have c0 : (0 : Int) ≤ ((a + 1 : Nat) : Int) := Int.natCast_nonneg _
  have c1 : ((a + 1 : Nat) : Int) ≤ (e : Int) := by omega
  have c2 : (e : Int) ≤ (s.size : Int) := by omega
  obtain ⟨b, hb⟩ := plain_f (s.extract (a + 1) e) k (by omega)
  have e1 : wrap64 ((a : Int) + 1) = ((a + 1 : Nat) : Int) := (wr_id _ (by omega) (by omega)).trans (by omega)
  rw [whirligigref02_quote.j1, e1]
  by_cases h1 : (e : Int) ≥ (s.size : Int)
  · exact ⟨((0 : Int), (⟨#[]⟩ : ByteArray), (0 : Int), (0 : Int), (a : Int), (14 : Int)), .inl (show (14 : Int) ≠ 0 by decide), by rw [if_pos h1]⟩
  · rw [if_neg h1]
    have h2 : e + 1 ≤ s.size := by clear e1; omega
    have e3 : wrap64 ((e : Int) + 1) = ((e + 1 : Nat) : Int) := (wr_id _ (by clear e1; omega) (by clear e1; omega)).trans (by clear e1; omega)
    split
    · exact ⟨((0 : Int), (⟨#[]⟩ : ByteArray), (0 : Int), (0 : Int), (a : Int), (15 : Int)), .inl (show (15 : Int) ≠ 0 by decide), rfl⟩
    · rw [Int.toNat_natCast, Int.toNat_natCast, hb, Option.bind_some, e3]
      cases b with
      | true => exact ⟨((4 : Int), s.extract (a + 1) e, (0 : Int), (a : Int), ((e + 1 : Nat) : Int), (0 : Int)), .inr ⟨rfl, e + 1, rfl, by clear e1 e3; omega, h2, fun h => absurd h (show ¬ (4 : Int) = 1 by decide)⟩, by rw [if_pos rfl]⟩
      | false => exact ⟨((0 : Int), (⟨#[]⟩ : ByteArray), (0 : Int), (0 : Int), (a : Int), (11 : Int)), .inl (show (11 : Int) ≠ 0 by decide), by rw [if_neg (by decide)]⟩
theorem quote_l0 (s : ByteArray) (hs : s.size ≤ 200) (a : Nat) : ∀ (d e k : Nat), s.size - e = d → d + 80 ≤ k → a < e → e ≤ s.size → ∃ r : Tok, Good s a r ∧ whirligigref02_quote.l0 k s a e = some r := by
  intro d
  induction d with
  | zero =>
    intro e k hd hk ha he
    obtain ⟨k, rfl⟩ : ∃ j, k = j + 1 := ⟨k - 1, by omega⟩
    rw [whirligigref02_quote.l0, if_neg (by omega)]
    exact quote_j1 s hs a e ha he k (by omega)
  | succ d ih =>
    intro e k hd hk ha he
    obtain ⟨k, rfl⟩ : ∃ j, k = j + 1 := ⟨k - 1, by omega⟩
    have c1 : (e : Int) < (s.size : Int) := by omega
    have k1 : s.size - (e + 1) = d := by omega
    have k2 : d + 80 ≤ k := by omega
    have k3 : a < e + 1 := by omega
    have k4 : e + 1 ≤ s.size := by omega
    have k5 : 70 ≤ k := by omega
    have e1 : wrap64 ((e : Int) + 1) = ((e + 1 : Nat) : Int) := (wr_id _ (by omega) (by omega)).trans (by omega)
    rw [whirligigref02_quote.l0, if_pos c1, if_pos (Int.natCast_nonneg e), e1]
    by_cases h : bt s (e : Int) = 39
    · rw [if_pos h]; exact quote_j1 s hs a e ha he k k5
    · rw [if_neg h]; exact ih (e + 1) k k1 k2 k3 k4
theorem quote_f (s : ByteArray) (hs : s.size ≤ 200) (a : Nat) (ha : a < s.size) (k : Nat) (hk : 300 ≤ k) : ∃ r : Tok, Good s a r ∧ whirligigref02_quote.f k s a = some r := by
  have e1 : wrap64 ((a : Int) + 1) = ((a + 1 : Nat) : Int) := (wr_id _ (by omega) (by omega)).trans (by omega)
  rw [whirligigref02_quote.f, e1]
  clear e1
  exact quote_l0 s hs a (s.size - (a + 1)) (a + 1) k rfl (by omega) (by omega) (by omega)
end Go.Proofs.YtihmbfheaghfaaaDoor.PEventDone
