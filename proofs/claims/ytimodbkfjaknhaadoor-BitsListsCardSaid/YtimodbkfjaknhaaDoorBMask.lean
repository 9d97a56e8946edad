/- BitsSets, plain: what each reference and each of the program's functions gives. -/
import Derived.Test.YtimodbkfjaknhaaDoorBNat
import Derived.Test.YtimodbkfjaknhaaDoorMBitsSetsx1
namespace Go.Proofs.YtimodbkfjaknhaaDoor.MBitsSets
open Go Go.RowKit Go.Proofs Go.Proofs.YtimodbkfjaknhaaDoorW.PrintWords Go.Proofs.YtimodbkfjaknhaaDoorW.PrintMore BPlain
set_option linter.unusedVariables false
/-- The number whose bits below n are p. -/
def mk (p : Nat → Bool) : Nat → Nat
  | 0 => 0
  | n + 1 => mk p n + if p n = true then 2 ^ n else 0
theorem mk_lt (p : Nat → Bool) : ∀ n, mk p n < 2 ^ n
  | 0 => Nat.zero_lt_one
  | n + 1 => by
    have := mk_lt p n
    rw [mk, Nat.pow_succ]
    split <;> omega
theorem mk_bit (p : Nat → Bool) : ∀ n i, (mk p n).testBit i = (decide (i < n) && p i)
  | 0, i => by simp [mk]
  | n + 1, i => by
    have ih := mk_bit p n
    have hl := mk_lt p n
    have e : mk p (n + 1) = 2 ^ n * (if p n = true then 1 else 0) + mk p n := by
      rw [mk]
      split <;> omega
    rw [e, Nat.testBit_two_pow_mul_add _ hl, ih]
    by_cases h : i < n
    · rw [if_pos h, decide_eq_true h, decide_eq_true (show i < n + 1 by omega)]
    · rw [if_neg h]
      by_cases h2 : i = n
      · subst h2
        rw [Nat.sub_self, decide_eq_true (show i < i + 1 by omega)]
        cases p i <;> simp
      · rw [decide_eq_false (show ¬ i < n + 1 by omega), show i - n = (i - n - 1) + 1 by omega, Nat.testBit_succ]
        cases p n <;> simp
theorem w64 (n : Nat) (h : n < 9223372036854775807) : wrap64 ((n : Int) + 1) = ((n + 1 : Nat) : Int) := by unfold wrap64; omega
theorem list_l0 : ∀ (m j : Nat) (s : Nat) (acc : List Int) (k : Nat), j + m = 64 → acc.length ≤ j → s < 18446744073709551616 → m + 1 ≤ k → whirligigref10_List.l0 k (s : Int) acc (j : Int) = some (acc ++ els m j s)
  | 0, j, s, acc, k + 1, hj, _, _, _ => by
    rw [whirligigref10_List.l0, if_neg (by omega), els, List.append_nil]
  | m + 1, j, s, acc, k + 1, hj, ha, hs, hk => by
    have e1 : Int.tmod (s : Int) 2 = ((s % 2 : Nat) : Int) := by rw [Int.tmod_eq_emod_of_nonneg (by omega)]; omega
    have e2 : IntKind.u64.wrap (Int.tdiv (s : Int) 2) = ((s / 2 : Nat) : Int) := by rw [Int.tdiv_eq_ediv_of_nonneg (by omega), IntKind.wrap_u64]; omega
    rw [whirligigref10_List.l0, if_pos (by omega), e1, e2, w64 j (by omega), els]
    by_cases h : s % 2 = 1
    · rw [if_pos (by omega), if_pos (by omega), if_pos h, list_l0 m (j + 1) (s / 2) _ k (by omega) (by simp; omega) (by omega) (by omega)]
      simp
    · rw [if_neg (by omega), if_neg h, list_l0 m (j + 1) (s / 2) _ k (by omega) (by omega) (by omega) (by omega)]
      simp
theorem list_f (k s : Nat) (hs : s < 18446744073709551616) (hk : 65 ≤ k) : whirligigref10_List.f k (s : Int) = some (lst s) :=
  list_l0 64 0 s [] k rfl (Nat.le_refl _) hs hk
theorem rd_at (L : List Int) (j : Nat) (h : j < L.length) : rd L (j : Int) = L[j] := by
  simp [rd, h]
theorem has_l0 (L : List Int) (x : Int) (hL : L.length < 9223372036854775807) : ∀ (m i k : Nat), i + m = L.length → m + 1 ≤ k → whirligigref10_Has.l0 k L x (i : Int) = some (decide (x ∈ L.drop i))
  | 0, i, k + 1, hi, _ => by
    rw [whirligigref10_Has.l0, if_neg (by omega), List.drop_eq_nil_of_le (by omega)]
    simp
  | m + 1, i, k + 1, hi, hk => by
    rw [whirligigref10_Has.l0, if_pos (by omega), if_pos (by omega), rd_at L i (by omega), w64 i (by omega), List.drop_eq_getElem_cons (by omega)]
    by_cases h : L[i] = x
    · rw [if_pos h, decide_eq_true (by rw [h]; exact List.mem_cons_self)]
    · rw [if_neg h, has_l0 L x hL m (i + 1) k (by omega) (by omega)]
      have : x ≠ L[i] := fun e => h e.symm
      congr 1
      rw [Bool.eq_iff_iff, decide_eq_true_iff, decide_eq_true_iff, List.mem_cons]
      exact ⟨.inr, fun h => h.resolve_left this⟩
theorem has_f (L : List Int) (x : Int) (k : Nat) (hL : L.length < 9223372036854775807) (hk : L.length + 1 ≤ k) : whirligigref10_Has.f k L x = some (decide (x ∈ L)) :=
  has_l0 L x hL L.length 0 k (by omega) hk
theorem has_lst (s k : Nat) (x : Int) (hs : s < 18446744073709551616) (hk : 65 ≤ k) : whirligigref10_Has.f k (lst s) x = some (decide (0 ≤ x ∧ x < 64) && s.testBit x.toNat) := by
  have hl := els_length 64 0 s
  rw [has_f (lst s) x k (by unfold lst; omega) (by unfold lst; omega)]
  congr 1
  rw [Bool.eq_iff_iff, decide_eq_true_iff, Bool.and_eq_true, decide_eq_true_iff]
  constructor
  · intro h
    obtain ⟨j, rfl, hj, hb⟩ := els_mem 64 0 s x h
    rw [Nat.zero_add]
    exact ⟨by omega, by simpa using hb⟩
  · rintro ⟨h, hb⟩
    have := mem_els 64 0 s x.toNat (by omega) hb
    rw [Nat.zero_add] at this
    rwa [show ((x.toNat : Nat) : Int) = x by omega] at this
theorem bits_has (s : Nat) (x : Int) (hs : s < 18446744073709551616) : bits_Set_Has.f (s : Int) x = some (decide (0 ≤ x ∧ x < 64) && s.testBit x.toNat) := by
  rw [bits_Set_Has.f]
  by_cases h0 : x ≥ 0
  · by_cases h1 : x < 64
    · obtain ⟨n, rfl⟩ : ∃ n : Nat, x = n := ⟨x.toNat, by omega⟩
      have e : IntKind.u64.wrap ((n : Nat) : Int) = (n : Int) := by rw [IntKind.wrap_u64]; omega
      have e2 : shr .u64 (s : Int) (n : Int) = ((s / 2 ^ n : Nat) : Int) := by
        unfold shr
        rw [show min ((n : Int)).toNat IntKind.u64.bits = n by simp [IntKind.bits]; omega, Int.natCast_ediv, Int.natCast_pow]
        rfl
      have e3 : Go.bits .and .u64 ((s / 2 ^ n : Nat) : Int) 1 = ((s / 2 ^ n % 2 : Nat) : Int) := by
        rw [← nat_mask1]
        exact u64_and_nat (s / 2 ^ n) 1 (Nat.lt_of_le_of_lt (Nat.div_le_self _ _) hs) (by decide)
      rw [if_pos h0, if_pos h1, e, if_pos (by omega), e2, e3, decide_eq_true ⟨h0, h1⟩, Bool.true_and]
      congr 1
      rw [Int.toNat_natCast, Nat.testBit_eq_decide_div_mod_eq, Bool.eq_iff_iff, beq_iff_eq, decide_eq_true_iff]
      omega
    · rw [if_pos h0, if_neg h1, decide_eq_false (fun h => h1 h.2)]
      rfl
  · rw [if_neg h0, decide_eq_false (fun h => h0 h.1)]
    rfl
/-- The numbers of a list, as a set. -/
def msk (L : List Int) : Nat := mk (fun i => decide ((i : Int) ∈ L)) 64
theorem msk_lt (L : List Int) : msk L < 18446744073709551616 := mk_lt _ 64
theorem msk_bit (L : List Int) (i : Nat) : (msk L).testBit i = (decide (i < 64) && decide ((i : Int) ∈ L)) := mk_bit _ 64 i
theorem set_l0 (L : List Int) (hL : L.length < 9223372036854775807) : ∀ (m n k : Nat) (b : Int), n + m = 64 → (n < 64 → b = ((2 ^ n : Nat) : Int)) → m + L.length + 2 ≤ k → whirligigref10_Set.l0 k L ((mk (fun i => decide ((i : Int) ∈ L)) n : Nat) : Int) b (n : Int) = some ((msk L : Nat) : Int)
  | 0, n, k + 1, b, hn, hb, hk => by
    obtain rfl : n = 64 := by omega
    rw [whirligigref10_Set.l0, if_neg (by omega)]
    rfl
  | m + 1, n, k + 1, b, hn, hb, hk => by
    obtain rfl := hb (by omega)
    have hlt := mk_lt (fun i => decide ((i : Int) ∈ L)) n
    have hp : 2 ^ (n + 1) ≤ 2 ^ 64 := Nat.pow_le_pow_right (by decide) (by omega)
    have hq : 2 ^ (n + 1) = 2 * 2 ^ n := by rw [Nat.pow_succ, Nat.mul_comm]
    have e1 : n + 1 < 64 → IntKind.u64.wrap (2 * ((2 ^ n : Nat) : Int)) = ((2 ^ (n + 1) : Nat) : Int) := fun h => by
      have : 2 ^ (n + 1) ≤ 2 ^ 63 := Nat.pow_le_pow_right (by decide) (by omega)
      rw [IntKind.wrap_u64, hq]
      omega
    have e2 : IntKind.u64.wrap (((mk (fun i => decide ((i : Int) ∈ L)) n : Nat) : Int) + ((2 ^ n : Nat) : Int)) = ((mk (fun i => decide ((i : Int) ∈ L)) n + 2 ^ n : Nat) : Int) := by
      rw [IntKind.wrap_u64]
      omega
    rw [whirligigref10_Set.l0, if_pos (by omega), has_f L _ k hL (by omega), Option.bind_some, w64 n (by omega)]
    by_cases h : (n : Int) ∈ L
    · have em : mk (fun i => decide ((i : Int) ∈ L)) (n + 1) = mk (fun i => decide ((i : Int) ∈ L)) n + 2 ^ n := by rw [mk, if_pos (decide_eq_true h)]
      rw [if_pos (decide_eq_true h), e2, ← em]
      exact set_l0 L hL m (n + 1) k _ (by omega) (fun h => e1 h) (by omega)
    · have em : mk (fun i => decide ((i : Int) ∈ L)) (n + 1) = mk (fun i => decide ((i : Int) ∈ L)) n := by rw [mk, if_neg (by simpa using h), Nat.add_zero]
      rw [if_neg (by simpa using h), ← em]
      exact set_l0 L hL m (n + 1) k _ (by omega) (fun h => e1 h) (by omega)
theorem set_f (L : List Int) (k : Nat) (hL : L.length < 9223372036854775807) (hk : L.length + 66 ≤ k) : whirligigref10_Set.f k L = some ((msk L : Nat) : Int) :=
  set_l0 L hL 64 0 k 1 rfl (fun _ => rfl) (by omega)
theorem with_l0 (L : List Int) (hL : L.length < 9223372036854775807) : ∀ (m j k s : Nat), j + m = L.length → m + 1 ≤ k → s < 18446744073709551616 → ∃ w : Nat, w < 18446744073709551616 ∧ bits_Set_With.l0 k (s : Int) L (L.length : Int) (j : Int) = some (w : Int) ∧ ∀ i, w.testBit i = (s.testBit i || (decide (i < 64) && decide ((i : Int) ∈ L.drop j)))
  | 0, j, k + 1, s, hj, _, hs => by
    refine ⟨s, hs, by rw [bits_Set_With.l0, if_neg (by omega)], fun i => ?_⟩
    rw [List.drop_eq_nil_of_le (by omega)]
    simp
  | m + 1, j, k + 1, s, hj, hk, hs => by
    rw [bits_Set_With.l0, if_pos (by omega), if_pos (by omega), if_pos (by omega), rd_at L j (by omega), w64 j (by omega), List.drop_eq_getElem_cons (by omega)]
    have other : ¬ (0 ≤ L[j] ∧ L[j] < 64) → ∃ w : Nat, w < 18446744073709551616 ∧ bits_Set_With.l0 k (s : Int) L (L.length : Int) ((j + 1 : Nat) : Int) = some (w : Int) ∧ ∀ i, w.testBit i = (s.testBit i || (decide (i < 64) && decide ((i : Int) ∈ L[j] :: L.drop (j + 1)))) := fun h => by
      obtain ⟨w, hw, hl, hb⟩ := with_l0 L hL m (j + 1) k s (by omega) (by omega) hs
      refine ⟨w, hw, hl, fun i => ?_⟩
      rw [hb]
      by_cases hi : i < 64
      · have : (i : Int) ≠ L[j] := fun e => h (by omega)
        congr 2
        rw [Bool.eq_iff_iff, decide_eq_true_iff, decide_eq_true_iff, List.mem_cons]
        exact ⟨.inr, fun h => h.resolve_left this⟩
      · simp [hi]
    by_cases h0 : L[j] ≥ 0
    · by_cases h1 : L[j] < 64
      · obtain ⟨n, hn⟩ : ∃ n : Nat, L[j] = n := ⟨L[j].toNat, by omega⟩
        have hn64 : n < 64 := by omega
        have hp : 2 ^ n ≤ 2 ^ 63 := Nat.pow_le_pow_right (by decide) (by omega)
        have e : IntKind.u64.wrap ((n : Nat) : Int) = (n : Int) := by rw [IntKind.wrap_u64]; omega
        have e2 : shl .u64 1 (n : Int) = ((2 ^ n : Nat) : Int) := by
          unfold shl
          rw [show min ((n : Int)).toNat IntKind.u64.bits = n by simp [IntKind.bits]; omega, Int.one_mul, IntKind.wrap_u64, show (2 : Int) ^ n = ((2 ^ n : Nat) : Int) by rw [Int.natCast_pow]; rfl]
          generalize 2 ^ n = q at hp ⊢
          omega
        have e3 : Go.bits .or .u64 (s : Int) ((2 ^ n : Nat) : Int) = ((s ||| 2 ^ n : Nat) : Int) := u64_or_nat s (2 ^ n) hs (by omega)
        obtain ⟨w, hw, hl, hb⟩ := with_l0 L hL m (j + 1) k (s ||| 2 ^ n) (by omega) (by omega) (or_lt _ _ hs (by omega))
        rw [if_pos h0, if_pos h1, hn, e, if_pos (by omega), e2, e3]
        refine ⟨w, hw, hl, fun i => ?_⟩
        rw [hb, Nat.testBit_or, Nat.testBit_two_pow]
        by_cases hi : n = i
        · subst hi
          simp [hn64]
        · have : (i : Int) ≠ (n : Int) := by omega
          simp [hi, this]
      · rw [if_pos h0, if_neg h1]
        exact other (fun h => h1 h.2)
    · rw [if_neg h0]
      exact other (fun h => h0 h.1)
theorem with_f (L : List Int) (k s : Nat) (hL : L.length < 9223372036854775807) (hk : L.length + 1 ≤ k) (hs : s < 18446744073709551616) : bits_Set_With.f k (s : Int) L = some ((s ||| msk L : Nat) : Int) := by
  obtain ⟨w, hw, hl, hb⟩ := with_l0 L hL L.length 0 k s (by omega) hk hs
  rw [bits_Set_With.f]
  refine hl.trans ?_
  congr 2
  apply Nat.eq_of_testBit_eq
  intro i
  rw [hb, Nat.testBit_or, msk_bit]
  rfl
theorem of_f (L : List Int) (k : Nat) (hL : L.length < 9223372036854775807) (hk : L.length + 1 ≤ k) : bits_Of.f k L = some ((msk L : Nat) : Int) := by
  have h : bits_Set_With.f k 0 L = some ((0 ||| msk L : Nat) : Int) := with_f L k 0 hL hk (by decide)
  rw [bits_Of.f, h, Nat.zero_or]
  rfl
theorem without_f (L : List Int) (k s : Nat) (hL : L.length < 9223372036854775807) (hk : L.length + 1 ≤ k) (hs : s < 18446744073709551616) : bits_Set_Without.f k (s : Int) L = some ((nl s (msk L) : Nat) : Int) := by
  rw [bits_Set_Without.f, of_f L k hL hk]
  exact congrArg some (u64_andNot_nat s (msk L) hs (msk_lt L))
theorem join0 (k : Nat) (a : Int) : bits_Set_Join.f (k + 1) a [] = some a := by
  simp [bits_Set_Join.f, bits_Set_Join.l0]
theorem join1 (k : Nat) (a b : Int) : bits_Set_Join.f (k + 2) a [b] = some (Go.bits .or .u64 a b) := by
  simp [bits_Set_Join.f, bits_Set_Join.l0, rd, wrap64]
theorem join2 (k : Nat) (a b c : Int) : bits_Set_Join.f (k + 3) a [b, c] = some (Go.bits .or .u64 (Go.bits .or .u64 a b) c) := by
  simp [bits_Set_Join.f, bits_Set_Join.l0, rd, wrap64]
theorem count (s : Nat) (h : s < 18446744073709551616) : bits_Set_Count.f (s : Int) = some (((lst s).length : Nat) : Int) := by
  have e : bits_OnesCount64.f (s : Int) = some ((cnt 64 s : Nat) : Int) := ones s h
  rw [bits_Set_Count.f, e, lst, cnt_els]
  rfl
end Go.Proofs.YtimodbkfjaknhaaDoor.MBitsSets
