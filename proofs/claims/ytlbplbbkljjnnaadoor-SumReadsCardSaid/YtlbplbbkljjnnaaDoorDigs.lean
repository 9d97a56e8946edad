/- Digits at base 16, plain: what is shown is read again, and what is read is shown so. -/
namespace Go.Proofs.YtlbplbbkljjnnaaDoor.Digs
/-- A digit's letter. -/
def dgN (d : Nat) : Nat := if d < 10 then 48 + d else 87 + d
/-- A letter's digit. -/
def dv (b : Nat) : Option Nat := if 48 ≤ b ∧ b ≤ 57 then some (b - 48) else if 97 ≤ b ∧ b ≤ 102 then some (b - 87) else none
/-- What letters say, behind a number. -/
def readL : List Nat → Nat → Option Nat
  | [], a => some a
  | b :: r, a => match dv b with | some d => readL r (16 * a + d) | none => none
/-- A number's last digits. -/
def hxN (n : Nat) : Nat → List Nat
  | 0 => []
  | k + 1 => dgN (n / 16 ^ k % 16) :: hxN n k
theorem hxN_length (n : Nat) : ∀ k, (hxN n k).length = k
  | 0 => rfl
  | k + 1 => by rw [hxN, List.length_cons, hxN_length n k]
theorem dv_dgN (d : Nat) (h : d < 16) : dv (dgN d) = some d := by
  unfold dv dgN
  split
  · rw [if_pos (by omega)]; congr 1; omega
  · rw [if_neg (by omega), if_pos (by omega)]; congr 1; omega
theorem dgN_dv (b d : Nat) (h : dv b = some d) : d < 16 ∧ dgN d = b := by
  unfold dv at h
  split at h
  · cases h
    unfold dgN
    rw [if_pos (by omega)]
    omega
  · split at h
    · cases h
      unfold dgN
      rw [if_neg (by omega)]
      omega
    · cases h
theorem read_hx (n : Nat) : ∀ k a, readL (hxN n k) a = some (16 ^ k * a + n % 16 ^ k)
  | 0, a => by rw [hxN, readL, Nat.pow_zero, Nat.mod_one, Nat.one_mul, Nat.add_zero]
  | k + 1, a => by
    rw [hxN, readL, dv_dgN _ (Nat.mod_lt _ (by omega))]
    show readL (hxN n k) _ = _
    rw [read_hx n k, Nat.pow_succ, Nat.mod_mul, Nat.mul_add]
    congr 1
    rw [Nat.mul_assoc]
    omega
theorem hx_read : ∀ (l : List Nat) (a y : Nat), readL l a = some y → y / 16 ^ l.length = a ∧ hxN y l.length = l
  | [], a, y, h => by
    rw [readL] at h
    cases h
    exact ⟨by simp, rfl⟩
  | b :: r, a, y, h => by
    rw [readL] at h
    cases hd : dv b with
    | none => rw [hd] at h; cases h
    | some d =>
      rw [hd] at h
      obtain ⟨h1, h2⟩ := hx_read r _ y h
      obtain ⟨h3, h4⟩ := dgN_dv b d hd
      refine ⟨?_, ?_⟩
      · rw [List.length_cons, Nat.pow_succ, ← Nat.div_div_eq_div_mul, h1]
        omega
      · rw [List.length_cons, hxN, h1, h2, show (16 * a + d) % 16 = d by omega, h4]
theorem readL_isSome : ∀ (l : List Nat) (a : Nat), (readL l a).isSome = l.all fun b => (dv b).isSome
  | [], a => rfl
  | b :: r, a => by
    rw [readL, List.all_cons]
    cases hd : dv b with
    | none => rfl
    | some d =>
      show (readL r _).isSome = _
      rw [readL_isSome r]
      rfl
theorem read_lt (l : List Nat) (y : Nat) (h : readL l 0 = some y) : y < 16 ^ l.length := by
  have h1 := (hx_read l 0 y h).1
  rcases Nat.lt_or_ge y (16 ^ l.length) with h2 | h2
  · exact h2
  · have := Nat.div_pos h2 (Nat.pow_pos (by omega))
    omega
/-- The state behind the first letters. -/
theorem readL_append : ∀ (l r : List Nat) (a : Nat), readL (l ++ r) a = (readL l a).bind fun b => readL r b
  | [], r, a => rfl
  | b :: l, r, a => by
    rw [List.cons_append, readL, readL]
    cases dv b with
    | none => rfl
    | some d => exact readL_append l r _
end Go.Proofs.YtlbplbbkljjnnaaDoor.Digs
