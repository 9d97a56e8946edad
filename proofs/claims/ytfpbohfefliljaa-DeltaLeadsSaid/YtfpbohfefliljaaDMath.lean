/- The least patch between two lists, in plain words. -/
namespace Go.Proofs.Ytfpbohfefliljaa.MD
set_option linter.unusedVariables false
section
variable {α : Type} [DecidableEq α]
/-- How long two lists are the same. -/
def pre : List α → List α → Nat
  | x :: xs, y :: ys => if x = y then pre xs ys + 1 else 0
  | _, _ => 0
theorem pre_of : ∀ (k : Nat) (a b : List α), k ≤ a.length → k ≤ b.length → a.take k = b.take k → (k = a.length ∨ k = b.length ∨ a[k]? ≠ b[k]?) → pre a b = k
  | 0, [], b, _, _, _, _ => by simp [pre]
  | 0, x :: xs, [], _, _, _, _ => by simp [pre]
  | 0, x :: xs, y :: ys, _, _, _, h => by
    rcases h with h | h | h
    · simp at h
    · simp at h
    · rw [pre, if_neg (fun e => h (by simp [e]))]
  | k + 1, [], _, h, _, _, _ => by simp at h
  | k + 1, _ :: _, [], _, h, _, _ => by simp at h
  | k + 1, x :: xs, y :: ys, h1, h2, ht, h => by
    simp only [List.take_succ_cons, List.cons.injEq] at ht
    rw [pre, if_pos ht.1, pre_of k xs ys (by simpa using h1) (by simpa using h2) ht.2 (by
      rcases h with h | h | h
      · exact .inl (by simpa using h)
      · exact .inr (.inl (by simpa using h))
      · exact .inr (.inr (by simpa using h)))]
theorem pre_le : ∀ (a b : List α), pre a b ≤ a.length ∧ pre a b ≤ b.length
  | [], b => by simp [pre]
  | x :: xs, [] => by simp [pre]
  | x :: xs, y :: ys => by
    rw [pre]
    split
    · have := pre_le xs ys
      simp
      omega
    · simp
theorem pre_take : ∀ (a b : List α), a.take (pre a b) = b.take (pre a b)
  | [], b => by simp [pre]
  | x :: xs, [] => by simp [pre]
  | x :: xs, y :: ys => by
    rw [pre]
    split
    · rename_i h
      rw [List.take_succ_cons, List.take_succ_cons, pre_take xs ys, h]
    · simp
theorem pre_self : ∀ a : List α, pre a a = a.length
  | [] => by simp [pre]
  | x :: xs => by rw [pre, if_pos rfl, pre_self xs, List.length_cons]
/-- How long they are the same from the end, behind the first k. -/
def suf (a b : List α) (k : Nat) : Nat := pre (a.drop k).reverse (b.drop k).reverse
theorem suf_le (a b : List α) (k : Nat) : suf a b k ≤ a.length - k ∧ suf a b k ≤ b.length - k := by
  have := pre_le (a.drop k).reverse (b.drop k).reverse
  rw [List.length_reverse, List.length_reverse, List.length_drop, List.length_drop] at this
  exact this
def dAt (a b : List α) : Int := if pre a b = a.length ∧ pre a b = b.length then 0 else (pre a b : Int)
def dLess (a b : List α) : Int := ((a.length - pre a b - suf a b (pre a b) : Nat) : Int)
def dWith (a b : List α) : List α := (b.take (b.length - suf a b (pre a b))).drop (pre a b)
omit [DecidableEq α] in
theorem rev_at (a : List α) (k j : Nat) (h : j < a.length - k) : (a.drop k).reverse[j]? = a[a.length - 1 - j]? := by
  rw [List.getElem?_reverse (by rw [List.length_drop]; exact h), List.length_drop, List.getElem?_drop]
  congr 1
  omega
/-- What the rest beyond the common end is. -/
theorem suf_drop (a b : List α) (k : Nat) : a.drop (a.length - suf a b k) = b.drop (b.length - suf a b k) := by
  obtain ⟨h1, h2⟩ := suf_le a b k
  have h := pre_take (a.drop k).reverse (b.drop k).reverse
  change (a.drop k).reverse.take (suf a b k) = (b.drop k).reverse.take (suf a b k) at h
  rw [List.take_reverse, List.take_reverse, List.reverse_inj, List.drop_drop, List.drop_drop, List.length_drop, List.length_drop] at h
  by_cases hk : k ≤ a.length ∧ k ≤ b.length
  · rw [show k + (a.length - k - suf a b k) = a.length - suf a b k by omega, show k + (b.length - k - suf a b k) = b.length - suf a b k by omega] at h
    exact h
  · have : suf a b k = 0 := by omega
    rw [this]
    simp
/-- What a patch makes of a list. -/
def putL (at_ less : Nat) (w a : List α) : List α := a.take at_ ++ w ++ a.drop (at_ + less)
theorem put_diff (a b : List α) : (dAt a b).toNat ≤ a.length ∧ (dLess a b).toNat ≤ a.length - (dAt a b).toNat ∧ putL (dAt a b).toNat (dLess a b).toNat (dWith a b) a = b := by
  obtain ⟨h1, h2⟩ := pre_le a b
  obtain ⟨h3, h4⟩ := suf_le a b (pre a b)
  unfold dAt
  by_cases h : pre a b = a.length ∧ pre a b = b.length
  · rw [if_pos h]
    have hab : a = b := by
      have := pre_take a b
      rw [List.take_of_length_le (by omega), List.take_of_length_le (by omega)] at this
      exact this
    have e1 : dLess a b = 0 := by unfold dLess; omega
    have e2 : dWith a b = [] := by
      unfold dWith
      rw [List.drop_eq_nil_iff, List.length_take]
      omega
    rw [e1, e2]
    refine ⟨by simp, by simp, ?_⟩
    simp [putL, hab]
  · rw [if_neg h]
    have e : (dLess a b).toNat = a.length - pre a b - suf a b (pre a b) := by unfold dLess; omega
    rw [e]
    refine ⟨by omega, by omega, ?_⟩
    unfold putL dWith
    rw [Int.toNat_natCast, pre_take, show pre a b + (a.length - pre a b - suf a b (pre a b)) = a.length - suf a b (pre a b) by omega, suf_drop]
    have e2 : b.take (pre a b) = (b.take (b.length - suf a b (pre a b))).take (pre a b) := by
      rw [List.take_take]
      congr 1
      omega
    rw [e2, List.take_append_drop, List.take_append_drop]
theorem dWith_self (a : List α) : dWith a a = [] := by
  unfold dWith
  rw [List.drop_eq_nil_iff, List.length_take, pre_self]
  omega
theorem dWith_le (a b : List α) : (dWith a b).length ≤ b.length := by
  unfold dWith
  rw [List.length_drop, List.length_take]
  omega
end
end Go.Proofs.Ytfpbohfefliljaa.MD
