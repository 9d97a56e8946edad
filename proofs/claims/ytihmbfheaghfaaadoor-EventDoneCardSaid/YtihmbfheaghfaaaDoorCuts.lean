/- A name's parts, plain: joined they are the name; the first ones, joined, are a beginning that ends at a dot. -/
import Derived.Lib.Split
import Derived.Lib.Join
import Derived.Lib.IndexMore
import Derived.Lib.CountLaws
namespace Go.Proofs.YtihmbfheaghfaaaDoor.Cuts
open Go Go.Lib
/-- The parts. -/
def pieces (n : Nat) (s : List UInt8) : List (List UInt8) := splitK [46] 0 n s
theorem index_at (s : List UInt8) (i : Nat) (h : index s [46] = i) : s = s.take i ++ 46 :: s.drop (i + 1) := by
  rcases index_spec s [46] with ⟨h1, _⟩ | ⟨j, h1, h2, h3, _⟩
  · rw [h1] at h; omega
  · obtain rfl : j = i := by omega
    have h4 : s.drop j = 46 :: s.drop (j + 1) := by
      unfold occAt at h3
      cases hd : s.drop j with
      | nil => rw [hd] at h3; simp at h3
      | cons c r =>
        rw [hd] at h3
        have e : s.drop (j + 1) = r := by rw [← List.drop_drop, hd]; rfl
        rw [e]
        simp at h3
        rw [← h3]
    rw [← h4, List.take_append_drop]
theorem joinTail_cons (sep x : List UInt8) (r : List (List UInt8)) : joinTail sep (x :: r) = sep ++ join (x :: r) sep := by
  rw [join_cons]
  simp [joinTail]
theorem pieces_all : ∀ (n : Nat) (s : List UInt8), count s [46] = n → (pieces n s).length = n + 1 ∧ join (pieces n s) [46] = s := by
  intro n
  induction n with
  | zero =>
    intro s h
    exact ⟨rfl, join_one _ _⟩
  | succ n ih =>
    intro s h
    rcases index_spec s [46] with ⟨h1, _⟩ | ⟨i, h1, _, _, _⟩
    · rw [count_miss h1] at h; omega
    · have hc := count_hit (by simp) h1
      have hn : count (s.drop (i + 1)) [46] = n := by
        rw [h] at hc
        have e : i + [(46 : UInt8)].length = i + 1 := rfl
        rw [e] at hc
        omega
      obtain ⟨g1, g2⟩ := ih _ hn
      have e : pieces (n + 1) s = s.take i :: pieces n (s.drop (i + 1)) := by
        unfold pieces
        rw [splitK, h1]
        have : ((i : Int) == -1) = false := beq_eq_false_iff_ne.2 (by omega)
        rw [this]
        simp
      rw [e]
      refine ⟨by rw [List.length_cons, g1], ?_⟩
      cases hp : pieces n (s.drop (i + 1)) with
      | nil => rw [hp] at g1; simp at g1
      | cons y r =>
        rw [join_cons, joinTail_cons, ← hp, g2]
        exact (index_at s i h1).symm
theorem join_take (l : List (List UInt8)) (n : Nat) (h1 : 1 ≤ n) (h2 : n ≤ l.length) : ∃ t, join l [46] = join (l.take n) [46] ++ t ∧ (t = [] ∨ t.head? = some 46) := by
  cases l with
  | nil => simp at h2; omega
  | cons x r =>
    obtain ⟨m, rfl⟩ : ∃ m, n = m + 1 := ⟨n - 1, by omega⟩
    rw [List.take_succ_cons, join_cons, join_cons]
    have e : joinTail [46] r = joinTail [46] (r.take m) ++ joinTail [46] (r.drop m) := by
      unfold joinTail
      rw [← List.flatten_append, ← List.map_append, List.take_append_drop]
    refine ⟨joinTail [46] (r.drop m), by rw [e, List.append_assoc], ?_⟩
    cases hd : r.drop m with
    | nil => exact .inl rfl
    | cons y q => exact .inr (by rw [joinTail_cons]; rfl)
end Go.Proofs.YtihmbfheaghfaaaDoor.Cuts
