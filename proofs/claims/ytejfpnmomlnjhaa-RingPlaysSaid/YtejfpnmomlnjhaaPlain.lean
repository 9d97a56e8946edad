/- A ring of m places from place f on, n of them in use, holds a list: what adding, taking away and reading do to that list. -/
import Derived.RowKit
namespace Go.Proofs.Ytejfpnmomlnjhaa.Plain

/-- The place of the i-th thing behind the one at f. -/
def pl (m f i : Nat) : Nat := if f + i < m then f + i else f + i - m
theorem pl_mod {m f i : Nat} (hf : f < m) (hi : i ≤ m) : (f + i) % m = pl m f i := by
  unfold pl
  split
  · exact Nat.mod_eq_of_lt ‹_›
  · rw [Nat.mod_eq_sub_mod (by omega)]
    exact Nat.mod_eq_of_lt (by omega)
theorem pl_lt {m f i : Nat} (hf : f < m) (hi : i ≤ m) : pl m f i < m := by unfold pl; split <;> omega
theorem pl_zero {m f : Nat} (hf : f < m) : pl m f 0 = f := by unfold pl; split <;> omega
theorem pl_int {m f : Nat} {z : Int} (hf : f < m) (h0 : 0 ≤ z) (hz : z ≤ m) : ((f : Int) + z) % (m : Int) = (pl m f z.toNat : Nat) := by
  rw [← pl_mod hf (by omega)]
  obtain ⟨n, rfl⟩ := Int.eq_ofNat_of_zero_le h0
  simp

section
variable {α : Type} {d : α} {m f n : Nat} {buf : List α} {x : α}
/-- What the ring holds, the eldest first. -/
def con (d : α) (m f n : Nat) (buf : List α) : List α := (List.range n).map fun i => buf.getD (pl m f i) d
theorem con_length : (con d m f n buf).length = n := by simp [con]
theorem con_zero : con d m f 0 buf = [] := rfl
theorem con_get {i : Nat} (h : i < n) : (con d m f n buf)[i]? = some (buf.getD (pl m f i) d) := by simp [con, h]
theorem con_getD {i : Nat} (h : i < n) : (con d m f n buf).getD i d = buf.getD (pl m f i) d := by rw [List.getD_eq_getElem?_getD, con_get h]; rfl
theorem con_push (hl : buf.length = m) (hf : f < m) (hn : n < m) : con d m f (n + 1) (buf.set (pl m f n) x) = con d m f n buf ++ [x] := by
  apply List.ext_getElem?
  intro i
  by_cases h1 : i < n
  · rw [con_get (by omega), List.getElem?_append_left (by rw [con_length]; exact h1), con_get h1]
    rw [List.getD_eq_getElem?_getD, List.getElem?_set_ne, ← List.getD_eq_getElem?_getD]
    unfold pl; split <;> split <;> omega
  · by_cases h2 : i = n
    · subst h2
      rw [con_get (by omega), List.getElem?_append_right (by rw [con_length]; exact Nat.le_refl _), con_length, Nat.sub_self]
      rw [List.getD_eq_getElem?_getD, List.getElem?_set_self (by rw [hl]; exact pl_lt hf (by omega))]
      rfl
    · rw [List.getElem?_eq_none (by rw [con_length]; omega), List.getElem?_eq_none (by rw [List.length_append, con_length]; simp; omega)]
theorem con_drop (_hf : f < m) (hn : 0 < n) (hm : n ≤ m) : con d m (pl m f 1) (n - 1) buf = (con d m f n buf).drop 1 := by
  apply List.ext_getElem?
  intro i
  rw [List.getElem?_drop]
  by_cases h : i < n - 1
  · rw [con_get h, con_get (by omega)]
    congr 2
    unfold pl
    split <;> split <;> split <;> omega
  · rw [List.getElem?_eq_none (by rw [con_length]; omega), List.getElem?_eq_none (by rw [con_length]; omega)]
theorem con_pop (_hf : f < m) (hn : n < m) : con d m f n (buf.set (pl m f n) x) = con d m f n buf := by
  apply List.ext_getElem?
  intro i
  by_cases h : i < n
  · rw [con_get h, con_get h]
    rw [List.getD_eq_getElem?_getD, List.getElem?_set_ne, ← List.getD_eq_getElem?_getD]
    unfold pl; split <;> split <;> omega
  · rw [List.getElem?_eq_none (by rw [con_length]; omega), List.getElem?_eq_none (by rw [con_length]; omega)]
theorem con_take (k : Nat) (hk : k ≤ n) : con d m f k buf = (con d m f n buf).take k := by
  apply List.ext_getElem?
  intro i
  rw [List.getElem?_take]
  by_cases h : i < k
  · rw [con_get h, if_pos h, con_get (by omega)]
  · rw [if_neg h, List.getElem?_eq_none (by rw [con_length]; omega)]

/-- The last m of a list. -/
def last (m : Nat) (l : List α) : List α := l.drop (l.length - m)
theorem last_length (l : List α) : (last m l).length = min m l.length := by unfold last; rw [List.length_drop]; omega
theorem last_small {l : List α} (h : l.length ≤ m) : last m l = l := by unfold last; rw [show l.length - m = 0 by omega]; rfl
theorem last_snoc (hm : 0 < m) (l : List α) : last m (l ++ [x]) = if (last m l).length < m then last m l ++ [x] else (last m l).drop 1 ++ [x] := by
  rw [last_length]
  unfold last
  rw [List.length_append]
  simp only [List.length_cons, List.length_nil]
  split
  · rw [show l.length + (0 + 1) - m = l.length - m by omega, List.drop_append, show l.length - m - l.length = 0 by omega]
    rfl
  · rw [List.drop_drop, show l.length + (0 + 1) - m = l.length - m + 1 by omega, List.drop_append, show l.length - m + 1 - l.length = 0 by omega]
    rfl
theorem last_nil : last m ([] : List α) = [] := by simp [last]
theorem last_last (l r : List α) : last m (last m l ++ r) = last m (l ++ r) := by
  by_cases h : l.length ≤ m
  · rw [last_small h]
  · have e1 : (last m l).length = m := by rw [last_length]; omega
    have e2 : last m l = l.drop (l.length - m) := rfl
    generalize hl' : last m l = l' at e1 e2 ⊢
    unfold last
    rw [List.length_append, List.length_append]
    by_cases hm : r.length ≤ m
    · rw [show l.length + r.length - m = (l.length - m) + r.length by omega, ← List.drop_drop, List.drop_append_of_le_length (by omega), List.drop_append_of_le_length (l₁ := l) (by omega), ← e2, List.drop_append_of_le_length (by omega)]
      congr 2
      omega
    · rw [List.drop_append, List.drop_append, List.drop_eq_nil_of_le (as := l') (by omega), List.drop_eq_nil_of_le (as := l) (by omega)]
      congr 2
      omega
/-- Behind a further thing. -/
theorem con_next (hl : buf.length = m) (hf : f < m) (hn : n ≤ m) {l : List α} (hc : con d m f n buf = last m l) :
    con d m (if n = m then pl m f 1 else f) (if n = m then n else n + 1) (buf.set (pl m f n) x) = last m (l ++ [x]) := by
  have hn' : (last m l).length = n := by rw [← hc, con_length]
  rw [last_snoc (by omega), hn', ← hc]
  by_cases h : n = m
  · rw [if_pos h, if_pos h, if_neg (by omega)]
    have hd := con_drop (d := d) (buf := buf) hf (by omega : 0 < n) hn
    rw [← hd]
    have hp : pl m f n = pl m (pl m f 1) (n - 1) := by unfold pl; split <;> split <;> split <;> omega
    have hc' := con_push (d := d) (x := x) hl (pl_lt hf (by omega : 1 ≤ m)) (by omega : n - 1 < m)
    rw [← hp, show n - 1 + 1 = n by omega] at hc'
    exact hc'
  · rw [if_neg h, if_neg h, if_pos (by omega)]
    exact con_push hl hf (by omega)
end
end Go.Proofs.Ytejfpnmomlnjhaa.Plain
