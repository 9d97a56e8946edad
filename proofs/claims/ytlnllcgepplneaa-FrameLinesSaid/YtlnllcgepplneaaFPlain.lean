/- Lines of bytes, plain: what a reader has and gives. -/
import Derived.Test.YtlnllcgepplneaaFTake
namespace Go.Proofs.Ytlnllcgepplneaa.MFrameLines
open Go.RowKit Go.Proofs Go.Proofs.YtlnllcgepplneaaW.PrintWords Go.Proofs.YtlnllcgepplneaaW.PrintLast Go.Proofs.YtlnllcgepplneaaW.PrintMore
set_option linter.unusedVariables false
set_option linter.unusedSimpArgs false
/-- The line of some bytes. -/
def lineOf (cur : List Int) : S35 := if cur.length > 400 then ⟨(⟨#[]⟩ : ByteArray), 15⟩ else if cur.any oddI = true then ⟨(⟨#[]⟩ : ByteArray), 11⟩ else ⟨strOfNums cur, 0⟩
/-- The lines that end in rest, behind cur; and what is left. -/
def linesOf : List Int → List Int → List S35 × List Int
  | cur, [] => ([], cur)
  | cur, x :: r => if x = 10 then (lineOf cur :: (linesOf [] r).1, (linesOf [] r).2) else linesOf (cur ++ [x]) r
theorem linesOf_append : ∀ (a cur b : List Int), linesOf cur (a ++ b) = ((linesOf cur a).1 ++ (linesOf (linesOf cur a).2 b).1, (linesOf (linesOf cur a).2 b).2)
  | [], cur, b => by simp [linesOf]
  | x :: r, cur, b => by
    rw [List.cons_append, linesOf, linesOf]
    by_cases h : x = 10
    · rw [if_pos h, if_pos h, linesOf_append r [] b]
      rfl
    · rw [if_neg h, if_neg h, linesOf_append r (cur ++ [x]) b]
theorem linesOf_none : ∀ (a cur : List Int), (∀ x ∈ a, x ≠ 10) → linesOf cur a = ([], cur ++ a)
  | [], cur, _ => by simp [linesOf]
  | x :: r, cur, h => by
    rw [linesOf, if_neg (h x List.mem_cons_self), linesOf_none r _ (fun y hy => h y (List.mem_cons_of_mem _ hy))]
    simp
theorem nl_before (l : List Int) : ∀ x ∈ l.take (nl l), x ≠ 10 := by
  intro x hx e
  obtain ⟨i, hi, rfl⟩ := List.getElem_of_mem hx
  rw [List.length_take] at hi
  rw [List.getElem_take] at e
  have := List.not_of_lt_findIdx (p := fun x : Int => x == 10) (xs := l) (i := i) (by unfold nl at hi; omega)
  rw [e] at this
  exact absurd this (by decide)
theorem nl_here (l : List Int) (h : nl l < l.length) : l = l.take (nl l) ++ 10 :: l.drop (nl l + 1) := by
  have e : l[nl l] = 10 := by
    have := List.findIdx_getElem (p := fun x : Int => x == 10) (xs := l) (w := h)
    exact eq_of_beq this
  conv => lhs; rw [← List.take_append_drop (nl l) l]
  rw [List.drop_eq_getElem_cons h, e]
theorem nl_le (l : List Int) : nl l ≤ l.length := List.findIdx_le_length
theorem linesOf_nl (cur l b : List Int) (h : nl l < l.length) : linesOf cur (l ++ b) = (lineOf (cur ++ l.take (nl l)) :: (linesOf [] (l.drop (nl l + 1) ++ b)).1, (linesOf [] (l.drop (nl l + 1) ++ b)).2) := by
  conv => lhs; rw [nl_here l h]
  rw [List.append_assoc, linesOf_append, linesOf_none _ _ (nl_before l), List.cons_append, linesOf, if_pos rfl]
  rfl
theorem linesOf_rest (cur l b : List Int) (h : ¬ nl l < l.length) : linesOf cur (l ++ b) = linesOf (cur ++ l) b := by
  have hl : l.take (nl l) = l := List.take_of_length_le (by omega)
  have := nl_before l
  rw [hl] at this
  rw [linesOf_append, linesOf_none _ _ this]
  rfl
/-- A reader's memory, by the bytes that have come since the last line. -/
structure Rel (cur p : List Int) (lo od so : Bool) : Prop where
  hlo : lo = decide (cur.length > 400)
  hod : od = cur.any oddI
  hso : so = decide (0 < cur.length)
  hp : lo = false → p = cur
  hle : p.length ≤ 400
theorem Rel.nil : Rel [] [] false false false := ⟨rfl, rfl, rfl, fun _ => rfl, by decide⟩
theorem Rel.take {cur p l : List Int} {lo od so : Bool} (h : Rel cur p lo od so) : Rel (cur ++ l) (if (lo || decide (p.length + l.length > 400)) = true then p else p ++ l) (lo || decide (p.length + l.length > 400)) (od || l.any oddI) (so || decide (0 < l.length)) := by
  obtain ⟨h1, h2, h3, h4, h5⟩ := h
  refine ⟨?_, by rw [h2, List.any_append], ?_, ?_, ?_⟩
  · cases lo with
    | true =>
      have h6 := of_decide_eq_true h1.symm
      rw [Bool.true_or, eq_comm, decide_eq_true_eq, List.length_append]
      omega
    | false => rw [h4 rfl, Bool.false_or, List.length_append]
  · rw [h3, List.length_append]
    rw [Bool.eq_iff_iff, Bool.or_eq_true, decide_eq_true_eq, decide_eq_true_eq, decide_eq_true_eq]
    omega
  · intro hf
    rw [hf, if_neg (by simp)]
    rw [Bool.or_eq_false_iff] at hf
    rw [h4 hf.1]
  · split
    · exact h5
    · rename_i hn
      have hn : (lo || decide (p.length + l.length > 400)) = false := by simpa using hn
      rw [Bool.or_eq_false_iff] at hn
      have := of_decide_eq_false hn.2
      rw [List.length_append]
      omega
theorem Rel.line {cur p : List Int} {lo od so : Bool} (h : Rel cur p lo od so) : lineOf cur = if lo = true then ⟨(⟨#[]⟩ : ByteArray), 15⟩ else if od = true then ⟨(⟨#[]⟩ : ByteArray), 11⟩ else ⟨strOfNums p, 0⟩ := by
  obtain ⟨h1, h2, h3, h4, h5⟩ := h
  unfold lineOf
  rw [← h2]
  by_cases hc : cur.length > 400
  · rw [if_pos hc, h1, decide_eq_true hc, if_pos rfl]
  · have hl : lo = false := h1.trans (decide_eq_false hc)
    rw [if_neg hc, hl, h4 hl]
    rfl
end Go.Proofs.Ytlnllcgepplneaa.MFrameLines
