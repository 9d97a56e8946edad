/- What comes of two numbers, in closed form. -/
import Derived.Test.YtbbdlcmcndhhkaaDoorForms
namespace Go.Proofs.YtbbdlcmcndhhkaaDoor.MValReckons
open Go Go.RowKit Go.Proofs.YtbbdlcmcndhhkaaDoorW.PrintWords Go.Proofs.YtbbdlcmcndhhkaaDoorW.PrintLast Go.Proofs.YtbbdlcmcndhhkaaDoorW.PrintMore
set_option linter.unusedVariables false
set_option linter.unusedSimpArgs false

def InR (n : Int) : Prop := -9223372036854775808 ≤ n ∧ n ≤ 9223372036854775807
instance (n : Int) : Decidable (InR n) := inferInstanceAs (Decidable (_ ∧ _))
def res (v : Int) : Int × Int × ByteArray × Int := if InR v then (1, v, ⟨#[]⟩, 0) else (0, 0, ⟨#[]⟩, 21)
theorem wrap_in {n : Int} (h : InR n) : wrap64 n = n := by unfold wrap64; unfold InR at h; omega
theorem wrap_far (n : Int) : InR (wrap64 n) := by unfold wrap64 InR; omega
theorem over_f (n : Int) (b : Bool) : val_over.f n b = some (if b then (0, 0, ⟨#[]⟩, 21) else (1, n, ⟨#[]⟩, 0)) := by cases b <;> rfl
theorem over_res {v : Int} {b : Bool} (h : b = decide (¬ InR v)) : val_over.f (wrap64 v) b = some (res v) := by
  rw [over_f, h, res]
  by_cases g : InR v
  · simp [g, wrap_in g]
  · simp [g]
theorem over_bad {v : Int} (h : ¬ InR v) : val_over.f (wrap64 v) true = some (res v) := over_res (by simp [h])
theorem over_ok {v : Int} (h : InR v) : val_over.f (wrap64 v) false = some (res v) := over_res (by simp [h])
theorem over_iff {v : Int} {p : Prop} [Decidable p] (h : p ↔ ¬ InR v) : val_over.f (wrap64 v) (decide p) = some (res v) := over_res (decide_eq_decide.2 h)
theorem some_eta (x : Option (Int × Int × ByteArray × Int)) : (x.bind fun y => some (y.1, y.2.1, y.2.2.1, y.2.2.2)) = x := by cases x <;> rfl

theorem num_add {n m : Int} (hn : InR n) (hm : InR m) : num 6 n m = some (res (n + m)) := by
  unfold num val_number.f
  simp only [if_true, some_eta]
  unfold InR at hn hm
  split
  · split
    · rename_i c d
      exact over_bad (by unfold wrap64 at d; unfold InR; omega)
    · rename_i c d
      rw [if_neg (by omega)]
      exact over_ok (by unfold wrap64 at d; unfold InR; omega)
  · split
    · refine over_iff ?_
      unfold wrap64 InR
      omega
    · exact over_ok (by unfold InR; omega)
theorem num_sub {n m : Int} (hn : InR n) (hm : InR m) : num 7 n m = some (res (n - m)) := by
  unfold num val_number.f
  simp only [if_true, some_eta, show ((7 : Int) = 6) = False from by simp, if_false]
  unfold InR at hn hm
  split
  · split
    · rename_i c d
      exact over_bad (by unfold wrap64 at d; unfold InR; omega)
    · rename_i c d
      rw [if_neg (by omega)]
      exact over_ok (by unfold wrap64 at d; unfold InR; omega)
  · split
    · refine over_iff ?_
      unfold wrap64 InR
      omega
    · exact over_ok (by unfold InR; omega)
theorem tdiv_bounds (p a : Int) (ha : a ≠ 0) : (p - a * p.tdiv a).natAbs < a.natAbs := by
  have h := Int.mul_tdiv_add_tmod p a
  have e : p - a * p.tdiv a = p.tmod a := by omega
  rw [e, Int.natAbs_tmod]
  exact Nat.mod_lt _ (by omega)
theorem mul_beyond {n m : Int} (hn : InR n) (hm : InR m) (h0 : n ≠ 0) (h1 : n ≠ -1) : ((wrap64 (Int.tdiv (wrap64 (n * m)) n)) != m) = decide (¬ InR (n * m)) := by
  by_cases h : InR (n * m)
  · rw [wrap_in h, Int.mul_tdiv_cancel_left _ h0, wrap_in hm]
    simp [h]
  · simp only [h, not_false_eq_true, decide_true, bne_iff_ne, ne_eq]
    intro e
    have hp := wrap_far (n * m)
    have hk : ∃ k : Int, k ≠ 0 ∧ wrap64 (n * m) = n * m + 18446744073709551616 * k := by
      refine ⟨-((n * m + 9223372036854775808) / 18446744073709551616), ?_, ?_⟩
      · unfold InR at h; omega
      · unfold wrap64; omega
    obtain ⟨k, hk, he⟩ := hk
    generalize wrap64 (n * m) = p at *
    have hd : InR (Int.tdiv p n) := by
      have a := Int.natAbs_tdiv p n
      unfold InR at hn hp ⊢
      rcases (show n = 1 ∨ 2 ≤ n.natAbs from by omega) with rfl | g
      · rw [Int.tdiv_one]; exact hp
      · have : p.natAbs / n.natAbs ≤ p.natAbs / 2 := Nat.div_le_div_left g (by omega)
        have a' : (p.tdiv n).natAbs = p.natAbs / n.natAbs := a
        omega
    rw [wrap_in hd] at e
    have b := tdiv_bounds p n h0
    rw [e] at b
    unfold InR at hn
    omega
theorem num_mul {n m : Int} (hn : InR n) (hm : InR m) : num 3 n m = some (res (n * m)) := by
  unfold num val_number.f
  simp only [if_true, some_eta, show ((3 : Int) = 6) = False from by simp, show ((3 : Int) = 7) = False from by simp, if_false]
  have hn' := hn
  have hm' := hm
  unfold InR at hn hm
  by_cases c1 : n = -1
  · subst c1
    simp only [if_true]
    have e : (-1 : Int) * m = -m := by omega
    by_cases c2 : m = -9223372036854775808
    · subst c2; rw [if_pos rfl]; exact over_res (by decide)
    · rw [if_neg c2]
      have g : InR (-1 * m) := by rw [e]; unfold InR; omega
      repeat' split
      all_goals first | exact over_ok g | (exfalso; omega)
  · rw [if_neg c1]
    by_cases c2 : m = -1
    · subst c2
      rw [if_pos rfl]
      have e : n * (-1) = -n := by omega
      by_cases c3 : n = -9223372036854775808
      · subst c3; rw [if_pos rfl]; exact over_res (by decide)
      · rw [if_neg c3]
        by_cases c4 : n = 0
        · subst c4; rw [if_pos rfl]; exact over_res (by decide)
        · rw [if_neg c4]
          exact over_res (mul_beyond hn' hm' c4 c1)
    · rw [if_neg c2]
      by_cases c4 : n = 0
      · subst c4; rw [if_pos rfl]; refine over_res ?_; rw [Int.zero_mul]; decide
      · rw [if_neg c4]
        exact over_res (mul_beyond hn' hm' c4 c1)
theorem num_div0 (n : Int) : num 4 n 0 = some (0, 0, ⟨#[]⟩, 22) := by simp [num, val_number.f]
theorem num_rem0 (n : Int) : num 5 n 0 = some (0, 0, ⟨#[]⟩, 22) := by simp [num, val_number.f]
theorem num_rem1 (n : Int) : num 5 n (-1) = some (1, 0, ⟨#[]⟩, 0) := by simp [num, val_number.f, val_number.j0, val_Of.f]
theorem num_div1 {n : Int} (hn : InR n) : num 4 n (-1) = some (res (-n)) := by
  unfold InR at hn
  simp only [num, val_number.f, val_number.j0, some_eta]
  have e : (n == -9223372036854775808) = decide (¬ InR (-n)) := by
    rw [Bool.eq_iff_iff]
    rw [beq_iff_eq, decide_eq_true_iff]
    unfold InR
    omega
  simpa using over_res e
theorem tdiv_in {n m : Int} (hn : InR n) (h0 : m ≠ 0) (h1 : m ≠ -1) : InR (n.tdiv m) := by
  have a : (n.tdiv m).natAbs = n.natAbs / m.natAbs := Int.natAbs_tdiv n m
  unfold InR at hn ⊢
  rcases (show m = 1 ∨ 2 ≤ m.natAbs from by omega) with rfl | g
  · rw [Int.tdiv_one]; exact hn
  · have : n.natAbs / m.natAbs ≤ n.natAbs / 2 := Nat.div_le_div_left g (by omega)
    omega
theorem num_div {n m : Int} (hn : InR n) (h0 : m ≠ 0) (h1 : m ≠ -1) : num 4 n m = some (1, n.tdiv m, ⟨#[]⟩, 0) := by
  simp [num, val_number.f, val_number.j0, val_Of.f, h0, h1, wrap_in (tdiv_in hn h0 h1)]
theorem num_rem {n m : Int} (hn : InR n) (h0 : m ≠ 0) (h1 : m ≠ -1) : num 5 n m = some (1, n.tmod m, ⟨#[]⟩, 0) := by
  simp [num, val_number.f, val_number.j0, val_Of.f, h0, h1]
theorem back_in {n m : Int} (hn : InR n) : InR (n.tdiv m * m) ∧ n.tdiv m * m + n.tmod m = n := by
  have h := Int.mul_tdiv_add_tmod n m
  have e : n.tdiv m * m + n.tmod m = n := by rw [Int.mul_comm]; exact h
  have a : (n.tmod m).natAbs = n.natAbs % m.natAbs := Int.natAbs_tmod n m
  have b := Nat.mod_le n.natAbs m.natAbs
  refine ⟨?_, e⟩
  unfold InR at hn ⊢
  rcases Int.le_total 0 n with g | g
  · have := Int.tmod_nonneg m g
    omega
  · have := Int.tmod_nonneg m (a := -n) (by omega)
    rw [Int.neg_tmod] at this
    omega
/-- What the law asks of two numbers: the ways in which the quotient and what is left come out. -/
theorem laws_num {n m : Int} (hn : InR n) (hm : InR m) :
    (m = 0 ∧ num 4 n m = some (0, 0, ⟨#[]⟩, 22) ∧ num 5 n m = some (0, 0, ⟨#[]⟩, 22)) ∨
    (m = -1 ∧ num 4 n m = some (0, 0, ⟨#[]⟩, 21) ∧ num 5 n m = some (1, 0, ⟨#[]⟩, 0)) ∨
    (∃ d r p, num 4 n m = some (1, d, ⟨#[]⟩, 0) ∧ num 5 n m = some (1, r, ⟨#[]⟩, 0) ∧ num 3 d m = some (1, p, ⟨#[]⟩, 0) ∧ num 6 p r = some (1, n, ⟨#[]⟩, 0)) := by
  by_cases h0 : m = 0
  · subst h0; exact .inl ⟨rfl, num_div0 n, num_rem0 n⟩
  by_cases h1 : m = -1
  · subst h1
    by_cases hl : InR (-n)
    · refine .inr (.inr ⟨-n, 0, n, ?_, num_rem1 n, ?_, ?_⟩)
      · rw [num_div1 hn, res, if_pos hl]
      · rw [num_mul hl hm, res, show -n * -1 = n from by omega, if_pos hn]
      · rw [num_add hn (by decide), res, Int.add_zero, if_pos hn]
    · refine .inr (.inl ⟨rfl, ?_, num_rem1 n⟩)
      rw [num_div1 hn, res, if_neg hl]
  · obtain ⟨a, b⟩ := back_in (m := m) hn
    have c : InR (n.tmod m) := by
      have a : (n.tmod m).natAbs = n.natAbs % m.natAbs := Int.natAbs_tmod n m
      have := Nat.mod_lt n.natAbs (y := m.natAbs) (by omega)
      have hm' := hm
      unfold InR at hm' ⊢
      omega
    refine .inr (.inr ⟨n.tdiv m, n.tmod m, n.tdiv m * m, num_div hn h0 h1, num_rem hn h0 h1, ?_, ?_⟩)
    · rw [num_mul (tdiv_in hn h0 h1) hm, res, if_pos a]
    · rw [num_add a c, b, res, if_pos hn]
theorem num_mul_comm {n m : Int} (hn : InR n) (hm : InR m) : ∃ k v e, num 3 n m = some (k, v, ⟨#[]⟩, e) ∧ num 3 m n = some (k, v, ⟨#[]⟩, e) := by
  rw [num_mul hn hm, num_mul hm hn, Int.mul_comm m n]
  unfold res
  split <;> exact ⟨_, _, _, rfl, rfl⟩
theorem num_add_comm {n m : Int} (hn : InR n) (hm : InR m) : ∃ k v e, num 6 n m = some (k, v, ⟨#[]⟩, e) ∧ num 6 m n = some (k, v, ⟨#[]⟩, e) := by
  rw [num_add hn hm, num_add hm hn, Int.add_comm m n]
  unfold res
  split <;> exact ⟨_, _, _, rfl, rfl⟩
theorem inR_of {n : Int} (h : (Lit.int .i64 n).wf = true) : InR n := by
  simpa [Lit.wf, IntKind.min, IntKind.max, IntKind.signed, IntKind.bits, InR] using h
end Go.Proofs.YtbbdlcmcndhhkaaDoor.MValReckons
