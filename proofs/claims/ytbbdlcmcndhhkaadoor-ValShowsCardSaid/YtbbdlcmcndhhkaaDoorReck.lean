/- The plain law behind ValReckons. -/
import Derived.Test.YtbbdlcmcndhhkaaDoorRefs
import Derived.Test.YtbbdlcmcndhhkaaDoorRight
namespace Go.Proofs.YtbbdlcmcndhhkaaDoor.MValReckons
open Go Go.RowKit Go.Proofs.YtbbdlcmcndhhkaaDoorW.PrintWords Go.Proofs.YtbbdlcmcndhhkaaDoorW.PrintLast Go.Proofs.YtbbdlcmcndhhkaaDoorW.PrintMore
set_option linter.unusedVariables false
set_option linter.unusedSimpArgs false

theorem bt_getD (s : ByteArray) (i : Nat) : bt s i = (bytesOf s).getD i 0 := by rw [← rd_bytesOf]; rfl
theorem plain_l0 (s : ByteArray) (hs : s.size ≤ 48) : ∀ (d i : Nat), s.size ≤ i + d → i ≤ 49 → whirligigref01_Plain.l0 (d + 1) s i = some (((bytesOf s).drop i).all okB)
  | 0, i, h, hi => by
    rw [whirligigref01_Plain.l0, if_neg (by omega), List.drop_eq_nil_of_le (by rw [bytesOf_length]; omega)]
    rfl
  | d + 1, i, h, hi => by
    by_cases c : i < s.size
    · have e : wrap64 ((i : Int) + 1) = ((i + 1 : Nat) : Int) := by unfold wrap64; omega
      rw [whirligigref01_Plain.l0, if_pos (by omega), if_pos (by omega), e, plain_l0 s hs d (i + 1) (by omega) (by omega), drop_all (bytesOf s) i (by rw [bytesOf_length]; omega), bt_getD]
      generalize (bytesOf s).getD i 0 = x
      by_cases c1 : x < 32
      · simp [c1, okB]
      by_cases c2 : x > 126
      · simp [c1, c2, okB]
      by_cases c3 : x = 39
      · simp [c1, c2, c3, okB]
      simp [c1, c2, c3, okB]
    · rw [whirligigref01_Plain.l0, if_neg (by omega), List.drop_eq_nil_of_le (by rw [bytesOf_length]; omega)]
      rfl
theorem plain_f (s : ByteArray) : whirligigref01_Plain.f 50 s = some (plainB s) := by
  unfold whirligigref01_Plain.f plainB
  by_cases h : (s.size : Int) > 48
  · rw [if_pos h, decide_eq_false (by omega), Bool.and_false]
  · rw [if_neg h, decide_eq_true (by omega), Bool.and_true]
    have := plain_l0 s (by omega) 49 0 (by omega) (by omega)
    simpa using this
/-- What may be a value, its text told too. -/
def Rx (k n : Int) (s : ByteArray) : Prop := (k = 3 ∧ n = 0 ∧ plainB s = true) ∨ (k = 1 ∧ s = ⟨#[]⟩) ∨ (k = 2 ∧ s = ⟨#[]⟩ ∧ (n = 0 ∨ n = 1))
theorem right_rx {k n : Int} {s : ByteArray} (h : whirligigref01_Right.f 50 k n s = some true) : Rx k n s := by
  obtain ⟨b, hb, g⟩ := right_some k n s
  obtain rfl : b = true := Option.some.inj (hb.symm.trans h)
  rcases g rfl with ⟨h1, h2, _⟩ | h1 | h1
  · refine .inl ⟨h1, h2, ?_⟩
    rw [whirligigref01_Right.f, if_pos h1, if_pos h2, plain_f] at h
    exact Option.some.inj h
  · exact .inr (.inl h1)
  · exact .inr (.inr h1)
/-! ### which comes first -/
theorem bt_elem (s : ByteArray) (i : Nat) (h : i < s.data.toList.length) : bt s i = ((s.data.toList[i]).toNat : Int) := by
  rw [bt_getD, bytesOf, List.getD_eq_getElem?_getD, List.getElem?_map, List.getElem?_eq_getElem h]
  rfl
theorem before_end (f : Nat) (k n : Int) (s : ByteArray) (m : Int) (t : ByteArray) (i : Nat) (e : i = s.size) (h2 : i ≤ t.size) :
    whirligigref01_before.l0 (f + 2) i k n s k m t = some (Op.bytesLess (s.data.toList.drop i) (t.data.toList.drop i)) := by
  have hds : s.data.toList.drop i = [] := List.drop_eq_nil_of_le (by rw [data_length]; omega)
  rw [whirligigref01_before.l0, if_neg (by omega), whirligigref01_before.j1, if_neg (by decide), hds]
  by_cases c : s.size < t.size
  · rw [List.drop_eq_getElem_cons (by rw [data_length]; omega)]
    simp [Op.bytesLess, c]
  · have hdt : t.data.toList.drop i = [] := List.drop_eq_nil_of_le (by rw [data_length]; omega)
    rw [hdt]
    simp [Op.bytesLess, c]
theorem before_l0 (k n : Int) (s : ByteArray) (m : Int) (t : ByteArray) (hs : s.size ≤ 48) (ht : t.size ≤ 48) : ∀ (d i : Nat), s.size ≤ i + d → i ≤ s.size → i ≤ t.size →
    whirligigref01_before.l0 (2 * d + 2) i k n s k m t = some (Op.bytesLess (s.data.toList.drop i) (t.data.toList.drop i)) := by
  intro d
  induction d with
  | zero =>
    intro i h h1 h2
    exact before_end 0 k n s m t i (by omega) h2
  | succ d ih =>
    intro i h h1 h2
    by_cases ce : i = s.size
    · exact before_end (2 * (d + 1)) k n s m t i ce h2
    · have hls : i < s.data.toList.length := by rw [data_length]; omega
      rw [show 2 * (d + 1) + 2 = (2 * d + 2) + 1 + 1 from by omega, whirligigref01_before.l0, if_pos (by omega), whirligigref01_before.j1]
      by_cases c : i < t.size
      · have hlt : i < t.data.toList.length := by rw [data_length]; omega
        have e : wrap64 ((i : Int) + 1) = ((i + 1 : Nat) : Int) := by unfold wrap64; omega
        rw [if_pos (decide_eq_true (by omega)), if_pos (by omega), if_pos (by omega), if_pos (by omega), bt_elem s i hls, bt_elem t i hlt, e, ih (i + 1) (by omega) (by omega) (by omega),
          List.drop_eq_getElem_cons hls, List.drop_eq_getElem_cons hlt]
        generalize s.data.toList[i] = a
        generalize t.data.toList[i] = b
        simp only [Op.bytesLess]
        by_cases c1 : a = b
        · subst c1
          rw [if_pos rfl]
          simp
        · have c2 : ¬ ((a.toNat : Int) = (b.toNat : Int)) := fun h => c1 (UInt8.toNat_inj.1 (by omega))
          rw [if_neg c2]
          simp only [beq_eq_false_iff_ne.2 c1, Bool.false_and, Bool.or_false]
          congr 1
          rw [decide_eq_decide, UInt8.lt_iff_toNat_lt]
          omega
      · have hdt : t.data.toList.drop i = [] := List.drop_eq_nil_of_le (by rw [data_length]; omega)
        rw [if_neg (by simp; omega), hdt]
        rw [decide_eq_false (by omega)]
        cases s.data.toList.drop i <;> rfl
/-- What is ahead, as it compares. -/
theorem before_f {k n : Int} {s : ByteArray} {m : Int} {t : ByteArray} (h1 : Rt k n s) (h2 : Rt k m t) : whirligigref01_before.f 132 k n s k m t = some (decide (cmpV n s m t < 0)) := by
  unfold whirligigref01_before.f
  have e : decide (cmpV n s m t < 0) = decide (n < m ∨ (n = m ∧ Op.bytesLess s.toList t.toList = true)) := decide_eq_decide.2 cmpV_lt
  rw [e]
  by_cases h3 : k = 3
  · subst h3
    have a1 : n = 0 ∧ s.size ≤ 48 := by rcases h1 with ⟨_, h⟩ | ⟨h, _⟩ | ⟨h, _⟩ <;> first | exact h | (exfalso; omega)
    have a2 : m = 0 ∧ t.size ≤ 48 := by rcases h2 with ⟨_, h⟩ | ⟨h, _⟩ | ⟨h, _⟩ <;> first | exact h | (exfalso; omega)
    rw [if_pos rfl]
    have := before_l0 3 n s m t a1.2 a2.2 65 0 (by omega) (by omega) (by omega)
    have g : whirligigref01_before.l0 132 0 3 n s 3 m t = some (Op.bytesLess s.toList t.toList) := by
      rw [ByteArray.toList_eq, ByteArray.toList_eq]
      exact this
    rw [g, a1.1, a2.1]
    simp
  · have a1 : s = ⟨#[]⟩ := by rcases h1 with ⟨h, _⟩ | ⟨_, h⟩ | ⟨_, h, _⟩ <;> first | exact h | (exfalso; omega)
    have a2 : t = ⟨#[]⟩ := by rcases h2 with ⟨h, _⟩ | ⟨_, h⟩ | ⟨_, h, _⟩ <;> first | exact h | (exfalso; omega)
    rw [if_neg h3, a1, a2, lss_irrefl]
    simp
end Go.Proofs.YtbbdlcmcndhhkaaDoor.MValReckons
