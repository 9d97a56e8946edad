/- Lists of texts, plain: when two are the same. -/
import Derived.Test.YtfpbohfefliljaaMDeltaPatchesx5
import Derived.Lib.Strings
namespace Go.Proofs.Ytfpbohfefliljaa.MDeltaPatches
open Go.RowKit Go.Proofs.YtfpbohfefliljaaW.PrintWords Go.Proofs.YtfpbohfefliljaaW.PrintLast Go.Proofs.YtfpbohfefliljaaW.PrintMore
theorem text_eq {a b : ByteArray} : a.toList = b.toList ↔ a = b := by
  constructor
  · intro h
    rw [Lib.toList_data, Lib.toList_data] at h
    cases a
    cases b
    simp only [Array.toList_inj] at h
    rw [h]
  · intro h
    rw [h]
theorem texts_l0 (a b : List ByteArray) (hl : a.length = b.length) (hb : a.length ≤ 4611686018427387904) : ∀ (d k i : Nat), a.length - i = d → d < k → i ≤ a.length → a.take i = b.take i →
    whirligiglaw19_texts.l0 k a b a.length i = some (decide (a = b)) := by
  intro d
  induction d with
  | zero =>
    intro k i hd hk hi ht
    obtain ⟨k, rfl⟩ : ∃ j, k = j + 1 := ⟨k - 1, by omega⟩
    obtain rfl : i = a.length := by omega
    simp only [whirligiglaw19_texts.l0]
    rw [if_neg (by omega)]
    rw [List.take_length, hl, List.take_length] at ht
    rw [decide_eq_true ht]
  | succ d ih =>
    intro k i hd hk hi ht
    obtain ⟨k, rfl⟩ : ∃ j, k = j + 1 := ⟨k - 1, by omega⟩
    have hlt : i < a.length := by omega
    have hlt2 : i < b.length := by omega
    simp only [whirligiglaw19_texts.l0]
    rw [if_pos (by omega), if_pos (by omega), if_pos (by omega), if_pos (by omega)]
    have ea : rdOf ByteArray.empty a (i : Int) = a[i] := by simp [rdOf, List.getD_eq_getElem?_getD, hlt]
    have eb : rdOf ByteArray.empty b (i : Int) = b[i] := by simp [rdOf, List.getD_eq_getElem?_getD, hlt2]
    rw [ea, eb]
    by_cases h : a[i] = b[i]
    · rw [if_pos (text_eq.2 h)]
      have e1 : wrap64 ((i : Int) + 1) = ((i + 1 : Nat) : Int) := by unfold wrap64; omega
      rw [e1]
      refine ih k (i + 1) (by omega) (by omega) (by omega) ?_
      rw [List.take_succ_eq_append_getElem hlt, List.take_succ_eq_append_getElem hlt2, ht, h]
    · rw [if_neg (fun e => h (text_eq.1 e))]
      have : ¬ a = b := fun e => h (by subst e; rfl)
      rw [decide_eq_false this]
theorem texts_f (a b : List ByteArray) (k : Nat) (hk : a.length < k) (hb : a.length ≤ 4611686018427387904) : whirligiglaw19_texts.f k a b = some (decide (a = b)) := by
  unfold whirligiglaw19_texts.f
  by_cases h : a.length = b.length
  · rw [if_pos (by omega)]
    exact texts_l0 a b h hb a.length k 0 (by omega) hk (by omega) rfl
  · rw [if_neg (by omega)]
    rw [decide_eq_false (fun e => h (by rw [e]))]

/-- A patch fits. -/
def fits (p q : Int) (n : Nat) : Prop := 0 ≤ p ∧ 0 ≤ q ∧ p ≤ n ∧ q ≤ n - p
instance (p q : Int) (n : Nat) : Decidable (fits p q n) := by unfold fits; exact inferInstance
/-- What it makes. -/
def made (p q : Int) (w a : List ByteArray) : List ByteArray × Bool := if fits p q a.length then (a.take p.toNat ++ w ++ a.drop (p + q).toNat, true) else ([], false)
theorem fits_f (p q : Int) (w : List ByteArray) (n : Nat) (hn : n ≤ 4611686018427387904) : delta_Patch_string_Fits.f p q w n = some (decide (fits p q n)) := by
  unfold delta_Patch_string_Fits.f
  by_cases h1 : p ≥ 0
  · rw [if_pos h1]
    by_cases h2 : q ≥ 0
    · rw [if_pos h2]
      by_cases h3 : p ≤ (n : Int)
      · rw [if_pos h3]
        have e1 : wrap64 ((n : Int) - p) = (n : Int) - p := by unfold wrap64; omega
        rw [e1]
        congr 2
        unfold fits
        exact propext ⟨fun h => ⟨h1, h2, h3, h⟩, fun h => h.2.2.2⟩
      · rw [if_neg h3, decide_eq_false (fun h => h3 h.2.2.1)]
    · rw [if_neg h2, decide_eq_false (fun h => h2 h.2.1)]
  · rw [if_neg h1, decide_eq_false (fun h => h1 h.1)]
theorem put_f (p q : Int) (w a : List ByteArray) (ha : a.length ≤ 1000) (hw : w.length ≤ 1000) : delta_Patch_string_Put.f p q w a = some (made p q w a) := by
  unfold delta_Patch_string_Put.f made
  rw [fits_f _ _ _ _ (by omega)]
  simp only [Option.bind_some]
  by_cases h : fits p q a.length
  · rw [if_pos (decide_eq_true h), if_pos h]
    unfold fits at h
    have e1 : wrap64 (p + q) = p + q := by unfold wrap64; omega
    rw [e1, if_pos (by omega), if_pos (by omega), if_pos (by omega), if_pos (by omega)]
    unfold slices_Concat_string_string.f
    rw [if_pos]
    · simp
    · simp only [List.flatten_cons, List.flatten_nil, List.append_nil, List.length_append, List.length_take, List.length_drop]
      omega
  · rw [if_neg (by simp [h]), if_neg h]
end Go.Proofs.Ytfpbohfefliljaa.MDeltaPatches
