/- The least patch, plain: the code's and the document's are one, and put on the first list it makes the second one. -/
import Derived.Test.YtfpbohfefliljaaTextsP
import Derived.Test.YtfpbohfefliljaaMDeltaPatchesx3
import Derived.Test.YtfpbohfefliljaaMDeltaPatchesx4d
namespace Go.Proofs.Ytfpbohfefliljaa.MDeltaPatches
open Go.RowKit Go.Proofs.YtfpbohfefliljaaW.PrintWords Go.Proofs.YtfpbohfefliljaaW.PrintLast Go.Proofs.YtfpbohfefliljaaW.PrintMore
set_option linter.unusedVariables false
theorem wr_id (x : Int) (h0 : -100000 ≤ x) (h1 : x ≤ 100000) : wrap64 x = x := by unfold wrap64; omega
theorem wr_sub (m p : Nat) (h : p ≤ m) (hm : m ≤ 100000) : wrap64 ((m : Int) - (p : Int)) = ((m - p : Nat) : Int) := (wr_id _ (by omega) (by omega)).trans (by omega)
theorem wr_idx (m s : Nat) (h : s < m) (hm : m ≤ 100000) : wrap64 ((wrap64 ((m : Int) - 1)) - (s : Int)) = ((m - 1 - s : Nat) : Int) := by
  rw [(wr_id _ (by omega) (by omega) : wrap64 ((m : Int) - 1) = _)]
  exact (wr_id _ (by omega) (by omega)).trans (by omega)
theorem wr_suc (s : Nat) (h : s ≤ 1000) : wrap64 ((s : Int) + 1) = ((s + 1 : Nat) : Int) := (wr_id _ (by omega) (by omega)).trans (by omega)
/-- The patch: so many are alike ahead, so many behind. -/
def res (a b : List ByteArray) (p s : Nat) : Int × Int × List ByteArray :=
  if p = a.length ∧ p = b.length then (0, 0, []) else ((p : Int), ((a.length - p - s : Nat) : Int), (b.take (b.length - s)).drop p)
theorem rd_at (l : List ByteArray) (i : Nat) : rdOf ByteArray.empty l (i : Int) = l.getD i ByteArray.empty := by unfold rdOf; rw [Int.toNat_natCast]
theorem rd_drop (l : List ByteArray) (p i : Nat) : (l.drop p).getD i ByteArray.empty = l.getD (p + i) ByteArray.empty := by
  rw [List.getD_eq_getElem?_getD, List.getD_eq_getElem?_getD, List.getElem?_drop]
theorem tail_a (a b : List ByteArray) (p s : Nat) (ha : a.length ≤ 200) (hb : b.length ≤ 200) (h1 : p + s ≤ a.length) (h2 : p + s ≤ b.length) :
    (if (p : Int) = (a.length : Int) then (if (p : Int) = (b.length : Int) then (some ((0 : Int), (0 : Int), ([] : List ByteArray))) else (if 0 ≤ (p : Int) then (if (p : Int) ≤ (wrap64 ((b.length : Int) - (s : Int))) then (if (wrap64 ((b.length : Int) - (s : Int))) ≤ (b.length : Int) then ((slices_Clone_string_string.f ((b.take ((wrap64 ((b.length : Int) - (s : Int))) : Int).toNat).drop (p : Int).toNat)).bind fun t => (some ((p : Int), wrap64 ((wrap64 ((a.length : Int) - (p : Int))) - (s : Int)), t))) else (none)) else (none)) else (none))) else (if 0 ≤ (p : Int) then (if (p : Int) ≤ (wrap64 ((b.length : Int) - (s : Int))) then (if (wrap64 ((b.length : Int) - (s : Int))) ≤ (b.length : Int) then ((slices_Clone_string_string.f ((b.take ((wrap64 ((b.length : Int) - (s : Int))) : Int).toNat).drop (p : Int).toNat)).bind fun t => (some ((p : Int), wrap64 ((wrap64 ((a.length : Int) - (p : Int))) - (s : Int)), t))) else (none)) else (none)) else (none))) = some (res a b p s) := by
  have hc : slices_Clone_string_string.f ((b.take (b.length - s)).drop p) = some ((b.take (b.length - s)).drop p) := by
    unfold slices_Clone_string_string.f
    rw [if_pos (by rw [List.length_drop, List.length_take]; omega)]
  have c1 : (0 : Int) ≤ (p : Int) := by omega
  have c2 : (p : Int) ≤ ((b.length - s : Nat) : Int) := by omega
  have c3 : ((b.length - s : Nat) : Int) ≤ (b.length : Int) := by omega
  have d1 : s ≤ b.length := by omega
  have d2 : b.length ≤ 100000 := by omega
  have d3 : p ≤ a.length := by omega
  have d4 : a.length ≤ 100000 := by omega
  have d5 : s ≤ a.length - p := by omega
  have d6 : a.length - p ≤ 100000 := by omega
  have e1 := wr_sub b.length s d1 d2
  have e2 := wr_sub a.length p d3 d4
  have e3 := wr_sub (a.length - p) s d5 d6
  rw [e1, e2, e3, Int.toNat_natCast, Int.toNat_natCast, hc, if_pos c1, if_pos c2, if_pos c3, Option.bind_some]
  clear e1 e2 e3
  unfold res
  by_cases h3 : p = a.length
  · rw [if_pos (by omega)]
    by_cases h4 : p = b.length
    · rw [if_pos (by omega), if_pos ⟨h3, h4⟩]
    · rw [if_neg (by omega), if_neg (fun h => h4 h.2)]
  · rw [if_neg (by omega), if_neg (fun h => h3 h.1)]
theorem tail_r (a b : List ByteArray) (p s : Nat) (ha : a.length ≤ 200) (hb : b.length ≤ 200) (h1 : p + s ≤ a.length) (h2 : p + s ≤ b.length) :
    (if ((a.drop p).length : Int) = 0 then (if ((b.drop p).length : Int) = 0 then (some ((0 : Int), (0 : Int), ([] : List ByteArray))) else (if 0 ≤ (wrap64 (((b.drop p).length : Int) - (s : Int))) then (if (wrap64 (((b.drop p).length : Int) - (s : Int))) ≤ ((b.drop p).length : Int) then (some ((p : Int), wrap64 (((a.drop p).length : Int) - (s : Int)), ((b.drop p).take ((wrap64 (((b.drop p).length : Int) - (s : Int))) : Int).toNat))) else (none)) else (none))) else (if 0 ≤ (wrap64 (((b.drop p).length : Int) - (s : Int))) then (if (wrap64 (((b.drop p).length : Int) - (s : Int))) ≤ ((b.drop p).length : Int) then (some ((p : Int), wrap64 (((a.drop p).length : Int) - (s : Int)), ((b.drop p).take ((wrap64 (((b.drop p).length : Int) - (s : Int))) : Int).toNat))) else (none)) else (none))) = some (res a b p s) := by
  rw [List.length_drop, List.length_drop]
  have hd : (b.drop p).take (b.length - p - s) = (b.take (b.length - s)).drop p := by rw [List.drop_take]; congr 1; omega
  have c1 : (0 : Int) ≤ ((b.length - p - s : Nat) : Int) := by omega
  have c3 : ((b.length - p - s : Nat) : Int) ≤ ((b.length - p : Nat) : Int) := by omega
  have d1 : s ≤ b.length - p := by omega
  have d2 : b.length - p ≤ 100000 := by omega
  have d5 : s ≤ a.length - p := by omega
  have d6 : a.length - p ≤ 100000 := by omega
  have e1 := wr_sub (b.length - p) s d1 d2
  have e3 := wr_sub (a.length - p) s d5 d6
  rw [e1, e3, Int.toNat_natCast, hd, if_pos c1, if_pos c3]
  clear e1 e3
  unfold res
  by_cases h3 : p = a.length
  · rw [if_pos (by omega)]
    by_cases h4 : p = b.length
    · rw [if_pos (by omega), if_pos ⟨h3, h4⟩]
    · rw [if_neg (by omega), if_neg (fun h => h4 h.2)]
  · rw [if_neg (by omega), if_neg (fun h => h3 h.1)]
/-- Alike behind. -/
def behind (a b : List ByteArray) (s : Nat) : Prop := a.drop (a.length - s) = b.drop (b.length - s)
theorem behind_succ (a b : List ByteArray) (s : Nat) (h1 : s < a.length) (h2 : s < b.length) (h : behind a b s) (e : a.getD (a.length - 1 - s) ByteArray.empty = b.getD (b.length - 1 - s) ByteArray.empty) : behind a b (s + 1) := by
  unfold behind at h ⊢
  have f : ∀ (l : List ByteArray), s < l.length → l.drop (l.length - (s + 1)) = l.getD (l.length - 1 - s) ByteArray.empty :: l.drop (l.length - s) := by
    intro l hl
    have h3 : l.length - (s + 1) < l.length := by omega
    rw [List.drop_eq_getElem_cons h3, show l.length - (s + 1) + 1 = l.length - s by omega, List.getD_eq_getElem?_getD, show l.length - 1 - s = l.length - (s + 1) by omega, List.getElem?_eq_getElem h3]
    rfl
  rw [f a h1, f b h2, h, e]
theorem l1_both (a b : List ByteArray) (p : Nat) (ha : a.length ≤ 200) (hb : b.length ≤ 200) (hpa : p ≤ a.length) (hpb : p ≤ b.length) : ∀ (d s k : Nat), a.length - p - s = d → d < k → p + s ≤ a.length → p + s ≤ b.length → behind a b s →
    ∃ s' : Nat, p + s' ≤ a.length ∧ p + s' ≤ b.length ∧ behind a b s' ∧ delta_Diff_string.l1 k a b p s = some (res a b p s') ∧ whirligigref19_Diff.l1 k p (a.drop p) (b.drop p) s = some (res a b p s') := by
  intro d
  induction d with
  | zero =>
    intro s k hd hk h1 h2 hs
    obtain ⟨k, rfl⟩ : ∃ j, k = j + 1 := ⟨k - 1, by omega⟩
    have hA := tail_a a b p s ha hb h1 h2
    have hR := tail_r a b p s ha hb h1 h2
    refine ⟨s, h1, h2, hs, ?_, ?_⟩
    · rw [delta_Diff_string.l1]
      have c : ¬ ((s : Int) < wrap64 ((a.length : Int) - (p : Int))) := by
        have d2 : a.length ≤ 100000 := by clear hA hR; omega
        have ia : ¬ ((s : Int) < ((a.length - p : Nat) : Int)) := by clear hA hR; omega
        rw [wr_sub _ _ hpa d2]
        exact ia
      rw [if_neg c]
      exact hA
    · rw [whirligigref19_Diff.l1]
      have c : ¬ ((s : Int) < ((a.drop p).length : Int)) := by rw [List.length_drop]; clear hA hR; omega
      rw [if_neg c]
      exact hR
  | succ d ih =>
    intro s k hd hk h1 h2 hs
    obtain ⟨k, rfl⟩ : ∃ j, k = j + 1 := ⟨k - 1, by omega⟩
    have hsa : s < a.length - p := by omega
    have d1 : p ≤ a.length := hpa
    have d2 : a.length ≤ 100000 := by omega
    have d3 : b.length ≤ 100000 := by omega
    have ia : (s : Int) < ((a.length - p : Nat) : Int) := by omega
    have hRA : (s : Int) < ((a.drop p).length : Int) := by rw [List.length_drop]; exact ia
    have hA := tail_a a b p s ha hb h1 h2
    have hR := tail_r a b p s ha hb h1 h2
    by_cases hsb : s < b.length - p
    · have ib : (s : Int) < ((b.length - p : Nat) : Int) := by omega
      have hRB : (s : Int) < ((b.drop p).length : Int) := by rw [List.length_drop]; exact ib
      have s1 : s < a.length := by omega
      have s2 : s < b.length := by omega
      have s3 : a.length - p ≤ 100000 := by omega
      have s4 : b.length - p ≤ 100000 := by omega
      have s5 : s ≤ 1000 := by omega
      have ga : (a.drop p).getD (a.length - p - 1 - s) ByteArray.empty = a.getD (a.length - 1 - s) ByteArray.empty := by rw [rd_drop]; congr 1; clear hA hR; omega
      have gb : (b.drop p).getD (b.length - p - 1 - s) ByteArray.empty = b.getD (b.length - 1 - s) ByteArray.empty := by rw [rd_drop]; congr 1; clear hA hR; omega
      have z : ∀ x : Nat, (0 : Int) ≤ (x : Int) := fun x => Int.natCast_nonneg x
      have ca : ((a.length - 1 - s : Nat) : Int) < (a.length : Int) := by omega
      have cb : ((b.length - 1 - s : Nat) : Int) < (b.length : Int) := by omega
      have cra : ((a.length - p - 1 - s : Nat) : Int) < ((a.length - p : Nat) : Int) := by omega
      have crb : ((b.length - p - 1 - s : Nat) : Int) < ((b.length - p : Nat) : Int) := by omega
      have k1 : a.length - p - (s + 1) = d := by omega
      have k2 : d < k := by omega
      have k3 : p + (s + 1) ≤ a.length := by omega
      have k4 : p + (s + 1) ≤ b.length := by omega
      have hAA : (s : Int) < wrap64 ((a.length : Int) - (p : Int)) := by rw [wr_sub _ _ d1 d2]; exact ia
      have hAB : (s : Int) < wrap64 ((b.length : Int) - (p : Int)) := by rw [wr_sub _ _ hpb d3]; exact ib
      have ea := wr_idx a.length s s1 d2
      have eb := wr_idx b.length s s2 d3
      have ra := wr_idx (a.length - p) s hsa s3
      have rb := wr_idx (b.length - p) s hsb s4
      have es := wr_suc s s5
      by_cases he : a.getD (a.length - 1 - s) ByteArray.empty = b.getD (b.length - 1 - s) ByteArray.empty
      · obtain ⟨s', g1, g2, g3, g4, g5⟩ := ih (s + 1) k k1 k2 k3 k4 (behind_succ a b s s1 s2 hs he)
        refine ⟨s', g1, g2, g3, ?_, ?_⟩
        · rw [delta_Diff_string.l1, if_pos hAA, if_pos hAB, ea, eb, if_pos (z _), if_pos ca, if_pos (z _), if_pos cb, rd_at, rd_at, if_pos (text_eq.2 he), es]
          exact g4
        · rw [whirligigref19_Diff.l1, if_pos hRA, if_pos hRB]
          simp only [List.length_drop] at g5 ⊢
          rw [ra, rb, if_pos (z _), if_pos cra, if_pos (z _), if_pos crb, rd_at, rd_at, ga, gb, if_pos (text_eq.2 he), es]
          exact g5
      · refine ⟨s, h1, h2, hs, ?_, ?_⟩
        · rw [delta_Diff_string.l1, if_pos hAA, if_pos hAB, ea, eb, if_pos (z _), if_pos ca, if_pos (z _), if_pos cb, rd_at, rd_at, if_neg (fun h => he (text_eq.1 h))]
          exact hA
        · rw [whirligigref19_Diff.l1, if_pos hRA, if_pos hRB]
          simp only [List.length_drop] at hR ⊢
          rw [ra, rb, if_pos (z _), if_pos cra, if_pos (z _), if_pos crb, rd_at, rd_at, ga, gb, if_neg (fun h => he (text_eq.1 h))]
          exact hR
    · have ib : ¬ ((s : Int) < ((b.length - p : Nat) : Int)) := by clear hA hR; omega
      have hAA : (s : Int) < wrap64 ((a.length : Int) - (p : Int)) := by rw [wr_sub _ _ d1 d2]; exact ia
      have hAB : ¬ ((s : Int) < wrap64 ((b.length : Int) - (p : Int))) := by rw [wr_sub _ _ hpb d3]; exact ib
      have hRB : ¬ ((s : Int) < ((b.drop p).length : Int)) := by rw [List.length_drop]; exact ib
      refine ⟨s, h1, h2, hs, ?_, ?_⟩
      · rw [delta_Diff_string.l1, if_pos hAA, if_neg hAB]
        exact hA
      · rw [whirligigref19_Diff.l1, if_pos hRA, if_neg hRB]
        exact hR
theorem j1_both (a b : List ByteArray) (p k : Nat) (ha : a.length ≤ 200) (hb : b.length ≤ 200) (hpa : p ≤ a.length) (hpb : p ≤ b.length) (hk : 300 ≤ k) :
    ∃ s' : Nat, p + s' ≤ a.length ∧ p + s' ≤ b.length ∧ behind a b s' ∧ delta_Diff_string.j1 k a b p = some (res a b p s') ∧ whirligigref19_Diff.j1 k a b p = some (res a b p s') := by
  obtain ⟨k, rfl⟩ : ∃ j, k = j + 1 := ⟨k - 1, by omega⟩
  obtain ⟨s', g1, g2, g3, g4, g5⟩ := l1_both a b p ha hb hpa hpb (a.length - p - 0) 0 k rfl (by omega) (by omega) (by omega) (by unfold behind; simp)
  refine ⟨s', g1, g2, g3, ?_, ?_⟩
  · rw [delta_Diff_string.j1]
    exact g4
  · rw [whirligigref19_Diff.j1, if_pos (by omega), if_pos (by omega), if_pos (by omega), Int.toNat_natCast]
    exact g5
theorem l0_both (a b : List ByteArray) (ha : a.length ≤ 200) (hb : b.length ≤ 200) : ∀ (d i k : Nat), a.length - i = d → d + 400 ≤ k → i ≤ a.length → i ≤ b.length → a.take i = b.take i →
    ∃ p s' : Nat, p + s' ≤ a.length ∧ p + s' ≤ b.length ∧ a.take p = b.take p ∧ behind a b s' ∧ delta_Diff_string.l0 k a b i = some (res a b p s') ∧ whirligigref19_Diff.l0 k a b i = some (res a b p s') := by
  intro d
  induction d with
  | zero =>
    intro i k hd hk h1 h2 ht
    obtain ⟨k, rfl⟩ : ∃ j, k = j + 1 := ⟨k - 1, by omega⟩
    obtain ⟨s', g1, g2, g3, g4, g5⟩ := j1_both a b i k ha hb h1 h2 (by omega)
    refine ⟨i, s', g1, g2, ht, g3, ?_, ?_⟩
    · rw [delta_Diff_string.l0, if_neg (by omega)]; exact g4
    · rw [whirligigref19_Diff.l0, if_neg (by omega)]; exact g5
  | succ d ih =>
    intro i k hd hk h1 h2 ht
    obtain ⟨k, rfl⟩ : ∃ j, k = j + 1 := ⟨k - 1, by omega⟩
    have hla : i < a.length := by omega
    by_cases hlb : i < b.length
    · by_cases he : a.getD i ByteArray.empty = b.getD i ByteArray.empty
      · have ht2 : a.take (i + 1) = b.take (i + 1) := by
          rw [List.getD_eq_getElem?_getD, List.getD_eq_getElem?_getD, List.getElem?_eq_getElem hla, List.getElem?_eq_getElem hlb] at he
          simp only [Option.getD_some] at he
          rw [List.take_succ_eq_append_getElem hla, List.take_succ_eq_append_getElem hlb, ht, he]
        obtain ⟨p, s', g1, g2, g3, g4, g5, g6⟩ := ih (i + 1) k (by omega) (by omega) (by omega) (by omega) ht2
        have c1 : (i : Int) < (a.length : Int) := by omega
        have c2 : (i : Int) < (b.length : Int) := by omega
        have es := wr_suc i (by clear g5 g6; omega)
        refine ⟨p, s', g1, g2, g3, g4, ?_, ?_⟩
        · rw [delta_Diff_string.l0, if_pos c1, if_pos c2, if_pos (Int.natCast_nonneg i), rd_at, rd_at, if_pos (text_eq.2 he), es]; exact g5
        · rw [whirligigref19_Diff.l0, if_pos c1, if_pos c2, if_pos (Int.natCast_nonneg i), rd_at, rd_at, if_pos (text_eq.2 he), es]; exact g6
      · obtain ⟨s', g1, g2, g3, g4, g5⟩ := j1_both a b i k ha hb h1 h2 (by omega)
        refine ⟨i, s', g1, g2, ht, g3, ?_, ?_⟩
        · rw [delta_Diff_string.l0, if_pos (by omega), if_pos (by omega), if_pos (Int.natCast_nonneg i), rd_at, rd_at, if_neg (fun h => he (text_eq.1 h))]; exact g4
        · rw [whirligigref19_Diff.l0, if_pos (by omega), if_pos (by omega), if_pos (Int.natCast_nonneg i), rd_at, rd_at, if_neg (fun h => he (text_eq.1 h))]; exact g5
    · obtain ⟨s', g1, g2, g3, g4, g5⟩ := j1_both a b i k ha hb h1 h2 (by omega)
      refine ⟨i, s', g1, g2, ht, g3, ?_, ?_⟩
      · rw [delta_Diff_string.l0, if_pos (by omega), if_neg (by omega)]; exact g4
      · rw [whirligigref19_Diff.l0, if_pos (by omega), if_neg (by omega)]; exact g5
/-- What the patch makes of the first list. -/
theorem made_res (a b : List ByteArray) (p s : Nat) (h1 : p + s ≤ a.length) (h2 : p + s ≤ b.length) (ht : a.take p = b.take p) (hs : behind a b s) :
    made (res a b p s).1 (res a b p s).2.1 (res a b p s).2.2 a = (b, true) ∧ fits (res a b p s).1 (res a b p s).2.1 a.length ∧ (res a b p s).2.2.length ≤ b.length := by
  unfold res
  by_cases h : p = a.length ∧ p = b.length
  · rw [if_pos h]
    have e : a = b := by
      rw [← List.take_length (l := a), ← List.take_length (l := b), ← h.1, ← h.2]
      exact ht
    have hf : fits 0 0 a.length := ⟨by omega, by omega, by omega, by omega⟩
    refine ⟨?_, hf, by simp⟩
    show made 0 0 [] a = _
    unfold made
    rw [if_pos hf, e]
    simp
  · rw [if_neg h]
    have hf : fits (p : Int) ((a.length - p - s : Nat) : Int) a.length := ⟨by omega, by omega, by omega, by omega⟩
    refine ⟨?_, hf, by rw [List.length_drop, List.length_take]; omega⟩
    show made (p : Int) ((a.length - p - s : Nat) : Int) ((b.take (b.length - s)).drop p) a = _
    unfold made
    rw [if_pos hf]
    have e : ((p : Int) + ((a.length - p - s : Nat) : Int)).toNat = a.length - s := by omega
    rw [e, Int.toNat_natCast, ht]
    unfold behind at hs
    rw [hs]
    have e1 : b.take p = (b.take (b.length - s)).take p := by rw [List.take_take]; congr 1; omega
    rw [e1, List.take_append_drop, List.take_append_drop]
end Go.Proofs.Ytfpbohfefliljaa.MDeltaPatches
