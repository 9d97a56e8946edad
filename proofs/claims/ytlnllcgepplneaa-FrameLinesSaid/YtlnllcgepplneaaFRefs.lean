/- The document's lines are those of the bytes. -/
import Derived.Test.YtlnllcgepplneaaFPlain
import Derived.Test.YtlnllcgepplneaaMFrameLinesx2
import Derived.Lib.LazyBuf
import Derived.Lib.Strings
namespace Go.Proofs.Ytlnllcgepplneaa.MFrameLines
open Go.RowKit Go.Proofs Go.Proofs.YtlnllcgepplneaaW.PrintWords Go.Proofs.YtlnllcgepplneaaW.PrintLast Go.Proofs.YtlnllcgepplneaaW.PrintMore
set_option linter.unusedVariables false
theorem wr_succ (i : Nat) (h : i ≤ 1000000) : wrap64 ((i : Int) + 1) = ((i + 1 : Nat) : Int) := by unfold wrap64; omega
theorem str_bytes (a : ByteArray) : strOfNums (bytesOf a) = a := by
  unfold bytesOf
  rw [Go.Lib.Lz.strOfNums_map]
theorem bt_get (a : ByteArray) (i : Nat) (h : i < a.size) : bt a (i : Int) = (bytesOf a).getD i 0 := by
  unfold bt
  rw [dif_pos (by rw [Int.toNat_natCast]; exact h)]
  have h' : i < a.data.toList.length := by rw [data_length]; exact h
  unfold bytesOf
  rw [List.getD_eq_getElem?_getD, List.getElem?_map, List.getElem?_eq_getElem h']
  rfl
theorem bytes_extract (a : ByteArray) (i j : Nat) : bytesOf (a.extract i j) = ((bytesOf a).take j).drop i := by
  unfold bytesOf
  rw [← List.map_take, ← List.map_drop]
  congr 1
  rw [ByteArray.data_extract, Array.toList_extract, List.extract_eq_drop_take']
theorem drop_at (l : List Int) (i : Nat) (h : i < l.length) : l.drop i = l.getD i 0 :: l.drop (i + 1) := by
  rw [List.drop_eq_getElem_cons h, List.getD_eq_getElem?_getD, List.getElem?_eq_getElem h]
  rfl
theorem line_l0 (a : ByteArray) (ha : a.size ≤ 1000000) : ∀ (d i k : Nat), a.size - i = d → d < k → i ≤ a.size → whirligigref34_Line.l0 k a i = some (if ((bytesOf a).drop i).any oddI = true then ((⟨#[]⟩ : ByteArray), 11) else (a, 0)) := by
  intro d
  induction d with
  | zero =>
    intro i k hd hk hi
    obtain ⟨k, rfl⟩ : ∃ j, k = j + 1 := ⟨k - 1, by omega⟩
    rw [whirligigref34_Line.l0, if_neg (by omega), List.drop_eq_nil_of_le (by rw [bytesOf_length]; omega)]
    rfl
  | succ d ih =>
    intro i k hd hk hi
    obtain ⟨k, rfl⟩ : ∃ j, k = j + 1 := ⟨k - 1, by omega⟩
    have c1 : (i : Int) < (a.size : Int) := by omega
    rw [whirligigref34_Line.l0, if_pos c1, if_pos (Int.natCast_nonneg i), bt_get a i (by omega), drop_at (bytesOf a) i (by rw [bytesOf_length]; omega), List.any_cons]
    generalize (bytesOf a).getD i 0 = x
    by_cases h1 : x < 32
    · have e : oddI x = true := by unfold oddI; rw [decide_eq_true h1]; rfl
      rw [if_pos h1, e, Bool.true_or, if_pos rfl]
    · by_cases h2 : x > 126
      · have e : oddI x = true := by unfold oddI; rw [decide_eq_true h2, Bool.or_true]
        rw [if_neg h1, if_pos h2, e, Bool.true_or, if_pos rfl]
      · have e : oddI x = false := by unfold oddI; rw [decide_eq_false h1, decide_eq_false h2]; rfl
        rw [if_neg h1, if_neg h2, e, Bool.false_or, wr_succ i (by omega)]
        exact ih (i + 1) k (by omega) (by omega) (by omega)
theorem line_f (a : ByteArray) (k : Nat) (hk : a.size < k) (ha : a.size ≤ 1000000) : whirligigref34_Line.f k a = some ((lineOf (bytesOf a)).f0, (lineOf (bytesOf a)).f1) := by
  unfold whirligigref34_Line.f lineOf
  rw [bytesOf_length, str_bytes]
  by_cases h : a.size > 400
  · rw [if_pos h, if_pos (by omega)]
  · rw [if_neg h, if_neg (by omega)]
    have := line_l0 a ha (a.size - 0) 0 k rfl (by omega) (by omega)
    rw [List.drop_zero] at this
    refine this.trans ?_
    by_cases h2 : (bytesOf a).any oddI = true
    · rw [if_pos h2, if_pos h2]
    · rw [if_neg h2, if_neg h2]
def cv (x : S35) : S26 := ⟨x.f0, x.f1⟩
theorem lines_l0 (a : ByteArray) (ha : a.size ≤ 1000000) : ∀ (d i fr k : Nat) (out : List S26), a.size - i = d → d + a.size < k → fr ≤ i → i ≤ a.size → out.length ≤ i →
    whirligigref34_Lines.l0 k a out fr i = some (out ++ (linesOf (((bytesOf a).take i).drop fr) ((bytesOf a).drop i)).1.map cv, strOfNums (linesOf (((bytesOf a).take i).drop fr) ((bytesOf a).drop i)).2) := by
  intro d
  have hlen := bytesOf_length a
  induction d with
  | zero =>
    intro i fr k out hd hk hf hi ho
    obtain ⟨k, rfl⟩ : ∃ j, k = j + 1 := ⟨k - 1, by omega⟩
    have e : i = a.size := by omega
    subst e
    rw [whirligigref34_Lines.l0, if_neg (by omega), if_pos (Int.natCast_nonneg _), if_pos (by omega), List.drop_of_length_le (Nat.le_of_eq hlen), linesOf, Int.toNat_natCast, ← bytes_extract, str_bytes]
    simp
  | succ d ih =>
    intro i fr k out hd hk hf hi ho
    obtain ⟨k, rfl⟩ : ∃ j, k = j + 1 := ⟨k - 1, by omega⟩
    have c1 : (i : Int) < (a.size : Int) := by omega
    have hi' : i < (bytesOf a).length := by omega
    have htk : (((bytesOf a).take (i + 1)).drop fr) = (((bytesOf a).take i).drop fr) ++ [(bytesOf a).getD i 0] := by
      rw [List.take_succ_eq_append_getElem hi', List.drop_append_of_le_length (by rw [List.length_take]; omega), List.getD_eq_getElem?_getD, List.getElem?_eq_getElem hi']
      rfl
    have htn : ((bytesOf a).take (i + 1)).drop (i + 1) = [] := List.drop_eq_nil_of_le (by rw [List.length_take]; omega)
    rw [whirligigref34_Lines.l0, if_pos c1, if_pos (Int.natCast_nonneg i), bt_get a i (by omega), drop_at (bytesOf a) i hi', linesOf]
    by_cases h10 : (bytesOf a).getD i 0 = 10
    · rw [if_pos h10, if_pos h10, if_pos (Int.natCast_nonneg _), if_pos (by omega), if_pos (Int.le_of_lt c1), Int.toNat_natCast, Int.toNat_natCast,
        line_f (a.extract fr i) k (by rw [ByteArray.size_extract]; omega) (by rw [ByteArray.size_extract]; omega), Option.bind_some, if_pos (by omega), wr_succ i (by omega),
        ih (i + 1) (i + 1) k _ (by omega) (by omega) (Nat.le_refl _) (by omega) (by rw [List.length_append]; simp; omega), htn, bytes_extract]
      simp [cv]
    · rw [if_neg h10, if_neg h10, wr_succ i (by omega), ih (i + 1) fr k out (by omega) (by omega) (by omega) (by omega) (by omega), htk]
theorem lines_f (a : ByteArray) (k : Nat) (ha : a.size ≤ 1000000) (hk : 2 * a.size < k) : whirligigref34_Lines.f k a = some ((linesOf [] (bytesOf a)).1.map cv, strOfNums (linesOf [] (bytesOf a)).2) := by
  have h := lines_l0 a ha (a.size - 0) 0 0 k [] rfl (by omega) (Nat.le_refl _) (by omega) (Nat.le_refl _)
  exact h
theorem same_l0 (x : List S35) (hx : x.length ≤ 1000000) : ∀ (d i k : Nat), x.length - i = d → d < k → i ≤ x.length → whirligiglaw34_same.l0 k x (x.map cv) (x.length : Int) i = some true := by
  intro d
  induction d with
  | zero =>
    intro i k hd hk hi
    obtain ⟨k, rfl⟩ : ∃ j, k = j + 1 := ⟨k - 1, by omega⟩
    rw [whirligiglaw34_same.l0, if_neg (by omega)]
  | succ d ih =>
    intro i k hd hk hi
    obtain ⟨k, rfl⟩ : ∃ j, k = j + 1 := ⟨k - 1, by omega⟩
    have c1 : (i : Int) < (x.length : Int) := by omega
    have c2 : (i : Int) < ((x.map cv).length : Int) := by rw [List.length_map]; exact c1
    have e : rd_T26 (x.map cv) i = cv (rd_T35 x i) := by
      unfold rd_T26 rd_T35
      have h : i < x.length := by omega
      rw [Int.toNat_natCast, List.getD_eq_getElem?_getD, List.getD_eq_getElem?_getD, List.getElem?_map, List.getElem?_eq_getElem h]
      rfl
    rw [whirligiglaw34_same.l0, if_pos c1, if_pos (Int.natCast_nonneg i), if_pos c1, if_pos c2, e, if_pos (show (rd_T35 x ↑i).f0.toList = (cv (rd_T35 x ↑i)).f0.toList from rfl), if_pos (show (rd_T35 x ↑i).f1 = (cv (rd_T35 x ↑i)).f1 from rfl), wr_succ i (by omega)]
    exact ih (i + 1) k (by omega) (by omega) (by omega)
theorem same_f (x : List S35) (k : Nat) (hx : x.length ≤ 1000000) (hk : x.length < k) : whirligiglaw34_same.f k x (x.map cv) = some true := by
  unfold whirligiglaw34_same.f
  rw [List.length_map, if_pos rfl]
  exact same_l0 x hx (x.length - 0) 0 k rfl (by omega) (by omega)
theorem linesOf_few : ∀ (r cur : List Int), (linesOf cur r).1.length ≤ r.length ∧ (linesOf cur r).2.length ≤ cur.length + r.length
  | [], cur => by simp [linesOf]
  | x :: r, cur => by
    rw [linesOf]
    by_cases h : x = 10
    · have := linesOf_few r []
      rw [if_pos h]
      simp at this ⊢
      omega
    · have := linesOf_few r (cur ++ [x])
      rw [if_neg h]
      simp at this ⊢
      omega
end Go.Proofs.Ytlnllcgepplneaa.MFrameLines
