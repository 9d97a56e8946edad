/- The document's Join and Text are the program's; sizes; Good. -/
import Derived.Test.YthpfekjbfhldcaaDoorSRef
namespace Go.Proofs.YthpfekjbfhldcaaDoor.SayP
open Go Go.RowKit Go.Proofs Go.Proofs.YthpfekjbfhldcaaDoorW.PrintWords Go.Proofs.YthpfekjbfhldcaaDoorW.PrintLast Go.Proofs.YthpfekjbfhldcaaDoorW.PrintMore
set_option linter.unusedVariables false
def bb (b : ByteArray) : List UInt8 := b.data.toList
theorem bb_mk (l : List UInt8) : bb ⟨l.toArray⟩ = l := rfl
theorem bb_append (a b : ByteArray) : bb (a ++ b) = bb a ++ bb b := by
  unfold bb
  rw [ByteArray.data_append, Array.toList_append]
theorem bb_size (a : ByteArray) : (bb a).length = a.size := rfl
theorem bb_inj {a b : ByteArray} (h : bb a = bb b) : a = b := by
  apply ByteArray.ext
  exact Array.toList_inj.1 h
theorem bb_joinB (l : List ByteArray) (sep : ByteArray) : bb (joinB l sep) = Lib.join (l.map bb) (bb sep) := rfl
theorem tail_cons (sep x : List UInt8) (r : List (List UInt8)) : Lib.joinTail sep (x :: r) = sep ++ x ++ Lib.joinTail sep r := by
  unfold Lib.joinTail
  rw [List.map_cons, List.flatten_cons]
theorem rd_at (l : List ByteArray) (i : Nat) (h : i < l.length) : rdOf ByteArray.empty l (i : Int) = l[i] := by
  unfold rdOf
  rw [Int.toNat_natCast, List.getD_eq_getElem?_getD, List.getElem?_eq_getElem h]
  rfl
theorem w64n (i : Nat) (h : i < 1000000) : wrap64 ((i : Int) + 1) = ((i + 1 : Nat) : Int) := (wrf _ (by omega) (by omega)).trans (by omega)
theorem join_l0 (l : List ByteArray) (hl : l.length < 100000) : ∀ (d i k : Nat) (x : ByteArray), l.length - i = d → d + 1 ≤ k → 1 ≤ i → i ≤ l.length → x.size + (Lib.joinTail [32] ((l.drop i).map bb)).length ≤ 1000000000 →
    whirligigref32_Join.l0 k l x i = some ⟨(bb x ++ Lib.joinTail [32] ((l.drop i).map bb)).toArray⟩ := by
  intro d
  induction d with
  | zero =>
    intro i k x hd hk h1 hi hs
    obtain ⟨k, rfl⟩ : ∃ j, k = j + 1 := ⟨k - 1, by omega⟩
    rw [whirligigref32_Join.l0, if_neg (by omega), List.drop_eq_nil_of_le (by omega)]
    refine congrArg some (bb_inj ?_)
    rw [bb_mk]
    show bb x = bb x ++ []
    rw [List.append_nil]
  | succ d ih =>
    intro i k x hd hk h1 hi hs
    obtain ⟨k, rfl⟩ : ∃ j, k = j + 1 := ⟨k - 1, by omega⟩
    have hlt : i < l.length := by omega
    have hdr : l.drop i = l[i] :: l.drop (i + 1) := List.drop_eq_getElem_cons hlt
    rw [hdr, List.map_cons, tail_cons, List.length_append, List.length_append, bb_size] at hs
    have e : ([32] : List UInt8).length = 1 := rfl
    rw [e] at hs
    have e1 : (x ++ (⟨#[32]⟩ : ByteArray)).size = x.size + 1 := by rw [ByteArray.size_append]; rfl
    rw [whirligigref32_Join.l0, if_pos (by omega), if_pos (by omega), if_pos (by omega), if_pos (by omega), rd_at l i hlt, e1, if_pos (by omega), w64n i (by omega),
      ih (i + 1) k _ (by omega) (by omega) (by omega) (by omega) (by rw [ByteArray.size_append, e1]; omega), hdr, List.map_cons, tail_cons]
    refine congrArg some (bb_inj ?_)
    show bb ((x ++ (⟨#[32]⟩ : ByteArray)) ++ l[i]) ++ _ = bb x ++ _
    rw [bb_append, bb_append]
    simp only [List.append_assoc]
    rfl
def lensB (l : List ByteArray) : Nat := Lib.lens (l.map bb)
theorem joinB_size (l : List ByteArray) (M s : Nat) (sep : ByteArray) (hs : sep.size = s) (h : ∀ x ∈ l, x.size ≤ M) : (joinB l sep).size ≤ l.length * (M + s) := by
  have hb : (joinB l sep).size = (Lib.join (l.map bb) (bb sep)).length := rfl
  rw [hb]
  cases l with
  | nil => exact Nat.zero_le _
  | cons x r =>
    have ht : ∀ r : List ByteArray, (∀ x ∈ r, x.size ≤ M) → (Lib.joinTail (bb sep) (r.map bb)).length ≤ r.length * (M + s) := by
      intro r
      induction r with
      | nil => intro _; exact Nat.zero_le _
      | cons y r ih =>
        intro hr
        rw [List.map_cons, tail_cons, List.length_append, List.length_append, bb_size, bb_size, List.length_cons, Nat.succ_mul]
        have h1 := ih (fun x hx => hr x (List.mem_cons_of_mem _ hx))
        have h2 := hr y List.mem_cons_self
        omega
    rw [List.map_cons, Lib.join_cons, List.length_append, bb_size, List.length_cons, Nat.succ_mul]
    have h1 := ht r (fun y hy => h y (List.mem_cons_of_mem _ hy))
    have h2 := h x List.mem_cons_self
    omega
theorem join_f (l : List ByteArray) (hl : l.length < 100000) (hs : (joinB l blank).size ≤ 1000000000) (k : Nat) (hk : l.length + 1 ≤ k) : whirligigref32_Join.f k l = some (joinB l blank) := by
  obtain ⟨k, rfl⟩ : ∃ j, k = j + 1 := ⟨k - 1, by omega⟩
  unfold whirligigref32_Join.f
  cases hx : l with
  | nil => 
    rw [whirligigref32_Join.l0, if_neg (by simp)]
    rfl
  | cons x r =>
    subst hx
    have hb : (joinB (x :: r) blank).size = (Lib.join ((x :: r).map bb) [32]).length := rfl
    rw [hb, List.map_cons, Lib.join_cons, List.length_append, bb_size] at hs
    have e0 : rdOf ByteArray.empty (x :: r) 0 = x := rfl
    have e1 : wrap64 ((0 : Int) + 1) = ((1 : Nat) : Int) := wrf _ (by decide) (by decide)
    have e2 : (⟨#[]⟩ : ByteArray).size = 0 := rfl
    have e3 : (⟨#[]⟩ : ByteArray) ++ x = x := bb_inj (by rw [bb_append]; rfl)
    rw [whirligigref32_Join.l0, if_pos (by rw [List.length_cons]; omega), if_neg (by decide), if_pos (by decide), e0, e2, if_pos (by omega), e1, e3,
      join_l0 (x :: r) hl r.length 1 k x (by rw [List.length_cons]; omega) (by rw [List.length_cons] at hk; omega) (by decide) (by rw [List.length_cons]; omega) (by show _ + (Lib.joinTail [32] (r.map bb)).length ≤ _; omega)]
    refine congrArg some (bb_inj ?_)
    rw [bb_mk, bb_joinB, List.map_cons, Lib.join_cons]
    rfl
/-- Lines that go out. -/
def lines (l : List (List UInt8)) : List UInt8 := (l.map (· ++ [10])).flatten
theorem lines_cons (x : List UInt8) (r : List (List UInt8)) : lines (x :: r) = x ++ [10] ++ lines r := by
  unfold lines
  rw [List.map_cons, List.flatten_cons]
theorem tail_lines : ∀ r : List (List UInt8), Lib.joinTail [10] r ++ [10] = [10] ++ lines r
  | [] => rfl
  | x :: r => by rw [tail_cons, lines_cons, List.append_assoc, tail_lines r]; simp only [List.append_assoc]
theorem textA_lines (l : List ByteArray) : bb (textA l) = lines (l.map bb) := by
  unfold textA
  cases l with
  | nil => rfl
  | cons x r =>
    rw [if_neg (by simp), bb_append, bb_joinB, List.map_cons, Lib.join_cons, List.append_assoc, lines_cons]
    show bb x ++ (Lib.joinTail [10] (r.map bb) ++ [10]) = _
    rw [tail_lines, List.append_assoc]
theorem text_l0 (l : List ByteArray) (hl : l.length < 100000) : ∀ (d i k : Nat) (x : ByteArray), l.length - i = d → d + 1 ≤ k → i ≤ l.length → x.size + (lines ((l.drop i).map bb)).length ≤ 1000000000 →
    whirligigref32_Text.l0 k l x i = some ⟨(bb x ++ lines ((l.drop i).map bb)).toArray⟩ := by
  intro d
  induction d with
  | zero =>
    intro i k x hd hk hi hs
    obtain ⟨k, rfl⟩ : ∃ j, k = j + 1 := ⟨k - 1, by omega⟩
    rw [whirligigref32_Text.l0, if_neg (by omega), List.drop_eq_nil_of_le (by omega)]
    refine congrArg some (bb_inj ?_)
    rw [bb_mk]
    show bb x = bb x ++ []
    rw [List.append_nil]
  | succ d ih =>
    intro i k x hd hk hi hs
    obtain ⟨k, rfl⟩ : ∃ j, k = j + 1 := ⟨k - 1, by omega⟩
    have hlt : i < l.length := by omega
    have hdr : l.drop i = l[i] :: l.drop (i + 1) := List.drop_eq_getElem_cons hlt
    rw [hdr, List.map_cons, lines_cons, List.length_append, List.length_append, bb_size] at hs
    have e : ([10] : List UInt8).length = 1 := rfl
    rw [e] at hs
    have e2 : ∀ y : ByteArray, (y ++ (⟨#[10]⟩ : ByteArray)).size = y.size + 1 := fun y => by rw [ByteArray.size_append]; rfl
    rw [whirligigref32_Text.l0, if_pos (by omega), if_pos (by omega), rd_at l i hlt, if_pos (by omega), ByteArray.size_append, if_pos (by omega), w64n i (by omega),
      ih (i + 1) k _ (by omega) (by omega) (by omega) (by rw [e2, ByteArray.size_append]; omega), hdr, List.map_cons, lines_cons]
    refine congrArg some (bb_inj ?_)
    show bb ((x ++ l[i]) ++ (⟨#[10]⟩ : ByteArray)) ++ _ = bb x ++ _
    rw [bb_append, bb_append]
    simp only [List.append_assoc]
    rfl
theorem text_f (l : List ByteArray) (hl : l.length < 100000) (hs : (textA l).size ≤ 1000000000) (k : Nat) (hk : l.length + 1 ≤ k) : whirligigref32_Text.f k l = some (textA l) := by
  unfold whirligigref32_Text.f
  have hb : (textA l).size = (lines (l.map bb)).length := by rw [← textA_lines]; rfl
  have h := text_l0 l hl l.length 0 k ⟨#[]⟩ (by omega) (by omega) (by omega) (by show 0 + (lines (l.map bb)).length ≤ _; omega)
  refine h.trans (congrArg some (bb_inj ?_))
  rw [bb_mk, textA_lines]
  rfl
theorem textA_size (l : List ByteArray) (M : Nat) (h : ∀ x ∈ l, x.size ≤ M) : (textA l).size ≤ l.length * (M + 1) + 1 := by
  unfold textA
  split
  · exact Nat.zero_le _
  · rw [ByteArray.size_append]
    have := joinB_size l M 1 nl rfl h
    have e : nl.size = 1 := rfl
    omega
theorem dec_size (n : Int) (h : InI n) : (dec n).size ≤ 21 := by
  have := Lib.itoa_length_le n h.1 h.2
  show (Lib.itoa n).length ≤ 21
  omega
/-- What Good tells. -/
def isOk (x : ByteArray) : Bool := bb x == [111, 107] || (decide (3 ≤ x.size) && (x.extract 0 3).toList == [111, 107, 32])
theorem prefix_f (x : ByteArray) : strings_HasPrefix.f x (⟨#[111, 107, 32]⟩ : ByteArray) = some (decide (3 ≤ x.size) && (x.extract 0 3).toList == [111, 107, 32]) := by
  have e : ((⟨#[111, 107, 32]⟩ : ByteArray).size : Int) = 3 := rfl
  have e2 : (⟨#[111, 107, 32]⟩ : ByteArray).toList = [111, 107, 32] := by rw [Lib.toList_data]
  unfold strings_HasPrefix.f stringslite_HasPrefix.f
  rw [e, e2]
  by_cases h : 3 ≤ x.size
  · rw [if_pos (by omega), if_pos (by decide), if_pos (by omega), decide_eq_true h]
    rfl
  · rw [if_neg (by omega), decide_eq_false h]
    rfl
theorem good_f (l : List ByteArray) (x : ByteArray) (hl : l.length < 100000) : say_Answer_Good.f (l ++ [x]) = some (isOk x) := by
  have e1 : wrap64 (((l ++ [x]).length : Int) - 1) = (l.length : Int) := by
    rw [List.length_append, List.length_singleton]
    exact (wrf _ (by omega) (by omega)).trans (by omega)
  have e2 : rdOf ByteArray.empty (l ++ [x]) (l.length : Int) = x := by rw [rd_at _ _ (by simp)]; simp
  have e3 : x.toList = bb x := Lib.toList_data x
  unfold say_Answer_Good.f isOk
  rw [e1, e2, if_pos (by rw [List.length_append, List.length_singleton]; omega), if_pos (by omega), if_pos (by rw [List.length_append, List.length_singleton]; omega), e3, prefix_f]
  by_cases h : bb x = [111, 107]
  · rw [if_pos h, beq_iff_eq.2 h]
    rfl
  · rw [if_neg h, beq_eq_false_iff_ne.2 h]
    rfl
theorem good_nil : say_Answer_Good.f [] = some false := rfl
theorem joinB_ok (m : ByteArray) : joinB [okS, m] blank = (⟨#[111, 107, 32]⟩ : ByteArray) ++ m := by
  refine bb_inj ?_
  rw [bb_append, bb_joinB, List.map_cons, Lib.join_cons, List.map_cons, tail_cons]
  show [111, 107] ++ (([32] ++ bb m) ++ []) = [111, 107, 32] ++ bb m
  simp
theorem joinB_err (r m : ByteArray) : joinB [errS, r, m] blank = (((⟨#[101, 114, 114, 111, 114, 32]⟩ : ByteArray) ++ r) ++ (⟨#[32]⟩ : ByteArray)) ++ m := by
  refine bb_inj ?_
  rw [bb_append, bb_append, bb_append, bb_joinB, List.map_cons, Lib.join_cons, List.map_cons, tail_cons, List.map_cons, tail_cons]
  show [101, 114, 114, 111, 114] ++ (([32] ++ bb r) ++ (([32] ++ bb m) ++ [])) = (([101, 114, 114, 111, 114, 32] ++ bb r) ++ [32]) ++ bb m
  simp
theorem isOk_ok (m : ByteArray) : isOk (joinB [okS, m] blank) = true := by
  have e : bb (joinB [okS, m] blank) = [111, 107, 32] ++ bb m := by rw [joinB_ok, bb_append]; rfl
  have hs : (joinB [okS, m] blank).size = 3 + m.size := by rw [← bb_size, e, List.length_append, bb_size]; rfl
  have hx : ((joinB [okS, m] blank).extract 0 3).toList = [111, 107, 32] := by
    rw [Lib.toList_data, ByteArray.data_extract, Array.toList_extract]
    show (bb (joinB [okS, m] blank)).extract 0 3 = _
    rw [e]
    rfl
  unfold isOk
  rw [hx, decide_eq_true (by omega)]
  simp
theorem isOk_err (r m : ByteArray) : isOk (joinB [errS, r, m] blank) = false := by
  have e : bb (joinB [errS, r, m] blank) = [101, 114, 114] ++ ([111, 114, 32] ++ (bb r ++ ([32] ++ bb m))) := by
    rw [joinB_err, bb_append, bb_append, bb_append]
    show (([101, 114, 114, 111, 114, 32] ++ bb r) ++ [32]) ++ bb m = _
    simp
  have hx : ((joinB [errS, r, m] blank).extract 0 3).toList = [101, 114, 114] := by
    rw [Lib.toList_data, ByteArray.data_extract, Array.toList_extract]
    show (bb (joinB [errS, r, m] blank)).extract 0 3 = _
    rw [e]
    rfl
  unfold isOk
  rw [hx, e]
  simp
end Go.Proofs.YthpfekjbfhldcaaDoor.SayP
