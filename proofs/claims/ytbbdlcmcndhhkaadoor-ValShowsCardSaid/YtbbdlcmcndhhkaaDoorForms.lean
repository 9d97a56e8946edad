/- What Reckon and Right come to, in closed form: plain Lean over the functions of the walks. -/
import Derived.Test.YtbbdlcmcndhhkaaDoorMValReckonsx6
import Derived.Test.YtbbdlcmcndhhkaaDoorMValReckonsx8
namespace Go.Proofs.YtbbdlcmcndhhkaaDoor.MValReckons
open Go Go.RowKit Go.Proofs.YtbbdlcmcndhhkaaDoorW.PrintWords Go.Proofs.YtbbdlcmcndhhkaaDoorW.PrintLast Go.Proofs.YtbbdlcmcndhhkaaDoorW.PrintMore
set_option linter.unusedVariables false
set_option linter.unusedSimpArgs false

/-! ### the order of texts -/
theorem lss_irrefl : ∀ x : List UInt8, Op.bytesLess x x = false
  | [] => rfl
  | a :: x => by simp [Op.bytesLess, lss_irrefl x]
theorem lss_trans : ∀ x y z : List UInt8, Op.bytesLess x y = true → Op.bytesLess y z = true → Op.bytesLess x z = true
  | _, [], _, h, _ => by simp [Op.bytesLess] at h
  | _, _ :: _, [], _, h => by simp [Op.bytesLess] at h
  | [], _ :: _, _ :: _, _, _ => rfl
  | a :: x, b :: y, c :: z, h, g => by
    simp only [Op.bytesLess, Bool.or_eq_true, Bool.and_eq_true, decide_eq_true_eq, beq_iff_eq] at h g ⊢
    rcases h with h | ⟨rfl, h⟩ <;> rcases g with g | ⟨rfl, g⟩
    · exact .inl (UInt8.lt_trans h g)
    · exact .inl h
    · exact .inl g
    · exact .inr ⟨rfl, lss_trans x y z h g⟩
theorem lss_total : ∀ x y : List UInt8, Op.bytesLess x y = false → Op.bytesLess y x = false → x = y
  | [], [], _, _ => rfl
  | [], _ :: _, h, _ => by simp [Op.bytesLess] at h
  | _ :: _, [], _, h => by simp [Op.bytesLess] at h
  | a :: x, b :: y, h, g => by
    simp only [Op.bytesLess, Bool.or_eq_false_iff, Bool.and_eq_false_iff, decide_eq_false_iff_not, beq_eq_false_iff_ne] at h g
    have e : a = b := by
      apply UInt8.toNat_inj.1
      have h1 := h.1
      have g1 := g.1
      simp only [UInt8.lt_iff_toNat_lt] at h1 g1
      omega
    subst e
    simp only [ne_eq, not_true_eq_false, false_or] at h g
    rw [lss_total x y h.2 g.2]

/-! ### how two values compare -/
def cmpI (n m : Int) : Int := if n < m then -1 else if n > m then 1 else 0
def cmpS (s t : ByteArray) : Int := if Op.bytesLess s.toList t.toList = true then -1 else if Op.bytesLess t.toList s.toList = true then 1 else 0
def cmpV (n : Int) (s : ByteArray) (m : Int) (t : ByteArray) : Int := if cmpI n m = 0 then cmpS s t else cmpI n m
theorem cmpI_f (n m : Int) : cmp_Compare_int64.f n m = some (cmpI n m) := by
  simp only [cmp_Compare_int64.f, cmp_isNaN_int64.f, cmpI, bne_self_eq_false, Option.bind_some, Bool.false_eq_true, if_false]
  split
  · rfl
  split <;> rfl
theorem cmpS_f (s t : ByteArray) : cmp_Compare_string.f s t = some (cmpS s t) := by
  simp only [cmp_Compare_string.f, cmp_isNaN_string.f, cmpS, bne_self_eq_false, Option.bind_some, Bool.false_eq_true, if_false]
  split
  · rfl
  split <;> rfl
theorem compare_f (j : Nat) (k n : Int) (s : ByteArray) (k' m : Int) (t : ByteArray) : val_compare.f (j + 3) k n s k' m t = some (cmpV n s m t) := by
  simp only [val_compare.f, cmpI_f, cmpS_f, Option.bind_some, cmp_Or_int.f, cmpV]
  by_cases h : cmpI n m = 0
  · by_cases g : cmpS s t = 0
    · simp [cmp_Or_int.l0, h, g, rd, wrap64]
    · simp [cmp_Or_int.l0, h, g, rd, wrap64]
  · simp [cmp_Or_int.l0, h, rd, wrap64]
theorem cmpS_cases (s t : ByteArray) : (cmpS s t = -1 ∧ Op.bytesLess s.toList t.toList = true ∧ s.toList ≠ t.toList) ∨ (cmpS s t = 1 ∧ Op.bytesLess t.toList s.toList = true ∧ s.toList ≠ t.toList) ∨ (cmpS s t = 0 ∧ s.toList = t.toList) := by
  unfold cmpS
  by_cases h : Op.bytesLess s.toList t.toList = true
  · exact .inl ⟨by rw [if_pos h], h, fun e => by rw [e, lss_irrefl] at h; cases h⟩
  · rw [if_neg h]
    by_cases g : Op.bytesLess t.toList s.toList = true
    · exact .inr (.inl ⟨by rw [if_pos g], g, fun e => by rw [e, lss_irrefl] at g; cases g⟩)
    · exact .inr (.inr ⟨by rw [if_neg g], lss_total _ _ (by simpa using h) (by simpa using g)⟩)
theorem cmpI_cases (n m : Int) : (cmpI n m = -1 ∧ n < m) ∨ (cmpI n m = 1 ∧ n > m) ∨ (cmpI n m = 0 ∧ n = m) := by
  unfold cmpI
  by_cases h : n < m
  · exact .inl ⟨by rw [if_pos h], h⟩
  · rw [if_neg h]
    by_cases g : n > m
    · exact .inr (.inl ⟨by rw [if_pos g], g⟩)
    · exact .inr (.inr ⟨by rw [if_neg g], by omega⟩)
theorem cmpV_three (n : Int) (s : ByteArray) (m : Int) (t : ByteArray) : (cmpV n s m t = -1 ∧ (n == m && s.toList == t.toList) = false) ∨ (cmpV n s m t = 1 ∧ (n == m && s.toList == t.toList) = false) ∨ (cmpV n s m t = 0 ∧ (n == m && s.toList == t.toList) = true) := by
  unfold cmpV
  rcases cmpI_cases n m with ⟨h, g⟩ | ⟨h, g⟩ | ⟨h, g⟩
  · exact .inl ⟨by rw [h]; rfl, by simp; omega⟩
  · exact .inr (.inl ⟨by rw [h]; rfl, by simp; omega⟩)
  · rcases cmpS_cases s t with ⟨h', g'⟩ | ⟨h', g'⟩ | ⟨h', g'⟩
    · exact .inl ⟨by rw [h, if_pos rfl, h'], by simp [g, g'.2]⟩
    · exact .inr (.inl ⟨by rw [h, if_pos rfl, h'], by simp [g, g'.2]⟩)
    · exact .inr (.inr ⟨by rw [h, if_pos rfl, h'], by simp [g, g']⟩)
theorem cmpV_lt {n : Int} {s : ByteArray} {m : Int} {t : ByteArray} : cmpV n s m t < 0 ↔ (n < m ∨ (n = m ∧ Op.bytesLess s.toList t.toList = true)) := by
  unfold cmpV
  rcases cmpI_cases n m with ⟨h, g⟩ | ⟨h, g⟩ | ⟨h, g⟩
  · rw [h, if_neg (by decide)]; exact ⟨fun _ => .inl g, fun _ => by decide⟩
  · rw [h, if_neg (by decide)]; exact ⟨fun e => absurd e (by decide), fun e => by omega⟩
  · rw [h, if_pos rfl]
    rcases cmpS_cases s t with ⟨h', g', _⟩ | ⟨h', g', g3⟩ | ⟨h', g'⟩
    · rw [h']; exact ⟨fun _ => .inr ⟨g, g'⟩, fun _ => by decide⟩
    · rw [h']; exact ⟨fun e => absurd e (by decide), fun e => by
        rcases e with e | ⟨_, e⟩
        · omega
        · have := lss_trans _ _ _ e g'; rw [lss_irrefl] at this; cases this⟩
    · rw [h']; exact ⟨fun e => absurd e (by decide), fun e => by
        rcases e with e | ⟨_, e⟩
        · omega
        · rw [g', lss_irrefl] at e; cases e⟩
theorem cmpV_trans {n1 : Int} {s1 : ByteArray} {n2 : Int} {s2 : ByteArray} {n3 : Int} {s3 : ByteArray} (h : cmpV n1 s1 n2 s2 < 0) (g : cmpV n2 s2 n3 s3 < 0) : cmpV n1 s1 n3 s3 < 0 := by
  rw [cmpV_lt] at h g ⊢
  rcases h with h | ⟨rfl, h⟩ <;> rcases g with g | ⟨rfl, g⟩
  · exact .inl (by omega)
  · exact .inl h
  · exact .inl g
  · exact .inr ⟨rfl, lss_trans _ _ _ h g⟩
theorem cmpV_swap (n : Int) (s : ByteArray) (m : Int) (t : ByteArray) : decide (cmpV n s m t < 0) = decide (cmpV m t n s > 0) := by
  unfold cmpV
  rcases cmpI_cases n m with ⟨h, g⟩ | ⟨h, g⟩ | ⟨h, g⟩ <;> rcases cmpI_cases m n with ⟨h', g'⟩ | ⟨h', g'⟩ | ⟨h', g'⟩ <;> rw [h, h'] <;> first | (exfalso; omega) | rfl | skip
  simp only [if_true]
  rcases cmpS_cases s t with ⟨h, g, _⟩ | ⟨h, g, _⟩ | ⟨h, g⟩ <;> rcases cmpS_cases t s with ⟨h', g', _⟩ | ⟨h', g', _⟩ | ⟨h', g'⟩ <;> rw [h, h'] <;> first | rfl | skip
  all_goals exfalso
  · have := lss_trans _ _ _ g g'; rw [lss_irrefl] at this; cases this
  · rw [g', lss_irrefl] at g; cases g
  · have := lss_trans _ _ _ g g'; rw [lss_irrefl] at this; cases this
  · rw [g, lss_irrefl] at g'; cases g'
/-- A truth's number. -/
def bit (b : Bool) : Int := if b then 1 else 0
theorem truth_f (b : Bool) : val_Truth.f b = some (2, bit b, ⟨#[]⟩) := by cases b <;> rfl

/-! ### Reckon of two values of one kind -/
theorem reckon_less (k n : Int) (s : ByteArray) (m : Int) (t : ByteArray) (hk : k = 1 ∨ k = 3) :
    val_Reckon.f 20 8 k n s [⟨k, m, t⟩] = some (2, bit (decide (cmpV n s m t < 0)), ⟨#[]⟩, 0) := by
  rcases hk with rfl | rfl <;>
  simp [val_Reckon.f, val_Reckon.j0, val_Reckon.j1, val_Reckon.j2, val_Result.f, val_Result.j0, val_Result.j1, val_Result.j2, compare_f, val_order.f, truth_f, rd_T24]
theorem reckon_more (k n : Int) (s : ByteArray) (m : Int) (t : ByteArray) (hk : k = 1 ∨ k = 3) :
    val_Reckon.f 20 10 k n s [⟨k, m, t⟩] = some (2, bit (decide (cmpV n s m t > 0)), ⟨#[]⟩, 0) := by
  rcases hk with rfl | rfl <;>
  simp [val_Reckon.f, val_Reckon.j0, val_Reckon.j1, val_Reckon.j2, val_Result.f, val_Result.j0, val_Result.j1, val_Result.j2, compare_f, val_order.f, truth_f, rd_T24]
theorem reckon_same (k n : Int) (s : ByteArray) (m : Int) (t : ByteArray) (hk : k = 1 ∨ k = 2 ∨ k = 3) :
    val_Reckon.f 20 12 k n s [⟨k, m, t⟩] = some (2, bit (n == m && s.toList == t.toList), ⟨#[]⟩, 0) := by
  rcases hk with rfl | rfl | rfl <;>
  simp [val_Reckon.f, val_Reckon.j0, val_Reckon.j1, val_Reckon.j2, val_Result.f, val_Result.j0, val_Result.j1, val_Result.j2, truth_f, rd_T24]
theorem reckon_bool (op : Int) (ho : op = 8 ∨ op = 10) (n : Int) (s : ByteArray) (m : Int) (t : ByteArray) :
    val_Reckon.f 20 op 2 n s [⟨2, m, t⟩] = some (0, 0, ⟨#[]⟩, 20) := by
  rcases ho with rfl | rfl <;>
  simp [val_Reckon.f, val_Reckon.j0, val_Reckon.j1, val_Reckon.j2, val_Result.f, val_Result.j0, val_Result.j1, val_Result.j2, truth_f, rd_T24]
/-- What comes of two numbers. -/
def num (op n m : Int) : Option (Int × Int × ByteArray × Int) := val_number.f 10 op n m
theorem reckon_num (op : Int) (ho : op = 3 ∨ op = 4 ∨ op = 5 ∨ op = 6 ∨ op = 7) (n : Int) (s : ByteArray) (m : Int) (t : ByteArray) (r) (h : num op n m = some r) :
    val_Reckon.f 20 op 1 n s [⟨1, m, t⟩] = some r := by
  have g : val_number.f 17 op n m = some r := by
    have := fun i => val_number.mono op n m i
    exact this 16 _ (this 15 _ (this 14 _ (this 13 _ (this 12 _ (this 11 _ (this 10 _ h))))))
  obtain ⟨r1, r2, r3, r4⟩ := r
  rcases ho with rfl | rfl | rfl | rfl | rfl <;>
  simp [val_Reckon.f, val_Reckon.j0, val_Reckon.j1, val_Reckon.j2, val_Result.f, val_Result.j0, val_Result.j1, val_Result.j2, g, rd_T24]

/-! ### what may be a value -/
theorem plain_some (s : ByteArray) (hs : s.size ≤ 48) : ∀ (d i : Nat), s.size ≤ i + d → i ≤ 49 → ∃ b, whirligigref01_Plain.l0 (d + 1) s i = some b
  | 0, i, h, hi => ⟨true, by simp only [whirligigref01_Plain.l0]; rw [if_neg (by omega)]⟩
  | d + 1, i, h, hi => by
    by_cases c : i < s.size
    · obtain ⟨b, hb⟩ := plain_some s hs d (i + 1) (by omega) (by omega)
      have e : wrap64 ((i : Int) + 1) = ((i + 1 : Nat) : Int) := by unfold wrap64; omega
      rw [whirligigref01_Plain.l0, if_pos (by omega), if_pos (by omega), e, hb]
      repeat' split
      all_goals exact ⟨_, rfl⟩
    · exact ⟨true, by rw [whirligigref01_Plain.l0, if_neg (by omega)]⟩
theorem plainf_some (s : ByteArray) : ∃ b, whirligigref01_Plain.f 50 s = some b ∧ (b = true → s.size ≤ 48) := by
  unfold whirligigref01_Plain.f
  by_cases h : (s.size : Int) > 48
  · exact ⟨false, by rw [if_pos h], nofun⟩
  · obtain ⟨b, hb⟩ := plain_some s (by omega) 49 0 (by omega) (by omega)
    exact ⟨b, by rw [if_neg h]; exact hb, fun _ => by omega⟩
def Rt (k n : Int) (s : ByteArray) : Prop := (k = 3 ∧ n = 0 ∧ s.size ≤ 48) ∨ (k = 1 ∧ s = ⟨#[]⟩) ∨ (k = 2 ∧ s = ⟨#[]⟩ ∧ (n = 0 ∨ n = 1))
theorem nil_of {s : ByteArray} (h : s.toList = []) : s = ⟨#[]⟩ := by
  have h' : s.size = 0 := by rw [ByteArray.toList_eq] at h; rw [← data_length, h]; rfl
  rcases s with ⟨⟨l⟩⟩
  cases l with
  | nil => rfl
  | cons a l => simp [ByteArray.size] at h'
theorem right_some (k n : Int) (s : ByteArray) : ∃ b, whirligigref01_Right.f 50 k n s = some b ∧ (b = true → Rt k n s) := by
  unfold whirligigref01_Right.f
  by_cases h3 : k = 3
  · rw [if_pos h3]
    by_cases h0 : n = 0
    · rw [if_pos h0]
      obtain ⟨b, hb, g⟩ := plainf_some s
      exact ⟨b, by rw [hb]; rfl, fun e => .inl ⟨h3, h0, g e⟩⟩
    · exact ⟨false, by rw [if_neg h0], nofun⟩
  · rw [if_neg h3]
    by_cases he : s.toList = []
    · rw [if_pos he]
      have := nil_of he
      by_cases h1 : k = 1
      · exact ⟨true, by rw [if_pos h1], fun _ => .inr (.inl ⟨h1, this⟩)⟩
      · rw [if_neg h1]
        by_cases h2 : k = 2
        · rw [if_pos h2]
          by_cases h0 : n = 0
          · exact ⟨true, by rw [if_pos h0], fun _ => .inr (.inr ⟨h2, this, .inl h0⟩)⟩
          · exact ⟨n == 1, by rw [if_neg h0], fun e => .inr (.inr ⟨h2, this, .inr (beq_iff_eq.1 e)⟩)⟩
        · exact ⟨false, by rw [if_neg h2], nofun⟩
    · exact ⟨false, by rw [if_neg he], nofun⟩
/-! ### one value as the rest of a call -/
theorem one_C {w : World} {g : Nat} {k n : Int} {s : ByteArray} {t : TypeId} (h : w.heap[g]? = some (.cells #[.int .i64 k, .int .i64 n, .string s] t (0, 0))) :
    Kd.C k24 w (some ⟨g, 0, none⟩) 1 [⟨k, n, s⟩] := by
  refine ⟨rfl, by omega, fun _ => ⟨_, rfl, ?_⟩⟩
  intro j p hj
  cases j with
  | succ j => cases hj
  | zero =>
    obtain rfl := Option.some.inj hj
    refine ⟨_, rfl, k24_mk w ⟨k, n, s⟩, ?_⟩
    intro i u hi
    match i, hi with
    | 0, hi => obtain rfl := Option.some.inj hi; exact blk_cell h 0
    | 1, hi => obtain rfl := Option.some.inj hi; exact blk_cell h 1
    | 2, hi => obtain rfl := Option.some.inj hi; exact blk_cell h 2
theorem size_alloc (w : World) (o : Obj) : (w.alloc o).heap.size = w.heap.size + 1 := by simp
theorem two_new (w : World) (a b : Obj) : ((w.alloc a).alloc b).heap[w.heap.size]? = some a ∧ ((w.alloc a).alloc b).heap[w.heap.size + 1]? = some b ∧ Below w.heap.size w ((w.alloc a).alloc b) :=
  ⟨blk_alloc (blk_new w a) b, size_alloc w a ▸ blk_new (w.alloc a) b, ((Below.refl w.heap.size w).alloc (Nat.le_refl _) a).alloc (by rw [size_alloc]; omega) b⟩
theorem three_new (w : World) (a b c : Obj) : (((w.alloc a).alloc b).alloc c).heap[w.heap.size]? = some a ∧ (((w.alloc a).alloc b).alloc c).heap[w.heap.size + 1]? = some b ∧
    (((w.alloc a).alloc b).alloc c).heap[w.heap.size + 1 + 1]? = some c ∧ Below w.heap.size w (((w.alloc a).alloc b).alloc c) := by
  obtain ⟨h1, h2, h3⟩ := two_new w a b
  refine ⟨blk_alloc h1 c, blk_alloc h2 c, ?_, h3.alloc (by rw [size_alloc, size_alloc]; omega) c⟩
  have := blk_new ((w.alloc a).alloc b) c
  rwa [size_alloc, size_alloc] at this
end Go.Proofs.YtbbdlcmcndhhkaaDoor.MValReckons
