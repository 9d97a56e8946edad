/- The timers due at one time and then at a later one are those due at the later one, in the same order: of any list of at most forty timers the law's walk answers true; of a longer one, or where the second time is the earlier, at once. -/
import Derived.Test.YtnkoibbaimhegaaQAnchorP
namespace Go.Proofs.Ytnkoibbaimhegaa.MQ
open Go.RowKit Go.Proofs Go.Proofs.YtnkoibbaimhegaaW.PrintWords Go.Proofs.YtnkoibbaimhegaaW.PrintLast Go.Proofs.YtnkoibbaimhegaaW.PrintMore
set_option linter.unusedVariables false
theorem ins_mem (l : List S25) (t z : S25) : z ∈ ins l t ↔ z = t ∨ z ∈ l := by
  unfold ins
  rw [List.mem_append, List.mem_cons]
  conv => rhs; rw [← List.takeWhile_append_dropWhile (p := fun y => decide (ord y t ≤ 0)) (l := l), List.mem_append]
  constructor
  · rintro (h | h | h)
    · exact .inr (.inl h)
    · exact .inl h
    · exact .inr (.inr h)
  · rintro (h | h | h)
    · exact .inr (.inl h)
    · exact .inl h
    · exact .inr (.inr h)
theorem ins_length (l : List S25) (t : S25) : (ins l t).length = l.length + 1 := by
  unfold ins
  rw [List.length_append, List.length_cons]
  have := congrArg List.length (List.takeWhile_append_dropWhile (p := fun y => decide (ord y t ≤ 0)) (l := l))
  rw [List.length_append] at this
  omega
theorem ord_other {x y : S25} (h : ¬ ord x y ≤ 0) : ord y x ≤ 0 := by
  rw [ord_flip] at *; omega
theorem ins_sorted : ∀ (l : List S25) (t : S25), Sorted l → Sorted (ins l t)
  | [], t, _ => List.pairwise_singleton _ _
  | y :: r, t, h => by
    obtain ⟨h1, h2⟩ := List.pairwise_cons.1 h
    by_cases hy : ord y t ≤ 0
    · have e : ins (y :: r) t = y :: ins r t := by
        unfold ins
        rw [List.takeWhile_cons, List.dropWhile_cons, decide_eq_true hy]
        rfl
      rw [e]
      refine List.pairwise_cons.2 ⟨fun z hz => ?_, ins_sorted r t h2⟩
      rcases (ins_mem r t z).1 hz with rfl | hz
      · exact hy
      · exact h1 z hz
    · have e : ins (y :: r) t = t :: y :: r := by
        unfold ins
        rw [List.takeWhile_cons, List.dropWhile_cons, decide_eq_false hy]
        rfl
      rw [e]
      refine List.pairwise_cons.2 ⟨fun z hz => ?_, h⟩
      rcases List.mem_cons.1 hz with rfl | hz
      · exact ord_other hy
      · exact ord_tr (ord_other hy) (h1 z hz)
theorem arm_f (l : List S25) (t : S25) (hl : l.length ≤ 8) (hs : Sorted l) : ∃ l' r, queue_Arm.f l t.f0 t.f1 t.f2 = some (l', r) ∧ l'.length ≤ 8 ∧ Sorted l' := by
  have e : (⟨t.f0, t.f1, t.f2⟩ : S25) = t := rfl
  unfold queue_Arm.f armF
  rw [e]
  by_cases h : 8 ≤ l.length
  · exact ⟨l, 40, by rw [if_pos h, if_pos (by omega)], hl, hs⟩
  · exact ⟨ins l t, 0, by rw [if_neg h, if_pos hs], by rw [ins_length]; omega, ins_sorted l t hs⟩
theorem get_mid (pre : List S25) (y : S25) (r : List S25) : rd_T25 (pre ++ y :: r) (pre.length : Int) = y := by
  unfold rd_T25
  rw [Int.toNat_natCast, List.getD_eq_getElem?_getD, List.getElem?_append_right (Nat.le_refl _), Nat.sub_self]
  rfl
theorem due_l0 (now : Int) : ∀ (suf pre : List S25) (names : List ByteArray) (k : Nat), (pre ++ suf).length ≤ 1000 → names.length ≤ pre.length → suf.length < k →
    queue_Due.l0 k (pre ++ suf) now names (pre ++ suf) ((pre ++ suf).length : Int) (pre.length : Int) = some (names ++ (suf.takeWhile (fun y => decide (y.f0 ≤ now))).map (·.f2), suf.dropWhile (fun y => decide (y.f0 ≤ now)))
  | [], pre, names, k, hl, hn, hk => by
    obtain ⟨k, rfl⟩ : ∃ j, k = j + 1 := ⟨k - 1, by omega⟩
    rw [queue_Due.l0, if_neg (by rw [List.append_nil]; omega)]
    simp
  | y :: r, pre, names, k, hl, hn, hk => by
    obtain ⟨k, rfl⟩ : ∃ j, k = j + 1 := ⟨k - 1, by omega⟩
    have hlen : (pre ++ y :: r).length = pre.length + r.length + 1 := by rw [List.length_append, List.length_cons]; omega
    have c1 : (pre.length : Int) < ((pre ++ y :: r).length : Int) := by rw [hlen]; omega
    rw [queue_Due.l0, if_pos c1, if_pos (Int.natCast_nonneg _), if_pos c1, get_mid]
    by_cases hy : y.f0 > now
    · have hd : decide (y.f0 ≤ now) = false := decide_eq_false (by omega)
      have hc : queue_Timer_18.f ((pre ++ y :: r).drop (pre.length : Int).toNat) = some (y :: r) := by
        unfold queue_Timer_18.f
        rw [Int.toNat_natCast, List.drop_left, if_pos (by rw [hlen] at hl; rw [List.length_cons]; omega)]
      rw [if_pos hy, if_pos (Int.le_of_lt c1), hc, Option.bind_some, List.takeWhile_cons, List.dropWhile_cons, hd]
      simp
    · have hd : decide (y.f0 ≤ now) = true := decide_eq_true (by omega)
      have e : pre ++ y :: r = (pre ++ [y]) ++ r := by simp
      have hp : ((pre.length + 1 : Nat) : Int) = ((pre ++ [y]).length : Int) := by rw [List.length_append]; rfl
      rw [if_neg hy, if_pos (by rw [hlen] at hl; omega), wr_succ pre.length (by rw [hlen] at hl; omega), e, hp, due_l0 now r (pre ++ [y]) (names ++ [y.f2]) k (by rw [← e]; exact hl) (by rw [List.length_append, List.length_append]; show names.length + 1 ≤ pre.length + 1; omega) (by rw [List.length_cons] at hk; omega), List.takeWhile_cons, List.dropWhile_cons, hd]
      simp
theorem due_f (l : List S25) (now : Int) (k : Nat) (hl : l.length ≤ 1000) (hk : l.length < k) : queue_Due.f k l now = some ((l.takeWhile (fun y => decide (y.f0 ≤ now))).map (·.f2), l.dropWhile (fun y => decide (y.f0 ≤ now))) := by
  have h := due_l0 now l [] [] k (by simpa using hl) (Nat.le_refl _) hk
  rw [List.nil_append, List.nil_append] at h
  exact h
theorem while_take {α : Type} {p q : α → Bool} (h : ∀ a, p a = true → q a = true) : ∀ l : List α, l.takeWhile p ++ (l.dropWhile p).takeWhile q = l.takeWhile q ∧ (l.dropWhile p).dropWhile q = l.dropWhile q
  | [] => ⟨rfl, rfl⟩
  | a :: l => by
    obtain ⟨h1, h2⟩ := while_take h l
    by_cases hp : p a = true
    · have hq := h a hp
      rw [List.takeWhile_cons, List.dropWhile_cons, hp]
      simp only [if_true]
      rw [List.takeWhile_cons (p := q), List.dropWhile_cons (p := q), hq]
      simp only [if_true, List.cons_append]
      exact ⟨by rw [h1], h2⟩
    · rw [List.takeWhile_cons, List.dropWhile_cons, if_neg hp, if_neg hp]
      exact ⟨rfl, rfl⟩
def cv (t : S25) : S39 := ⟨t.f0, t.f1, t.f2⟩
theorem refs_l0 : ∀ (suf pre : List S25) (out : List S39) (k : Nat), (pre ++ suf).length ≤ 1000 → out.length ≤ pre.length → suf.length < k →
    whirligiglaw13_refs.l0 k out (pre ++ suf) ((pre ++ suf).length : Int) (pre.length : Int) = some (out ++ suf.map cv)
  | [], pre, out, k, hl, hn, hk => by
    obtain ⟨k, rfl⟩ : ∃ j, k = j + 1 := ⟨k - 1, by omega⟩
    rw [whirligiglaw13_refs.l0, if_neg (by rw [List.append_nil]; omega)]
    simp
  | y :: r, pre, out, k, hl, hn, hk => by
    obtain ⟨k, rfl⟩ : ∃ j, k = j + 1 := ⟨k - 1, by omega⟩
    have hlen : (pre ++ y :: r).length = pre.length + r.length + 1 := by rw [List.length_append, List.length_cons]; omega
    have c1 : (pre.length : Int) < ((pre ++ y :: r).length : Int) := by rw [hlen]; omega
    have e : pre ++ y :: r = (pre ++ [y]) ++ r := by simp
    have hp : ((pre.length + 1 : Nat) : Int) = ((pre ++ [y]).length : Int) := by rw [List.length_append]; rfl
    rw [whirligiglaw13_refs.l0, if_pos c1, if_pos (Int.natCast_nonneg _), if_pos c1, get_mid, if_pos (by rw [hlen] at hl; omega), wr_succ pre.length (by rw [hlen] at hl; omega), e, hp,
      refs_l0 r (pre ++ [y]) (out ++ [(⟨y.f0, y.f1, y.f2⟩ : S39)]) k (by rw [← e]; exact hl) (by rw [List.length_append, List.length_append]; show out.length + 1 ≤ pre.length + 1; omega) (by rw [List.length_cons] at hk; omega)]
    simp [cv]
theorem refs_f (l : List S25) (k : Nat) (hl : l.length ≤ 1000) (hk : l.length < k) : whirligiglaw13_refs.f k l = some (l.map cv) := by
  have h := refs_l0 l [] [] k (by simpa using hl) (Nat.le_refl _) hk
  rw [List.nil_append, List.nil_append] at h
  exact h
theorem same_l0 (x : List S39) (hx : x.length ≤ 1000) : ∀ (d i k : Nat), x.length - i = d → d < k → i ≤ x.length → whirligiglaw13_same.l0 k x x (x.length : Int) i = some true := by
  intro d
  induction d with
  | zero =>
    intro i k hd hk hi
    obtain ⟨k, rfl⟩ : ∃ j, k = j + 1 := ⟨k - 1, by omega⟩
    rw [whirligiglaw13_same.l0, if_neg (by omega)]
  | succ d ih =>
    intro i k hd hk hi
    obtain ⟨k, rfl⟩ : ∃ j, k = j + 1 := ⟨k - 1, by omega⟩
    have c1 : (i : Int) < (x.length : Int) := by omega
    rw [whirligiglaw13_same.l0, if_pos c1, if_pos (Int.natCast_nonneg i), if_pos c1, if_pos c1, if_neg (by simp), wr_succ i (by omega)]
    exact ih (i + 1) k (by omega) (by omega) (by omega)
theorem same_f (l : List S25) (k : Nat) (hl : l.length ≤ 1000) (hk : l.length < k) : whirligiglaw13_same.f k l (l.map cv) = some true := by
  unfold whirligiglaw13_same.f
  rw [List.length_map, if_pos rfl, refs_f l k hl hk, Option.bind_some]
  exact same_l0 (l.map cv) (by rw [List.length_map]; exact hl) ((l.map cv).length - 0) 0 k rfl (by rw [List.length_map]; omega) (by omega)
theorem parts_end (own : List S25) (a b : Int) (hab : a ≤ b) (hl : own.length ≤ 8) (k : Nat) (hk : 20 ≤ k) (x26 : List S25) (x28 : Int) (hx : ¬ (x28 < (x26.length : Int))) :
    whirligiglaw13_QueueParts.l0 (k + 1) a b own x26 (x26.length : Int) x28 = some true := by
  have hd1 : (own.dropWhile (fun y => decide (y.f0 ≤ a))).length ≤ own.length := List.IsSuffix.length_le (List.dropWhile_suffix _)
  have hd2 : (own.dropWhile (fun y => decide (y.f0 ≤ b))).length ≤ own.length := List.IsSuffix.length_le (List.dropWhile_suffix _)
  have ht : ∀ p : S25 → Bool, (own.takeWhile p).length ≤ own.length := fun p => List.IsPrefix.length_le (List.takeWhile_prefix _)
  obtain ⟨w1, w2⟩ := while_take (p := fun y : S25 => decide (y.f0 ≤ a)) (q := fun y : S25 => decide (y.f0 ≤ b)) (fun y hy => decide_eq_true (Int.le_trans (of_decide_eq_true hy) hab)) own
  have hlb : (own.dropWhile (fun y => decide (y.f0 ≤ a)) |>.takeWhile (fun y => decide (y.f0 ≤ b))).length ≤ 8 := by
    have := List.IsPrefix.length_le (List.takeWhile_prefix (l := own.dropWhile (fun y => decide (y.f0 ≤ a))) (fun y => decide (y.f0 ≤ b)))
    omega
  have hta := ht (fun y => decide (y.f0 ≤ a))
  have htb := ht (fun y => decide (y.f0 ≤ b))
  rw [whirligiglaw13_QueueParts.l0, if_neg hx, due_f own a k (by omega) (by omega), Option.bind_some, due_f (own.dropWhile (fun y => decide (y.f0 ≤ a))) b k (by omega) (by omega), Option.bind_some, due_f own b k (by omega) (by omega), Option.bind_some, Option.bind_some,
    if_pos (by show 0 + (List.map _ _).length < _; rw [List.length_map]; omega), Option.bind_some, List.nil_append,
    if_pos (by show (List.map _ _).length + (List.map _ _).length < _; rw [List.length_map, List.length_map]; omega)]
  have e : ((own.takeWhile (fun y => decide (y.f0 ≤ a))).map (·.f2)) ++ ((own.dropWhile (fun y => decide (y.f0 ≤ a))).takeWhile (fun y => decide (y.f0 ≤ b))).map (·.f2) = (own.takeWhile (fun y => decide (y.f0 ≤ b))).map (·.f2) := by
    rw [← List.map_append, w1]
  have e2 : whirligiglaw13_texts.f k (((own.takeWhile (fun y => decide (y.f0 ≤ a))).map (·.f2)) ++ ((own.dropWhile (fun y => decide (y.f0 ≤ a))).takeWhile (fun y => decide (y.f0 ≤ b))).map (·.f2)) ((own.takeWhile (fun y => decide (y.f0 ≤ b))).map (·.f2)) = some true := by
    rw [e]
    exact texts_f _ k (by rw [List.length_map]; omega) (by rw [List.length_map]; omega)
  rw [e2, Option.bind_some, if_pos rfl, refs_f (own.dropWhile (fun y => decide (y.f0 ≤ b))) k (by omega) (by omega), Option.bind_some, w2, same_f (own.dropWhile (fun y => decide (y.f0 ≤ b))) k (by omega) (by omega), Option.bind_some]
theorem parts_l0 (a b : Int) (hab : a ≤ b) (x : List S25) (hx : x.length ≤ 40) : ∀ (d i k : Nat) (own : List S25), x.length - i = d → d + 30 ≤ k → own.length ≤ 8 → Sorted own →
    whirligiglaw13_QueueParts.l0 k a b own x (x.length : Int) i = some true := by
  intro d
  induction d with
  | zero =>
    intro i k own hd hk ho hs
    obtain ⟨k, rfl⟩ : ∃ j, k = j + 1 := ⟨k - 1, by omega⟩
    exact parts_end own a b hab ho k (by omega) x i (by omega)
  | succ d ih =>
    intro i k own hd hk ho hs
    obtain ⟨k, rfl⟩ : ∃ j, k = j + 1 := ⟨k - 1, by omega⟩
    have c1 : (i : Int) < (x.length : Int) := by omega
    obtain ⟨l', r, h1, h2, h3⟩ := arm_f own (rd_T25 x i) ho hs
    rw [whirligiglaw13_QueueParts.l0, if_pos c1, if_pos (Int.natCast_nonneg i), if_pos c1, h1, Option.bind_some, wr_succ i (by omega)]
    exact ih (i + 1) k l' (by omega) (by omega) h2 h3
theorem queueParts_f (l : List S25) (a b : Int) : whirligiglaw13_QueueParts.f 1000 l a b = some true := by
  unfold whirligiglaw13_QueueParts.f
  rw [anchor_f 1000 (by decide), Option.bind_some, if_pos rfl]
  by_cases h1 : (l.length : Int) > 40
  · rw [if_pos h1, whirligiglaw13_QueueParts.j0, if_pos rfl]
  · rw [if_neg h1, whirligiglaw13_QueueParts.j0]
    by_cases h2 : b < a
    · rw [decide_eq_true h2, if_pos rfl]
    · rw [decide_eq_false h2, if_neg (by decide)]
      exact parts_l0 a b (by omega) l (by omega) (l.length - 0) 0 999 [] rfl (by omega) (by decide) List.Pairwise.nil
theorem queueParts_walk (A : Option Addr) (c : Nat) (l : List S25) (a b : Int) (W : World) (hr : Kd.C k25 W A l.length l) (hc : l.length ≤ c) (ha : (Lit.int .i64 a).wf = true) (hb : (Lit.int .i64 b).wf = true) :
    Calls Try.prog 3 #[.slice A l.length c, .int .i64 a, .int .i64 b] W fun e w' => e = .returned (.bool true) ∧ Below W.heap.size W w' :=
  whirligiglaw13_QueueParts.calls 1000 A c l a b true W hr hc (queueParts_f l a b)
end Go.Proofs.Ytnkoibbaimhegaa.MQ
