/- Armed, cancelled and come due, any timers are the document's at any time: of any list of at most forty timers the law's walk answers true; of a longer one at once. -/
import Derived.Test.YtnkoibbaimhegaaQAnchorT
namespace Go.Proofs.Ytnkoibbaimhegaa.MQ
open Go.RowKit Go.Proofs Go.Proofs.YtnkoibbaimhegaaW.PrintWords Go.Proofs.YtnkoibbaimhegaaW.PrintLast Go.Proofs.YtnkoibbaimhegaaW.PrintMore
set_option linter.unusedVariables false
theorem ins_mem (l : List S25) (t z : S25) : z ∈ ins l t ↔ z = t ∨ z ∈ l := by
  unfold ins
  rw [List.mem_append, List.mem_cons]
  conv => rhs; rw [← List.takeWhile_append_dropWhile (p := fun y => decide (ord y t ≤ 0)) (l := l), List.mem_append]
  constructor
  · rintro (h | h | h)
    · exact .inr (.inl h)
    · exact .inl h
    · exact .inr (.inr h)
  · rintro (h | h | h)
    · exact .inr (.inl h)
    · exact .inl h
    · exact .inr (.inr h)
theorem ins_length (l : List S25) (t : S25) : (ins l t).length = l.length + 1 := by
  unfold ins
  rw [List.length_append, List.length_cons]
  have := congrArg List.length (List.takeWhile_append_dropWhile (p := fun y => decide (ord y t ≤ 0)) (l := l))
  rw [List.length_append] at this
  omega
theorem ord_other {x y : S25} (h : ¬ ord x y ≤ 0) : ord y x ≤ 0 := by
  rw [ord_flip] at *; omega
theorem ins_sorted : ∀ (l : List S25) (t : S25), Sorted l → Sorted (ins l t)
  | [], t, _ => List.pairwise_singleton _ _
  | y :: r, t, h => by
    obtain ⟨h1, h2⟩ := List.pairwise_cons.1 h
    by_cases hy : ord y t ≤ 0
    · have e : ins (y :: r) t = y :: ins r t := by
        unfold ins
        rw [List.takeWhile_cons, List.dropWhile_cons, decide_eq_true hy]
        rfl
      rw [e]
      refine List.pairwise_cons.2 ⟨fun z hz => ?_, ins_sorted r t h2⟩
      rcases (ins_mem r t z).1 hz with rfl | hz
      · exact hy
      · exact h1 z hz
    · have e : ins (y :: r) t = t :: y :: r := by
        unfold ins
        rw [List.takeWhile_cons, List.dropWhile_cons, decide_eq_false hy]
        rfl
      rw [e]
      refine List.pairwise_cons.2 ⟨fun z hz => ?_, h⟩
      rcases List.mem_cons.1 hz with rfl | hz
      · exact ord_other hy
      · exact ord_tr (ord_other hy) (h1 z hz)
theorem arm_f (l : List S25) (t : S25) (hl : l.length ≤ 8) (hs : Sorted l) : ∃ l' r, queue_Arm.f l t.f0 t.f1 t.f2 = some (l', r) ∧ l'.length ≤ 8 ∧ Sorted l' := by
  have e : (⟨t.f0, t.f1, t.f2⟩ : S25) = t := rfl
  unfold queue_Arm.f armF
  rw [e]
  by_cases h : 8 ≤ l.length
  · exact ⟨l, 40, by rw [if_pos h, if_pos (by omega)], hl, hs⟩
  · exact ⟨ins l t, 0, by rw [if_neg h, if_pos hs], by rw [ins_length]; omega, ins_sorted l t hs⟩
theorem get_mid (pre : List S25) (y : S25) (r : List S25) : rd_T25 (pre ++ y :: r) (pre.length : Int) = y := by
  unfold rd_T25
  rw [Int.toNat_natCast, List.getD_eq_getElem?_getD, List.getElem?_append_right (Nat.le_refl _), Nat.sub_self]
  rfl
theorem due_l0 (now : Int) : ∀ (suf pre : List S25) (names : List ByteArray) (k : Nat), (pre ++ suf).length ≤ 1000 → names.length ≤ pre.length → suf.length < k →
    queue_Due.l0 k (pre ++ suf) now names (pre ++ suf) ((pre ++ suf).length : Int) (pre.length : Int) = some (names ++ (suf.takeWhile (fun y => decide (y.f0 ≤ now))).map (·.f2), suf.dropWhile (fun y => decide (y.f0 ≤ now)))
  | [], pre, names, k, hl, hn, hk => by
    obtain ⟨k, rfl⟩ : ∃ j, k = j + 1 := ⟨k - 1, by omega⟩
    rw [queue_Due.l0, if_neg (by rw [List.append_nil]; omega)]
    simp
  | y :: r, pre, names, k, hl, hn, hk => by
    obtain ⟨k, rfl⟩ : ∃ j, k = j + 1 := ⟨k - 1, by omega⟩
    have hlen : (pre ++ y :: r).length = pre.length + r.length + 1 := by rw [List.length_append, List.length_cons]; omega
    have c1 : (pre.length : Int) < ((pre ++ y :: r).length : Int) := by rw [hlen]; omega
    rw [queue_Due.l0, if_pos c1, if_pos (Int.natCast_nonneg _), if_pos c1, get_mid]
    by_cases hy : y.f0 > now
    · have hd : decide (y.f0 ≤ now) = false := decide_eq_false (by omega)
      have hc : queue_Timer_18.f ((pre ++ y :: r).drop (pre.length : Int).toNat) = some (y :: r) := by
        unfold queue_Timer_18.f
        rw [Int.toNat_natCast, List.drop_left, if_pos (by rw [hlen] at hl; rw [List.length_cons]; omega)]
      rw [if_pos hy, if_pos (Int.le_of_lt c1), hc, Option.bind_some, List.takeWhile_cons, List.dropWhile_cons, hd]
      simp
    · have hd : decide (y.f0 ≤ now) = true := decide_eq_true (by omega)
      have e : pre ++ y :: r = (pre ++ [y]) ++ r := by simp
      have hp : ((pre.length + 1 : Nat) : Int) = ((pre ++ [y]).length : Int) := by rw [List.length_append]; rfl
      rw [if_neg hy, if_pos (by rw [hlen] at hl; omega), wr_succ pre.length (by rw [hlen] at hl; omega), e, hp, due_l0 now r (pre ++ [y]) (names ++ [y.f2]) k (by rw [← e]; exact hl) (by rw [List.length_append, List.length_append]; show names.length + 1 ≤ pre.length + 1; omega) (by rw [List.length_cons] at hk; omega), List.takeWhile_cons, List.dropWhile_cons, hd]
      simp
theorem due_f (l : List S25) (now : Int) (k : Nat) (hl : l.length ≤ 1000) (hk : l.length < k) : queue_Due.f k l now = some ((l.takeWhile (fun y => decide (y.f0 ≤ now))).map (·.f2), l.dropWhile (fun y => decide (y.f0 ≤ now))) := by
  have h := due_l0 now l [] [] k (by simpa using hl) (Nat.le_refl _) hk
  rw [List.nil_append, List.nil_append] at h
  exact h
theorem while_take {α : Type} {p q : α → Bool} (h : ∀ a, p a = true → q a = true) : ∀ l : List α, l.takeWhile p ++ (l.dropWhile p).takeWhile q = l.takeWhile q ∧ (l.dropWhile p).dropWhile q = l.dropWhile q
  | [] => ⟨rfl, rfl⟩
  | a :: l => by
    obtain ⟨h1, h2⟩ := while_take h l
    by_cases hp : p a = true
    · have hq := h a hp
      rw [List.takeWhile_cons, List.dropWhile_cons, hp]
      simp only [if_true]
      rw [List.takeWhile_cons (p := q), List.dropWhile_cons (p := q), hq]
      simp only [if_true, List.cons_append]
      exact ⟨by rw [h1], h2⟩
    · rw [List.takeWhile_cons, List.dropWhile_cons, if_neg hp, if_neg hp]
      exact ⟨rfl, rfl⟩
def cv (t : S25) : S39 := ⟨t.f0, t.f1, t.f2⟩
theorem refs_l0 : ∀ (suf pre : List S25) (out : List S39) (k : Nat), (pre ++ suf).length ≤ 1000 → out.length ≤ pre.length → suf.length < k →
    whirligiglaw13_refs.l0 k out (pre ++ suf) ((pre ++ suf).length : Int) (pre.length : Int) = some (out ++ suf.map cv)
  | [], pre, out, k, hl, hn, hk => by
    obtain ⟨k, rfl⟩ : ∃ j, k = j + 1 := ⟨k - 1, by omega⟩
    rw [whirligiglaw13_refs.l0, if_neg (by rw [List.append_nil]; omega)]
    simp
  | y :: r, pre, out, k, hl, hn, hk => by
    obtain ⟨k, rfl⟩ : ∃ j, k = j + 1 := ⟨k - 1, by omega⟩
    have hlen : (pre ++ y :: r).length = pre.length + r.length + 1 := by rw [List.length_append, List.length_cons]; omega
    have c1 : (pre.length : Int) < ((pre ++ y :: r).length : Int) := by rw [hlen]; omega
    have e : pre ++ y :: r = (pre ++ [y]) ++ r := by simp
    have hp : ((pre.length + 1 : Nat) : Int) = ((pre ++ [y]).length : Int) := by rw [List.length_append]; rfl
    rw [whirligiglaw13_refs.l0, if_pos c1, if_pos (Int.natCast_nonneg _), if_pos c1, get_mid, if_pos (by rw [hlen] at hl; omega), wr_succ pre.length (by rw [hlen] at hl; omega), e, hp,
      refs_l0 r (pre ++ [y]) (out ++ [(⟨y.f0, y.f1, y.f2⟩ : S39)]) k (by rw [← e]; exact hl) (by rw [List.length_append, List.length_append]; show out.length + 1 ≤ pre.length + 1; omega) (by rw [List.length_cons] at hk; omega)]
    simp [cv]
theorem refs_f (l : List S25) (k : Nat) (hl : l.length ≤ 1000) (hk : l.length < k) : whirligiglaw13_refs.f k l = some (l.map cv) := by
  have h := refs_l0 l [] [] k (by simpa using hl) (Nat.le_refl _) hk
  rw [List.nil_append, List.nil_append] at h
  exact h
theorem same_l0 (x : List S39) (hx : x.length ≤ 1000) : ∀ (d i k : Nat), x.length - i = d → d < k → i ≤ x.length → whirligiglaw13_same.l0 k x x (x.length : Int) i = some true := by
  intro d
  induction d with
  | zero =>
    intro i k hd hk hi
    obtain ⟨k, rfl⟩ : ∃ j, k = j + 1 := ⟨k - 1, by omega⟩
    rw [whirligiglaw13_same.l0, if_neg (by omega)]
  | succ d ih =>
    intro i k hd hk hi
    obtain ⟨k, rfl⟩ : ∃ j, k = j + 1 := ⟨k - 1, by omega⟩
    have c1 : (i : Int) < (x.length : Int) := by omega
    rw [whirligiglaw13_same.l0, if_pos c1, if_pos (Int.natCast_nonneg i), if_pos c1, if_pos c1, if_neg (by simp), wr_succ i (by omega)]
    exact ih (i + 1) k (by omega) (by omega) (by omega)
theorem same_f (l : List S25) (k : Nat) (hl : l.length ≤ 1000) (hk : l.length < k) : whirligiglaw13_same.f k l (l.map cv) = some true := by
  unfold whirligiglaw13_same.f
  rw [List.length_map, if_pos rfl, refs_f l k hl hk, Option.bind_some]
  exact same_l0 (l.map cv) (by rw [List.length_map]; exact hl) ((l.map cv).length - 0) 0 k rfl (by rw [List.length_map]; omega) (by omega)
/-- Is the one due ahead of the other? -/
def ahead (t y : S39) : Bool := decide (t.f0 < y.f0 ∨ t.f0 = y.f0 ∧ t.f1 < y.f1)
theorem ahead_f (t y : S39) : whirligigref13_Ahead.f t.f0 t.f1 t.f2 y.f0 y.f1 y.f2 = some (ahead t y) := by
  unfold whirligigref13_Ahead.f ahead
  by_cases h1 : t.f0 < y.f0
  · rw [if_pos h1, decide_eq_true (.inl h1)]
  · rw [if_neg h1]
    by_cases h2 : t.f0 = y.f0
    · rw [if_pos h2]
      by_cases h3 : t.f1 < y.f1
      · rw [decide_eq_true h3, decide_eq_true (.inr ⟨h2, h3⟩)]
      · rw [decide_eq_false h3, decide_eq_false (fun h => by rcases h with h | h <;> omega)]
    · rw [if_neg h2, decide_eq_false (fun h => by rcases h with h | h <;> omega)]
theorem ahead_ord (t y : S25) : ahead (cv t) (cv y) = !decide (ord y t ≤ 0) := by
  unfold ahead
  by_cases h : ord y t ≤ 0
  · rw [decide_eq_true h]
    refine decide_eq_false (fun h2 => ?_)
    rw [ord_flip] at h
    change t.f0 < y.f0 ∨ t.f0 = y.f0 ∧ t.f1 < y.f1 at h2
    omega
  · rw [decide_eq_false h]
    refine decide_eq_true ?_
    rw [ord_flip] at h
    change t.f0 < y.f0 ∨ t.f0 = y.f0 ∧ t.f1 < y.f1
    omega
theorem get_mid39 (pre : List S39) (y : S39) (r : List S39) : rd_T39 (pre ++ y :: r) (pre.length : Int) = y := by
  unfold rd_T39
  rw [Int.toNat_natCast, List.getD_eq_getElem?_getD, List.getElem?_append_right (Nat.le_refl _), Nat.sub_self]
  rfl
theorem refArm_l1 (t : S39) : ∀ (suf pre out : List S39) (k : Nat), (pre ++ suf).length ≤ 1000 → out.length ≤ 1000 + pre.length → suf.length < k →
    whirligigref13_Arm.l1 k (pre ++ suf) out (pre.length : Int) t.f0 t.f1 t.f2 = some (out ++ suf.filter (ahead t), true)
  | [], pre, out, k, hl, hn, hk => by
    obtain ⟨k, rfl⟩ : ∃ j, k = j + 1 := ⟨k - 1, by omega⟩
    rw [whirligigref13_Arm.l1, if_neg (by rw [List.append_nil]; omega)]
    simp
  | y :: r, pre, out, k, hl, hn, hk => by
    obtain ⟨k, rfl⟩ : ∃ j, k = j + 1 := ⟨k - 1, by omega⟩
    have hlen : (pre ++ y :: r).length = pre.length + r.length + 1 := by rw [List.length_append, List.length_cons]; omega
    have c1 : (pre.length : Int) < ((pre ++ y :: r).length : Int) := by rw [hlen]; omega
    have e : pre ++ y :: r = (pre ++ [y]) ++ r := by simp
    have hp : ((pre.length + 1 : Nat) : Int) = ((pre ++ [y]).length : Int) := by rw [List.length_append]; rfl
    have hpl : (pre ++ [y]).length = pre.length + 1 := by rw [List.length_append]; rfl
    rw [whirligigref13_Arm.l1, if_pos c1, if_pos (Int.natCast_nonneg _), get_mid39, ahead_f, Option.bind_some, wr_succ pre.length (by rw [hlen] at hl; omega), e, hp, List.filter_cons]
    cases ahead t y with
    | true =>
      rw [if_pos rfl, if_pos rfl, if_pos (by rw [hlen] at hl; omega), refArm_l1 t r (pre ++ [y]) (out ++ [(⟨y.f0, y.f1, y.f2⟩ : S39)]) k (by rw [← e]; exact hl) (by rw [List.length_append, hpl]; show out.length + 1 ≤ _; omega) (by rw [List.length_cons] at hk; omega)]
      simp
    | false =>
      rw [if_neg (by decide), if_neg (by decide), refArm_l1 t r (pre ++ [y]) out k (by rw [← e]; exact hl) (by rw [hpl]; omega) (by rw [List.length_cons] at hk; omega)]
theorem refArm_l0 (t : S39) (m : Nat) : ∀ (suf pre out : List S39) (k : Nat), (pre ++ suf).length ≤ 1000 → out.length ≤ pre.length → k = suf.length + 1 + m →
    whirligigref13_Arm.l0 k (pre ++ suf) out (pre.length : Int) t.f0 t.f1 t.f2 = whirligigref13_Arm.l1 m (pre ++ suf) (out ++ suf.filter (fun y => !ahead t y) ++ [t]) 0 t.f0 t.f1 t.f2
  | [], pre, out, k, hl, hn, hk => by
    obtain rfl : k = m + 1 := by rw [hk, List.length_nil]; omega
    have hl' : pre.length ≤ 1000 := by simpa using hl
    rw [whirligigref13_Arm.l0, if_neg (by rw [List.append_nil]; omega), if_pos (by omega)]
    simp
  | y :: r, pre, out, k, hl, hn, hk => by
    obtain ⟨k, rfl⟩ : ∃ j, k = j + 1 := ⟨k - 1, by omega⟩
    have hlen : (pre ++ y :: r).length = pre.length + r.length + 1 := by rw [List.length_append, List.length_cons]; omega
    have c1 : (pre.length : Int) < ((pre ++ y :: r).length : Int) := by rw [hlen]; omega
    have e : pre ++ y :: r = (pre ++ [y]) ++ r := by simp
    have hp : ((pre.length + 1 : Nat) : Int) = ((pre ++ [y]).length : Int) := by rw [List.length_append]; rfl
    have hpl : (pre ++ [y]).length = pre.length + 1 := by rw [List.length_append]; rfl
    rw [whirligigref13_Arm.l0, if_pos c1, if_pos (Int.natCast_nonneg _), get_mid39, ahead_f, Option.bind_some, wr_succ pre.length (by rw [hlen] at hl; omega), e, hp, List.filter_cons]
    cases ahead t y with
    | true =>
      rw [if_pos rfl, if_neg (by decide), refArm_l0 t m r (pre ++ [y]) out k (by rw [← e]; exact hl) (by rw [hpl]; omega) (by rw [List.length_cons] at hk; omega)]
    | false =>
      rw [if_neg (by decide), if_pos (show (!false) = true from rfl), if_pos (by rw [hlen] at hl; omega), refArm_l0 t m r (pre ++ [y]) (out ++ [(⟨y.f0, y.f1, y.f2⟩ : S39)]) k (by rw [← e]; exact hl) (by rw [List.length_append, hpl]; show out.length + 1 ≤ _; omega) (by rw [List.length_cons] at hk; omega)]
      simp
theorem refArm_f (t : S39) (x : List S39) (k : Nat) (hx : x.length < 8) (hk : 30 ≤ k) : whirligigref13_Arm.f k x t.f0 t.f1 t.f2 = some (x.filter (fun y => !ahead t y) ++ t :: x.filter (ahead t), true) := by
  have h0 := refArm_l0 t (k - x.length - 1) x [] [] k (by simp; omega) (Nat.le_refl _) (by omega)
  have hf : (x.filter (fun y => !ahead t y)).length ≤ x.length := List.length_filter_le _ _
  have h1 := refArm_l1 t x [] (x.filter (fun y => !ahead t y) ++ [t]) (k - x.length - 1) (by simp; omega) (by rw [List.length_append]; show _ + 1 ≤ _; omega) (by omega)
  rw [List.nil_append, List.nil_append] at h0
  rw [List.nil_append] at h1
  unfold whirligigref13_Arm.f
  rw [if_neg (by omega)]
  refine h0.trans (h1.trans ?_)
  rw [List.append_assoc]
  rfl
/-- Of a list along which p, once it fails, fails on. -/
theorem filt_while {α : Type} (p : α → Bool) : ∀ (l : List α), l.Pairwise (fun x y => p y = true → p x = true) → l.filter p = l.takeWhile p ∧ l.filter (fun y => !p y) = l.dropWhile p
  | [], _ => ⟨rfl, rfl⟩
  | a :: l, h => by
    obtain ⟨h1, h2⟩ := List.pairwise_cons.1 h
    obtain ⟨i1, i2⟩ := filt_while p l h2
    cases hp : p a with
    | true =>
      rw [List.filter_cons, List.takeWhile_cons, List.filter_cons, List.dropWhile_cons, hp]
      exact ⟨by rw [if_pos rfl, i1]; rfl, by rw [if_neg (by decide), i2]; rfl⟩
    | false =>
      have hn : ∀ y ∈ l, p y = false := fun y hy => by
        cases hq : p y with
        | true => exact absurd (h1 y hy hq) (by rw [hp]; decide)
        | false => rfl
      have e1 : l.filter p = [] := List.filter_eq_nil_iff.2 (fun y hy => by rw [hn y hy]; decide)
      have e2 : l.filter (fun y => !p y) = l := List.filter_eq_self.2 (fun y hy => by rw [hn y hy]; rfl)
      rw [List.filter_cons, List.takeWhile_cons, List.filter_cons, List.dropWhile_cons, hp]
      exact ⟨by rw [if_neg (by decide), e1]; rfl, by rw [if_pos (show (!false) = true from rfl), e2]; rfl⟩
theorem ins_filter (l : List S25) (t : S25) (hs : Sorted l) : (l.map cv).filter (fun y => !ahead (cv t) y) ++ cv t :: (l.map cv).filter (ahead (cv t)) = (ins l t).map cv := by
  obtain ⟨h1, h2⟩ := filt_while (fun y => decide (ord y t ≤ 0)) l (hs.imp (fun {x y} hxy hy => decide_eq_true (ord_tr hxy (of_decide_eq_true hy))))
  unfold ins
  rw [List.filter_map, List.filter_map, ← h1, ← h2, List.map_append, List.map_cons]
  have e1 : ((fun y => !ahead (cv t) y) ∘ cv) = fun y => decide (ord y t ≤ 0) := funext fun y => by
    show (!ahead (cv t) (cv y)) = _
    rw [ahead_ord, Bool.not_not]
  have e2 : (ahead (cv t) ∘ cv) = fun y => !decide (ord y t ≤ 0) := funext fun y => ahead_ord t y
  rw [e1, e2]
theorem refDue_l0 (now : Int) : ∀ (suf pre : List S39) (names : List ByteArray) (out : List S39) (k : Nat), (pre ++ suf).length ≤ 1000 → names.length ≤ pre.length → out.length ≤ pre.length → suf.length < k →
    whirligigref13_Due.l0 k (pre ++ suf) now names out (pre.length : Int) = some (names ++ (suf.filter (fun y => decide (y.f0 ≤ now))).map (·.f2), out ++ suf.filter (fun y => !decide (y.f0 ≤ now)))
  | [], pre, names, out, k, hl, hn, ho, hk => by
    obtain ⟨k, rfl⟩ : ∃ j, k = j + 1 := ⟨k - 1, by omega⟩
    rw [whirligigref13_Due.l0, if_neg (by rw [List.append_nil]; omega)]
    simp
  | y :: r, pre, names, out, k, hl, hn, ho, hk => by
    obtain ⟨k, rfl⟩ : ∃ j, k = j + 1 := ⟨k - 1, by omega⟩
    have hlen : (pre ++ y :: r).length = pre.length + r.length + 1 := by rw [List.length_append, List.length_cons]; omega
    have c1 : (pre.length : Int) < ((pre ++ y :: r).length : Int) := by rw [hlen]; omega
    have e : pre ++ y :: r = (pre ++ [y]) ++ r := by simp
    have hp : ((pre.length + 1 : Nat) : Int) = ((pre ++ [y]).length : Int) := by rw [List.length_append]; rfl
    have hpl : (pre ++ [y]).length = pre.length + 1 := by rw [List.length_append]; rfl
    rw [whirligigref13_Due.l0, if_pos c1, if_pos (Int.natCast_nonneg _), get_mid39, wr_succ pre.length (by rw [hlen] at hl; omega), e, hp, List.filter_cons, List.filter_cons]
    by_cases hy : y.f0 ≤ now
    · rw [if_pos hy, if_pos (by rw [hlen] at hl; omega), decide_eq_true hy, if_pos rfl, if_neg (by decide), refDue_l0 now r (pre ++ [y]) (names ++ [y.f2]) out k (by rw [← e]; exact hl) (by rw [List.length_append, hpl]; show names.length + 1 ≤ _; omega) (by rw [hpl]; omega) (by rw [List.length_cons] at hk; omega)]
      simp
    · rw [if_neg hy, if_pos (by rw [hlen] at hl; omega), decide_eq_false hy, if_neg (by decide), if_pos (show (!false) = true from rfl), refDue_l0 now r (pre ++ [y]) names (out ++ [(⟨y.f0, y.f1, y.f2⟩ : S39)]) k (by rw [← e]; exact hl) (by rw [hpl]; omega) (by rw [List.length_append, hpl]; show out.length + 1 ≤ _; omega) (by rw [List.length_cons] at hk; omega)]
      simp
theorem refDue_f (l : List S25) (now : Int) (k : Nat) (hs : Sorted l) (hl : l.length ≤ 1000) (hk : l.length < k) :
    whirligigref13_Due.f k (l.map cv) now = some ((l.takeWhile (fun y => decide (y.f0 ≤ now))).map (·.f2), (l.dropWhile (fun y => decide (y.f0 ≤ now))).map cv) := by
  have h := refDue_l0 now (l.map cv) [] [] [] k (by simpa using hl) (Nat.le_refl _) (Nat.le_refl _) (by rw [List.length_map]; exact hk)
  obtain ⟨h1, h2⟩ := filt_while (fun y : S25 => decide (y.f0 ≤ now)) l (hs.imp (fun {x y} hxy hy => decide_eq_true (by
    have := of_decide_eq_true hy
    rw [ord_flip] at hxy
    omega)))
  rw [List.nil_append, List.nil_append, List.nil_append, List.filter_map, List.filter_map, List.map_map] at h
  rw [← h1, ← h2]
  exact h
theorem refCancel_l0 (name : ByteArray) : ∀ (suf pre : List S39) (out : List S39) (k : Nat), (pre ++ suf).length ≤ 1000 → out.length ≤ pre.length → suf.length < k →
    whirligigref13_Cancel.l0 k (pre ++ suf) name out (pre.length : Int) = some (out ++ suf.filter (fun y => !(y.f2.toList == name.toList)))
  | [], pre, out, k, hl, ho, hk => by
    obtain ⟨k, rfl⟩ : ∃ j, k = j + 1 := ⟨k - 1, by omega⟩
    rw [whirligigref13_Cancel.l0, if_neg (by rw [List.append_nil]; omega)]
    simp
  | y :: r, pre, out, k, hl, ho, hk => by
    obtain ⟨k, rfl⟩ : ∃ j, k = j + 1 := ⟨k - 1, by omega⟩
    have hlen : (pre ++ y :: r).length = pre.length + r.length + 1 := by rw [List.length_append, List.length_cons]; omega
    have c1 : (pre.length : Int) < ((pre ++ y :: r).length : Int) := by rw [hlen]; omega
    have e : pre ++ y :: r = (pre ++ [y]) ++ r := by simp
    have hp : ((pre.length + 1 : Nat) : Int) = ((pre ++ [y]).length : Int) := by rw [List.length_append]; rfl
    have hpl : (pre ++ [y]).length = pre.length + 1 := by rw [List.length_append]; rfl
    rw [whirligigref13_Cancel.l0, if_pos c1, if_pos (Int.natCast_nonneg _), get_mid39, wr_succ pre.length (by rw [hlen] at hl; omega), e, hp, List.filter_cons]
    by_cases hy : y.f2.toList = name.toList
    · rw [if_pos hy, hy, beq_self_eq_true, if_neg (by decide), refCancel_l0 name r (pre ++ [y]) out k (by rw [← e]; exact hl) (by rw [hpl]; omega) (by rw [List.length_cons] at hk; omega)]
    · rw [if_neg hy, if_pos (by rw [hlen] at hl; omega), beq_eq_false_iff_ne.2 hy, if_pos (show (!false) = true from rfl), refCancel_l0 name r (pre ++ [y]) (out ++ [(⟨y.f0, y.f1, y.f2⟩ : S39)]) k (by rw [← e]; exact hl) (by rw [List.length_append, hpl]; show out.length + 1 ≤ _; omega) (by rw [List.length_cons] at hk; omega)]
      simp
theorem refCancel_f (l : List S25) (name : ByteArray) (k : Nat) (hl : l.length ≤ 1000) (hk : l.length < k) : whirligigref13_Cancel.f k (l.map cv) name = some ((l.filter (fun x => !isN name x)).map cv) := by
  have h := refCancel_l0 name (l.map cv) [] [] k (by simpa using hl) (Nat.le_refl _) (by rw [List.length_map]; exact hk)
  rw [List.nil_append, List.nil_append, List.filter_map] at h
  exact h
theorem timers_l0 (name : ByteArray) (now : Int) (x : List S25) (hx : x.length ≤ 40) : ∀ (d i k : Nat) (own : List S25), x.length - i = d → d + 60 ≤ k → own.length ≤ 8 → Sorted own →
    whirligiglaw13_QueueTimers.l0 k name now own (own.map cv) x (x.length : Int) i = some true := by
  intro d
  induction d with
  | zero =>
    intro i k own hd hk ho hs
    obtain ⟨k, rfl⟩ : ∃ j, k = j + 1 := ⟨k - 1, by omega⟩
    have hd2 : (own.dropWhile (fun y => decide (y.f0 ≤ now))).length ≤ own.length := List.IsSuffix.length_le (List.dropWhile_suffix _)
    have ht2 : (own.takeWhile (fun y => decide (y.f0 ≤ now))).length ≤ own.length := List.IsPrefix.length_le (List.takeWhile_prefix _)
    have hf2 : (own.filter (fun x => !isN name x)).length ≤ own.length := List.length_filter_le _ _
    have hc : queue_Cancel.f own name = some (own.filter (fun x => !isN name x)) := by unfold queue_Cancel.f; rw [if_pos (by omega)]
    rw [whirligiglaw13_QueueTimers.l0, if_neg (by omega), due_f own now k (by omega) (by omega), Option.bind_some, refDue_f own now k hs (by omega) (by omega), Option.bind_some,
      texts_f ((own.takeWhile (fun y => decide (y.f0 ≤ now))).map (·.f2)) k (by rw [List.length_map]; omega) (by rw [List.length_map]; omega), Option.bind_some, if_pos rfl, same_f (own.dropWhile (fun y => decide (y.f0 ≤ now))) k (by omega) (by omega), Option.bind_some, if_pos rfl,
      hc, Option.bind_some, refCancel_f own name k (by omega) (by omega), Option.bind_some, same_f (own.filter (fun x => !isN name x)) k (by omega) (by omega), Option.bind_some, if_pos rfl, same_f own k (by omega) (by omega), Option.bind_some]
  | succ d ih =>
    intro i k own hd hk ho hs
    obtain ⟨k, rfl⟩ : ∃ j, k = j + 1 := ⟨k - 1, by omega⟩
    have c1 : (i : Int) < (x.length : Int) := by omega
    generalize hy : rd_T25 x i = y
    rw [whirligiglaw13_QueueTimers.l0, if_pos c1, if_pos (Int.natCast_nonneg i), if_pos c1, wr_succ i (by omega), hy]
    by_cases h8 : 8 ≤ own.length
    · have ha : queue_Arm.f own y.f0 y.f1 y.f2 = some (own, 40) := by
        unfold queue_Arm.f armF
        rw [if_pos h8, if_pos (by omega)]
      have hr : whirligigref13_Arm.f k (own.map cv) y.f0 y.f1 y.f2 = some (own.map cv, false) := by
        unfold whirligigref13_Arm.f
        rw [List.length_map, if_pos (by omega)]
      rw [ha, Option.bind_some, hr, Option.bind_some, if_neg (show ¬ ((((40 : Int) == 0) != false) = true) by decide), if_neg (show ¬ ((40 : Int) = 0) by decide), if_pos rfl, same_f own k (by omega) (by omega), Option.bind_some, if_pos rfl]
      exact ih (i + 1) k own (by omega) (by omega) ho hs
    · have e : (⟨y.f0, y.f1, y.f2⟩ : S25) = y := rfl
      have ha : queue_Arm.f own y.f0 y.f1 y.f2 = some (ins own y, 0) := by
        unfold queue_Arm.f armF
        rw [if_neg h8, e, if_pos hs]
      have hr : whirligigref13_Arm.f k (own.map cv) y.f0 y.f1 y.f2 = some ((ins own y).map cv, true) := by
        have h := refArm_f (cv y) (own.map cv) k (by rw [List.length_map]; omega) (by omega)
        rw [ins_filter own y hs] at h
        exact h
      have hl := ins_length own y
      rw [ha, Option.bind_some, hr, Option.bind_some, if_neg (show ¬ ((((0 : Int) == 0) != true) = true) by decide), if_pos rfl, same_f (ins own y) k (by omega) (by omega), Option.bind_some, if_pos rfl]
      exact ih (i + 1) k (ins own y) (by omega) (by omega) (by omega) (ins_sorted own y hs)
theorem queueTimers_f (l : List S25) (name : ByteArray) (now : Int) : whirligiglaw13_QueueTimers.f 1000 l name now = some true := by
  unfold whirligiglaw13_QueueTimers.f
  rw [anchor_f 1000 (by decide), Option.bind_some, if_pos rfl]
  by_cases h1 : (l.length : Int) > 40
  · rw [if_pos h1]
  · rw [if_neg h1]
    exact timers_l0 name now l (by omega) (l.length - 0) 0 1000 [] rfl (by omega) (by decide) List.Pairwise.nil
theorem queueTimers_walk (A : Option Addr) (c : Nat) (l : List S25) (name : ByteArray) (now : Int) (W : World) (hr : Kd.C k25 W A l.length l) (hc : l.length ≤ c) (hn : name.size ≤ 140737488351232) (ha : (Lit.int .i64 now).wf = true) :
    Calls Try.prog 4 #[.slice A l.length c, .string name, .int .i64 now] W fun e w' => e = .returned (.bool true) ∧ Below W.heap.size W w' :=
  whirligiglaw13_QueueTimers.calls 1000 A c l name now true W hr hc (queueTimers_f l name now)
end Go.Proofs.Ytnkoibbaimhegaa.MQ
