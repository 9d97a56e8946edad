/- queue.Arm walked: of at most seven timers in their order it makes a row of its own with the further one behind all that are not due later; of eight or more, a copy. -/
import Derived.Test.YtnkoibbaimhegaaQSearch
import Derived.Test.YtnkoibbaimhegaaQInsert
namespace Go.Proofs.Ytnkoibbaimhegaa.MQ
open Go.RowKit Go.Proofs Go.Proofs.YtnkoibbaimhegaaW.PrintWords Go.Proofs.YtnkoibbaimhegaaW.PrintLast Go.Proofs.YtnkoibbaimhegaaW.PrintMore
set_option linter.unusedVariables false
set_option linter.unusedSimpArgs false
theorem ord_flip (x y : S25) : ord x y ≤ 0 ↔ (x.f0 < y.f0 ∨ x.f0 = y.f0 ∧ x.f1 ≤ y.f1) := by
  unfold ord
  repeat' split
  all_goals omega
theorem ord_lt (x y : S25) : ord x y < 0 ↔ (x.f0 < y.f0 ∨ x.f0 = y.f0 ∧ x.f1 < y.f1) := by
  unfold ord
  repeat' split
  all_goals omega
theorem ord_tr {x y z : S25} (h1 : ord x y ≤ 0) (h2 : ord y z ≤ 0) : ord x z ≤ 0 := by
  rw [ord_flip] at *; omega
theorem ord_tr1 {x y z : S25} (h1 : ord x y ≤ 0) (h2 : ord y z < 0) : ord x z < 0 := by
  rw [ord_flip] at h1; rw [ord_lt] at *; omega
/-- In the order. -/
def Sorted (l : List S25) : Prop := l.Pairwise (fun x y => ord x y ≤ 0)
instance (l : List S25) : Decidable (Sorted l) := inferInstanceAs (Decidable (l.Pairwise (fun x y => ord x y ≤ 0)))
theorem sorted_get {l : List S25} (h : Sorted l) (a b : Nat) (hab : a < b) (hb : b < l.length) : ord (l.getD a z25) (l.getD b z25) ≤ 0 := by
  have := List.pairwise_iff_getElem.1 h a b (by omega) hb hab
  rw [List.getD_eq_getElem?_getD, List.getD_eq_getElem?_getD, List.getElem?_eq_getElem (by omega), List.getElem?_eq_getElem hb]
  exact this
/-- The list with a further timer. -/
def ins (l : List S25) (t : S25) : List S25 := l.takeWhile (fun y => decide (ord y t ≤ 0)) ++ t :: l.dropWhile (fun y => decide (ord y t ≤ 0))
theorem ins_at : ∀ (l : List S25) (t : S25) (i : Nat), i ≤ l.length → (∀ j, j < i → ord (l.getD j z25) t ≤ 0) → (i < l.length → 0 < ord (l.getD i z25) t) → l.take i ++ t :: l.drop i = ins l t
  | [], t, i, hi, _, _ => by
    obtain rfl : i = 0 := by simpa using hi
    rfl
  | y :: r, t, 0, _, _, h2 => by
    have h : 0 < ord y t := h2 (by simp)
    have hd : decide (ord y t ≤ 0) = false := decide_eq_false (by omega)
    unfold ins
    rw [List.takeWhile_cons, List.dropWhile_cons, hd]
    rfl
  | y :: r, t, i + 1, hi, h1, h2 => by
    have h : ord y t ≤ 0 := h1 0 (by omega)
    have ih := ins_at r t i (by simpa using hi) (fun j hj => h1 (j + 1) (by omega)) (fun hl => h2 (by simpa using hl))
    have hd : decide (ord y t ≤ 0) = true := decide_eq_true h
    have e : ins (y :: r) t = y :: ins r t := by
      unfold ins
      rw [List.takeWhile_cons, List.dropWhile_cons, hd]
      rfl
    rw [List.take_succ_cons, List.drop_succ_cons, List.cons_append, ih, e]
theorem ins_after {w5 : World} {v5 : Value} {l : List S25} (t : S25) (i base : Nat) (ho5 : Kd.R k25 25 w5 base (fun _ => True) v5 l) (hbase : base ≤ w5.heap.size) (hi : i ≤ l.length) (hl : l.length ≤ 1000) :
    Calls Try.prog 21 #[v5, .int .i64 i, .slice (some ⟨w5.heap.size, 0, none⟩) 1 1] (w5.alloc (.cells #[.int .i64 t.f0, .int .i64 t.f1, .string t.f2] 25)) fun e w' => ∃ v', e = .returned v' ∧ Kd.R k25 25 w' base (fun _ => True) v' (l.take i ++ t :: l.drop i) ∧ Below base (w5.alloc (.cells #[.int .i64 t.f0, .int .i64 t.f1, .string t.f2] 25)) w' :=
  insert_any base v5 l i t w5.heap.size _ hi hl (Kd.R_alloc ho5 _) (by rw [World.size_alloc]; omega) Array.getElem?_push_size (fun e => by
    have := Kd.R_lt ho5 _ e
    omega)
theorem ins_ahead {wq w5 : World} {v5 : Value} {l : List S25} (t : S25) (i : Nat) (ho5 : Kd.R k25 25 w5 (wq.alloc (.cells #[.int .i64 t.f0, .int .i64 t.f1, .string t.f2] 25)).drew.heap.size (fun _ => True) v5 l)
    (hb : Below (wq.alloc (.cells #[.int .i64 t.f0, .int .i64 t.f1, .string t.f2] 25)).drew.heap.size (wq.alloc (.cells #[.int .i64 t.f0, .int .i64 t.f1, .string t.f2] 25)).drew w5) (hi : i ≤ l.length) (hl : l.length ≤ 1000) :
    Calls Try.prog 21 #[v5, .int .i64 i, .slice (some ⟨wq.heap.size, 0, none⟩) 1 1] w5 fun e w' => ∃ v', e = .returned v' ∧ Kd.R k25 25 w' (wq.alloc (.cells #[.int .i64 t.f0, .int .i64 t.f1, .string t.f2] 25)).drew.heap.size (fun _ => True) v' (l.take i ++ t :: l.drop i) ∧ Below (wq.alloc (.cells #[.int .i64 t.f0, .int .i64 t.f1, .string t.f2] 25)).drew.heap.size w5 w' :=
  have hs : (wq.alloc (.cells #[.int .i64 t.f0, .int .i64 t.f1, .string t.f2] 25)).drew.heap.size = wq.heap.size + 1 := World.size_alloc _ _
  insert_any _ v5 l i t wq.heap.size w5 hi hl ho5 hb.size ((hb.block wq.heap.size (by rw [hs]; exact Nat.lt_succ_self _)).trans Array.getElem?_push_size) (fun e => by
    have := Kd.R_base ho5 _ e
    rw [hs] at this
    omega)
set_option maxHeartbeats 4000000 in
set_option maxRecDepth 100000 in
theorem arm_in (A0 : Option Addr) (c0 : Nat) (l : List S25) (t : S25) (w : World) (hr0 : Kd.C k25 w A0 l.length l) (hc0 : l.length ≤ c0) (hn : l.length < 8) (hs : Sorted l) :
    Calls Try.prog 7 #[.slice A0 l.length c0, .agg #[.int .i64 t.f0, .int .i64 t.f1, .string t.f2]] w fun e w' => ∃ v0_ : Value, e = .returned (.tuple #[v0_, .int .i64 0]) ∧ Kd.R k25 25 w' w.heap.size (fun _ => True) v0_ (ins l t) ∧ Below w.heap.size w w' := by
  have HR := Aside0.mk hr0
  have HS := Aside0.mk hs
  have hu25 := Try.underlying25
  have HC0 := Aside0.mk hc0
  clear hr0 hs hc0
  obtain ⟨W1, hW1⟩ : ∃ W1, W1 = w.alloc (.cells #[.int .i64 t.f0, .int .i64 t.f1, .string t.f2] 25) := ⟨_, rfl⟩
  have b0 : W1.cell? ⟨w.heap.size, 0, none⟩ = some (.int .i64 t.f0) := by rw [hW1, World.cell?_alloc_new]; rfl
  have b1 : W1.cell? ⟨w.heap.size, 1, none⟩ = some (.int .i64 t.f1) := by rw [hW1, World.cell?_alloc_new]; rfl
  have b2 : W1.cell? ⟨w.heap.size, 2, none⟩ = some (.string t.f2) := by rw [hW1, World.cell?_alloc_new]; rfl
  have HC1 : Aside0 (Kd.C k25 W1 A0 l.length l) := ⟨by rw [hW1]; exact Kd.C_alloc HR.out _⟩
  have HB1 : Aside0 (Below w.heap.size w W1) := ⟨by rw [hW1]; exact below_alloc (Below.refl _ _) _⟩
  have hlt1 : w.heap.size < W1.heap.size := by rw [hW1, World.size_alloc]; omega
  have hsr := search_any A0 c0 l t W1 HC1.out HC0.out (by omega) (fun a b hab hb h => by
    rcases Nat.lt_or_ge a b with h1 | h1
    · exact ord_tr1 (sorted_get HS.out a b h1 hb) h
    · obtain rfl : a = b := by omega
      exact h)
  have HSR := Aside0.mk hsr
  clear hsr
  go_enter Try.func7, Try.ntmps7
  go_wp2_with fail
  rw [← hW1]
  refine HSR.out.mono ?_
  rintro e w2 ⟨i0, b, rfl, hi0, hlo, hhi, hb⟩
  have HB2 := Aside0.mk hb
  have I0 : Aside0 ((∀ j, j < i0 → ord (l.getD j z25) t ≤ 0) ∧ (∀ j, i0 ≤ j → j < l.length → 0 ≤ ord (l.getD j z25) t)) := ⟨fun j hj => Int.le_of_lt (hlo j hj), hhi⟩
  clear hb hlo hhi HSR hW1
  go_wp2_with fail
  go_loopw [6] (fun s6 wr => ∃ i : Nat, s6 = .int .i64 i ∧ i ≤ l.length ∧ Aside0 (Below W1.heap.size W1 wr) ∧
    Aside0 ((∀ j, j < i → ord (l.getD j z25) t ≤ 0) ∧ (∀ j, i ≤ j → j < l.length → 0 ≤ ord (l.getD j z25) t))) (fun s6 _ => l.length - (intOf s6).toNat)
  case atStart => exact ⟨i0, rfl, hi0, HB2, I0⟩
  case round =>
    clear HB2 I0 hi0
    obtain ⟨i, rfl, hin, HB, I⟩ := hrel
    have LE := Aside0.mk hin
    have c0' := (HB.out.cell (World.block_lt_of_cell? W1 _ b0)).trans b0
    have c1' := (HB.out.cell (World.block_lt_of_cell? W1 _ b1)).trans b1
    have c2' := (HB.out.cell (World.block_lt_of_cell? W1 _ b2)).trans b2
    have hfin : ∀ (hgt : i < l.length → 0 < ord (l.getD i z25) t), l.take i ++ t :: l.drop i = ins l t := fun hgt => ins_at l t i LE.out I.out.1 hgt
    have HF := Aside0.mk hfin
    clear hfin
    by_cases hlt : i < l.length
    · have hn4 : (i : Int) < (l.length : Int) := by omega
      have p : (0 : Int) ≤ (i : Int) := Int.natCast_nonneg _
      obtain ⟨ad, rfl, x0, x1, x2⟩ := at_T25 HC1.out _ p hn4
      replace x0 := (HB.out.cell (World.block_lt_of_cell? W1 _ x0)).trans x0
      replace x1 := (HB.out.cell (World.block_lt_of_cell? W1 _ x1)).trans x1
      replace x2 := (HB.out.cell (World.block_lt_of_cell? W1 _ x2)).trans x2
      have Y : Aside0 (l.getD i z25 = rd_T25 l (i : Int)) := ⟨rfl⟩
      generalize rd_T25 l (i : Int) = y at x0 x1 x2 Y
      rw [Int.toNat_natCast] at x0 x1 x2
      have hc := order_calls y t
      by_cases hyx : ord y t = 0
      · go_wp2
        go_region_held3 (fun w' => w'.cell? (ad.add (i * 3)) = some (.int .i64 y.f0) ∧ w'.cell? ⟨(ad.add (i * 3)).block, (ad.add (i * 3)).off + 1, none⟩ = some (.int .i64 y.f1) ∧ w'.cell? ⟨(ad.add (i * 3)).block, (ad.add (i * 3)).off + 2, none⟩ = some (.string y.f2) ∧ w'.cell? ⟨w.heap.size, 0, none⟩ = some (.int .i64 t.f0) ∧ w'.cell? ⟨w.heap.size, 1, none⟩ = some (.int .i64 t.f1) ∧ w'.cell? ⟨w.heap.size, 2, none⟩ = some (.string t.f2)) (first | exact ⟨x0, x1, x2, c0', c1', c2'⟩ | exact ⟨e0, e1, e2, e3, e4, e5⟩)
          ((go_at_call 20; refine (hc _).mono ?_; rintro e w' ⟨rfl, hb⟩; have e0 := (hb.cell (World.block_lt_of_cell? wr _ x0)).trans x0; have e1 := (hb.cell (World.block_lt_of_cell? wr _ x1)).trans x1; have e2 := (hb.cell (World.block_lt_of_cell? wr _ x2)).trans x2; have e3 := (hb.cell (World.block_lt_of_cell? wr _ c0')).trans c0'; have e4 := (hb.cell (World.block_lt_of_cell? wr _ c1')).trans c1'; have e5 := (hb.cell (World.block_lt_of_cell? wr _ c2')).trans c2'))
        have HB2 : Aside0 (Below W1.heap.size W1 w') := ⟨below_step (below_drew HB.out) hb⟩
        clear e0 e1 e2 x0 x1 x2 c0' c1' c2' hb HB hc
        have I2 : Aside0 ((∀ j, j < i + 1 → ord (l.getD j z25) t ≤ 0) ∧ (∀ j, i + 1 ≤ j → j < l.length → 0 ≤ ord (l.getD j z25) t)) := ⟨fun j hj => by
          rcases Nat.lt_or_ge j i with h1 | h1
          · exact I.out.1 j h1
          · obtain rfl : j = i := by omega
            rw [Y.out, hyx]; decide, fun j hj hjl => I.out.2 j (by omega) hjl⟩
        have hwk : IntKind.i64.wrap ((i : Int) + 1) = (i : Int) + 1 := by rw [IntKind.wrap_i64]; omega
        go_wp2
        go_roundw
        case rel => exact ⟨i + 1, by go_num, by omega, HB2, I2⟩
        case measure => simp [intOf]; omega
      · go_wp2
        go_region_held3 (fun w' => w'.cell? (ad.add (i * 3)) = some (.int .i64 y.f0) ∧ w'.cell? ⟨(ad.add (i * 3)).block, (ad.add (i * 3)).off + 1, none⟩ = some (.int .i64 y.f1) ∧ w'.cell? ⟨(ad.add (i * 3)).block, (ad.add (i * 3)).off + 2, none⟩ = some (.string y.f2) ∧ w'.cell? ⟨w.heap.size, 0, none⟩ = some (.int .i64 t.f0) ∧ w'.cell? ⟨w.heap.size, 1, none⟩ = some (.int .i64 t.f1) ∧ w'.cell? ⟨w.heap.size, 2, none⟩ = some (.string t.f2)) (first | exact ⟨x0, x1, x2, c0', c1', c2'⟩ | exact ⟨e0, e1, e2, e3, e4, e5⟩)
          ((go_at_call 20; refine (hc _).mono ?_; rintro e w' ⟨rfl, hb⟩; have e0 := (hb.cell (World.block_lt_of_cell? wr _ x0)).trans x0; have e1 := (hb.cell (World.block_lt_of_cell? wr _ x1)).trans x1; have e2 := (hb.cell (World.block_lt_of_cell? wr _ x2)).trans x2; have e3 := (hb.cell (World.block_lt_of_cell? wr _ c0')).trans c0'; have e4 := (hb.cell (World.block_lt_of_cell? wr _ c1')).trans c1'; have e5 := (hb.cell (World.block_lt_of_cell? wr _ c2')).trans c2'))
        have HB2 : Aside0 (Below W1.heap.size W1 w') := ⟨below_step (below_drew HB.out) hb⟩
        clear e0 e1 e2 x0 x1 x2 c0' c1' c2' hb HB hc
        have hins := HF.out (fun _ => by have := I.out.2 i (Nat.le_refl _) hlt; rw [Y.out] at this ⊢; omega)
        go_wp2
        generalize w' = wq at *
        have HBq := HB2
        have q0 := e3
        have q1 := e4
        have q2 := e5
        clear HB2 e3 e4 e5
        have HC2 : Aside0 (Kd.C k25 wq (some ad) l.length l) := ⟨Kd.C_below HC1.out HBq.out⟩
        have HBw : Aside0 (Below w.heap.size w wq) := ⟨HB1.out.trans (HBq.out.mono (Nat.le_of_lt hlt1))⟩
        have HI := Aside0.mk hins
        clear hins
        go_region_with (first
          | (go_at_call 18; refine (clone_any (some ad) c0 l _ (by first | exact Kd.C_below HC2.out (below_drew (Below.refl _ _)) | exact Kd.C_below HC2.out (below_drew (below_alloc (Below.refl _ _) _))) HC0.out (by omega)).mono ?_; rintro e w5 ⟨v5, rfl, ho5, hb5⟩; (try (have r0 := (hb5.cell (World.block_lt_of_cell? wq _ q0)).trans q0; have r1 := (hb5.cell (World.block_lt_of_cell? wq _ q1)).trans q1; have r2 := (hb5.cell (World.block_lt_of_cell? wq _ q2)).trans q2)); have HO5 := Aside0.mk ho5; have HB5 := Aside0.mk hb5; clear ho5 hb5)
          | (go_at_call 21; (with_reducible (show Calls _ _ #[_, _, .slice (some ⟨w5.heap.size, _, _⟩) _ _] _ _)); have hia := ins_after t i _ HO5.out HB5.out.size LE.out (by omega); refine hia.mono ?_; clear hia; rintro e w6 ⟨v6, rfl, ho6, hb6⟩; have HO6 : Aside0 (Kd.R k25 25 w6 w.heap.size (fun _ => True) v6 (ins l t)) := ⟨by rw [← HI.out]; exact Kd.R_lower ho6 HBw.out.size⟩; have HB6 : Aside0 (Below w.heap.size w w6) := ⟨(below_alloc (below_step (below_drew HBw.out) HB5.out) _).trans (hb6.mono HBw.out.size)⟩; clear ho6 hb6)
          | (go_at_call 21; (with_reducible (show Calls _ _ #[_, _, .slice (some ⟨wq.heap.size, _, _⟩) _ _] _ _)); have hia := ins_ahead t i HO5.out HB5.out LE.out (by omega); refine hia.mono ?_; clear hia; rintro e w6 ⟨v6, rfl, ho6, hb6⟩; have HO6 : Aside0 (Kd.R k25 25 w6 w.heap.size (fun _ => True) v6 (ins l t)) := ⟨by rw [← HI.out]; exact Kd.R_lower ho6 (below_drew (below_alloc HBw.out (.cells #[.int .i64 t.f0, .int .i64 t.f1, .string t.f2] 25))).size⟩; have HB6 : Aside0 (Below w.heap.size w w6) := ⟨(below_step (below_drew (below_alloc HBw.out _)) HB5.out).trans (hb6.mono (below_drew (below_alloc HBw.out (.cells #[.int .i64 t.f0, .int .i64 t.f1, .string t.f2] 25))).size)⟩; clear ho6 hb6))
        all_goals (go_wp2; go_ret2; exact ⟨v6, rfl, HO6.out, HB6.out⟩)
    · have hn4 : ¬ ((i : Int) < (l.length : Int)) := by omega
      go_wp2
      repeat (go_quiet (fail); try go_wp2)
      have HBq : Aside0 (Below W1.heap.size W1 (wr.drewN nq)) := ⟨pw_below_drewN HB.out _⟩
      have q0 : (wr.drewN nq).cell? ⟨w.heap.size, 0, none⟩ = some (.int .i64 t.f0) := c0'
      have q1 : (wr.drewN nq).cell? ⟨w.heap.size, 1, none⟩ = some (.int .i64 t.f1) := c1'
      have q2 : (wr.drewN nq).cell? ⟨w.heap.size, 2, none⟩ = some (.string t.f2) := c2'
      clear c0' c1' c2' HB
      generalize wr.drewN nq = wq at *
      have hins := HF.out (fun h => absurd h (by omega))
      have HC2 : Aside0 (Kd.C k25 wq A0 l.length l) := ⟨Kd.C_below HC1.out HBq.out⟩
      have HBw : Aside0 (Below w.heap.size w wq) := ⟨HB1.out.trans (HBq.out.mono (Nat.le_of_lt hlt1))⟩
      have HI := Aside0.mk hins
      clear hins
      go_region_with (first
        | (go_at_call 18; refine (clone_any A0 c0 l _ (by first | exact Kd.C_below HC2.out (below_drew (Below.refl _ _)) | exact Kd.C_below HC2.out (below_drew (below_alloc (Below.refl _ _) _))) HC0.out (by omega)).mono ?_; rintro e w5 ⟨v5, rfl, ho5, hb5⟩; (try (have r0 := (hb5.cell (World.block_lt_of_cell? wq _ q0)).trans q0; have r1 := (hb5.cell (World.block_lt_of_cell? wq _ q1)).trans q1; have r2 := (hb5.cell (World.block_lt_of_cell? wq _ q2)).trans q2)); have HO5 := Aside0.mk ho5; have HB5 := Aside0.mk hb5; clear ho5 hb5)
        | (go_at_call 21; (with_reducible (show Calls _ _ #[_, _, .slice (some ⟨w5.heap.size, _, _⟩) _ _] _ _)); have hia := ins_after t i _ HO5.out HB5.out.size LE.out (by omega); refine hia.mono ?_; clear hia; rintro e w6 ⟨v6, rfl, ho6, hb6⟩; have HO6 : Aside0 (Kd.R k25 25 w6 w.heap.size (fun _ => True) v6 (ins l t)) := ⟨by rw [← HI.out]; exact Kd.R_lower ho6 HBw.out.size⟩; have HB6 : Aside0 (Below w.heap.size w w6) := ⟨(below_alloc (below_step (below_drew HBw.out) HB5.out) _).trans (hb6.mono HBw.out.size)⟩; clear ho6 hb6)
        | (go_at_call 21; (with_reducible (show Calls _ _ #[_, _, .slice (some ⟨wq.heap.size, _, _⟩) _ _] _ _)); have hia := ins_ahead t i HO5.out HB5.out LE.out (by omega); refine hia.mono ?_; clear hia; rintro e w6 ⟨v6, rfl, ho6, hb6⟩; have HO6 : Aside0 (Kd.R k25 25 w6 w.heap.size (fun _ => True) v6 (ins l t)) := ⟨by rw [← HI.out]; exact Kd.R_lower ho6 (below_drew (below_alloc HBw.out (.cells #[.int .i64 t.f0, .int .i64 t.f1, .string t.f2] 25))).size⟩; have HB6 : Aside0 (Below w.heap.size w w6) := ⟨(below_step (below_drew (below_alloc HBw.out _)) HB5.out).trans (hb6.mono (below_drew (below_alloc HBw.out (.cells #[.int .i64 t.f0, .int .i64 t.f1, .string t.f2] 25))).size)⟩; clear ho6 hb6))
      all_goals (go_wp2; go_ret2; exact ⟨v6, rfl, HO6.out, HB6.out⟩)
set_option maxHeartbeats 4000000 in
set_option maxRecDepth 100000 in
theorem arm_out (A0 : Option Addr) (c0 : Nat) (l : List S25) (t : S25) (w : World) (hr0 : Kd.C k25 w A0 l.length l) (hc0 : l.length ≤ c0) (hn : 8 ≤ l.length) (hb : l.length * 32 ≤ 140737488355328) :
    Calls Try.prog 7 #[.slice A0 l.length c0, .agg #[.int .i64 t.f0, .int .i64 t.f1, .string t.f2]] w fun e w' => ∃ v0_ : Value, e = .returned (.tuple #[v0_, .int .i64 40]) ∧ Kd.R k25 25 w' w.heap.size (fun _ => True) v0_ l ∧ Below w.heap.size w w' := by
  have hu25 := Try.underlying25
  have hcl := clone_any A0 c0 l (w.alloc (.cells #[.int .i64 t.f0, .int .i64 t.f1, .string t.f2] 25)) (Kd.C_alloc hr0 _) hc0 hb
  have HCL := Aside0.mk hcl
  have hn8 : (8 : Int) ≤ (l.length : Int) := by omega
  have HB := Aside0.mk (below_alloc (Below.refl w.heap.size w) (.cells #[.int .i64 t.f0, .int .i64 t.f1, .string t.f2] 25))
  clear hcl hr0
  go_enter Try.func7, Try.ntmps7
  go_wp2_with fail
  refine HCL.out.mono ?_
  rintro e w1 ⟨v1, rfl, ho, hb1⟩
  have HO := Aside0.mk (Kd.R_lower ho HB.out.size)
  have HB2 := Aside0.mk (below_step HB.out hb1)
  clear ho hb1
  go_wp2
  go_ret2
  exact ⟨v1, rfl, HO.out, HB2.out⟩
def armF (l : List S25) (t : S25) : Option (List S25 × Int) := if 8 ≤ l.length then (if l.length * 32 ≤ 140737488355328 then some (l, 40) else none) else (if Sorted l then some (ins l t, 0) else none)
theorem arm_any (A0 : Option Addr) (c0 : Nat) (l : List S25) (t : S25) (r1 : List S25) (r2 : Int) (w : World) (hr0 : Kd.C k25 w A0 l.length l) (hc0 : l.length ≤ c0) (h : armF l t = some (r1, r2)) :
    Calls Try.prog 7 #[.slice A0 l.length c0, .agg #[.int .i64 t.f0, .int .i64 t.f1, .string t.f2]] w fun e w' => ∃ v0_ : Value, e = .returned (.tuple #[v0_, .int .i64 r2]) ∧ Kd.R k25 25 w' w.heap.size (fun _ => True) v0_ r1 ∧ Below w.heap.size w w' := by
  unfold armF at h
  split at h
  · split at h
    · cases h
      exact arm_out A0 c0 _ t w hr0 hc0 ‹_› ‹_›
    · cases h
  · split at h
    · cases h
      exact arm_in A0 c0 l t w hr0 hc0 (by omega) ‹_›
    · cases h
end Go.Proofs.Ytnkoibbaimhegaa.MQ
