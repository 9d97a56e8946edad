/- Go's slices.BinarySearchFunc over timers with their own order, walked: of a list in that order it tells how many stand ahead of the one that is sought. -/
import Derived.Test.YtnkoibbaimhegaaQBase
import Derived.Deep.LoopGhost
import Derived.Shelf.Abstract
namespace Go.Proofs.Ytnkoibbaimhegaa.MQ
open Go.RowKit Go.Proofs Go.Proofs.YtnkoibbaimhegaaW.PrintWords Go.Proofs.YtnkoibbaimhegaaW.PrintLast Go.Proofs.YtnkoibbaimhegaaW.PrintMore
set_option linter.unusedVariables false
set_option linter.unusedSimpArgs false
/-- The order of two timers: -1, 0, 1. -/
def ord (a b : S25) : Int := if a.f0 < b.f0 then -1 else if a.f0 > b.f0 then 1 else if a.f1 < b.f1 then -1 else if a.f1 > b.f1 then 1 else 0
theorem cmp64_f (a b : Int) : cmp_Compare_int64.f a b = some (if a < b then -1 else if a > b then 1 else 0) := by
  have h : ∀ x : Int, cmp_isNaN_int64.f x = some false := fun x => by unfold cmp_isNaN_int64.f; rw [bne_self_eq_false]
  unfold cmp_Compare_int64.f
  rw [h, h, Option.bind_some, Option.bind_some, if_neg (by decide), if_neg (by decide)]
  split
  · rfl
  · split <;> rfl
theorem cmpint_f (a b : Int) : cmp_Compare_int.f a b = some (if a < b then -1 else if a > b then 1 else 0) := by
  have h : ∀ x : Int, cmp_isNaN_int.f x = some false := fun x => by unfold cmp_isNaN_int.f; rw [bne_self_eq_false]
  unfold cmp_Compare_int.f
  rw [h, h, Option.bind_some, Option.bind_some, if_neg (by decide), if_neg (by decide)]
  split
  · rfl
  · split <;> rfl
theorem or_f (x y : Int) : cmp_Or_int.f 3 [x, y] = some (if x = 0 then y else x) := by
  have e0 : rd [x, y] 0 = x := rfl
  have e1 : rd [x, y] 1 = y := rfl
  have e2 : wrap64 (0 + 1) = 1 := by decide +kernel
  have e3 : wrap64 (1 + 1) = 2 := by decide +kernel
  have e4 : (([x, y] : List Int).length : Int) = 2 := rfl
  unfold cmp_Or_int.f
  rw [e4, cmp_Or_int.l0, if_pos (by decide), if_pos (by decide), if_pos (by rw [e4]; decide), e0]
  by_cases hx : x = 0
  · rw [if_pos hx, if_pos hx, e2, cmp_Or_int.l0, if_pos (by decide), if_pos (by decide), if_pos (by rw [e4]; decide), e1]
    by_cases hy : y = 0
    · rw [if_pos hy, e3, cmp_Or_int.l0, if_neg (by decide), hy]
    · rw [if_neg hy]
  · rw [if_neg hx, if_neg hx]
theorem order_f (a b : S25) : queue_order.f 3 a.f0 a.f1 a.f2 b.f0 b.f1 b.f2 = some (ord a b) := by
  unfold queue_order.f ord
  rw [cmp64_f, cmpint_f, Option.bind_some, Option.bind_some, or_f, Option.bind_some]
  congr 1
  split
  · rw [if_neg (by decide)]
  · split
    · rw [if_neg (by decide)]
    · rw [if_pos rfl]
theorem order_calls (a b : S25) (w : World) : Calls Try.prog 20 #[.agg #[.int .i64 a.f0, .int .i64 a.f1, .string a.f2], .agg #[.int .i64 b.f0, .int .i64 b.f1, .string b.f2]] w fun e w' => e = .returned (.int .i64 (ord a b)) ∧ Below w.heap.size w w' :=
  queue_order.calls 3 _ _ _ _ _ _ _ w (order_f a b)
theorem enter20 : ∀ (args : Array Value) (w : World), (callFunc 20 args).run Try.prog w = .ok (.enter 20 args) w := enters_of Try.func20 (by kernel_rfl) rfl

set_option maxHeartbeats 4000000 in
set_option maxRecDepth 100000 in
theorem search_any (A0 : Option Addr) (c0 : Nat) (l : List S25) (t : S25) (w : World) (hr0 : Kd.C k25 w A0 l.length l) (hc0 : l.length ≤ c0) (hn : l.length ≤ 1000)
    (hmono : ∀ a b, a ≤ b → b < l.length → ord (l.getD b z25) t < 0 → ord (l.getD a z25) t < 0) :
    Calls Try.prog 19 #[.slice A0 l.length c0, .agg #[.int .i64 t.f0, .int .i64 t.f1, .string t.f2], .func (.func 20) #[] #[]] w fun e w' =>
      ∃ (i : Nat) (b : Bool), e = .returned (.tuple #[.int .i64 i, .bool b]) ∧ i ≤ l.length ∧ (∀ j, j < i → ord (l.getD j z25) t < 0) ∧ (∀ j, i ≤ j → j < l.length → 0 ≤ ord (l.getD j z25) t) ∧ Below w.heap.size w w' := by
  have HR := Aside0.mk hr0
  have HM := Aside0.mk hmono
  have hu25 := Try.underlying25
  have eg := enter20
  clear hr0 hmono
  obtain ⟨W1, hW1⟩ : ∃ W1, W1 = w.alloc (.cells #[.int .i64 t.f0, .int .i64 t.f1, .string t.f2] 25) := ⟨_, rfl⟩
  have b0 : W1.cell? ⟨w.heap.size, 0, none⟩ = some (.int .i64 t.f0) := by rw [hW1, World.cell?_alloc_new]; rfl
  have b1 : W1.cell? ⟨w.heap.size, 1, none⟩ = some (.int .i64 t.f1) := by rw [hW1, World.cell?_alloc_new]; rfl
  have b2 : W1.cell? ⟨w.heap.size, 2, none⟩ = some (.string t.f2) := by rw [hW1, World.cell?_alloc_new]; rfl
  have HC1 : Aside0 (Kd.C k25 W1 A0 l.length l) := ⟨by rw [hW1]; exact Kd.C_alloc HR.out _⟩
  have HB1 : Aside0 (Below w.heap.size w W1) := ⟨by rw [hW1]; exact below_alloc (Below.refl _ _) _⟩
  have hlt1 : w.heap.size < W1.heap.size := by rw [hW1, World.size_alloc]; omega
  have HB0 := Aside0.mk (Below.refl W1.heap.size W1)
  go_enter Try.func19, Try.ntmps19
  go_wp2
  rw [← hW1]
  clear hW1
  go_loopw [9, 10, 11] (fun s9 s10 _ wr => ∃ lo hi : Nat, s9 = .int .i64 lo ∧ s10 = .int .i64 hi ∧ lo ≤ hi ∧ hi ≤ l.length ∧ Aside0 (Below W1.heap.size W1 wr) ∧
    Aside0 ((∀ j, j < lo → ord (l.getD j z25) t < 0) ∧ (∀ j, hi ≤ j → j < l.length → 0 ≤ ord (l.getD j z25) t))) (fun s9 s10 _ _ => (intOf s10).toNat - (intOf s9).toNat)
  case atStart => exact ⟨0, l.length, rfl, rfl, Nat.zero_le _, Nat.le_refl _, HB0, ⟨fun j hj => absurd hj (Nat.not_lt_zero _), fun j h1 h2 => absurd h2 (by omega)⟩⟩
  case round =>
    obtain ⟨lo, hi, rfl, rfl, hlh, hin, HB, I⟩ := hrel
    have c0' := (HB.out.cell (World.block_lt_of_cell? W1 _ b0)).trans b0
    have c1' := (HB.out.cell (World.block_lt_of_cell? W1 _ b1)).trans b1
    have c2' := (HB.out.cell (World.block_lt_of_cell? W1 _ b2)).trans b2
    by_cases hlt : lo < hi
    · have hwr : IntKind.i64.wrap ((lo : Int) + (hi : Int)) = (lo : Int) + (hi : Int) := by rw [IntKind.wrap_i64]; omega
      have hwu : IntKind.u64.wrap ((lo : Int) + (hi : Int)) = (lo : Int) + (hi : Int) := by rw [IntKind.wrap_u64]; omega
      have p0 : (0 : Int) ≤ (((lo + hi) / 2 : Nat) : Int) := Int.natCast_nonneg _
      have q0 : (((lo + hi) / 2 : Nat) : Int) < (l.length : Int) := by omega
      go_wp2
      clear p0 q0
      have hm : ((lo : Int) + (hi : Int)) / 2 = (((lo + hi) / 2 : Nat) : Int) := by omega
      rw [hm]
      have hk1 : lo ≤ (lo + hi) / 2 := by omega
      have hk2 : (lo + hi) / 2 < hi := by omega
      generalize (lo + hi) / 2 = k at hk1 hk2 ⊢
      clear hm hwr hwu
      have p : (0 : Int) ≤ (k : Int) := Int.natCast_nonneg _
      have q : (k : Int) < (l.length : Int) := by omega
      have hkl : k < l.length := by omega
      obtain ⟨ad, rfl, x0, x1, x2⟩ := at_T25 HC1.out _ p q
      replace x0 := (HB.out.cell (World.block_lt_of_cell? W1 _ x0)).trans x0
      replace x1 := (HB.out.cell (World.block_lt_of_cell? W1 _ x1)).trans x1
      replace x2 := (HB.out.cell (World.block_lt_of_cell? W1 _ x2)).trans x2
      have Y : Aside0 (l.getD k z25 = rd_T25 l (k : Int)) := ⟨rfl⟩
      generalize rd_T25 l (k : Int) = y at x0 x1 x2 Y
      rw [Int.toNat_natCast] at x0 x1 x2
      have hc := order_calls y t
      by_cases hyx : ord y t < 0
      · go_region_held3 (fun w' => w'.cell? (ad.add (k * 3)) = some (.int .i64 y.f0) ∧ w'.cell? ⟨(ad.add (k * 3)).block, (ad.add (k * 3)).off + 1, none⟩ = some (.int .i64 y.f1) ∧ w'.cell? ⟨(ad.add (k * 3)).block, (ad.add (k * 3)).off + 2, none⟩ = some (.string y.f2) ∧ w'.cell? ⟨w.heap.size, 0, none⟩ = some (.int .i64 t.f0) ∧ w'.cell? ⟨w.heap.size, 1, none⟩ = some (.int .i64 t.f1) ∧ w'.cell? ⟨w.heap.size, 2, none⟩ = some (.string t.f2)) (first | exact ⟨x0, x1, x2, c0', c1', c2'⟩ | exact ⟨e0, e1, e2, e3, e4, e5⟩)
          ((go_at_fn 20; refine (hc _).mono ?_; rintro e w' ⟨rfl, hb⟩; have e0 := (hb.cell (World.block_lt_of_cell? wr _ x0)).trans x0; have e1 := (hb.cell (World.block_lt_of_cell? wr _ x1)).trans x1; have e2 := (hb.cell (World.block_lt_of_cell? wr _ x2)).trans x2; have e3 := (hb.cell (World.block_lt_of_cell? wr _ c0')).trans c0'; have e4 := (hb.cell (World.block_lt_of_cell? wr _ c1')).trans c1'; have e5 := (hb.cell (World.block_lt_of_cell? wr _ c2')).trans c2'))
        have HB2 : Aside0 (Below W1.heap.size W1 w') := ⟨below_step (below_drew HB.out) hb⟩
        clear e0 e1 e2 e3 e4 e5 x0 x1 x2 c0' c1' c2' hb HB hc
        have I2 : Aside0 ((∀ j, j < k + 1 → ord (l.getD j z25) t < 0) ∧ (∀ j, hi ≤ j → j < l.length → 0 ≤ ord (l.getD j z25) t)) := ⟨fun j hj => HM.out j k (by omega) hkl (by rw [Y.out]; exact hyx), I.out.2⟩
        have hwk : IntKind.i64.wrap ((k : Int) + 1) = (k : Int) + 1 := by rw [IntKind.wrap_i64]; omega
        go_wp2
        go_roundw
        case rel => exact ⟨k + 1, hi, by go_num, rfl, by omega, hin, HB2, I2⟩
        case measure => simp [intOf]; omega
      · go_region_held3 (fun w' => w'.cell? (ad.add (k * 3)) = some (.int .i64 y.f0) ∧ w'.cell? ⟨(ad.add (k * 3)).block, (ad.add (k * 3)).off + 1, none⟩ = some (.int .i64 y.f1) ∧ w'.cell? ⟨(ad.add (k * 3)).block, (ad.add (k * 3)).off + 2, none⟩ = some (.string y.f2) ∧ w'.cell? ⟨w.heap.size, 0, none⟩ = some (.int .i64 t.f0) ∧ w'.cell? ⟨w.heap.size, 1, none⟩ = some (.int .i64 t.f1) ∧ w'.cell? ⟨w.heap.size, 2, none⟩ = some (.string t.f2)) (first | exact ⟨x0, x1, x2, c0', c1', c2'⟩ | exact ⟨e0, e1, e2, e3, e4, e5⟩)
          ((go_at_fn 20; refine (hc _).mono ?_; rintro e w' ⟨rfl, hb⟩; have e0 := (hb.cell (World.block_lt_of_cell? wr _ x0)).trans x0; have e1 := (hb.cell (World.block_lt_of_cell? wr _ x1)).trans x1; have e2 := (hb.cell (World.block_lt_of_cell? wr _ x2)).trans x2; have e3 := (hb.cell (World.block_lt_of_cell? wr _ c0')).trans c0'; have e4 := (hb.cell (World.block_lt_of_cell? wr _ c1')).trans c1'; have e5 := (hb.cell (World.block_lt_of_cell? wr _ c2')).trans c2'))
        have HB2 : Aside0 (Below W1.heap.size W1 w') := ⟨below_step (below_drew HB.out) hb⟩
        clear e0 e1 e2 e3 e4 e5 x0 x1 x2 c0' c1' c2' hb HB hc
        have I2 : Aside0 ((∀ j, j < lo → ord (l.getD j z25) t < 0) ∧ (∀ j, k ≤ j → j < l.length → 0 ≤ ord (l.getD j z25) t)) := ⟨I.out.1, fun j hj hjl => Int.not_lt.1 fun h => Int.not_lt.2 hyx (by have := HM.out k j hj hjl h; rw [Y.out] at this; exact this)⟩
        go_wp2
        go_roundw
        case rel => exact ⟨lo, k, rfl, rfl, by omega, by omega, HB2, I2⟩
        case measure => simp [intOf]; omega
    · obtain rfl : hi = lo := by omega
      have LE := Aside0.mk hin
      by_cases hn3 : hi < l.length
      · have hn4 : (hi : Int) < (l.length : Int) := by omega
        have p : (0 : Int) ≤ (hi : Int) := Int.natCast_nonneg _
        have q : (hi : Int) < (l.length : Int) := by omega
        obtain ⟨ad, rfl, x0, x1, x2⟩ := at_T25 HC1.out _ p q
        replace x0 := (HB.out.cell (World.block_lt_of_cell? W1 _ x0)).trans x0
        replace x1 := (HB.out.cell (World.block_lt_of_cell? W1 _ x1)).trans x1
        replace x2 := (HB.out.cell (World.block_lt_of_cell? W1 _ x2)).trans x2
        generalize rd_T25 l (hi : Int) = y at x0 x1 x2
        rw [Int.toNat_natCast] at x0 x1 x2
        have hc := order_calls y t
        go_wp2
        go_region_held3 (fun w' => w'.cell? (ad.add (hi * 3)) = some (.int .i64 y.f0) ∧ w'.cell? ⟨(ad.add (hi * 3)).block, (ad.add (hi * 3)).off + 1, none⟩ = some (.int .i64 y.f1) ∧ w'.cell? ⟨(ad.add (hi * 3)).block, (ad.add (hi * 3)).off + 2, none⟩ = some (.string y.f2) ∧ w'.cell? ⟨w.heap.size, 0, none⟩ = some (.int .i64 t.f0) ∧ w'.cell? ⟨w.heap.size, 1, none⟩ = some (.int .i64 t.f1) ∧ w'.cell? ⟨w.heap.size, 2, none⟩ = some (.string t.f2)) (first | exact ⟨x0, x1, x2, c0', c1', c2'⟩ | exact ⟨e0, e1, e2, e3, e4, e5⟩)
          ((go_at_fn 20; refine (hc _).mono ?_; rintro e w' ⟨rfl, hb⟩; have e0 := (hb.cell (World.block_lt_of_cell? wr _ x0)).trans x0; have e1 := (hb.cell (World.block_lt_of_cell? wr _ x1)).trans x1; have e2 := (hb.cell (World.block_lt_of_cell? wr _ x2)).trans x2; have e3 := (hb.cell (World.block_lt_of_cell? wr _ c0')).trans c0'; have e4 := (hb.cell (World.block_lt_of_cell? wr _ c1')).trans c1'; have e5 := (hb.cell (World.block_lt_of_cell? wr _ c2')).trans c2'))
        have HB2 : Aside0 (Below W1.heap.size W1 w') := ⟨below_step (below_drew HB.out) hb⟩
        clear e0 e1 e2 e3 e4 e5 x0 x1 x2 c0' c1' c2' hb HB hc
        go_wp2
        go_ret2
        exact ⟨hi, _, rfl, LE.out, I.out.1, I.out.2, HB1.out.trans (HB2.out.mono (Nat.le_of_lt hlt1))⟩
      · have hn4 : ¬ ((hi : Int) < (l.length : Int)) := by omega
        go_wp2
        repeat (go_quiet (fail); try go_wp2)
        go_ret2
        exact ⟨hi, _, rfl, LE.out, I.out.1, I.out.2, pw_below_drewN (HB1.out.trans (HB.out.mono (Nat.le_of_lt hlt1))) _⟩
end Go.Proofs.Ytnkoibbaimhegaa.MQ
