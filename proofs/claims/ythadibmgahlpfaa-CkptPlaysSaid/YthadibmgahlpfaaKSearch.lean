/- Go's slices.BinarySearchFunc over marks by their places, walked: of a list in rising order it tells how many stand ahead of the one that is sought. -/
import Derived.Test.YthadibmgahlpfaaKE
import Derived.Deep.LoopGhost
import Derived.Shelf.Abstract
namespace Go.Proofs.Ythadibmgahlpfaa.MD
open Go Go.RowKit Go.Proofs Go.Proofs.YthadibmgahlpfaaW.PrintWords Go.Proofs.YthadibmgahlpfaaW.PrintLast Go.Proofs.YthadibmgahlpfaaW.PrintMore
set_option linter.unusedVariables false
set_option linter.unusedSimpArgs false
/-- The order of two places: -1, 0, 1. -/
def ordI (a b : Int) : Int := if a < b then -1 else if a > b then 1 else 0
/-- Where a place stands, or would stand; is it there? -/
structure Found (l : List E) (t : Int) (i : Nat) (b : Bool) : Prop where
  le : i ≤ l.length
  ahead : ∀ j, j < i → (l.getD j zE).f0 < t
  behind : ∀ j, i ≤ j → j < l.length → t ≤ (l.getD j zE).f0
  there : b = true ↔ i < l.length ∧ (l.getD i zE).f0 = t
theorem nan_calls (a : Int) (w : World) : Calls Try.prog 41 #[.int .i64 a] w fun e w' => e = .returned (.bool false) ∧ Below w.heap.size w w' := by
  have h : (a != a) = false := bne_self_eq_false a
  go_enter Try.func41, Try.ntmps41
  go_wp2
  go_ret
  exact ⟨by simp, Below.refl _ _⟩
theorem cmp_calls (a b : Int) (w : World) : Calls Try.prog 26 #[.int .i64 a, .int .i64 b] w fun e w' => e = .returned (.int .i64 (ordI a b)) ∧ Below w.heap.size w w' := by
  unfold ordI
  have HB0 := Aside0.mk (Below.refl w.heap.size w)
  by_cases h1 : a < b
  · rw [if_pos h1]
    go_enter Try.func26, Try.ntmps26
    go_wp2_with (first | (go_at_call 41; refine (nan_calls _ _).mono ?_; rintro e w' ⟨rfl, hb⟩; replace HB0 := Aside0.mk (HB0.out.trans (hb.mono HB0.out.size)); clear hb))
    go_ret
    exact ⟨rfl, HB0.out⟩
  · rw [if_neg h1]
    by_cases h2 : a > b
    · rw [if_pos h2]
      go_enter Try.func26, Try.ntmps26
      go_wp2_with (first | (go_at_call 41; refine (nan_calls _ _).mono ?_; rintro e w' ⟨rfl, hb⟩; replace HB0 := Aside0.mk (HB0.out.trans (hb.mono HB0.out.size)); clear hb))
      go_ret
      exact ⟨rfl, HB0.out⟩
    · rw [if_neg h2]
      go_enter Try.func26, Try.ntmps26
      go_wp2_with (first | (go_at_call 41; refine (nan_calls _ _).mono ?_; rintro e w' ⟨rfl, hb⟩; replace HB0 := Aside0.mk (HB0.out.trans (hb.mono HB0.out.size)); clear hb))
      go_ret
      exact ⟨rfl, HB0.out⟩
set_option maxHeartbeats 1000000 in
theorem order_calls (y : E) (t : Int) (w : World) : Calls Try.prog 25 #[.agg #[.int .i64 y.f0, .int .i64 y.s.f0, .int .i64 y.s.f1, .int .i64 y.s.f2, .int .i64 y.s.f3, .int .u64 y.s.f4, .slice y.A5 y.s.f5.length y.c5, .slice y.A6 y.s.f6.length y.c6, .slice y.A7 y.s.f7.length y.c7, .slice y.A8 y.s.f8.length y.c8, .slice y.A9 y.s.f9.length y.c9, .string y.s.f10.f0, .slice y.A11 y.s.f10.f1.length y.c11, .int .u64 y.s.f10.f2, .slice y.A13 y.s.f10.f3.length y.c13], .int .i64 t] w fun e w' => e = .returned (.int .i64 (ordI y.f0 t)) ∧ Below w.heap.size w w' := by
  have hu64 := Try.underlying64
  have b0 : (w.alloc (.cells #[.int .i64 y.f0, .int .i64 y.s.f0, .int .i64 y.s.f1, .int .i64 y.s.f2, .int .i64 y.s.f3, .int .u64 y.s.f4, .slice y.A5 y.s.f5.length y.c5, .slice y.A6 y.s.f6.length y.c6, .slice y.A7 y.s.f7.length y.c7, .slice y.A8 y.s.f8.length y.c8, .slice y.A9 y.s.f9.length y.c9, .string y.s.f10.f0, .slice y.A11 y.s.f10.f1.length y.c11, .int .u64 y.s.f10.f2, .slice y.A13 y.s.f10.f3.length y.c13] 64)).cell? ⟨w.heap.size, 0, none⟩ = some (.int .i64 y.f0) := by rw [World.cell?_alloc_new]; rfl
  have HB1 : Aside0 (Below w.heap.size w (w.alloc (.cells #[.int .i64 y.f0, .int .i64 y.s.f0, .int .i64 y.s.f1, .int .i64 y.s.f2, .int .i64 y.s.f3, .int .u64 y.s.f4, .slice y.A5 y.s.f5.length y.c5, .slice y.A6 y.s.f6.length y.c6, .slice y.A7 y.s.f7.length y.c7, .slice y.A8 y.s.f8.length y.c8, .slice y.A9 y.s.f9.length y.c9, .string y.s.f10.f0, .slice y.A11 y.s.f10.f1.length y.c11, .int .u64 y.s.f10.f2, .slice y.A13 y.s.f10.f3.length y.c13] 64))) := ⟨below_alloc (Below.refl _ _) _⟩
  go_enter Try.func25, Try.ntmps25
  go_wp2_with (go_at_call 26; refine (cmp_calls _ _ _).mono ?_; rintro e w' ⟨rfl, hb⟩; have HB2 := Aside0.mk (HB1.out.trans (hb.mono HB1.out.size)); clear hb HB1)
  go_ret
  exact ⟨rfl, HB2.out⟩
theorem enter25 : ∀ (args : Array Value) (w : World), (callFunc 25 args).run Try.prog w = .ok (.enter 25 args) w := enters_of Try.func25 (by kernel_rfl) rfl
set_option maxHeartbeats 4000000 in
set_option maxRecDepth 100000 in
theorem search_any (A0 : Option Addr) (c0 : Nat) (l : List E) (t : Int) (w : World) (hr0 : Kd.C kE w A0 l.length l) (hc0 : l.length ≤ c0) (hn : l.length ≤ 1000)
    (hmono : ∀ a b, a ≤ b → b < l.length → (l.getD b zE).f0 < t → (l.getD a zE).f0 < t) :
    Calls Try.prog 24 #[.slice A0 l.length c0, .int .i64 t, .func (.func 25) #[] #[]] w fun e w' =>
      ∃ (i : Nat) (b : Bool), e = .returned (.tuple #[.int .i64 i, .bool b]) ∧ Found l t i b ∧ Below w.heap.size w w' := by
  have HR := Aside0.mk hr0
  have HM := Aside0.mk hmono
  have hu64 := Try.underlying64
  have eg := enter25
  clear hr0 hmono
  have HB0 := Aside0.mk (Below.refl w.heap.size w)
  go_enter Try.func24, Try.ntmps24
  go_wp2
  go_loopw [9, 10, 11] (fun s9 s10 _ wr => ∃ lo hi : Nat, s9 = .int .i64 lo ∧ s10 = .int .i64 hi ∧ lo ≤ hi ∧ hi ≤ l.length ∧ Aside0 (Below w.heap.size w wr) ∧
    Aside0 ((∀ j, j < lo → (l.getD j zE).f0 < t) ∧ (∀ j, hi ≤ j → j < l.length → t ≤ (l.getD j zE).f0))) (fun s9 s10 _ _ => (intOf s10).toNat - (intOf s9).toNat)
  case atStart => exact ⟨0, l.length, rfl, rfl, Nat.zero_le _, Nat.le_refl _, HB0, ⟨fun j hj => absurd hj (Nat.not_lt_zero _), fun j h1 h2 => absurd h2 (by omega)⟩⟩
  case round =>
    obtain ⟨lo, hi, rfl, rfl, hlh, hin, HB, I⟩ := hrel
    by_cases hlt : lo < hi
    · have hwr : IntKind.i64.wrap ((lo : Int) + (hi : Int)) = (lo : Int) + (hi : Int) := by rw [IntKind.wrap_i64]; omega
      have hwu : IntKind.u64.wrap ((lo : Int) + (hi : Int)) = (lo : Int) + (hi : Int) := by rw [IntKind.wrap_u64]; omega
      have p0 : (0 : Int) ≤ (((lo + hi) / 2 : Nat) : Int) := Int.natCast_nonneg _
      have q0 : (((lo + hi) / 2 : Nat) : Int) < (l.length : Int) := by omega
      go_upto_region 5 with (fail)
      clear p0 q0
      have hm : ((lo : Int) + (hi : Int)) / 2 = (((lo + hi) / 2 : Nat) : Int) := by omega
      rw [hm]
      have hk1 : lo ≤ (lo + hi) / 2 := by omega
      have hk2 : (lo + hi) / 2 < hi := by omega
      generalize (lo + hi) / 2 = k at hk1 hk2 ⊢
      clear hm hwr hwu
      have p : (0 : Int) ≤ (k : Int) := Int.natCast_nonneg _
      have q : (k : Int) < (l.length : Int) := by omega
      have hkl : k < l.length := by omega
      obtain ⟨ad, rfl, x0, x1, x2, x3, x4, x5, x6, x7, x8, x9, x10, x11, x12, x13, x14⟩ := at_E HR.out _ p q
      replace x0 := (HB.out.cell (World.block_lt_of_cell? w _ x0)).trans x0
      replace x1 := (HB.out.cell (World.block_lt_of_cell? w _ x1)).trans x1
      replace x2 := (HB.out.cell (World.block_lt_of_cell? w _ x2)).trans x2
      replace x3 := (HB.out.cell (World.block_lt_of_cell? w _ x3)).trans x3
      replace x4 := (HB.out.cell (World.block_lt_of_cell? w _ x4)).trans x4
      replace x5 := (HB.out.cell (World.block_lt_of_cell? w _ x5)).trans x5
      replace x6 := (HB.out.cell (World.block_lt_of_cell? w _ x6)).trans x6
      replace x7 := (HB.out.cell (World.block_lt_of_cell? w _ x7)).trans x7
      replace x8 := (HB.out.cell (World.block_lt_of_cell? w _ x8)).trans x8
      replace x9 := (HB.out.cell (World.block_lt_of_cell? w _ x9)).trans x9
      replace x10 := (HB.out.cell (World.block_lt_of_cell? w _ x10)).trans x10
      replace x11 := (HB.out.cell (World.block_lt_of_cell? w _ x11)).trans x11
      replace x12 := (HB.out.cell (World.block_lt_of_cell? w _ x12)).trans x12
      replace x13 := (HB.out.cell (World.block_lt_of_cell? w _ x13)).trans x13
      replace x14 := (HB.out.cell (World.block_lt_of_cell? w _ x14)).trans x14
      have Y : Aside0 (l.getD k zE = rd_E l (k : Int)) := ⟨rfl⟩
      generalize rd_E l (k : Int) = y at x0 x1 x2 x3 x4 x5 x6 x7 x8 x9 x10 x11 x12 x13 x14 Y
      rw [Int.toNat_natCast] at x0 x1 x2 x3 x4 x5 x6 x7 x8 x9 x10 x11 x12 x13 x14
      have hc := order_calls y t
      by_cases hyx : y.f0 < t
      · have ho : ordI y.f0 t = -1 := by unfold ordI; rw [if_pos hyx]
        rw [ho] at hc
        clear ho
        go_wp2_with (go_at_fn 25; refine (hc _).mono ?_; rintro e w' ⟨rfl, hb⟩; have HB2 := Aside0.mk (below_step HB.out hb); clear hb HB)
        clear x0 x1 x2 x3 x4 x5 x6 x7 x8 x9 x10 x11 x12 x13 x14 hc
        have I2 : Aside0 ((∀ j, j < k + 1 → (l.getD j zE).f0 < t) ∧ (∀ j, hi ≤ j → j < l.length → t ≤ (l.getD j zE).f0)) := ⟨fun j hj => HM.out j k (by omega) hkl (by rw [Y.out]; exact hyx), I.out.2⟩
        have hwk : IntKind.i64.wrap ((k : Int) + 1) = (k : Int) + 1 := by rw [IntKind.wrap_i64]; omega
        try go_wp2
        go_roundw
        case rel => exact ⟨k + 1, hi, by go_num, rfl, by omega, hin, HB2, I2⟩
        case measure => simp [intOf]; omega
      · have hge : 0 ≤ ordI y.f0 t := by unfold ordI; rw [if_neg hyx]; split <;> decide
        generalize ordI y.f0 t = o at hc hge
        have ho : ¬ (o < 0) := by omega
        clear hge
        go_wp2_with (go_at_fn 25; refine (hc _).mono ?_; rintro e w' ⟨rfl, hb⟩; have HB2 := Aside0.mk (below_step HB.out hb); clear hb HB)
        clear x0 x1 x2 x3 x4 x5 x6 x7 x8 x9 x10 x11 x12 x13 x14 hc
        have I2 : Aside0 ((∀ j, j < lo → (l.getD j zE).f0 < t) ∧ (∀ j, k ≤ j → j < l.length → t ≤ (l.getD j zE).f0)) := ⟨I.out.1, fun j hj hjl => by have h3 := HM.out k j hj hjl; rw [Y.out] at h3; omega⟩
        try go_wp2
        go_roundw
        case rel => exact ⟨lo, k, rfl, rfl, by omega, by omega, HB2, I2⟩
        case measure => simp [intOf]; omega
    · obtain rfl : hi = lo := by omega
      have LE := Aside0.mk hin
      by_cases hn3 : hi < l.length
      · have hn4 : (hi : Int) < (l.length : Int) := by omega
        have p : (0 : Int) ≤ (hi : Int) := Int.natCast_nonneg _
        obtain ⟨ad, rfl, x0, x1, x2, x3, x4, x5, x6, x7, x8, x9, x10, x11, x12, x13, x14⟩ := at_E HR.out _ p hn4
        replace x0 := (HB.out.cell (World.block_lt_of_cell? w _ x0)).trans x0
        replace x1 := (HB.out.cell (World.block_lt_of_cell? w _ x1)).trans x1
        replace x2 := (HB.out.cell (World.block_lt_of_cell? w _ x2)).trans x2
        replace x3 := (HB.out.cell (World.block_lt_of_cell? w _ x3)).trans x3
        replace x4 := (HB.out.cell (World.block_lt_of_cell? w _ x4)).trans x4
        replace x5 := (HB.out.cell (World.block_lt_of_cell? w _ x5)).trans x5
        replace x6 := (HB.out.cell (World.block_lt_of_cell? w _ x6)).trans x6
        replace x7 := (HB.out.cell (World.block_lt_of_cell? w _ x7)).trans x7
        replace x8 := (HB.out.cell (World.block_lt_of_cell? w _ x8)).trans x8
        replace x9 := (HB.out.cell (World.block_lt_of_cell? w _ x9)).trans x9
        replace x10 := (HB.out.cell (World.block_lt_of_cell? w _ x10)).trans x10
        replace x11 := (HB.out.cell (World.block_lt_of_cell? w _ x11)).trans x11
        replace x12 := (HB.out.cell (World.block_lt_of_cell? w _ x12)).trans x12
        replace x13 := (HB.out.cell (World.block_lt_of_cell? w _ x13)).trans x13
        replace x14 := (HB.out.cell (World.block_lt_of_cell? w _ x14)).trans x14
        have Y : Aside0 (l.getD hi zE = rd_E l (hi : Int)) := ⟨rfl⟩
        generalize rd_E l (hi : Int) = y at x0 x1 x2 x3 x4 x5 x6 x7 x8 x9 x10 x11 x12 x13 x14 Y
        rw [Int.toNat_natCast] at x0 x1 x2 x3 x4 x5 x6 x7 x8 x9 x10 x11 x12 x13 x14
        have hc := order_calls y t
        have hge : t ≤ y.f0 := by have := I.out.2 hi (Nat.le_refl _) hn3; rw [Y.out] at this; exact this
        by_cases heq : y.f0 = t
        · have ho : ordI y.f0 t = 0 := by unfold ordI; rw [if_neg (by omega), if_neg (by omega)]
          rw [ho] at hc
          have HQ := Aside0.mk heq
          have HN3 := Aside0.mk hn3
          clear ho hge heq hn3
          go_wp2_with (go_at_fn 25; refine (hc _).mono ?_; rintro e w' ⟨rfl, hb⟩; have HB2 := Aside0.mk (below_step HB.out hb); clear hb HB)
          clear x0 x1 x2 x3 x4 x5 x6 x7 x8 x9 x10 x11 x12 x13 x14 hc
          try go_wp2
          go_ret2
          exact ⟨hi, true, rfl, ⟨LE.out, I.out.1, I.out.2, ⟨fun _ => ⟨HN3.out, by rw [Y.out]; exact HQ.out⟩, fun _ => rfl⟩⟩, HB2.out⟩
        · have ho : ordI y.f0 t = 1 := by unfold ordI; rw [if_neg (by omega), if_pos (by omega)]
          rw [ho] at hc
          have HQ := Aside0.mk heq
          clear ho hge heq hn3
          go_wp2_with (go_at_fn 25; refine (hc _).mono ?_; rintro e w' ⟨rfl, hb⟩; have HB2 := Aside0.mk (below_step HB.out hb); clear hb HB)
          clear x0 x1 x2 x3 x4 x5 x6 x7 x8 x9 x10 x11 x12 x13 x14 hc
          try go_wp2
          go_ret2
          exact ⟨hi, false, rfl, ⟨LE.out, I.out.1, I.out.2, ⟨fun h => (by cases h), fun h => absurd (by have := h.2; rw [Y.out] at this; exact this) HQ.out⟩⟩, HB2.out⟩
      · have hn4 : ¬ ((hi : Int) < (l.length : Int)) := by omega
        have HN := Aside0.mk hn3
        clear hn3
        go_wp2
        try (repeat (go_quiet (fail); try go_wp2))
        go_ret2
        exact ⟨hi, .inl ⟨rfl, ⟨LE.out, I.out.1, I.out.2, ⟨fun h => (by cases h), fun h => absurd h.1 HN.out⟩⟩, (by first | exact HB.out | exact below_drew HB.out)⟩⟩
end Go.Proofs.Ythadibmgahlpfaa.MD
