/- Go's slices.DeleteFunc and IndexFunc over marks, by the closure of Cut: of a row of one's own those stay that aren't behind a place. -/
import Derived.Test.YthadibmgahlpfaaKRow
import Derived.Test.YthadibmgahlpfaaKSearch
namespace Go.Proofs.Ythadibmgahlpfaa.MD
open Go Go.RowKit Go.Proofs Go.Proofs.YthadibmgahlpfaaW.PrintWords Go.Proofs.YthadibmgahlpfaaW.PrintLast Go.Proofs.YthadibmgahlpfaaW.PrintMore
set_option linter.unusedVariables false
set_option linter.unusedSimpArgs false
/-- Is it behind that place? -/
def isG (t : Int) (x : E) : Bool := decide (x.f0 > t)
theorem enter22 : ∀ (args : Array Value) (w : World), (callFunc 22 args).run Try.prog w = .ok (.enter 22 args) w := enters_of Try.func22 (by kernel_rfl) rfl
set_option maxHeartbeats 1000000 in
theorem del_any (x : E) (t : Int) (B : Nat) (w : World) (hB : w.cell? ⟨B, 0, none⟩ = some (.int .i64 t)) :
    Calls Try.prog 22 #[.agg #[.int .i64 x.f0, .int .i64 x.s.f0, .int .i64 x.s.f1, .int .i64 x.s.f2, .int .i64 x.s.f3, .int .u64 x.s.f4, .slice x.A5 x.s.f5.length x.c5, .slice x.A6 x.s.f6.length x.c6, .slice x.A7 x.s.f7.length x.c7, .slice x.A8 x.s.f8.length x.c8, .slice x.A9 x.s.f9.length x.c9, .string x.s.f10.f0, .slice x.A11 x.s.f10.f1.length x.c11, .int .u64 x.s.f10.f2, .slice x.A13 x.s.f10.f3.length x.c13], .pointer (some ⟨B, 0, none⟩)] w fun e w' => e = .returned (.bool (isG t x)) ∧ Below w.heap.size w w' := by
  have hu64 := Try.underlying64
  have b2 : (w.alloc (.cells #[.int .i64 x.f0, .int .i64 x.s.f0, .int .i64 x.s.f1, .int .i64 x.s.f2, .int .i64 x.s.f3, .int .u64 x.s.f4, .slice x.A5 x.s.f5.length x.c5, .slice x.A6 x.s.f6.length x.c6, .slice x.A7 x.s.f7.length x.c7, .slice x.A8 x.s.f8.length x.c8, .slice x.A9 x.s.f9.length x.c9, .string x.s.f10.f0, .slice x.A11 x.s.f10.f1.length x.c11, .int .u64 x.s.f10.f2, .slice x.A13 x.s.f10.f3.length x.c13] 64)).cell? ⟨w.heap.size, 0, none⟩ = some (.int .i64 x.f0) := by rw [World.cell?_alloc_new]; rfl
  have hbn : (w.alloc (.cells #[.int .i64 x.f0, .int .i64 x.s.f0, .int .i64 x.s.f1, .int .i64 x.s.f2, .int .i64 x.s.f3, .int .u64 x.s.f4, .slice x.A5 x.s.f5.length x.c5, .slice x.A6 x.s.f6.length x.c6, .slice x.A7 x.s.f7.length x.c7, .slice x.A8 x.s.f8.length x.c8, .slice x.A9 x.s.f9.length x.c9, .string x.s.f10.f0, .slice x.A11 x.s.f10.f1.length x.c11, .int .u64 x.s.f10.f2, .slice x.A13 x.s.f10.f3.length x.c13] 64)).cell? ⟨B, 0, none⟩ = some (.int .i64 t) := by
    rw [World.cell?_alloc_past _ B 0 (World.block_lt_of_cell? w _ hB)]; exact hB
  have HB1 : Aside0 (Below w.heap.size w (w.alloc (.cells #[.int .i64 x.f0, .int .i64 x.s.f0, .int .i64 x.s.f1, .int .i64 x.s.f2, .int .i64 x.s.f3, .int .u64 x.s.f4, .slice x.A5 x.s.f5.length x.c5, .slice x.A6 x.s.f6.length x.c6, .slice x.A7 x.s.f7.length x.c7, .slice x.A8 x.s.f8.length x.c8, .slice x.A9 x.s.f9.length x.c9, .string x.s.f10.f0, .slice x.A11 x.s.f10.f1.length x.c11, .int .u64 x.s.f10.f2, .slice x.A13 x.s.f10.f3.length x.c13] 64))) := ⟨below_alloc (Below.refl _ _) _⟩
  clear hB
  unfold isG
  go_enter Try.func22, Try.ntmps22
  go_wp2
  go_ret
  exact ⟨rfl, HB1.out⟩
set_option maxHeartbeats 4000000 in
set_option maxRecDepth 100000 in
theorem index_any (A0 : Option Addr) (c0 : Nat) (l : List E) (t : Int) (B : Nat) (w : World) (hr0 : Kd.C kE w A0 l.length l) (hc0 : l.length ≤ c0) (hn : l.length ≤ 1000) (hB : w.cell? ⟨B, 0, none⟩ = some (.int .i64 t)) :
    Calls Try.prog 34 #[.slice A0 l.length c0, .func (.func 22) #[] #[.pointer (some ⟨B, 0, none⟩)]] w fun e w' =>
      ∃ r : Int, e = .returned (.int .i64 r) ∧ ((r = -1 ∧ ∀ j, j < l.length → isG t (l.getD j zE) = false) ∨ ∃ i : Nat, r = i ∧ i < l.length ∧ isG t (l.getD i zE) = true ∧ ∀ j, j < i → isG t (l.getD j zE) = false) ∧ Below w.heap.size w w' := by
  have HR := Aside0.mk hr0
  have hu64 := Try.underlying64
  have eg := enter22
  have HBX := Aside0.mk hB
  have HB0 := Aside0.mk (Below.refl w.heap.size w)
  clear hr0 hB
  go_enter Try.func34, Try.ntmps34
  go_wp2
  go_loopw [5, 8] (fun _ s8 wr => ∃ i : Nat, s8 = .int .i64 i ∧ i ≤ l.length ∧ Aside0 (Below w.heap.size w wr) ∧ Aside0 (∀ j, j < i → isG t (l.getD j zE) = false)) (fun _ s8 _ => l.length - (intOf s8).toNat)
  case atStart => exact ⟨0, rfl, Nat.zero_le _, HB0, ⟨fun j hj => absurd hj (Nat.not_lt_zero _)⟩⟩
  case round =>
    obtain ⟨i, rfl, hin, HB, I⟩ := hrel
    by_cases hlt : i < l.length
    · have hn4 : (i : Int) < (l.length : Int) := by omega
      have p : (0 : Int) ≤ (i : Int) := Int.natCast_nonneg _
      obtain ⟨ad, rfl, x0, x1, x2, x3, x4, x5, x6, x7, x8, x9, x10, x11, x12, x13, x14⟩ := at_E HR.out _ p hn4
      replace x0 := (HB.out.cell (World.block_lt_of_cell? w _ x0)).trans x0
      replace x1 := (HB.out.cell (World.block_lt_of_cell? w _ x1)).trans x1
      replace x2 := (HB.out.cell (World.block_lt_of_cell? w _ x2)).trans x2
      replace x3 := (HB.out.cell (World.block_lt_of_cell? w _ x3)).trans x3
      replace x4 := (HB.out.cell (World.block_lt_of_cell? w _ x4)).trans x4
      replace x5 := (HB.out.cell (World.block_lt_of_cell? w _ x5)).trans x5
      replace x6 := (HB.out.cell (World.block_lt_of_cell? w _ x6)).trans x6
      replace x7 := (HB.out.cell (World.block_lt_of_cell? w _ x7)).trans x7
      replace x8 := (HB.out.cell (World.block_lt_of_cell? w _ x8)).trans x8
      replace x9 := (HB.out.cell (World.block_lt_of_cell? w _ x9)).trans x9
      replace x10 := (HB.out.cell (World.block_lt_of_cell? w _ x10)).trans x10
      replace x11 := (HB.out.cell (World.block_lt_of_cell? w _ x11)).trans x11
      replace x12 := (HB.out.cell (World.block_lt_of_cell? w _ x12)).trans x12
      replace x13 := (HB.out.cell (World.block_lt_of_cell? w _ x13)).trans x13
      replace x14 := (HB.out.cell (World.block_lt_of_cell? w _ x14)).trans x14
      have hbw := (HB.out.cell (World.block_lt_of_cell? w _ HBX.out)).trans HBX.out
      have Y : Aside0 (l.getD i zE = rd_E l (i : Int)) := ⟨rfl⟩
      generalize rd_E l (i : Int) = y at x0 x1 x2 x3 x4 x5 x6 x7 x8 x9 x10 x11 x12 x13 x14 Y
      rw [Int.toNat_natCast] at x0 x1 x2 x3 x4 x5 x6 x7 x8 x9 x10 x11 x12 x13 x14
      have hc := del_any y t B wr hbw
      clear hbw
      have hwk : IntKind.i64.wrap ((i : Int) + 1) = (i : Int) + 1 := by rw [IntKind.wrap_i64]; omega
      by_cases hyx : isG t y = true
      · rw [hyx] at hc
        go_wp2_with (go_at_fn 22; refine hc.mono ?_; rintro e w' ⟨rfl, hb⟩; have HB2 := Aside0.mk (below_step HB.out hb); clear hb)
        go_ret
        exact ⟨(i : Int), rfl, .inr ⟨i, rfl, hlt, by rw [Y.out]; exact hyx, I.out⟩, HB2.out⟩
      · have hyx2 : isG t y = false := by cases h : isG t y with | true => exact absurd h hyx | false => rfl
        rw [hyx2] at hc
        go_wp2_with (go_at_fn 22; refine hc.mono ?_; rintro e w' ⟨rfl, hb⟩; have HB2 := Aside0.mk (below_step HB.out hb); clear hb)
        have I2 : Aside0 (∀ j, j < i + 1 → isG t (l.getD j zE) = false) := ⟨fun j hj => by
          rcases Nat.lt_or_ge j i with h1 | h1
          · exact I.out j h1
          · obtain rfl : j = i := by omega
            rw [Y.out, hyx2]⟩
        go_roundw
        case rel => exact ⟨i + 1, by go_num, by omega, HB2, I2⟩
        case measure => simp [intOf]; omega
    · have hn4 : ¬ ((i : Int) < (l.length : Int)) := by omega
      go_wp2
      go_ret
      exact ⟨-1, rfl, .inl ⟨rfl, fun j hj => I.out j (by omega)⟩, HB.out⟩

set_option maxHeartbeats 4000000 in
set_option maxRecDepth 100000 in
theorem delete_some (base g cap : Nat) (l : List E) (t : Int) (B : Nat) (w : World) (hR : Kd.R kE 64 w base (fun _ => True) (.slice (some ⟨g, 0, none⟩) l.length cap) l) (hn : l.length ≤ 1000) (hbase : base ≤ w.heap.size) (hB : w.cell? ⟨B, 0, none⟩ = some (.int .i64 t)) (hBg : B ≠ g) :
    Calls Try.prog 21 #[.slice (some ⟨g, 0, none⟩) l.length cap, .func (.func 22) #[] #[.pointer (some ⟨B, 0, none⟩)]] w fun e w' => ∃ k : Nat, e = .returned (.slice (some ⟨g, 0, none⟩) k cap) ∧ Kd.R kE 64 w' base (fun _ => True) (.slice (some ⟨g, 0, none⟩) k cap) (l.filter (fun x => !isG t x)) ∧ w.grownBy w' (some g) := by
  have HR := Aside0.mk hR
  have hu64 := Try.underlying64
  have hu57 := Try.underlying57
  have eg := enter22
  have HBX := Aside0.mk hB
  obtain ⟨A', c', e', hcap, hC⟩ := Kd.R_reads hR
  injection e' with e1 e2 e3
  subst e1 e3
  have hix := index_any _ cap l t B w hC hcap hn hB
  have HIX := Aside0.mk hix
  have HBS := Aside0.mk hbase
  have hgb : base ≤ g := Kd.R_base hR g rfl
  have HBB := Aside0.mk (And.intro (World.block_lt_of_cell? w _ hB) hBg)
  clear hR hB hix hC hbase hBg
  go_enter Try.func21, Try.ntmps21
  go_wp2_with fail
  refine HIX.out.mono ?_
  rintro e w1 ⟨r, rfl, hr, hb1⟩
  have HB1 := Aside0.mk (grown_of_below hb1 (some g))
  have HR1 := Aside0.mk (Kd.R_below HR.out hb1)
  clear hb1 HIX
  rcases hr with ⟨rfl, hall⟩ | ⟨i0, rfl, hi0, hdel, hbef⟩
  · have hf : l.filter (fun x => !isG t x) = l := by
      rw [List.filter_eq_self]
      intro x hx
      obtain ⟨j, hj, rfl⟩ := List.mem_iff_getElem.1 hx
      have := hall j hj
      rw [List.getD_eq_getElem?_getD, List.getElem?_eq_getElem hj] at this
      show (!isG t l[j]) = true
      have h2 : isG t l[j] = false := this
      rw [h2]; rfl
    have HF := Aside0.mk hf
    clear hall hf
    go_wp2
    go_ret
    exact ⟨l.length, rfl, by rw [HF.out]; exact HR1.out, HB1.out⟩
  · have hne : ¬ ((i0 : Int) = -1) := by omega
    have hwk : IntKind.i64.wrap ((i0 : Int) + 1) = (i0 : Int) + 1 := by rw [IntKind.wrap_i64]; omega
    have hfil : (l.take i0).filter (fun x => !isG t x) = l.take i0 := by
      rw [List.filter_eq_self]
      intro x hx
      obtain ⟨j, hj, rfl⟩ := List.mem_iff_getElem.1 hx
      rw [List.length_take] at hj
      have := hbef j (by omega)
      rw [List.getD_eq_getElem?_getD, List.getElem?_eq_getElem (by omega)] at this
      rw [List.getElem_take]
      have h2 : isG t l[j] = false := this
      rw [h2]; rfl
    have hfil2 : (l.take (i0 + 1)).filter (fun x => !isG t x) = l.take i0 := by
      rw [List.take_succ_eq_append_getElem hi0, List.filter_append, hfil]
      have h2 : isG t l[i0] = true := by rw [List.getD_eq_getElem?_getD, List.getElem?_eq_getElem hi0] at hdel; exact hdel
      rw [List.filter_cons, h2]
      exact List.append_nil _
    have HF2 := Aside0.mk hfil2.symm
    clear hfil hfil2 hdel hbef
    go_wp2_with fail
    rw [show ((i0 : Int) == -1) = false from beq_eq_false_iff_ne.2 hne]
    go_loopw [5, 6, 7] (fun s5 s6 _ wr => ∃ (i j : Nat) (L : List E), s5 = .int .i64 i ∧ s6 = .int .i64 j ∧ i < j ∧ j ≤ l.length ∧ L.length = l.length ∧ Aside0 (L.take i = (l.take j).filter (fun x => !isG t x)) ∧ Aside0 (L.drop j = l.drop j) ∧
      Aside0 (Kd.R kE 64 wr base (fun _ => True) (.slice (some ⟨g, 0, none⟩) l.length cap) L) ∧ Aside0 (w.grownBy wr (some g))) (fun _ s6 _ _ => l.length - (intOf s6).toNat)
    case atStart => exact ⟨i0, i0 + 1, l, rfl, by go_num, Nat.lt_succ_self _, hi0, rfl, HF2, ⟨rfl⟩, HR1, HB1⟩
    case round =>
      clear HR1 HB1 HF2
      obtain ⟨i, j, L, rfl, rfl, hij, hjn, hL, HT, HD, HRr, HB⟩ := hrel
      by_cases hlt : j < l.length
      · have hy : L.getD j zE = l.getD j zE := by
          have := congrArg (fun x : List E => x[0]?) HD.out
          simp only [List.getElem?_drop, Nat.add_zero] at this
          rw [List.getD_eq_getElem?_getD, List.getD_eq_getElem?_getD, this]
        have HL := Aside0.mk hL
        have hjL : j < L.length := by omega
        have hiL : i < L.length := by omega
        rcases (own_of_R HRr.out).2 with ⟨e1, _⟩ | ⟨g', cap', cur, e1, hbg, hg, hnc, hcm, hcs, htake⟩
        · cases e1
        · injection e1 with e2 e3 e4
          injection e2 with e2
          injection e2 with e2
          subst e2 e4
          clear e3
          obtain ⟨x0, x1, x2, x3, x4, x5, x6, x7, x8, x9, x10, x11, x12, x13, x14⟩ := row_cells hg htake j hjL
          obtain ⟨y0, y1, y2, y3, y4, y5, y6, y7, y8, y9, y10, y11, y12, y13, y14⟩ := row_cells hg htake i hiL
          have z0 := blk_frozen hg (i * 15)
          have z1 := blk_frozen hg (i * 15 + 1)
          have z2 := blk_frozen hg (i * 15 + 2)
          have z3 := blk_frozen hg (i * 15 + 3)
          have z4 := blk_frozen hg (i * 15 + 4)
          have z5 := blk_frozen hg (i * 15 + 5)
          have z6 := blk_frozen hg (i * 15 + 6)
          have z7 := blk_frozen hg (i * 15 + 7)
          have z8 := blk_frozen hg (i * 15 + 8)
          have z9 := blk_frozen hg (i * 15 + 9)
          have z10 := blk_frozen hg (i * 15 + 10)
          have z11 := blk_frozen hg (i * 15 + 11)
          have z12 := blk_frozen hg (i * 15 + 12)
          have z13 := blk_frozen hg (i * 15 + 13)
          have z14 := blk_frozen hg (i * 15 + 14)
          rw [hy] at x0 x1 x2 x3 x4 x5 x6 x7 x8 x9 x10 x11 x12 x13 x14
          have HY := Aside0.mk hy
          have HCUR := Aside0.mk (And.intro hg (And.intro hcs (And.intro hnc (And.intro hcm htake))))
          generalize hyy : l.getD j zE = y at x0 x1 x2 x3 x4 x5 x6 x7 x8 x9 x10 x11 x12 x13 x14
          have HYY := Aside0.mk hyy
          generalize L.getD i zE = yi at y0 y1 y2 y3 y4 y5 y6 y7 y8 y9 y10 y11 y12 y13 y14
          have hgw : g < wr.heap.size := (Array.getElem?_eq_some_iff.1 hg).1
          clear hy hyy hg hcs hnc hcm htake hL
          have hn1 : (j : Int) < (l.length : Int) := by omega
          have hn2 : (i : Int) < (l.length : Int) := by omega
          have hn3 : (0 : Int) ≤ (j : Int) := Int.natCast_nonneg _
          have hn4 : (0 : Int) ≤ (i : Int) := Int.natCast_nonneg _
          have hBw : wr.cell? ⟨B, 0, none⟩ = some (.int .i64 t) := HB.out.cell HBX.out (fun e => HBB.out.2 (by injection e))
          have hBlt : B < wr.heap.size := World.block_lt_of_cell? wr _ hBw
          obtain ⟨W2, hW2⟩ : ∃ W2, W2 = wr.alloc (.cells #[.int .i64 y.f0, .int .i64 y.s.f0, .int .i64 y.s.f1, .int .i64 y.s.f2, .int .i64 y.s.f3, .int .u64 y.s.f4, .slice y.A5 y.s.f5.length y.c5, .slice y.A6 y.s.f6.length y.c6, .slice y.A7 y.s.f7.length y.c7, .slice y.A8 y.s.f8.length y.c8, .slice y.A9 y.s.f9.length y.c9, .string y.s.f10.f0, .slice y.A11 y.s.f10.f1.length y.c11, .int .u64 y.s.f10.f2, .slice y.A13 y.s.f10.f3.length y.c13] 64) := ⟨_, rfl⟩
          have hBW2 : W2.cell? ⟨B, 0, none⟩ = some (.int .i64 t) := by rw [hW2, World.cell?_alloc_past _ B 0 hBlt]; exact hBw
          have b0 : W2.cell? ⟨wr.heap.size, 0, none⟩ = some (.int .i64 y.f0) := by rw [hW2, World.cell?_alloc_new]; rfl
          have b1 : W2.cell? ⟨wr.heap.size, 1, none⟩ = some (.int .i64 y.s.f0) := by rw [hW2, World.cell?_alloc_new]; rfl
          have b2 : W2.cell? ⟨wr.heap.size, 2, none⟩ = some (.int .i64 y.s.f1) := by rw [hW2, World.cell?_alloc_new]; rfl
          have b3 : W2.cell? ⟨wr.heap.size, 3, none⟩ = some (.int .i64 y.s.f2) := by rw [hW2, World.cell?_alloc_new]; rfl
          have b4 : W2.cell? ⟨wr.heap.size, 4, none⟩ = some (.int .i64 y.s.f3) := by rw [hW2, World.cell?_alloc_new]; rfl
          have b5 : W2.cell? ⟨wr.heap.size, 5, none⟩ = some (.int .u64 y.s.f4) := by rw [hW2, World.cell?_alloc_new]; rfl
          have b6 : W2.cell? ⟨wr.heap.size, 6, none⟩ = some (.slice y.A5 y.s.f5.length y.c5) := by rw [hW2, World.cell?_alloc_new]; rfl
          have b7 : W2.cell? ⟨wr.heap.size, 7, none⟩ = some (.slice y.A6 y.s.f6.length y.c6) := by rw [hW2, World.cell?_alloc_new]; rfl
          have b8 : W2.cell? ⟨wr.heap.size, 8, none⟩ = some (.slice y.A7 y.s.f7.length y.c7) := by rw [hW2, World.cell?_alloc_new]; rfl
          have b9 : W2.cell? ⟨wr.heap.size, 9, none⟩ = some (.slice y.A8 y.s.f8.length y.c8) := by rw [hW2, World.cell?_alloc_new]; rfl
          have b10 : W2.cell? ⟨wr.heap.size, 10, none⟩ = some (.slice y.A9 y.s.f9.length y.c9) := by rw [hW2, World.cell?_alloc_new]; rfl
          have b11 : W2.cell? ⟨wr.heap.size, 11, none⟩ = some (.string y.s.f10.f0) := by rw [hW2, World.cell?_alloc_new]; rfl
          have b12 : W2.cell? ⟨wr.heap.size, 12, none⟩ = some (.slice y.A11 y.s.f10.f1.length y.c11) := by rw [hW2, World.cell?_alloc_new]; rfl
          have b13 : W2.cell? ⟨wr.heap.size, 13, none⟩ = some (.int .u64 y.s.f10.f2) := by rw [hW2, World.cell?_alloc_new]; rfl
          have b14 : W2.cell? ⟨wr.heap.size, 14, none⟩ = some (.slice y.A13 y.s.f10.f3.length y.c13) := by rw [hW2, World.cell?_alloc_new]; rfl
          have hB2 : Below wr.heap.size wr W2 := by rw [hW2]; exact below_alloc (Below.refl _ _) _
          have hs2 : W2.heap.size = wr.heap.size + 1 := by rw [hW2]; exact World.size_alloc _ _
          have hc := del_any y t B W2 hBW2
          have HC := Aside0.mk hc
          clear hc hBw hBW2 hBlt
          have hwj : IntKind.i64.wrap ((j : Int) + 1) = (j : Int) + 1 := by rw [IntKind.wrap_i64]; omega
          have hwi : IntKind.i64.wrap ((i : Int) + 1) = (i : Int) + 1 := by rw [IntKind.wrap_i64]; omega
          go_wp2_with fail
          rw [← hW2]
          refine HC.out.mono ?_
          rintro e w3 ⟨rfl, hb⟩
          have HB3 : Aside0 (w.grownBy w3 (some g)) := ⟨grown_then (grown_then HB.out hB2) hb⟩
          have hg3 : w3.heap[g]? = some (.cells cur 64 (0, 0)) := (hb.block g (by omega)).trans ((hB2.block g hgw).trans HCUR.out.1)
          have e0 := (hb.cell (World.block_lt_of_cell? W2 _ b0)).trans b0
          have e1 := (hb.cell (World.block_lt_of_cell? W2 _ b1)).trans b1
          have e2 := (hb.cell (World.block_lt_of_cell? W2 _ b2)).trans b2
          have e3 := (hb.cell (World.block_lt_of_cell? W2 _ b3)).trans b3
          have e4 := (hb.cell (World.block_lt_of_cell? W2 _ b4)).trans b4
          have e5 := (hb.cell (World.block_lt_of_cell? W2 _ b5)).trans b5
          have e6 := (hb.cell (World.block_lt_of_cell? W2 _ b6)).trans b6
          have e7 := (hb.cell (World.block_lt_of_cell? W2 _ b7)).trans b7
          have e8 := (hb.cell (World.block_lt_of_cell? W2 _ b8)).trans b8
          have e9 := (hb.cell (World.block_lt_of_cell? W2 _ b9)).trans b9
          have e10 := (hb.cell (World.block_lt_of_cell? W2 _ b10)).trans b10
          have e11 := (hb.cell (World.block_lt_of_cell? W2 _ b11)).trans b11
          have e12 := (hb.cell (World.block_lt_of_cell? W2 _ b12)).trans b12
          have e13 := (hb.cell (World.block_lt_of_cell? W2 _ b13)).trans b13
          have e14 := (hb.cell (World.block_lt_of_cell? W2 _ b14)).trans b14
          have HG3 := Aside0.mk hg3
          clear HC b0 b1 b2 b3 b4 b5 b6 b7 b8 b9 b10 b11 b12 b13 b14 x0 x1 x2 x3 x4 x5 x6 x7 x8 x9 x10 x11 x12 x13 x14 y0 y1 y2 y3 y4 y5 y6 y7 y8 y9 y10 y11 y12 y13 y14 z0 z1 z2 z3 z4 z5 z6 z7 z8 z9 z10 z11 z12 z13 z14 hb hB2 HB hs2 hW2 HRr
          cases hyx : isG t y with
          | true =>
            have HR3 : Aside0 (Kd.R kE 64 w3 base (fun _ => True) (.slice (some ⟨g, 0, none⟩) l.length cap) L) := ⟨by
              rw [← HL.out]
              exact R_of_ownE ⟨cellsE_length _, .inr ⟨g, cap, cur, rfl, hbg, HG3.out, by have := HCUR.out.2.2.1; omega, HCUR.out.2.2.2.1, HCUR.out.2.1, HCUR.out.2.2.2.2⟩⟩⟩
            have HT2 : Aside0 (L.take i = (l.take (j + 1)).filter (fun x => !isG t x)) := ⟨by
              rw [HT.out, List.take_succ_eq_append_getElem hlt, List.filter_append, List.filter_cons]
              have : l[j] = y := by rw [← HYY.out, List.getD_eq_getElem?_getD, List.getElem?_eq_getElem hlt]; rfl
              rw [this, hyx]
              exact (List.append_nil _).symm⟩
            have HD2 : Aside0 (L.drop (j + 1) = l.drop (j + 1)) := ⟨by rw [← List.drop_drop, ← List.drop_drop, HD.out]⟩
            clear e0 e1 e2 e3 e4 e5 e6 e7 e8 e9 e10 e11 e12 e13 e14
            go_wp2
            go_roundw
            case rel => exact ⟨i, j + 1, L, rfl, by go_num, by omega, by omega, HL.out, HT2, HD2, HR3, HB3⟩
            case measure => simp [intOf]; omega
          | false =>
            obtain ⟨q0, q1, q2, q3, q4, q5, q6, q7, q8, q9, q10, q11, q12, q13, q14⟩ := row_cells hg3 HCUR.out.2.2.2.2 i hiL
            generalize L.getD i zE = yo at q0 q1 q2 q3 q4 q5 q6 q7 q8 q9 q10 q11 q12 q13 q14
            have z0 := blk_frozen hg3 (i * 15)
            have z1 := blk_frozen hg3 (i * 15 + 1)
            have z2 := blk_frozen hg3 (i * 15 + 2)
            have z3 := blk_frozen hg3 (i * 15 + 3)
            have z4 := blk_frozen hg3 (i * 15 + 4)
            have z5 := blk_frozen hg3 (i * 15 + 5)
            have z6 := blk_frozen hg3 (i * 15 + 6)
            have z7 := blk_frozen hg3 (i * 15 + 7)
            have z8 := blk_frozen hg3 (i * 15 + 8)
            have z9 := blk_frozen hg3 (i * 15 + 9)
            have z10 := blk_frozen hg3 (i * 15 + 10)
            have z11 := blk_frozen hg3 (i * 15 + 11)
            have z12 := blk_frozen hg3 (i * 15 + 12)
            have z13 := blk_frozen hg3 (i * 15 + 13)
            have z14 := blk_frozen hg3 (i * 15 + 14)
            obtain ⟨cur', s1, s2, s3⟩ := set_row g cap cur L w3 hg3 HCUR.out.2.1 HCUR.out.2.2.1 HCUR.out.2.2.2.2 i hiL y
            have HS := Aside0.mk (And.intro s1 (And.intro s2 s3))
            have hp : (fun x => !isG t x) (l.getD j zE) = true := by show (!isG t (l.getD j zE)) = true; rw [HYY.out, hyx]; rfl
            have hfs := filt_set (fun x => !isG t x) l L i j hlt (by omega) HL.out HT.out HD.out hp
            rw [HYY.out] at hfs
            have HT2 := Aside0.mk hfs.1
            have HD2 := Aside0.mk hfs.2
            clear s1 s2 s3 hg3 hfs hp
            go_wp2
            go_roundw
            case rel => exact ⟨i + 1, j + 1, L.set i y, by go_num, by go_num, by omega, by omega, by rw [List.length_set]; exact HL.out, HT2, HD2, ⟨by
              rw [← HL.out, show L.length = (L.set i y).length from List.length_set.symm]
              exact R_of_ownE ⟨cellsE_length _, .inr ⟨g, cap, cur', rfl, hbg, HS.out.1, by rw [List.length_set]; exact HCUR.out.2.2.1, HCUR.out.2.2.2.1, HS.out.2.1, HS.out.2.2⟩⟩⟩, ⟨grown_setCells (encE y) (i * 15) w3 HB3.out⟩⟩
            case measure => simp [intOf]; omega
      · obtain rfl : j = l.length := by omega
        have hn1 : ¬ ((l.length : Int) < (l.length : Int)) := by omega
        have HL := Aside0.mk hL
        have hij' : i < l.length := hij
        have hfin : L.take i = l.filter (fun x => !isG t x) := by rw [HT.out, List.take_of_length_le (Nat.le_refl _)]
        have HF := Aside0.mk hfin
        rcases (own_of_R HRr.out).2 with ⟨e1, _⟩ | ⟨g', cap', cur, e1, hbg, hg, hnc, hcm, hcs, htake⟩
        · cases e1
        · injection e1 with e2 e3 e4
          injection e2 with e2
          injection e2 with e2
          subst e2 e4
          clear e3
          have hcl0 := fun ty => run_clear_rows wr g (i * 15) (l.length - i) (cap - i) ty cur hg (by omega) (by rw [hcs]; omega)
          obtain ⟨C2, hC2⟩ : ∃ C2, C2 = (cur.toList.take (i * 15) ++ cellsE (List.replicate (l.length - i) zE) ++ cur.toList.drop (i * 15 + (l.length - i) * 15)).toArray := ⟨_, rfl⟩
          rw [← hC2] at hcl0
          have hLl : L.length = l.length := hL
          have hAl : (cellsE (L.take i)).length = i * 15 := by rw [cellsE_length, List.length_take, Nat.min_eq_left (by omega)]
          have h2 : cur.toList.take (i * 15) = cellsE (L.take i) := by
            have h3 : cur.toList.take (i * 15) = (cur.toList.take (L.length * 15)).take (i * 15) := by rw [List.take_take, Nat.min_eq_left (by omega)]
            rw [h3, htake]
            conv => lhs; rw [← List.take_append_drop i L, cellsE_append]
            rw [← hAl, List.take_left]
          have hC2s : C2.size = cap * 15 := by
            rw [hC2, List.size_toArray, List.length_append, List.length_append, List.length_take, List.length_drop, cellsE_length, List.length_replicate, Array.length_toList, hcs]
            omega
          have hC2t : C2.toList.take (i * 15) = cellsE (L.take i) := by
            rw [hC2, h2, List.append_assoc, ← hAl]
            exact List.take_left
          have hLi : (L.take i).length = i := by rw [List.length_take]; omega
          have HE : Aside0 (Kd.R kE 64 (wr.setRow g C2) base (fun _ => True) (.slice (some ⟨g, 0, none⟩) i cap) (L.take i)) := ⟨by
            conv => arg 6; rw [← hLi]
            exact R_of_ownE ⟨cellsE_length _, .inr ⟨g, cap, C2, rfl, hbg, setRow_heap wr g cur C2 64 (0, 0) hg, by omega, hcm, hC2s, by rw [hLi]; exact hC2t⟩⟩⟩
          have HBE : Aside0 (w.grownBy (wr.setRow g C2) (some g)) := ⟨grown_row HB.out _⟩
          have hilc : i ≤ cap := by omega
          clear hC2 hC2s hC2t h2 hAl htake hcs hg hLl hLi HT HD HRr hL
          go_wp2
          go_ret
          exact ⟨i, rfl, by rw [← HF.out]; exact HE.out, HBE.out⟩
set_option maxHeartbeats 4000000 in
set_option maxRecDepth 100000 in
theorem delete_nil (t : Int) (B : Nat) (w : World) (hB : w.cell? ⟨B, 0, none⟩ = some (.int .i64 t)) :
    Calls Try.prog 21 #[.slice none 0 0, .func (.func 22) #[] #[.pointer (some ⟨B, 0, none⟩)]] w fun e w' => e = .returned (.slice none 0 0) ∧ Below w.heap.size w w' := by
  have hix := index_any none 0 [] t B w ⟨rfl, by decide, fun h => absurd h (by decide)⟩ (Nat.le_refl _) (by decide) hB
  have HIX := Aside0.mk hix
  clear hix hB
  go_enter Try.func21, Try.ntmps21
  go_wp2_with fail
  refine HIX.out.mono ?_
  rintro e w1 ⟨r, rfl, hr, hb1⟩
  have HB1 := Aside0.mk hb1
  clear hb1 HIX
  obtain rfl : r = -1 := by
    rcases hr with ⟨h, _⟩ | ⟨i, _, h, _⟩
    · exact h
    · exact absurd h (Nat.not_lt_zero _)
  clear hr
  go_wp2
  go_ret
  exact ⟨rfl, HB1.out⟩
/-- Whatever row: those stay that aren't behind the place, in the same block. -/
theorem delf_any (base : Nat) (v : Value) (l : List E) (t : Int) (B : Nat) (w : World) (hR : Kd.R kE 64 w base (fun _ => True) v l) (hn : l.length ≤ 1000) (hbase : base ≤ w.heap.size) (hB : w.cell? ⟨B, 0, none⟩ = some (.int .i64 t)) (hBg : v.ownBlock ≠ some B) :
    Calls Try.prog 21 #[v, .func (.func 22) #[] #[.pointer (some ⟨B, 0, none⟩)]] w fun e w' => ∃ v', e = .returned v' ∧ Kd.R kE 64 w' base (fun _ => True) v' (l.filter (fun x => !isG t x)) ∧ After w w' v v' := by
  rcases (own_of_R hR).2 with ⟨rfl, h2⟩ | ⟨g, cap, cur, rfl, _⟩
  · obtain rfl : l = [] := List.length_eq_zero_iff.1 h2
    refine (delete_nil t B w hB).mono ?_
    rintro e w' ⟨rfl, hb⟩
    exact ⟨_, rfl, Kd.R_nil _ _ _ _ _, grown_of_below hb _, .inl rfl⟩
  · refine (delete_some base g cap l t B w hR hn hbase hB (fun e => hBg (by rw [e]; rfl))).mono ?_
    rintro e w' ⟨k, rfl, h1, h2⟩
    exact ⟨_, rfl, h1, h2, .inl rfl⟩
end Go.Proofs.Ythadibmgahlpfaa.MD
