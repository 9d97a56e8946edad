/- The keeper's Ats and Near. -/
import Derived.Test.YthadibmgahlpfaaKMeth
import Derived.Laws.ResultCell
import Derived.Laws.Tables
namespace Go.Proofs.Ythadibmgahlpfaa.MD
open Go Go.RowKit Go.Proofs Go.Proofs.YthadibmgahlpfaaW.PrintWords Go.Proofs.YthadibmgahlpfaaW.PrintLast Go.Proofs.YthadibmgahlpfaaW.PrintMore
set_option linter.unusedVariables false
set_option linter.unusedSimpArgs false
set_option maxHeartbeats 4000000 in
set_option maxRecDepth 100000 in
theorem ats_any (base : Nat) (ot : Nat → Prop) (w : World) (B : Nat) (ev mo : Int) (l : List E) (h : Keep base ot w B ev mo l) (hl : l.length ≤ 1000) :
    Calls Try.prog 8 #[.pointer (some ⟨B, 0, none⟩)] w fun e w' => ∃ v, e = .returned v ∧ Kd.R (Kd.int .i64) 3 w' w.heap.size (fun _ => True) v (l.map (·.f0)) ∧ Below w.heap.size w w' := by
  obtain ⟨v, h1, h2, h3, h4, h5, h6, h7⟩ := h.out
  obtain ⟨A, c, rfl⟩ := Kd.R_slice h3
  have k2 : w.cell? ⟨B, 2, none⟩ = some (.slice A l.length c) := blk_cell h1 2
  have hq := Kd.R_reads' h3
  have HC := Aside0.mk (And.intro hq.2.1 hq.2.2)
  have HB := Aside0.mk (Below.refl w.heap.size w)
  have hu64 := Try.underlying64
  clear h1 h2 h3 h4 h5 h6 h7 hq h
  go_enter Try.func8, Try.ntmps8
  go_wp2
  go_loopw [3, 11] (fun v3 v11 wr => ∃ k : Nat, v11 = .int .i64 k ∧ k ≤ l.length ∧ Aside0 (Kd.R (Kd.int .i64) 3 wr w.heap.size (fun _ => True) v3 ((l.take k).map (·.f0))) ∧ Aside0 (Below w.heap.size w wr)) (fun _ v11 _ => l.length - (intOf v11).toNat)
  case atStart => exact ⟨0, rfl, Nat.zero_le _, ⟨Kd.R_nil _ _ _ _ _⟩, HB⟩
  case round =>
    clear HB k2
    obtain ⟨k, rfl, hk, HR, HB⟩ := hrel
    by_cases hlt : k < l.length
    · have hn4 : (k : Int) < (l.length : Int) := by omega
      have p : (0 : Int) ≤ (k : Int) := Int.natCast_nonneg _
      obtain ⟨ad, rfl, x0, x1, x2, x3, x4, x5, x6, x7, x8, x9, x10, x11, x12, x13, x14⟩ := at_E HC.out.2 _ p hn4
      replace x0 := (HB.out.cell (World.block_lt_of_cell? w _ x0)).trans x0
      replace x1 := (HB.out.cell (World.block_lt_of_cell? w _ x1)).trans x1
      replace x2 := (HB.out.cell (World.block_lt_of_cell? w _ x2)).trans x2
      replace x3 := (HB.out.cell (World.block_lt_of_cell? w _ x3)).trans x3
      replace x4 := (HB.out.cell (World.block_lt_of_cell? w _ x4)).trans x4
      replace x5 := (HB.out.cell (World.block_lt_of_cell? w _ x5)).trans x5
      replace x6 := (HB.out.cell (World.block_lt_of_cell? w _ x6)).trans x6
      replace x7 := (HB.out.cell (World.block_lt_of_cell? w _ x7)).trans x7
      replace x8 := (HB.out.cell (World.block_lt_of_cell? w _ x8)).trans x8
      replace x9 := (HB.out.cell (World.block_lt_of_cell? w _ x9)).trans x9
      replace x10 := (HB.out.cell (World.block_lt_of_cell? w _ x10)).trans x10
      replace x11 := (HB.out.cell (World.block_lt_of_cell? w _ x11)).trans x11
      replace x12 := (HB.out.cell (World.block_lt_of_cell? w _ x12)).trans x12
      replace x13 := (HB.out.cell (World.block_lt_of_cell? w _ x13)).trans x13
      replace x14 := (HB.out.cell (World.block_lt_of_cell? w _ x14)).trans x14
      have hy : rd_E l (k : Int) = l[k] := by unfold rd_E; rw [Int.toNat_natCast, List.getD_eq_getElem?_getD, List.getElem?_eq_getElem hlt]; rfl
      rw [Int.toNat_natCast, hy] at x0 x1 x2 x3 x4 x5 x6 x7 x8 x9 x10 x11 x12 x13 x14
      have HS := Aside0.mk (show (l.take (k + 1)).map (·.f0) = (l.take k).map (·.f0) ++ [l[k].f0] by rw [List.take_succ_eq_append_getElem hlt, List.map_append]; rfl)
      generalize l[k] = y at x0 x1 x2 x3 x4 x5 x6 x7 x8 x9 x10 x11 x12 x13 x14 HS
      have HLEN : Aside0 ((((l.take k).map (·.f0)).length + 1) * 8 ≤ 140737488355328) := ⟨by rw [List.length_map, List.length_take]; omega⟩
      generalize (l.take k).map (·.f0) = ys at HR HS HLEN
      have b0 : (wr.alloc (.cells #[.int .i64 y.f0, .int .i64 y.s.f0, .int .i64 y.s.f1, .int .i64 y.s.f2, .int .i64 y.s.f3, .int .u64 y.s.f4, .slice y.A5 y.s.f5.length y.c5, .slice y.A6 y.s.f6.length y.c6, .slice y.A7 y.s.f7.length y.c7, .slice y.A8 y.s.f8.length y.c8, .slice y.A9 y.s.f9.length y.c9, .string y.s.f10.f0, .slice y.A11 y.s.f10.f1.length y.c11, .int .u64 y.s.f10.f2, .slice y.A13 y.s.f10.f3.length y.c13] 64)).cell? ⟨wr.heap.size, 0, none⟩ = some (.int .i64 y.f0) := by rw [World.cell?_alloc_new]; rfl
      have HRA := Aside0.mk (Kd.R_alloc HR.out (.cells #[.int .i64 y.f0, .int .i64 y.s.f0, .int .i64 y.s.f1, .int .i64 y.s.f2, .int .i64 y.s.f3, .int .u64 y.s.f4, .slice y.A5 y.s.f5.length y.c5, .slice y.A6 y.s.f6.length y.c6, .slice y.A7 y.s.f7.length y.c7, .slice y.A8 y.s.f8.length y.c8, .slice y.A9 y.s.f9.length y.c9, .string y.s.f10.f0, .slice y.A11 y.s.f10.f1.length y.c11, .int .u64 y.s.f10.f2, .slice y.A13 y.s.f10.f3.length y.c13] 64))
      have HBA := Aside0.mk (below_alloc HB.out (.cells #[.int .i64 y.f0, .int .i64 y.s.f0, .int .i64 y.s.f1, .int .i64 y.s.f2, .int .i64 y.s.f3, .int .u64 y.s.f4, .slice y.A5 y.s.f5.length y.c5, .slice y.A6 y.s.f6.length y.c6, .slice y.A7 y.s.f7.length y.c7, .slice y.A8 y.s.f8.length y.c8, .slice y.A9 y.s.f9.length y.c9, .string y.s.f10.f0, .slice y.A11 y.s.f10.f1.length y.c11, .int .u64 y.s.f10.f2, .slice y.A13 y.s.f10.f3.length y.c13] 64))
      have hwk : IntKind.i64.wrap ((k : Int) + 1) = (k : Int) + 1 := by rw [IntKind.wrap_i64]; omega
      have HLT := Aside0.mk hlt
      clear hy HR HB hlt hk
      go_upto_region 5 with (fail)
      generalize wr.alloc (.cells #[.int .i64 y.f0, .int .i64 y.s.f0, .int .i64 y.s.f1, .int .i64 y.s.f2, .int .i64 y.s.f3, .int .u64 y.s.f4, .slice y.A5 y.s.f5.length y.c5, .slice y.A6 y.s.f6.length y.c6, .slice y.A7 y.s.f7.length y.c7, .slice y.A8 y.s.f8.length y.c8, .slice y.A9 y.s.f9.length y.c9, .string y.s.f10.f0, .slice y.A11 y.s.f10.f1.length y.c11, .int .u64 y.s.f10.f2, .slice y.A13 y.s.f10.f3.length y.c13] 64) = w2 at b0 HRA HBA ⊢
      go_wp2_with (first | ((with_reducible refine gate_builtin (b := .append) (xs := #[.tmp 15, .tmp 18]) rfl ?_); at_builtin; refine Kd.R_append (Kd.int .i64) (w0 := w) w.heap.size rfl (.tmp 15) (.tmp 18) 34 3 (.int .i64 0) 8 rfl Try.underlying34 info3 rfl (by decide) (by decide) u3 ys y.f0 [.int .i64 y.f0] (fun _ => True) (fun _ => False) rfl rfl rfl (fun _ hk => hk.elim) (fun _ _ => trivial) HRA.out HBA.out HBA.out.size HLEN.out ?_; intro v1 w1 ho hb hg hat; have HR1 := Aside0.mk ho; have HB1 := Aside0.mk hb; clear ho hb hg hat HRA HBA))
      go_roundw
      case rel => exact ⟨k + 1, by go_num, HLT.out, ⟨by rw [HS.out]; exact HR1.out⟩, HB1⟩
      case measure => have := HLT.out; simp [intOf]; omega
    · have hn4 : ¬ ((k : Int) < (l.length : Int)) := by omega
      have he : l.take k = l := List.take_of_length_le (by omega)
      rw [he] at HR
      go_wp2
      go_ret
      exact ⟨_, rfl, HR.out, HB.out⟩
end Go.Proofs.Ythadibmgahlpfaa.MD
