/- The keeper's New, find, Caps and Cut. -/
import Derived.Test.YthadibmgahlpfaaKKeep
import Derived.Laws.ResultCell
import Derived.Laws.Tables
section
namespace Go.Proofs.Ythadibmgahlpfaa.MD
open Go Go.RowKit Go.Proofs Go.Proofs.YthadibmgahlpfaaW.PrintWords Go.Proofs.YthadibmgahlpfaaW.PrintLast Go.Proofs.YthadibmgahlpfaaW.PrintMore
set_option linter.unusedVariables false
set_option linter.unusedSimpArgs false
/-- The walk halts at it. -/
structure Hold (p : Prop) : Prop where
  out : p
theorem R_move {w W : World} {base : Nat} {v : Value} {l : List E} (h : Kd.R kE 64 w base (fun _ => True) v l) (hk : ∀ k, v.ownBlock = some k → W.heap[k]? = w.heap[k]?) : Kd.R kE 64 W base (fun _ => True) v l := by
  rcases (own_of_R h).2 with ⟨rfl, hl⟩ | ⟨g, cap, cur, rfl, hbg, hg, hr⟩
  · obtain rfl : l = [] := List.length_eq_zero_iff.1 hl
    exact Kd.R_nil _ _ _ _ _
  · exact R_of_ownE ⟨cellsE_length _, .inr ⟨g, cap, cur, rfl, hbg, (hk g rfl).trans hg, hr⟩⟩
theorem find_any (base : Nat) (ot : Nat → Prop) (w : World) (B : Nat) (ev mo : Int) (l : List E) (t : Int) (h : Keep base ot w B ev mo l) (hr : Rising l) (hl : l.length ≤ 1000) :
    Calls Try.prog 17 #[.pointer (some ⟨B, 0, none⟩), .int .i64 t] w fun e w' => ∃ (i : Nat) (b : Bool), e = .returned (.tuple #[.int .i64 i, .bool b]) ∧ Found l t i b ∧ Below w.heap.size w w' := by
  obtain ⟨v, h1, h2, h3, h4, h5, h6, h7⟩ := h.out
  obtain ⟨A, c, rfl⟩ := Kd.R_slice h3
  have k2 : w.cell? ⟨B, 2, none⟩ = some (.slice A l.length c) := blk_cell h1 2
  have hq := Kd.R_reads' h3
  have HS := Aside0.mk (search_any A c l t w hq.2.2 hq.2.1 hl (Rising.mono hr))
  clear h1 h2 h3 h4 h5 h6 h7 hq h hr
  go_enter Try.func17, Try.ntmps17
  go_wp2_with (go_at_call 24; refine Hold.out ?_)
  refine ⟨?_⟩
  refine HS.out.mono ?_
  rintro e w1 ⟨i, b, rfl, hF, hb⟩
  have HF := Aside0.mk (And.intro hF hb)
  clear hF hb HS k2
  go_wp2
  go_ret2
  exact ⟨i, b, rfl, HF.out.1, HF.out.2⟩
theorem caps_any (base : Nat) (ot : Nat → Prop) (w : World) (B : Nat) (ev mo : Int) (l : List E) (h : Keep base ot w B ev mo l) :
    Calls Try.prog 16 #[.pointer (some ⟨B, 0, none⟩)] w fun e w' => e = .returned (.tuple #[.int .i64 ev, .int .i64 mo]) ∧ Below w.heap.size w w' := by
  obtain ⟨v, h1, _⟩ := h.out
  have k0 : w.cell? ⟨B, 0, none⟩ = some (.int .i64 ev) := blk_cell h1 0
  have k1 : w.cell? ⟨B, 1, none⟩ = some (.int .i64 mo) := blk_cell h1 1
  clear h1 h
  go_enter Try.func16, Try.ntmps16
  go_wp2
  repeat (go_quiet (fail); try go_wp2)
  go_ret2
  exact ⟨rfl, pw_below_drewN (Below.refl _ _) _⟩
theorem new_bad (w : World) (ev mo : Int) (h : ev < 1 ∨ ev > 64 ∨ mo < 1 ∨ mo > 64) : Calls Try.prog 6 #[.int .i64 ev, .int .i64 mo] w fun e w' => e = .returned (.tuple #[.pointer none, .int .i64 10]) ∧ Below w.heap.size w w' := by
  by_cases h1 : ev < 1
  · go_enter Try.func6, Try.ntmps6
    go_wp2
    go_ret2
    exact ⟨rfl, Below.refl _ _⟩
  · by_cases h2 : ev > 64
    · go_enter Try.func6, Try.ntmps6
      go_wp2
      go_ret2
      exact ⟨rfl, Below.refl _ _⟩
    · by_cases h3 : mo < 1
      · go_enter Try.func6, Try.ntmps6
        go_wp2
        go_ret2
        exact ⟨rfl, Below.refl _ _⟩
      · have h4 : mo > 64 := by omega
        go_enter Try.func6, Try.ntmps6
        go_wp2
        go_ret2
        exact ⟨rfl, Below.refl _ _⟩
theorem new_any (base : Nat) (w : World) (ev mo : Int) (hbase : base ≤ w.heap.size) (h1 : 1 ≤ ev) (h2 : ev ≤ 64) (h3 : 1 ≤ mo) (h4 : mo ≤ 64) : Calls Try.prog 6 #[.int .i64 ev, .int .i64 mo] w fun e w' => ∃ B : Nat, e = .returned (.tuple #[.pointer (some ⟨B, 0, none⟩), .int .i64 0]) ∧ Keep base (fun _ => False) w' B ev mo [] ∧ Below w.heap.size w w' := by
  have n1 : ¬ (ev < 1) := by omega
  have n2 : ¬ (ev > 64) := by omega
  have n3 : ¬ (mo < 1) := by omega
  have n4 : ¬ (mo > 64) := by omega
  have HB := Aside0.mk ((Below.refl w.heap.size w).alloc (Nat.le_refl _) (.cells #[.int .i64 ev, .int .i64 mo, .slice none 0 0] 59))
  have HK : Aside0 (Keep base (fun _ => False) (w.alloc (.cells #[.int .i64 ev, .int .i64 mo, .slice none 0 0] 59)) w.heap.size ev mo []) := ⟨⟨_, blk_new w _, hbase, Kd.R_nil _ _ _ _ _, by simp [Value.ownBlock], fun k hk => by simp [Value.ownBlock] at hk, fun k hk => hk.elim, fun x hx => by cases hx⟩⟩
  clear h1 h2 h3 h4 hbase
  go_enter Try.func6, Try.ntmps6
  go_wp2
  go_ret2
  exact ⟨w.heap.size, rfl, HK.out, HB.out⟩
set_option maxHeartbeats 4000000 in
set_option maxRecDepth 100000 in
theorem cut_any (base : Nat) (ot : Nat → Prop) (w : World) (B : Nat) (ev mo : Int) (l : List E) (t : Int) (h : Keep base ot w B ev mo l) (hl : l.length ≤ 1000) (hbase : base ≤ w.heap.size) :
    Calls Try.prog 13 #[.pointer (some ⟨B, 0, none⟩), .int .i64 t] w fun e w' => e = .returned (.tuple #[]) ∧ Keep base ot w' B ev mo (l.filter (fun x => !isG t x)) ∧ Beside w w' ∧ Below base w w' := by
  have hk := h.below ((Below.refl w.heap.size w).alloc (Nat.le_refl _) (.cells #[.int .i64 t] 3))
  have hbs : Beside w (w.alloc (.cells #[.int .i64 t] 3)) := Beside.of_below ((Below.refl w.heap.size w).alloc (Nat.le_refl _) _)
  have hbb : Below base w (w.alloc (.cells #[.int .i64 t] 3)) := (Below.refl base w).alloc hbase _
  have kb : (w.alloc (.cells #[.int .i64 t] 3)).cell? ⟨w.heap.size, 0, none⟩ = some (.int .i64 t) := by rw [World.cell?_alloc_new]; rfl
  have hlt := h.lt
  obtain ⟨v, h1, h2, h3, h4, h5, h6, h7⟩ := hk.out
  have hne : v.ownBlock ≠ some w.heap.size := fun e => by
    rcases (own_of_R h3).2 with ⟨rfl, _⟩ | ⟨g, cap, cur, rfl, hbg, hg, _⟩
    · simp [Value.ownBlock] at e
    · have hg2 : g = w.heap.size := by simpa [Value.ownBlock] using e
      rw [hg2] at hg
      have hn := blk_new w (.cells #[.int .i64 t] 3)
      rw [hg] at hn
      injection hn with hn
      injection hn with _ hn
      cases hn
  obtain ⟨A, c, rfl⟩ := Kd.R_slice h3
  have k2 : (w.alloc (.cells #[.int .i64 t] 3)).cell? ⟨B, 2, none⟩ = some (.slice A l.length c) := blk_cell h1 2
  have hs2 : base ≤ (w.alloc (.cells #[.int .i64 t] 3)).heap.size := by rw [World.size_alloc]; omega
  have HD := Aside0.mk (delf_any base _ l t w.heap.size _ h3 hl hs2 kb hne)
  have HK := Aside0.mk (And.intro h1 (And.intro h2 (And.intro h3 (And.intro h4 (And.intro h5 (And.intro h6 h7))))))
  have HBS := Aside0.mk (And.intro hbs hbb)
  have HLT := Aside0.mk hlt
  clear h1 h2 h3 h4 h5 h6 h7 hk hbs hbb kb hne h hs2 hlt
  go_enter Try.func13, Try.ntmps13
  go_wp2_with (go_at_call 21; refine Hold.out ?_)
  refine ⟨?_⟩
  clear k2
  refine HD.out.mono ?_
  rintro e w1 ⟨v', rfl, hR, hA⟩
  clear HD
  generalize w.alloc (.cells #[.int .i64 t] 3) = w0 at HK HBS hA
  obtain ⟨h1, h2, h3, h4, h5, h6, h7⟩ := HK.out
  have h1' : w1.heap[B]? = some (.cells #[.int .i64 ev, .int .i64 mo, .slice A l.length c] 59 (0, 0)) := (hA.1.block B (blk_lt h1) (fun e => h4 e.symm)).trans h1
  have k0 : w1.cell? ⟨B, 2, none⟩ = some (.slice A l.length c) := blk_cell h1' 2
  have z0 : w1.frozen? ⟨B, 2, none⟩ = false := blk_frozen h1' 2
  have hvB : v'.ownBlock ≠ some B := fun e => by
    rcases hA.2 with g1 | ⟨b, g1, g2⟩
    · exact h4 (g1.symm.trans e)
    · have g3 := blk_lt h1
      rw [g1] at e
      injection e with e
      omega
  have hR2 : Kd.R kE 64 (w1.setCell ⟨B, 2, none⟩ v') base (fun _ => True) v' (l.filter (fun x => !isG t x)) := R_move hR (fun k hk => Below.heap_setCell w1 ⟨B, 2, none⟩ v' k (fun e => hvB (by rw [hk, e])))
  have HF : Aside0 (Keep base ot (w1.setCell ⟨B, 2, none⟩ v') B ev mo (l.filter (fun x => !isG t x))) := ⟨⟨v', blk_put (cs' := #[.int .i64 ev, .int .i64 mo, v']) h1' 2 v' rfl, h2, hR2, hvB, fun k hk ho => by
      rcases hA.2 with g1 | ⟨b, g1, g2⟩
      · exact h5 k (g1.symm.trans hk) ho
      · rw [g1] at hk
        injection hk with hk
        have := (h6 k ho).1
        omega, fun k hk => ⟨by rw [World.size_setCell]; exact Nat.lt_of_lt_of_le (h6 k hk).1 hA.1.size, (h6 k hk).2⟩, fun x hx W hW => h7 x (List.mem_filter.1 hx).1 W (fun k k1 k2 k3 k4 k5 => by
        have k6 : some k ≠ v'.ownBlock := fun e => by
          rcases hA.2 with g1 | ⟨b, g1, g2⟩
          · exact k3 (e.trans g1)
          · rw [g1] at e
            injection e with e
            omega
        refine (hW k k1 k2 k6 k4 (by rw [World.size_setCell]; exact Nat.lt_of_lt_of_le k5 hA.1.size)).trans ?_
        exact (Below.heap_setCell w1 ⟨B, 2, none⟩ v' k k2).trans (hA.1.block k k5 k3))⟩⟩
  have HG : Aside0 (Beside w (w1.setCell ⟨B, 2, none⟩ v')) := ⟨HBS.out.1.trans ((Beside.grown h3 hA.1).trans (Beside.cell59 h1' 2 v'))⟩
  have HW : Aside0 (Below base w (w1.setCell ⟨B, 2, none⟩ v')) := ⟨(HBS.out.2.grown hA.1 (Nat.le_trans hbase HBS.out.2.size) (fun k hk => Kd.R_base h3 k hk)).setCell (p := ⟨B, 2, none⟩) h2 v'⟩
  obtain ⟨A2, c2, hv⟩ := Kd.R_slice hR
  clear h1 h2 h3 h4 h5 h6 h7 h1' hvB hR2 hR hA HK HBS
  generalize (l.filter (fun x => !isG t x)).length = n2 at hv
  subst hv
  go_wp2
  go_end0
  exact ⟨rfl, HF.out, HG.out, HW.out⟩
end Go.Proofs.Ythadibmgahlpfaa.MD
end
section
namespace Go.Proofs.Ythadibmgahlpfaa.MD
open Go Go.RowKit Go.Proofs Go.Proofs.YthadibmgahlpfaaW.PrintWords Go.Proofs.YthadibmgahlpfaaW.PrintLast Go.Proofs.YthadibmgahlpfaaW.PrintMore
set_option linter.unusedVariables false
set_option linter.unusedSimpArgs false
set_option maxHeartbeats 4000000 in
set_option maxRecDepth 100000 in
theorem ats_any (base : Nat) (ot : Nat → Prop) (w : World) (B : Nat) (ev mo : Int) (l : List E) (h : Keep base ot w B ev mo l) (hl : l.length ≤ 1000) :
    Calls Try.prog 8 #[.pointer (some ⟨B, 0, none⟩)] w fun e w' => ∃ v, e = .returned v ∧ Kd.R (Kd.int .i64) 3 w' w.heap.size (fun _ => True) v (l.map (·.f0)) ∧ Below w.heap.size w w' := by
  obtain ⟨v, h1, h2, h3, h4, h5, h6, h7⟩ := h.out
  obtain ⟨A, c, rfl⟩ := Kd.R_slice h3
  have k2 : w.cell? ⟨B, 2, none⟩ = some (.slice A l.length c) := blk_cell h1 2
  have hq := Kd.R_reads' h3
  have HC := Aside0.mk (And.intro hq.2.1 hq.2.2)
  have HB := Aside0.mk (Below.refl w.heap.size w)
  have hu64 := Try.underlying64
  clear h1 h2 h3 h4 h5 h6 h7 hq h
  go_enter Try.func8, Try.ntmps8
  go_wp2
  go_loopw [3, 11] (fun v3 v11 wr => ∃ k : Nat, v11 = .int .i64 k ∧ k ≤ l.length ∧ Aside0 (Kd.R (Kd.int .i64) 3 wr w.heap.size (fun _ => True) v3 ((l.take k).map (·.f0))) ∧ Aside0 (Below w.heap.size w wr)) (fun _ v11 _ => l.length - (intOf v11).toNat)
  case atStart => exact ⟨0, rfl, Nat.zero_le _, ⟨Kd.R_nil _ _ _ _ _⟩, HB⟩
  case round =>
    clear HB k2
    obtain ⟨k, rfl, hk, HR, HB⟩ := hrel
    by_cases hlt : k < l.length
    · have hn4 : (k : Int) < (l.length : Int) := by omega
      have p : (0 : Int) ≤ (k : Int) := Int.natCast_nonneg _
      obtain ⟨ad, rfl, x0, x1, x2, x3, x4, x5, x6, x7, x8, x9, x10, x11, x12, x13, x14⟩ := at_E HC.out.2 _ p hn4
      replace x0 := (HB.out.cell (World.block_lt_of_cell? w _ x0)).trans x0
      replace x1 := (HB.out.cell (World.block_lt_of_cell? w _ x1)).trans x1
      replace x2 := (HB.out.cell (World.block_lt_of_cell? w _ x2)).trans x2
      replace x3 := (HB.out.cell (World.block_lt_of_cell? w _ x3)).trans x3
      replace x4 := (HB.out.cell (World.block_lt_of_cell? w _ x4)).trans x4
      replace x5 := (HB.out.cell (World.block_lt_of_cell? w _ x5)).trans x5
      replace x6 := (HB.out.cell (World.block_lt_of_cell? w _ x6)).trans x6
      replace x7 := (HB.out.cell (World.block_lt_of_cell? w _ x7)).trans x7
      replace x8 := (HB.out.cell (World.block_lt_of_cell? w _ x8)).trans x8
      replace x9 := (HB.out.cell (World.block_lt_of_cell? w _ x9)).trans x9
      replace x10 := (HB.out.cell (World.block_lt_of_cell? w _ x10)).trans x10
      replace x11 := (HB.out.cell (World.block_lt_of_cell? w _ x11)).trans x11
      replace x12 := (HB.out.cell (World.block_lt_of_cell? w _ x12)).trans x12
      replace x13 := (HB.out.cell (World.block_lt_of_cell? w _ x13)).trans x13
      replace x14 := (HB.out.cell (World.block_lt_of_cell? w _ x14)).trans x14
      have hy : rd_E l (k : Int) = l[k] := by unfold rd_E; rw [Int.toNat_natCast, List.getD_eq_getElem?_getD, List.getElem?_eq_getElem hlt]; rfl
      rw [Int.toNat_natCast, hy] at x0 x1 x2 x3 x4 x5 x6 x7 x8 x9 x10 x11 x12 x13 x14
      have HS := Aside0.mk (show (l.take (k + 1)).map (·.f0) = (l.take k).map (·.f0) ++ [l[k].f0] by rw [List.take_succ_eq_append_getElem hlt, List.map_append]; rfl)
      generalize l[k] = y at x0 x1 x2 x3 x4 x5 x6 x7 x8 x9 x10 x11 x12 x13 x14 HS
      have HLEN : Aside0 ((((l.take k).map (·.f0)).length + 1) * 8 ≤ 140737488355328) := ⟨by rw [List.length_map, List.length_take]; omega⟩
      generalize (l.take k).map (·.f0) = ys at HR HS HLEN
      have b0 : (wr.alloc (.cells #[.int .i64 y.f0, .int .i64 y.s.f0, .int .i64 y.s.f1, .int .i64 y.s.f2, .int .i64 y.s.f3, .int .u64 y.s.f4, .slice y.A5 y.s.f5.length y.c5, .slice y.A6 y.s.f6.length y.c6, .slice y.A7 y.s.f7.length y.c7, .slice y.A8 y.s.f8.length y.c8, .slice y.A9 y.s.f9.length y.c9, .string y.s.f10.f0, .slice y.A11 y.s.f10.f1.length y.c11, .int .u64 y.s.f10.f2, .slice y.A13 y.s.f10.f3.length y.c13] 64)).cell? ⟨wr.heap.size, 0, none⟩ = some (.int .i64 y.f0) := by rw [World.cell?_alloc_new]; rfl
      have HRA := Aside0.mk (Kd.R_alloc HR.out (.cells #[.int .i64 y.f0, .int .i64 y.s.f0, .int .i64 y.s.f1, .int .i64 y.s.f2, .int .i64 y.s.f3, .int .u64 y.s.f4, .slice y.A5 y.s.f5.length y.c5, .slice y.A6 y.s.f6.length y.c6, .slice y.A7 y.s.f7.length y.c7, .slice y.A8 y.s.f8.length y.c8, .slice y.A9 y.s.f9.length y.c9, .string y.s.f10.f0, .slice y.A11 y.s.f10.f1.length y.c11, .int .u64 y.s.f10.f2, .slice y.A13 y.s.f10.f3.length y.c13] 64))
      have HBA := Aside0.mk (below_alloc HB.out (.cells #[.int .i64 y.f0, .int .i64 y.s.f0, .int .i64 y.s.f1, .int .i64 y.s.f2, .int .i64 y.s.f3, .int .u64 y.s.f4, .slice y.A5 y.s.f5.length y.c5, .slice y.A6 y.s.f6.length y.c6, .slice y.A7 y.s.f7.length y.c7, .slice y.A8 y.s.f8.length y.c8, .slice y.A9 y.s.f9.length y.c9, .string y.s.f10.f0, .slice y.A11 y.s.f10.f1.length y.c11, .int .u64 y.s.f10.f2, .slice y.A13 y.s.f10.f3.length y.c13] 64))
      have hwk : IntKind.i64.wrap ((k : Int) + 1) = (k : Int) + 1 := by rw [IntKind.wrap_i64]; omega
      have HLT := Aside0.mk hlt
      clear hy HR HB hlt hk
      go_upto_region 5 with (fail)
      generalize wr.alloc (.cells #[.int .i64 y.f0, .int .i64 y.s.f0, .int .i64 y.s.f1, .int .i64 y.s.f2, .int .i64 y.s.f3, .int .u64 y.s.f4, .slice y.A5 y.s.f5.length y.c5, .slice y.A6 y.s.f6.length y.c6, .slice y.A7 y.s.f7.length y.c7, .slice y.A8 y.s.f8.length y.c8, .slice y.A9 y.s.f9.length y.c9, .string y.s.f10.f0, .slice y.A11 y.s.f10.f1.length y.c11, .int .u64 y.s.f10.f2, .slice y.A13 y.s.f10.f3.length y.c13] 64) = w2 at b0 HRA HBA ⊢
      go_wp2_with (first | ((with_reducible refine gate_builtin (b := .append) (xs := #[.tmp 15, .tmp 18]) rfl ?_); at_builtin; refine Kd.R_append (Kd.int .i64) (w0 := w) w.heap.size rfl (.tmp 15) (.tmp 18) 34 3 (.int .i64 0) 8 rfl Try.underlying34 info3 rfl (by decide) (by decide) u3 ys y.f0 [.int .i64 y.f0] (fun _ => True) (fun _ => False) rfl rfl rfl (fun _ hk => hk.elim) (fun _ _ => trivial) HRA.out HBA.out HBA.out.size HLEN.out ?_; intro v1 w1 ho hb hg hat; have HR1 := Aside0.mk ho; have HB1 := Aside0.mk hb; clear ho hb hg hat HRA HBA))
      go_roundw
      case rel => exact ⟨k + 1, by go_num, HLT.out, ⟨by rw [HS.out]; exact HR1.out⟩, HB1⟩
      case measure => have := HLT.out; simp [intOf]; omega
    · have hn4 : ¬ ((k : Int) < (l.length : Int)) := by omega
      have he : l.take k = l := List.take_of_length_le (by omega)
      rw [he] at HR
      go_wp2
      go_ret
      exact ⟨_, rfl, HR.out, HB.out⟩
end Go.Proofs.Ythadibmgahlpfaa.MD
end
