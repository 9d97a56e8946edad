/- The law's anchor. -/
import Derived.Test.YthadibmgahlpfaaKPure
import Derived.Test.YthadibmgahlpfaaKMeth
import Derived.LoopN
namespace Go.Proofs.Ythadibmgahlpfaa.MD
open Go Go.RowKit Go.Proofs Go.Proofs.YthadibmgahlpfaaW.PrintWords Go.Proofs.YthadibmgahlpfaaW.PrintLast Go.Proofs.YthadibmgahlpfaaW.PrintMore
set_option linter.unusedVariables false
set_option linter.unusedSimpArgs false

theorem Mk.note {e m k : Nat} {l l' : List E} {r : Bool} (h : Mk e m k l) (he : 1 ≤ e) (hm : 1 ≤ m) (hN : NoteP l (e : Int) (m : Int) (k : Int) (mS k) r l') : Mk e m (k + 1) l' ∧ r = decide (k % e = 0) := by
  refine ⟨h.step he hm hN, ?_⟩
  obtain ⟨i, b, hF, hc⟩ := hN.out
  obtain ⟨rfl, rfl⟩ := h.last he hF
  have hmod : ((k : Int) % (e : Int)) = ((k % e : Nat) : Int) := (Int.natCast_emod k e).symm
  rcases hc with ⟨h1, rfl, rfl⟩ | ⟨⟨_, _, h0⟩, x, hx0, hx1, hr⟩
  · have hk : k % e ≠ 0 := by
      rcases h1 with h1 | h1 | h1
      · cases h1
      · omega
      · rw [hmod] at h1; omega
    exact (decide_eq_false hk).symm
  · rw [hmod] at h0
    rcases hr with ⟨h1, _, rfl⟩ | ⟨_, _, rfl⟩
    · rw [decide_eq_true (show 0 < l.length by omega), decide_eq_true (show k % e = 0 by omega)]
    · rw [decide_eq_true (show k % e = 0 by omega)]
theorem Mk.skip {e m k : Nat} {l : List E} (h : Mk e m k l) (hk : cnt e (k + 1) = cnt e k) : Mk e m (k + 1) l := ⟨by rw [hk]; exact h.ats, h.snaps⟩
set_option maxHeartbeats 8000000 in
set_option maxRecDepth 100000 in
theorem anchor_any (w : World) : Calls Try.prog 5 #[] w fun e w' => e = .returned (.bool true) ∧ Below w.heap.size w w' := by
  have HR0 := Aside0.mk (Below.refl w.heap.size w)
  go_enter Try.func5, Try.ntmps5
  go_wp2_with (go_at_call 6; refine Hold.out ?_)
  refine ⟨?_⟩
  refine (new_any w.heap.size w 2 2 (Nat.le_refl _) (by decide) (by decide) (by decide) (by decide)).mono ?_
  rintro e w1 ⟨B, rfl, hK, hb⟩
  have HK := Aside0.mk hK
  have HB := Aside0.mk hb
  have HM : Aside0 (Mk 2 2 0 []) := ⟨Mk.zero 2 2 (by decide)⟩
  clear hK hb HR0
  go_wp2
  have hb := (Below.refl w1.heap.size w1).alloc (Nat.le_refl _) (.cells #[.int .i64 0, .int .i64 1, .int .i64 2, .int .i64 4] 3)
  have BL := Aside0.mk (blk_new w1 (.cells #[.int .i64 0, .int .i64 1, .int .i64 2, .int .i64 4] 3))
  replace HK := Aside0.mk (HK.out.below hb)
  replace HB := Aside0.mk (HB.out.trans (hb.mono HB.out.size))
  clear hb
  obtain ⟨g, hg⟩ : ∃ z : Nat, z = w1.heap.size := ⟨_, rfl⟩
  rw [← hg] at BL ⊢
  clear hg
  generalize w1.alloc (.cells #[.int .i64 0, .int .i64 1, .int .i64 2, .int .i64 4] 3) = u0 at HK HB BL ⊢
  obtain ⟨l0, hl0⟩ : ∃ z : List E, z = [] := ⟨_, rfl⟩
  rw [← hl0] at HK HM
  clear hl0
  refine wp_loop_rounds 5 ?_
  rw [rounds_succ]
  have c0 : u0.cell? ⟨g, 0, none⟩ = some (.int .i64 0) := blk_cell BL.out 0
  go_wp2_with (go_at_call 7; refine Hold.out ?_)
  refine ⟨?_⟩
  refine (note_any w.heap.size _ u0 B 2 2 l0 0 _ (mS 0) HK.out (HM.out.rising (by decide)) (by have := HM.out.len; omega) (by decide) (by decide) (snap_mS _ _) (by decide) HB.out.size).mono ?_
  rintro e u1 ⟨r, l1, rfl, hP, hK2, hBs, hBl⟩
  obtain rfl : r = true := (HM.out.note (k := 0) (by decide) (by decide) hP).2.trans (by decide)
  replace HM := Aside0.mk (HM.out.note (k := 0) (by decide) (by decide) hP).1
  replace HK := Aside0.mk hK2
  replace HB := Aside0.mk (HB.out.trans hBl)
  replace BL := Aside0.mk (hBs.get BL.out (by decide) (by decide))
  clear hP hK2 hBs hBl c0
  go_wp2
  rw [rounds_succ]
  have c0 : u1.cell? ⟨g, 1, none⟩ = some (.int .i64 1) := blk_cell BL.out 1
  go_wp2_with (go_at_call 7; refine Hold.out ?_)
  refine ⟨?_⟩
  refine (note_any w.heap.size _ u1 B 2 2 l1 1 _ (mS 1) HK.out (HM.out.rising (by decide)) (by have := HM.out.len; omega) (by decide) (by decide) (snap_mS _ _) (by decide) HB.out.size).mono ?_
  rintro e u2 ⟨r, l2, rfl, hP, hK2, hBs, hBl⟩
  obtain rfl : r = false := (HM.out.note (k := 1) (by decide) (by decide) hP).2.trans (by decide)
  replace HM := Aside0.mk (HM.out.note (k := 1) (by decide) (by decide) hP).1
  replace HK := Aside0.mk hK2
  replace HB := Aside0.mk (HB.out.trans hBl)
  replace BL := Aside0.mk (hBs.get BL.out (by decide) (by decide))
  clear hP hK2 hBs hBl c0
  go_wp2
  rw [rounds_succ]
  have c0 : u2.cell? ⟨g, 2, none⟩ = some (.int .i64 2) := blk_cell BL.out 2
  go_wp2_with (go_at_call 7; refine Hold.out ?_)
  refine ⟨?_⟩
  refine (note_any w.heap.size _ u2 B 2 2 l2 2 _ (mS 2) HK.out (HM.out.rising (by decide)) (by have := HM.out.len; omega) (by decide) (by decide) (snap_mS _ _) (by decide) HB.out.size).mono ?_
  rintro e u3 ⟨r, l3, rfl, hP, hK2, hBs, hBl⟩
  obtain rfl : r = true := (HM.out.note (k := 2) (by decide) (by decide) hP).2.trans (by decide)
  replace HM := Aside0.mk (HM.out.note (k := 2) (by decide) (by decide) hP).1
  replace HM := Aside0.mk (HM.out.skip (by decide))
  replace HK := Aside0.mk hK2
  replace HB := Aside0.mk (HB.out.trans hBl)
  replace BL := Aside0.mk (hBs.get BL.out (by decide) (by decide))
  clear hP hK2 hBs hBl c0
  go_wp2
  rw [rounds_succ]
  have c0 : u3.cell? ⟨g, 3, none⟩ = some (.int .i64 4) := blk_cell BL.out 3
  go_wp2_with (go_at_call 7; refine Hold.out ?_)
  refine ⟨?_⟩
  refine (note_any w.heap.size _ u3 B 2 2 l3 4 _ (mS 4) HK.out (HM.out.rising (by decide)) (by have := HM.out.len; omega) (by decide) (by decide) (snap_mS _ _) (by decide) HB.out.size).mono ?_
  rintro e u4 ⟨r, l4, rfl, hP, hK2, hBs, hBl⟩
  obtain rfl : r = true := (HM.out.note (k := 4) (by decide) (by decide) hP).2.trans (by decide)
  replace HM := Aside0.mk (HM.out.note (k := 4) (by decide) (by decide) hP).1
  replace HK := Aside0.mk hK2
  replace HB := Aside0.mk (HB.out.trans hBl)
  replace BL := Aside0.mk (hBs.get BL.out (by decide) (by decide))
  clear hP hK2 hBs hBl c0
  go_wp2
  rw [rounds_succ]
  go_wp2_with (go_at_call 8; refine Hold.out ?_)
  refine ⟨?_⟩
  refine (ats_any w.heap.size _ u4 B 2 2 l4 HK.out (by have := HM.out.len; omega)).mono ?_
  rintro e w6 ⟨v, rfl, hR, hb⟩
  replace HB := Aside0.mk (HB.out.trans (hb.mono HB.out.size))
  have hats : l4.map (·.f0) = [2, 4] := HM.out.ats.trans (by decide)
  rw [hats] at hR
  obtain ⟨g2, cap, rfl, _, _, _⟩ := Kd.R_form hR (by decide)
  have hC := (Kd.R_reads' hR).2.2
  obtain ⟨ad, e0, c0⟩ := Kd.at_int hC 0 (by decide) (by decide)
  obtain ⟨ad1, e1, c1⟩ := Kd.at_int hC 1 (by decide) (by decide)
  cases e0
  cases e1
  have c0' : w6.cell? ⟨g2, 0, none⟩ = some (.int .i64 2) := c0
  have c1' : w6.cell? ⟨g2, 1, none⟩ = some (.int .i64 4) := c1
  clear c0 c1 hC hR hats hb HK HM BL
  go_wp2
  go_ret
  exact ⟨rfl, HB.out⟩
end Go.Proofs.Ythadibmgahlpfaa.MD
