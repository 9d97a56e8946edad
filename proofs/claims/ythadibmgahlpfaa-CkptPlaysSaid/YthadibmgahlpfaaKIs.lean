/- The law's is: a keeper's marks are the document's. -/
import Derived.Test.YthadibmgahlpfaaKStep
import Derived.Test.YthadibmgahlpfaaKSame
import Derived.Test.YthadibmgahlpfaaKMap
import Derived.Test.YthadibmgahlpfaaKPure
import Derived.Test.YthadibmgahlpfaaKMeth
namespace Go.Proofs.Ythadibmgahlpfaa.MD
open Go Go.RowKit Go.Proofs Go.Maps Go.Proofs.YthadibmgahlpfaaW.PrintWords Go.Proofs.YthadibmgahlpfaaW.PrintLast Go.Proofs.YthadibmgahlpfaaW.PrintMore
set_option linter.unusedVariables false
set_option linter.unusedSimpArgs false
set_option maxHeartbeats 8000000 in
set_option maxRecDepth 100000 in
theorem is_any (base : Nat) (ot : Nat → Prop) (w : World) (B : Nat) (ev mo : Int) (l : List E) (vw : Value) (L : List Int) (M : Nat) (F : Int → Int) (n : Nat) (at_ : Int) (hK : Keep base ot w B ev mo l) (hI : Ints w vw L) (hM : IMap w M F n) (hN : Inv mo l L F) (hmo : mo ≤ 64) :
    Calls Try.prog 15 #[.pointer (some ⟨B, 0, none⟩), vw, .map (some M), .int .i64 at_] w fun e w' => e = .returned (.bool true) ∧ Below w.heap.size w w' := by
  have HK := Aside0.mk hK
  have HI := Aside0.mk hI
  have HM := Aside0.mk hM
  have HN := Aside0.mk hN
  have HL : Aside0 (L.length ≤ 64) := ⟨by have := hN.len; have := hN.length; omega⟩
  have HLL : Aside0 (l.length ≤ 64) := ⟨by have := hN.len; omega⟩
  obtain ⟨A, c, rfl, hc, hC⟩ := hI.C (by have := HL.out; omega)
  have HC := Aside0.mk hC
  clear hK hI hM hN hmo hc hC
  go_enter Try.func15, Try.ntmps15
  go_wp2_with (go_at_call 8; refine Hold.out ?_)
  refine ⟨?_⟩
  refine (ats_any base ot w B ev mo l HK.out (by have := HLL.out; omega)).mono ?_
  rintro e w1 ⟨va, rfl, hR, hb⟩
  rw [HN.out.ats] at hR
  have hA := Ints.of_R hR
  obtain ⟨A2, c2, rfl, hc2, hC2⟩ := hA.C (by have := HL.out; omega)
  have HA := Aside0.mk hC2
  have HB := Aside0.mk hb
  clear hR hA hc2 hC2 hb
  go_wp2
  go_loopw [27] (fun v27 wr => ∃ i : Nat, v27 = .int .i64 (i : Int) ∧ i ≤ L.length ∧ Aside0 (Below w.heap.size w wr) ∧ Aside0 (Below w1.heap.size w1 wr)) (fun v27 _ => L.length - (intOf v27).toNat)
  case atStart => exact ⟨0, rfl, Nat.zero_le _, HB, ⟨Below.refl _ _⟩⟩
  case round =>
    clear HB
    obtain ⟨i, rfl, hi, HB, HB1⟩ := hrel
    by_cases hlt : i < L.length
    · have hn4 : (i : Int) < (L.length : Int) := by omega
      have p : (0 : Int) ≤ (i : Int) := Int.natCast_nonneg _
      obtain ⟨ad, rfl, c0⟩ := Ints.at_ (n := 0) (c := 0) HC.out i hlt
      obtain ⟨ad2, rfl, c9⟩ := Ints.at_ (n := 0) (c := 0) HA.out i hlt
      replace c0 := (HB.out.cell (World.block_lt_of_cell? w _ c0)).trans c0
      replace c9 := (HB1.out.cell (World.block_lt_of_cell? w1 _ c9)).trans c9
      have hmem : L.getD i 0 ∈ L := by rw [List.getD_eq_getElem?_getD, List.getElem?_eq_getElem hlt]; exact List.getElem_mem hlt
      obtain ⟨x, hx⟩ : ∃ z, z = L.getD i 0 := ⟨_, rfl⟩
      rw [← hx] at c0 c9 hmem
      have HMEM := Aside0.mk hmem
      have HWF := Aside0.mk (HN.out.wfs x hmem).1
      have hq : (x != x) = false := bne_self_eq_false x
      have wk : IntKind.i64.wrap ((i : Int) + 1) = (i : Int) + 1 := by have := HL.out; rw [IntKind.wrap_i64]; omega
      have HLT := Aside0.mk hlt
      clear hi hlt hmem hx
      go_wp2
      go_quiet (fail)
      replace HB := Aside0.mk (pw_below_drewN HB.out nq)
      replace HB1 := Aside0.mk (pw_below_drewN HB1.out nq)
      replace c0 : (wr.drewN nq).cell? (ad.add i) = some (.int .i64 x) := c0
      replace c9 : (wr.drewN nq).cell? (ad2.add i) = some (.int .i64 x) := c9
      generalize wr.drewN nq = wq at HB HB1 c0 c9 ⊢
      go_wp2_with (go_at_call 9; refine Hold.out ?_)
      refine ⟨?_⟩
      refine (near_any base ot _ B ev mo l x (HK.out.below HB.out) HN.out.rise (by have := HLL.out; omega) HN.out.tots).mono ?_
      rintro e w3 ⟨i2, b2, hF, hP, hb⟩
      obtain ⟨v, rfl, hS⟩ := HN.out.near_at HMEM.out hF hP
      obtain ⟨z, _, hz1, rfl, _⟩ := hS.mark 0
      replace c0 := (hb.cell (World.block_lt_of_cell? _ _ c0)).trans c0
      replace c9 := (hb.cell (World.block_lt_of_cell? _ _ c9)).trans c9
      replace HB1 := Aside0.mk (HB1.out.trans (hb.mono HB1.out.size))
      replace HB := Aside0.mk (HB.out.trans (hb.mono HB.out.size))
      have HS3 := Aside0.mk hS
      clear hF hP hb hS hz1
      go_wp2_with ((with_reducible refine gate_store (t := 38) (p := 12) (v := .tmp 47) rfl ?_); refine Hold.out ?_)
      refine ⟨?_⟩
      have BS := Aside0.mk (blk_new w3 (.cells #[.int .i64 0, .int .i64 0, .int .i64 0, .int .i64 0, .int .u64 0, .slice none 0 0, .slice none 0 0, .slice none 0 0, .slice none 0 0, .slice none 0 0, .string ⟨#[]⟩, .slice none 0 0, .int .u64 0, .slice none 0 0] 38))
      have HB3 := Aside0.mk (HB.out.alloc HB.out.size (.cells #[.int .i64 0, .int .i64 0, .int .i64 0, .int .i64 0, .int .u64 0, .slice none 0 0, .slice none 0 0, .slice none 0 0, .slice none 0 0, .slice none 0 0, .string ⟨#[]⟩, .slice none 0 0, .int .u64 0, .slice none 0 0] 38))
      have hcl := (Below.refl w3.heap.size w3).alloc (Nat.le_refl _) (.cells #[.int .i64 0, .int .i64 0, .int .i64 0, .int .i64 0, .int .u64 0, .slice none 0 0, .slice none 0 0, .slice none 0 0, .slice none 0 0, .slice none 0 0, .string ⟨#[]⟩, .slice none 0 0, .int .u64 0, .slice none 0 0] 38)
      have HG := Aside0.mk HB.out.size
      have HBW := Aside0.mk (setRow_below (g := w3.heap.size) (cs := #[.int .i64 z.s.f0, .int .i64 z.s.f1, .int .i64 z.s.f2, .int .i64 z.s.f3, .int .u64 z.s.f4, .slice z.A5 z.s.f5.length z.c5, .slice z.A6 z.s.f6.length z.c6, .slice z.A7 z.s.f7.length z.c7, .slice z.A8 z.s.f8.length z.c8, .slice z.A9 z.s.f9.length z.c9, .string z.s.f10.f0, .slice z.A11 z.s.f10.f1.length z.c11, .int .u64 z.s.f10.f2, .slice z.A13 z.s.f10.f3.length z.c13]) hcl (Nat.le_refl _))
      replace HB := Aside0.mk (setRow_below (g := w3.heap.size) (cs := #[.int .i64 z.s.f0, .int .i64 z.s.f1, .int .i64 z.s.f2, .int .i64 z.s.f3, .int .u64 z.s.f4, .slice z.A5 z.s.f5.length z.c5, .slice z.A6 z.s.f6.length z.c6, .slice z.A7 z.s.f7.length z.c7, .slice z.A8 z.s.f8.length z.c8, .slice z.A9 z.s.f9.length z.c9, .string z.s.f10.f0, .slice z.A11 z.s.f10.f1.length z.c11, .int .u64 z.s.f10.f2, .slice z.A13 z.s.f10.f3.length z.c13]) HB3.out HG.out)
      clear hcl HB3
      generalize w3.alloc (.cells #[.int .i64 0, .int .i64 0, .int .i64 0, .int .i64 0, .int .u64 0, .slice none 0 0, .slice none 0 0, .slice none 0 0, .slice none 0 0, .slice none 0 0, .string ⟨#[]⟩, .slice none 0 0, .int .u64 0, .slice none 0 0] 38) = y0 at BS HB HBW ⊢
      refine store_rowL (g := w3.heap.size) (c' := #[.int .i64 z.s.f0, .int .i64 z.s.f1, .int .i64 z.s.f2, .int .i64 z.s.f3, .int .u64 z.s.f4, .slice z.A5 z.s.f5.length z.c5, .slice z.A6 z.s.f6.length z.c6, .slice z.A7 z.s.f7.length z.c7, .slice z.A8 z.s.f8.length z.c8, .slice z.A9 z.s.f9.length z.c9, .string z.s.f10.f0, .slice z.A11 z.s.f10.f1.length z.c11, .int .u64 z.s.f10.f2, .slice z.A13 z.s.f10.f3.length z.c13]) rfl rfl rfl rfl rfl BS.out (by kernel_rfl) rfl (by kernel_rfl) ?_
      replace BS := Aside0.mk (setRow_heap y0 w3.heap.size _ (#[.int .i64 z.s.f0, .int .i64 z.s.f1, .int .i64 z.s.f2, .int .i64 z.s.f3, .int .u64 z.s.f4, .slice z.A5 z.s.f5.length z.c5, .slice z.A6 z.s.f6.length z.c6, .slice z.A7 z.s.f7.length z.c7, .slice z.A8 z.s.f8.length z.c8, .slice z.A9 z.s.f9.length z.c9, .string z.s.f10.f0, .slice z.A11 z.s.f10.f1.length z.c11, .int .u64 z.s.f10.f2, .slice z.A13 z.s.f10.f3.length z.c13]) 38 (0, 0) BS.out)
      generalize y0.setRow w3.heap.size (#[.int .i64 z.s.f0, .int .i64 z.s.f1, .int .i64 z.s.f2, .int .i64 z.s.f3, .int .u64 z.s.f4, .slice z.A5 z.s.f5.length z.c5, .slice z.A6 z.s.f6.length z.c6, .slice z.A7 z.s.f7.length z.c7, .slice z.A8 z.s.f8.length z.c8, .slice z.A9 z.s.f9.length z.c9, .string z.s.f10.f0, .slice z.A11 z.s.f10.f1.length z.c11, .int .u64 z.s.f10.f2, .slice z.A13 z.s.f10.f3.length z.c13]) = w5 at BS HB HBW ⊢
      obtain ⟨g, hg⟩ : ∃ g, g = w3.heap.size := ⟨_, rfl⟩
      rw [← hg] at BS HG ⊢
      clear hg
      replace c0 := (HBW.out.cell (World.block_lt_of_cell? _ _ c0)).trans c0
      replace c9 := (HBW.out.cell (World.block_lt_of_cell? _ _ c9)).trans c9
      have HSZ := Aside0.mk (HS3.out.below HBW.out)
      replace HB1 := Aside0.mk (HB1.out.trans (HBW.out.mono HB1.out.size))
      have HM2 := Aside0.mk (HM.out.kept (grown_of_below HB.out none) (by intro h; cases h))
      go_upto_region 10 with (fail)
      have k0 := blk_cell BS.out 0
      have k1 := blk_cell BS.out 1
      have k2 := blk_cell BS.out 2
      have k3 := blk_cell BS.out 3
      have k4 := blk_cell BS.out 4
      have k5 := blk_cell BS.out 5
      have k6 := blk_cell BS.out 6
      have k7 := blk_cell BS.out 7
      have k8 := blk_cell BS.out 8
      have k9 := blk_cell BS.out 9
      have k10 := blk_cell BS.out 10
      have k11 := blk_cell BS.out 11
      have k12 := blk_cell BS.out 12
      have k13 := blk_cell BS.out 13
      refine start_ (n := 27) (S := fun W => Below w5.heap.size w5 W) (ds := []) #[false, false, false, false, false, false, false, false, false, false, false, false, false, false, false, false, false, false, false, false, false, false, false, false, false, false, false] (by kernel_rfl) rfl rfl (below_drew1 (Below.refl _ _)) (fun hHeld => ?_)
      refine pure_ (i := 0) (N := some 49) (v := ?_) (a' := ?_) #[true, false, false, false, false, false, false, false, false, false, false, false, false, false, false, false, false, false, false, false, false, false, false, false, false, false, false] rfl rfl (by kernel_rfl) (fun _ _ _ h => h) (Or.inl ⟨by rfl, ?_⟩) ?_ ?_
      rotate_left
      · intro w'
        go_simp
        with_reducible rfl
      rotate_left
      · simp only [Act.put, List.setIfInBounds_toArray, List.set_cons_zero, List.set_cons_succ, i64_w, i32_w]
        rfl
      refine pure_ (i := 1) (N := some 50) (v := ?_) (a' := ?_) #[true, true, false, false, false, false, false, false, false, false, false, false, false, false, false, false, false, false, false, false, false, false, false, false, false, false, false] rfl rfl (by kernel_rfl) (fun _ _ _ h => h) (Or.inl ⟨by rfl, ?_⟩) ?_ ?_
      rotate_left
      · intro w'
        go_simp
        with_reducible rfl
      rotate_left
      · simp only [Act.put, List.setIfInBounds_toArray, List.set_cons_zero, List.set_cons_succ, i64_w, i32_w]
        rfl
      refine pure_ (i := 2) (N := some 51) (v := ?_) (a' := ?_) #[true, true, true, false, false, false, false, false, false, false, false, false, false, false, false, false, false, false, false, false, false, false, false, false, false, false, false] rfl rfl (by kernel_rfl) (fun _ _ _ h => h) (Or.inl ⟨by rfl, ?_⟩) ?_ ?_
      rotate_left
      · intro w'
        go_simp
        with_reducible rfl
      rotate_left
      · simp only [Act.put, List.setIfInBounds_toArray, List.set_cons_zero, List.set_cons_succ, i64_w, i32_w]
        rfl
      refine pure_ (i := 3) (N := some 52) (v := ?_) (a' := ?_) #[true, true, true, true, false, false, false, false, false, false, false, false, false, false, false, false, false, false, false, false, false, false, false, false, false, false, false] rfl rfl (by kernel_rfl) (fun _ _ _ h => h) (Or.inl ⟨by rfl, ?_⟩) ?_ ?_
      rotate_left
      · intro w'
        go_simp
        with_reducible rfl
      rotate_left
      · simp only [Act.put, List.setIfInBounds_toArray, List.set_cons_zero, List.set_cons_succ, i64_w, i32_w]
        rfl
      refine pure_ (i := 4) (N := some 53) (v := ?_) (a' := ?_) #[true, true, true, true, true, false, false, false, false, false, false, false, false, false, false, false, false, false, false, false, false, false, false, false, false, false, false] rfl rfl (by kernel_rfl) (fun _ _ _ h => h) (Or.inl ⟨by rfl, ?_⟩) ?_ ?_
      rotate_left
      · intro w'
        go_simp
        with_reducible rfl
      rotate_left
      · simp only [Act.put, List.setIfInBounds_toArray, List.set_cons_zero, List.set_cons_succ, i64_w, i32_w]
        rfl
      refine pure_ (i := 5) (N := some 54) (v := ?_) (a' := ?_) #[true, true, true, true, true, true, false, false, false, false, false, false, false, false, false, false, false, false, false, false, false, false, false, false, false, false, false] rfl rfl (by kernel_rfl) (fun _ _ _ h => h) (Or.inl ⟨by rfl, ?_⟩) ?_ ?_
      rotate_left
      · intro w'
        go_simp
        with_reducible rfl
      rotate_left
      · simp only [Act.put, List.setIfInBounds_toArray, List.set_cons_zero, List.set_cons_succ, i64_w, i32_w]
        rfl
      refine pure_ (i := 6) (N := some 55) (v := ?_) (a' := ?_) #[true, true, true, true, true, true, true, false, false, false, false, false, false, false, false, false, false, false, false, false, false, false, false, false, false, false, false] rfl rfl (by kernel_rfl) (fun _ _ _ h => h) (Or.inl ⟨by rfl, ?_⟩) ?_ ?_
      rotate_left
      · intro w'
        go_simp
        with_reducible rfl
      rotate_left
      · simp only [Act.put, List.setIfInBounds_toArray, List.set_cons_zero, List.set_cons_succ, i64_w, i32_w]
        rfl
      refine take_ (i := 7) (N := some 56) (v := ?_) (a' := ?_) #[true, true, true, true, true, true, true, true, false, false, false, false, false, false, false, false, false, false, false, false, false, false, false, false, false, false, false] rfl rfl (by kernel_rfl) (fun _ _ _ h => h) (Or.inl ⟨by rfl, ?_⟩) hHeld ?_ ?_
      rotate_left
      · intro w' s0
        have e := pw_cell_below s0 c9
        go_simp
        with_reducible rfl
      rotate_left
      · simp only [Act.put, List.setIfInBounds_toArray, List.set_cons_zero, List.set_cons_succ, i64_w, i32_w]
        rfl
      refine pure_ (i := 8) (N := some 57) (v := ?_) (a' := ?_) #[true, true, true, true, true, true, true, true, true, false, false, false, false, false, false, false, false, false, false, false, false, false, false, false, false, false, false] rfl rfl (by kernel_rfl) (fun _ _ _ h => h) (Or.inl ⟨by rfl, ?_⟩) ?_ ?_
      rotate_left
      · intro w'
        go_simp
        with_reducible rfl
      rotate_left
      · simp only [Act.put, List.setIfInBounds_toArray, List.set_cons_zero, List.set_cons_succ, i64_w, i32_w]
        rfl
      refine pure_ (i := 9) (N := some 58) (v := ?_) (a' := ?_) #[true, true, true, true, true, true, true, true, true, true, false, false, false, false, false, false, false, false, false, false, false, false, false, false, false, false, false] rfl rfl (by kernel_rfl) (fun _ _ _ h => h) (Or.inl ⟨by rfl, ?_⟩) ?_ ?_
      rotate_left
      · intro w'
        go_simp
        with_reducible rfl
      rotate_left
      · simp only [Act.put, List.setIfInBounds_toArray, List.set_cons_zero, List.set_cons_succ, i64_w, i32_w]
        rfl
      refine pure_ (i := 10) (N := some 59) (v := ?_) (a' := ?_) #[true, true, true, true, true, true, true, true, true, true, true, false, false, false, false, false, false, false, false, false, false, false, false, false, false, false, false] rfl rfl (by kernel_rfl) (fun _ _ _ h => h) (Or.inl ⟨by rfl, ?_⟩) ?_ ?_
      rotate_left
      · intro w'
        go_simp
        with_reducible rfl
      rotate_left
      · simp only [Act.put, List.setIfInBounds_toArray, List.set_cons_zero, List.set_cons_succ, i64_w, i32_w]
        rfl
      refine take_ (i := 11) (N := some 60) (v := ?_) (a' := ?_) #[true, true, true, true, true, true, true, true, true, true, true, true, false, false, false, false, false, false, false, false, false, false, false, false, false, false, false] rfl rfl (by kernel_rfl) (fun _ _ _ h => h) (Or.inl ⟨by rfl, ?_⟩) hHeld ?_ ?_
      rotate_left
      · intro w' s0
        have e0 := pw_cell_below s0 k0
        have e1 := pw_cell_below s0 k1
        have e2 := pw_cell_below s0 k2
        have e3 := pw_cell_below s0 k3
        have e4 := pw_cell_below s0 k4
        have e5 := pw_cell_below s0 k5
        have e6 := pw_cell_below s0 k6
        have e7 := pw_cell_below s0 k7
        have e8 := pw_cell_below s0 k8
        have e9 := pw_cell_below s0 k9
        have e10 := pw_cell_below s0 k10
        have e11 := pw_cell_below s0 k11
        have e12 := pw_cell_below s0 k12
        have e13 := pw_cell_below s0 k13
        go_simp
        with_reducible rfl
      rotate_left
      · simp only [Act.put, List.setIfInBounds_toArray, List.set_cons_zero, List.set_cons_succ, i64_w, i32_w]
        rfl
      refine pure_ (i := 12) (N := some 61) (v := ?_) (a' := ?_) #[true, true, true, true, true, true, true, true, true, true, true, true, true, false, false, false, false, false, false, false, false, false, false, false, false, false, false] rfl rfl (by kernel_rfl) (fun _ _ _ h => h) (Or.inl ⟨by rfl, ?_⟩) ?_ ?_
      rotate_left
      · intro w'
        go_simp
        with_reducible rfl
      rotate_left
      · simp only [Act.put, List.setIfInBounds_toArray, List.set_cons_zero, List.set_cons_succ, i64_w, i32_w]
        rfl
      refine pure_ (i := 13) (N := some 62) (v := ?_) (a' := ?_) #[true, true, true, true, true, true, true, true, true, true, true, true, true, true, false, false, false, false, false, false, false, false, false, false, false, false, false] rfl rfl (by kernel_rfl) (fun _ _ _ h => h) (Or.inl ⟨by rfl, ?_⟩) ?_ ?_
      rotate_left
      · intro w'
        go_simp
        with_reducible rfl
      rotate_left
      · simp only [Act.put, List.setIfInBounds_toArray, List.set_cons_zero, List.set_cons_succ, i64_w, i32_w]
        rfl
      refine pure_ (i := 14) (N := some 63) (v := ?_) (a' := ?_) #[true, true, true, true, true, true, true, true, true, true, true, true, true, true, true, false, false, false, false, false, false, false, false, false, false, false, false] rfl rfl (by kernel_rfl) (fun _ _ _ h => h) (Or.inl ⟨by rfl, ?_⟩) ?_ ?_
      rotate_left
      · intro w'
        go_simp
        with_reducible rfl
      rotate_left
      · simp only [Act.put, List.setIfInBounds_toArray, List.set_cons_zero, List.set_cons_succ, i64_w, i32_w]
        rfl
      refine take_ (i := 15) (N := some 64) (v := ?_) (a' := ?_) #[true, true, true, true, true, true, true, true, true, true, true, true, true, true, true, true, false, false, false, false, false, false, false, false, false, false, false] rfl rfl (by kernel_rfl) (fun _ _ _ h => h) (Or.inl ⟨by rfl, ?_⟩) hHeld ?_ ?_
      rotate_left
      · intro w' s0
        have e := pw_cell_below s0 c9
        go_simp
        with_reducible rfl
      rotate_left
      · simp only [Act.put, List.setIfInBounds_toArray, List.set_cons_zero, List.set_cons_succ, i64_w, i32_w]
        rfl
      refine pure_ (i := 16) (N := some 65) (v := ?_) (a' := ?_) #[true, true, true, true, true, true, true, true, true, true, true, true, true, true, true, true, true, false, false, false, false, false, false, false, false, false, false] rfl rfl (by kernel_rfl) (fun _ _ _ h => h) (Or.inl ⟨by rfl, ?_⟩) ?_ ?_
      rotate_left
      · intro w'
        go_simp
        with_reducible rfl
      rotate_left
      · simp only [Act.put, List.setIfInBounds_toArray, List.set_cons_zero, List.set_cons_succ, i64_w, i32_w]
        rfl
      refine pure_ (i := 17) (N := some 66) (v := ?_) (a' := ?_) #[true, true, true, true, true, true, true, true, true, true, true, true, true, true, true, true, true, true, false, false, false, false, false, false, false, false, false] rfl rfl (by kernel_rfl) (fun _ _ _ h => h) (Or.inl ⟨by rfl, ?_⟩) ?_ ?_
      rotate_left
      · intro w'
        go_simp
        with_reducible rfl
      rotate_left
      · simp only [Act.put, List.setIfInBounds_toArray, List.set_cons_zero, List.set_cons_succ, i64_w, i32_w]
        rfl
      refine pure_ (i := 18) (N := some 67) (v := ?_) (a' := ?_) #[true, true, true, true, true, true, true, true, true, true, true, true, true, true, true, true, true, true, true, false, false, false, false, false, false, false, false] rfl rfl (by kernel_rfl) (fun _ _ _ h => h) (Or.inl ⟨by rfl, ?_⟩) ?_ ?_
      rotate_left
      · intro w'
        go_simp
        with_reducible rfl
      rotate_left
      · simp only [Act.put, List.setIfInBounds_toArray, List.set_cons_zero, List.set_cons_succ, i64_w, i32_w]
        rfl
      refine pure_ (i := 19) (N := some 68) (v := ?_) (a' := ?_) #[true, true, true, true, true, true, true, true, true, true, true, true, true, true, true, true, true, true, true, true, false, false, false, false, false, false, false] rfl rfl (by kernel_rfl) (fun _ _ _ h => h) (Or.inl ⟨by rfl, ?_⟩) ?_ ?_
      rotate_left
      · intro w'
        go_simp
        with_reducible rfl
      rotate_left
      · simp only [Act.put, List.setIfInBounds_toArray, List.set_cons_zero, List.set_cons_succ, i64_w, i32_w]
        rfl
      refine take_ (i := 20) (N := some 69) (v := ?_) (a' := ?_) #[true, true, true, true, true, true, true, true, true, true, true, true, true, true, true, true, true, true, true, true, true, false, false, false, false, false, false] rfl rfl (by kernel_rfl) (fun _ _ _ h => h) (Or.inl ⟨by rfl, ?_⟩) hHeld ?_ ?_
      rotate_left
      · intro w' s0
        have e := pw_cell_below s0 c9
        go_simp
        with_reducible rfl
      rotate_left
      · simp only [Act.put, List.setIfInBounds_toArray, List.set_cons_zero, List.set_cons_succ, i64_w, i32_w]
        rfl
      refine take_ (i := 21) (N := some 70) (v := ?_) (a' := ?_) #[true, true, true, true, true, true, true, true, true, true, true, true, true, true, true, true, true, true, true, true, true, true, false, false, false, false, false] rfl rfl (by kernel_rfl) (fun _ _ _ h => h) (Or.inl ⟨by rfl, ?_⟩) hHeld ?_ ?_
      rotate_left
      · intro w' s0
        have e := (HM2.out.kept (grown_of_below s0 none) (by intro h; cases h)).lookup HWF.out
        go_simp
        with_reducible rfl
      rotate_left
      · simp only [Act.put, List.setIfInBounds_toArray, List.set_cons_zero, List.set_cons_succ, i64_w, i32_w]
        rfl
      refine pure_ (i := 22) (N := some 71) (v := ?_) (a' := ?_) #[true, true, true, true, true, true, true, true, true, true, true, true, true, true, true, true, true, true, true, true, true, true, true, false, false, false, false] rfl rfl (by kernel_rfl) (fun _ _ _ h => h) (Or.inl ⟨by rfl, ?_⟩) ?_ ?_
      rotate_left
      · intro w'
        go_simp
        with_reducible rfl
      rotate_left
      · simp only [Act.put, List.setIfInBounds_toArray, List.set_cons_zero, List.set_cons_succ, i64_w, i32_w]
        rfl
      refine one_ (i := 23) (N := some 72) #[true, true, true, true, true, true, true, true, true, true, true, true, true, true, true, true, true, true, true, true, true, true, true, true, false, false, false] rfl rfl (by kernel_rfl) (by decide) (fun K hK => ?_)
      refine goes_ Try.func12 (by kernel_rfl) rfl #[.agg #[.int .i64 0, .int .i64 x, .int .i64 (F x)]] (by rfl) rfl rfl (by (try simp only [List.map_toArray, List.map_cons, List.map_nil]); first | done | rfl) ?_
      refine (noted_any _ 0 x (F x)).mono ?_
      rintro e w6 ⟨vn, rfl, hSN, hb⟩
      have HSN := Aside0.mk hSN
      clear hSN
      have HHW := Aside0.mk hHeld
      refine ⟨_, rfl, ?_⟩
      refine hK.out _ _ (hHeld.trans (hb.mono hHeld.size)) (fun hHeld => ?_)
      clear hb HHW
      clear hK K
      refine norm_ (a' := ?_) ?_ ?_
      rotate_left
      · show Act.put _ (some 72) _ = _
        simp only [Act.put, List.setIfInBounds_toArray, List.set_cons_zero, List.set_cons_succ, i64_w, i32_w]
        rfl
      refine one_ (i := 24) (N := some 73) #[true, true, true, true, true, true, true, true, true, true, true, true, true, true, true, true, true, true, true, true, true, true, true, true, true, false, false] rfl rfl (by kernel_rfl) (by decide) (fun K hK => ?_)
      refine goes_ Try.func23 (by kernel_rfl) rfl #[.agg #[.int .i64 z.s.f0, .int .i64 z.s.f1, .int .i64 z.s.f2, .int .i64 z.s.f3, .int .u64 z.s.f4, .slice z.A5 z.s.f5.length z.c5, .slice z.A6 z.s.f6.length z.c6, .slice z.A7 z.s.f7.length z.c7, .slice z.A8 z.s.f8.length z.c8, .slice z.A9 z.s.f9.length z.c9, .string z.s.f10.f0, .slice z.A11 z.s.f10.f1.length z.c11, .int .u64 z.s.f10.f2, .slice z.A13 z.s.f10.f3.length z.c13], vn] (by rfl) rfl rfl (by (try simp only [List.map_toArray, List.map_cons, List.map_nil]); first | done | rfl) ?_
      refine (same_any _ _ _ _ (HSZ.out.below hHeld) (HSN.out) (by rw [tot_nS]; decide) ⟨rfl, rfl, rfl, rfl⟩).mono ?_
      rintro e w7 ⟨rfl, hb⟩
      refine ⟨_, rfl, ?_⟩
      refine hK.out _ _ (hHeld.trans (hb.mono hHeld.size)) (fun hHeld => ?_)
      clear hb
      clear hK K
      refine norm_ (a' := ?_) ?_ ?_
      rotate_left
      · show Act.put _ (some 73) _ = _
        simp only [Act.put, List.setIfInBounds_toArray, List.set_cons_zero, List.set_cons_succ, i64_w, i32_w]
        rfl
      refine pure_ (i := 25) (N := some 74) (v := ?_) (a' := ?_) #[true, true, true, true, true, true, true, true, true, true, true, true, true, true, true, true, true, true, true, true, true, true, true, true, true, true, false] rfl rfl (by kernel_rfl) (fun _ _ _ h => h) (Or.inl ⟨by rfl, ?_⟩) ?_ ?_
      rotate_left
      · intro w'
        go_simp
        with_reducible rfl
      rotate_left
      · simp only [Act.put, List.setIfInBounds_toArray, List.set_cons_zero, List.set_cons_succ, i64_w, i32_w]
        rfl
      refine pure_ (i := 26) (N := some 75) (v := ?_) (a' := ?_) #[true, true, true, true, true, true, true, true, true, true, true, true, true, true, true, true, true, true, true, true, true, true, true, true, true, true, true] rfl rfl (by kernel_rfl) (fun _ _ _ h => h) (Or.inl ⟨by rfl, ?_⟩) ?_ ?_
      rotate_left
      · intro w'
        go_simp
        with_reducible rfl
      rotate_left
      · simp only [Act.put, List.setIfInBounds_toArray, List.set_cons_zero, List.set_cons_succ, i64_w, i32_w]
        rfl
      refine done_ (by kernel_rfl) ?_
      replace HB := Aside0.mk (HB.out.trans (hHeld.mono HB.out.size))
      replace HB1 := Aside0.mk (HB1.out.trans (hHeld.mono HB1.out.size))
      clear c0 c9 BS HBW HSZ HSN HM2 hHeld HS3
      go_wp2
      go_roundw
      case rel => exact ⟨i + 1, by go_num, HLT.out, HB, HB1⟩
      case measure => have := HLT.out; simp [intOf]; omega
    · have hn4 : ¬ ((i : Int) < (L.length : Int)) := by omega
      clear hlt hi
      go_wp2_with (go_at_call 9; refine Hold.out ?_)
      refine ⟨?_⟩
      clear hn4
      refine (near_any base ot _ B ev mo l at_ (HK.out.below HB.out) HN.out.rise (by have := HLL.out; omega) HN.out.tots).mono ?_
      rintro e w3 ⟨i2, b2, hF, hP, hb⟩
      replace HB := Aside0.mk (HB.out.trans (hb.mono HB.out.size))
      clear hb HB1
      rcases HN.out.near_any hF hP with ⟨hcase, rfl⟩ | ⟨h0, hat, v, rfl, hS⟩
      · clear hF hP
        go_wp2_with ((with_reducible refine gate_store (t := 38) (p := 15) (v := .tmp 82) rfl ?_); refine Hold.out ?_)
        refine ⟨?_⟩
        have BS := Aside0.mk (blk_new w3 (.cells #[.int .i64 0, .int .i64 0, .int .i64 0, .int .i64 0, .int .u64 0, .slice none 0 0, .slice none 0 0, .slice none 0 0, .slice none 0 0, .slice none 0 0, .string ⟨#[]⟩, .slice none 0 0, .int .u64 0, .slice none 0 0] 38))
        have HB3 := Aside0.mk (HB.out.alloc HB.out.size (.cells #[.int .i64 0, .int .i64 0, .int .i64 0, .int .i64 0, .int .u64 0, .slice none 0 0, .slice none 0 0, .slice none 0 0, .slice none 0 0, .slice none 0 0, .string ⟨#[]⟩, .slice none 0 0, .int .u64 0, .slice none 0 0] 38))
        have hcl := (Below.refl w3.heap.size w3).alloc (Nat.le_refl _) (.cells #[.int .i64 0, .int .i64 0, .int .i64 0, .int .i64 0, .int .u64 0, .slice none 0 0, .slice none 0 0, .slice none 0 0, .slice none 0 0, .slice none 0 0, .string ⟨#[]⟩, .slice none 0 0, .int .u64 0, .slice none 0 0] 38)
        have HG := Aside0.mk HB.out.size
        have HBW := Aside0.mk (setRow_below (g := w3.heap.size) (cs := #[.int .i64 0, .int .i64 0, .int .i64 0, .int .i64 0, .int .u64 0, .slice none 0 0, .slice none 0 0, .slice none 0 0, .slice none 0 0, .slice none 0 0, .string ⟨#[]⟩, .slice none 0 0, .int .u64 0, .slice none 0 0]) hcl (Nat.le_refl _))
        replace HB := Aside0.mk (setRow_below (g := w3.heap.size) (cs := #[.int .i64 0, .int .i64 0, .int .i64 0, .int .i64 0, .int .u64 0, .slice none 0 0, .slice none 0 0, .slice none 0 0, .slice none 0 0, .slice none 0 0, .string ⟨#[]⟩, .slice none 0 0, .int .u64 0, .slice none 0 0]) HB3.out HG.out)
        clear hcl HB3
        generalize w3.alloc (.cells #[.int .i64 0, .int .i64 0, .int .i64 0, .int .i64 0, .int .u64 0, .slice none 0 0, .slice none 0 0, .slice none 0 0, .slice none 0 0, .slice none 0 0, .string ⟨#[]⟩, .slice none 0 0, .int .u64 0, .slice none 0 0] 38) = y0 at BS HB HBW ⊢
        refine store_rowL (g := w3.heap.size) (c' := #[.int .i64 0, .int .i64 0, .int .i64 0, .int .i64 0, .int .u64 0, .slice none 0 0, .slice none 0 0, .slice none 0 0, .slice none 0 0, .slice none 0 0, .string ⟨#[]⟩, .slice none 0 0, .int .u64 0, .slice none 0 0]) rfl rfl rfl rfl rfl BS.out (by kernel_rfl) rfl (by kernel_rfl) ?_
        replace BS := Aside0.mk (setRow_heap y0 w3.heap.size _ (#[.int .i64 0, .int .i64 0, .int .i64 0, .int .i64 0, .int .u64 0, .slice none 0 0, .slice none 0 0, .slice none 0 0, .slice none 0 0, .slice none 0 0, .string ⟨#[]⟩, .slice none 0 0, .int .u64 0, .slice none 0 0]) 38 (0, 0) BS.out)
        generalize y0.setRow w3.heap.size (#[.int .i64 0, .int .i64 0, .int .i64 0, .int .i64 0, .int .u64 0, .slice none 0 0, .slice none 0 0, .slice none 0 0, .slice none 0 0, .slice none 0 0, .string ⟨#[]⟩, .slice none 0 0, .int .u64 0, .slice none 0 0]) = w5 at BS HB HBW ⊢
        obtain ⟨g, hg⟩ : ∃ g, g = w3.heap.size := ⟨_, rfl⟩
        rw [← hg] at BS HG ⊢
        clear hg
        clear HBW HG
        go_wp2_with (go_at_call 11; refine Hold.out ?_)
        refine ⟨?_⟩
        refine (refNear_any _ _ L at_ (HI.out.below HB.out) (by have := HL.out; omega)).mono ?_
        rintro e w6 ⟨rfl, hb⟩
        replace HB := Aside0.mk (HB.out.trans (hb.mono HB.out.size))
        replace BS := Aside0.mk (blk_below BS.out hb)
        clear hb
        have k0 := blk_cell BS.out 0
        have k1 := blk_cell BS.out 1
        have k2 := blk_cell BS.out 2
        have k3 := blk_cell BS.out 3
        have k4 := blk_cell BS.out 4
        have k5 := blk_cell BS.out 5
        have k6 := blk_cell BS.out 6
        have k7 := blk_cell BS.out 7
        have k8 := blk_cell BS.out 8
        have k9 := blk_cell BS.out 9
        have k10 := blk_cell BS.out 10
        have k11 := blk_cell BS.out 11
        have k12 := blk_cell BS.out 12
        have k13 := blk_cell BS.out 13
        rcases hcase with hnil | ⟨h0, hlt0⟩
        · have l0 : L.length = 0 := by rw [hnil]; rfl
          have l1 : ((L.length : Int) == 0) = true := by rw [l0]; rfl
          go_wp2_with (go_at_call 23; refine Hold.out ?_)
          refine ⟨?_⟩
          refine (same_any _ _ _ (mS 0) (snap_mS _ 0) (snap_mS _ 0) (by rw [tot_mS]; decide) ⟨rfl, rfl, rfl, rfl⟩).mono ?_
          rintro e w7 ⟨rfl, hb⟩
          go_wp2
          go_ret
          exact ⟨rfl, HB.out.trans (hb.mono HB.out.size)⟩
        · obtain ⟨ad, rfl, c0⟩ := Ints.at_ (n := 0) (c := 0) HC.out 0 h0
          replace c0 := (HB.out.cell (World.block_lt_of_cell? w _ c0)).trans c0
          obtain ⟨x, hx⟩ : ∃ z, z = L.getD 0 0 := ⟨_, rfl⟩
          rw [← hx] at c0 hlt0
          have l1 : ((L.length : Int) == 0) = false := beq_eq_false_iff_ne.2 (by omega)
          have hn4 : (0 : Int) < (L.length : Int) := by omega
          clear hx
          have hp0 : ad.add 0 = ad := by cases ad; simp [Addr.add]
          have c00 := c0
          rw [hp0] at c00
          clear hp0
          go_wp2_with (go_at_call 23; refine Hold.out ?_)
          refine ⟨?_⟩
          refine (same_any _ _ _ (mS 0) (snap_mS _ 0) (snap_mS _ 0) (by rw [tot_mS]; decide) ⟨rfl, rfl, rfl, rfl⟩).mono ?_
          rintro e w7 ⟨rfl, hb⟩
          go_wp2
          go_ret
          exact ⟨rfl, HB.out.trans (hb.mono HB.out.size)⟩
      · obtain ⟨z, _, hz1, rfl, _⟩ := hS.mark 0
        have hz : z.s.f1 = nearL L at_ := by rw [hz1]; rfl
        rw [hz]
        clear hF hP hS hz1 hz
        obtain ⟨nl, hnl⟩ : ∃ q, q = nearL L at_ := ⟨_, rfl⟩
        rw [← hnl]
        have HNL := Aside0.mk hnl.symm
        clear hnl
        go_wp2_with ((with_reducible refine gate_store (t := 38) (p := 15) (v := .tmp 82) rfl ?_); refine Hold.out ?_)
        refine ⟨?_⟩
        have BS := Aside0.mk (blk_new w3 (.cells #[.int .i64 0, .int .i64 0, .int .i64 0, .int .i64 0, .int .u64 0, .slice none 0 0, .slice none 0 0, .slice none 0 0, .slice none 0 0, .slice none 0 0, .string ⟨#[]⟩, .slice none 0 0, .int .u64 0, .slice none 0 0] 38))
        have HB3 := Aside0.mk (HB.out.alloc HB.out.size (.cells #[.int .i64 0, .int .i64 0, .int .i64 0, .int .i64 0, .int .u64 0, .slice none 0 0, .slice none 0 0, .slice none 0 0, .slice none 0 0, .slice none 0 0, .string ⟨#[]⟩, .slice none 0 0, .int .u64 0, .slice none 0 0] 38))
        have hcl := (Below.refl w3.heap.size w3).alloc (Nat.le_refl _) (.cells #[.int .i64 0, .int .i64 0, .int .i64 0, .int .i64 0, .int .u64 0, .slice none 0 0, .slice none 0 0, .slice none 0 0, .slice none 0 0, .slice none 0 0, .string ⟨#[]⟩, .slice none 0 0, .int .u64 0, .slice none 0 0] 38)
        have HG := Aside0.mk HB.out.size
        have HBW := Aside0.mk (setRow_below (g := w3.heap.size) (cs := #[.int .i64 z.s.f0, .int .i64 nl, .int .i64 z.s.f2, .int .i64 z.s.f3, .int .u64 z.s.f4, .slice z.A5 z.s.f5.length z.c5, .slice z.A6 z.s.f6.length z.c6, .slice z.A7 z.s.f7.length z.c7, .slice z.A8 z.s.f8.length z.c8, .slice z.A9 z.s.f9.length z.c9, .string z.s.f10.f0, .slice z.A11 z.s.f10.f1.length z.c11, .int .u64 z.s.f10.f2, .slice z.A13 z.s.f10.f3.length z.c13]) hcl (Nat.le_refl _))
        replace HB := Aside0.mk (setRow_below (g := w3.heap.size) (cs := #[.int .i64 z.s.f0, .int .i64 nl, .int .i64 z.s.f2, .int .i64 z.s.f3, .int .u64 z.s.f4, .slice z.A5 z.s.f5.length z.c5, .slice z.A6 z.s.f6.length z.c6, .slice z.A7 z.s.f7.length z.c7, .slice z.A8 z.s.f8.length z.c8, .slice z.A9 z.s.f9.length z.c9, .string z.s.f10.f0, .slice z.A11 z.s.f10.f1.length z.c11, .int .u64 z.s.f10.f2, .slice z.A13 z.s.f10.f3.length z.c13]) HB3.out HG.out)
        clear hcl HB3
        generalize w3.alloc (.cells #[.int .i64 0, .int .i64 0, .int .i64 0, .int .i64 0, .int .u64 0, .slice none 0 0, .slice none 0 0, .slice none 0 0, .slice none 0 0, .slice none 0 0, .string ⟨#[]⟩, .slice none 0 0, .int .u64 0, .slice none 0 0] 38) = y0 at BS HB HBW ⊢
        refine store_rowL (g := w3.heap.size) (c' := #[.int .i64 z.s.f0, .int .i64 nl, .int .i64 z.s.f2, .int .i64 z.s.f3, .int .u64 z.s.f4, .slice z.A5 z.s.f5.length z.c5, .slice z.A6 z.s.f6.length z.c6, .slice z.A7 z.s.f7.length z.c7, .slice z.A8 z.s.f8.length z.c8, .slice z.A9 z.s.f9.length z.c9, .string z.s.f10.f0, .slice z.A11 z.s.f10.f1.length z.c11, .int .u64 z.s.f10.f2, .slice z.A13 z.s.f10.f3.length z.c13]) rfl rfl rfl rfl rfl BS.out (by kernel_rfl) rfl (by kernel_rfl) ?_
        replace BS := Aside0.mk (setRow_heap y0 w3.heap.size _ (#[.int .i64 z.s.f0, .int .i64 nl, .int .i64 z.s.f2, .int .i64 z.s.f3, .int .u64 z.s.f4, .slice z.A5 z.s.f5.length z.c5, .slice z.A6 z.s.f6.length z.c6, .slice z.A7 z.s.f7.length z.c7, .slice z.A8 z.s.f8.length z.c8, .slice z.A9 z.s.f9.length z.c9, .string z.s.f10.f0, .slice z.A11 z.s.f10.f1.length z.c11, .int .u64 z.s.f10.f2, .slice z.A13 z.s.f10.f3.length z.c13]) 38 (0, 0) BS.out)
        generalize y0.setRow w3.heap.size (#[.int .i64 z.s.f0, .int .i64 nl, .int .i64 z.s.f2, .int .i64 z.s.f3, .int .u64 z.s.f4, .slice z.A5 z.s.f5.length z.c5, .slice z.A6 z.s.f6.length z.c6, .slice z.A7 z.s.f7.length z.c7, .slice z.A8 z.s.f8.length z.c8, .slice z.A9 z.s.f9.length z.c9, .string z.s.f10.f0, .slice z.A11 z.s.f10.f1.length z.c11, .int .u64 z.s.f10.f2, .slice z.A13 z.s.f10.f3.length z.c13]) = w5 at BS HB HBW ⊢
        obtain ⟨g, hg⟩ : ∃ g, g = w3.heap.size := ⟨_, rfl⟩
        rw [← hg] at BS HG ⊢
        clear hg
        clear HBW HG
        go_wp2_with (go_at_call 11; refine Hold.out ?_)
        refine ⟨?_⟩
        refine (refNear_any _ _ L at_ (HI.out.below HB.out) (by have := HL.out; omega)).mono ?_
        rintro e w6 ⟨rfl, hb⟩
        replace HB := Aside0.mk (HB.out.trans (hb.mono HB.out.size))
        replace BS := Aside0.mk (blk_below BS.out hb)
        clear hb
        rw [HNL.out]
        have k1 := blk_cell BS.out 1
        obtain ⟨ad, rfl, c0⟩ := Ints.at_ (n := 0) (c := 0) HC.out 0 h0
        replace c0 := (HB.out.cell (World.block_lt_of_cell? w _ c0)).trans c0
        obtain ⟨x, hx⟩ : ∃ z, z = L.getD 0 0 := ⟨_, rfl⟩
        rw [← hx] at c0 hat
        have l1 : ((L.length : Int) == 0) = false := beq_eq_false_iff_ne.2 (by omega)
        have hn4 : (0 : Int) < (L.length : Int) := by omega
        clear hx
        have hp0 : ad.add 0 = ad := by cases ad; simp [Addr.add]
        have c00 := c0
        rw [hp0] at c00
        clear hp0
        go_wp2
        go_ret
        exact ⟨rfl, HB.out⟩
end Go.Proofs.Ythadibmgahlpfaa.MD
