/- CkptLast: the law's call answers true, for all numbers. -/
import Derived.Test.YthadibmgahlpfaaKAnch
import Derived.Test.YthadibmgahlpfaaKNear
namespace Go.Proofs.Ythadibmgahlpfaa.MD
open Go Go.RowKit Go.Proofs Go.Proofs.YthadibmgahlpfaaW.PrintWords Go.Proofs.YthadibmgahlpfaaW.PrintLast Go.Proofs.YthadibmgahlpfaaW.PrintMore
set_option linter.unusedVariables false
set_option linter.unusedSimpArgs false
theorem cnt_last (e L : Nat) (he : 1 ≤ e) : cnt e (L + 1) = L / e + 1 := by
  unfold cnt
  rw [show L + 1 + e - 1 = L + e by omega]
  exact Nat.add_div_right L (by omega)
theorem wr_nat (n : Nat) (h : n ≤ 100000) : wrap64 (n : Int) = (n : Int) := by unfold wrap64; omega
theorem wi_small (i : Nat) (h : i ≤ 100000) : IntKind.i64.wrap ((i : Int) + 1) = (i : Int) + 1 := by rw [IntKind.wrap_i64]; omega
theorem wr_int (x : Int) (h0 : 0 ≤ x) (h : x ≤ 100000) : wrap64 x = x := by unfold wrap64; omega
theorem div_nums (L en : Nat) (h : L ≤ 600) : ((L : Int) / (en : Int)) = ((L / en : Nat) : Int) ∧ wrap64 ((L : Int) / (en : Int)) = ((L / en : Nat) : Int) ∧ wrap64 (((L / en : Nat) : Int) + 1) = ((L / en : Nat) : Int) + 1 := by
  have h1 : ((L : Int) / (en : Int)) = ((L / en : Nat) : Int) := (Int.natCast_ediv L en).symm
  have h2 : L / en ≤ L := Nat.div_le_self _ _
  generalize L / en = q at h1 h2 ⊢
  exact ⟨h1, by rw [h1]; exact wr_nat _ (by omega), wr_int _ (by omega) (by omega)⟩
theorem min_nums (xn q mn : Nat) (h : xn = min (q + 1) mn) : ((xn : Int) != min (mn : Int) ((q : Int) + 1)) = false := by
  rw [bne_eq_false_iff_eq]
  omega
theorem round_nums (xn q mn i en : Nat) (hn : xn = min (q + 1) mn) (hi : i < xn) (hq : q ≤ 600) (he : en ≤ 64) : wrap64 ((xn : Int) - 1) = (xn : Int) - 1 ∧ wrap64 ((xn : Int) - 1 - (i : Int)) = (xn : Int) - 1 - (i : Int) ∧
    wrap64 ((q : Int) - ((xn : Int) - 1 - (i : Int))) = ((q + 1 - mn + i : Nat) : Int) ∧ wrap64 (((q + 1 - mn + i : Nat) : Int) * (en : Int)) = (((q + 1 - mn + i) * en : Nat) : Int) := by
  have hbe : (q + 1 - mn + i) * en ≤ 600 * 64 := Nat.mul_le_mul (by omega) he
  refine ⟨wr_int _ (by omega) (by omega), wr_int _ (by omega) (by omega), ?_, ?_⟩
  · have e : (q : Int) - ((xn : Int) - 1 - (i : Int)) = ((q + 1 - mn + i : Nat) : Int) := by omega
    rw [e]
    exact wr_nat _ (by omega)
  · rw [← Int.natCast_mul]
    exact wr_nat _ (by omega)
/-- Near at the last place that was noted: a mark less than the distance of two ahead. -/
theorem near_nums {e m L : Nat} {l : List E} (h : Mk e m (L + 1) l) (he : 1 ≤ e) (hm : 1 ≤ m) {i : Nat} {b : Bool} (hF : Found l (L : Int) i b) : ¬ (b = false ∧ i = 0) ∧ ∀ j, j < l.length → (b = true ∧ j = i ∨ b = false ∧ i = j + 1) → ∃ T : Nat, (l.getD j zE).f0 = (T : Int) ∧ T ≤ L ∧ L - T < e ∧ (l.getD j zE).s = mS (T : Int) := by
  have hl := h.len
  have hc := cnt_last e L he
  rw [hc] at hl
  have hmod := Nat.mod_lt L (show e > 0 by omega)
  have hdm := Nat.div_add_mod L e
  have hend : ¬ (b = true) → ¬ (i < l.length) := fun hb hi => by
    have h1 := hF.behind i (Nat.le_refl _) hi
    have h2 := h.lt he i hi
    exact hb (hF.there.2 ⟨hi, by omega⟩)
  have hpos : 0 < l.length := by
    clear hmod hdm hend hc
    generalize L / e = q at hl
    omega
  refine ⟨fun ⟨hb, hi⟩ => hend (by rw [hb]; decide) (by rw [hi]; exact hpos), fun j hj hc2 => ?_⟩
  have hg := h.get j hj
  have hlt := h.lt he j hj
  rw [hc] at hg
  refine ⟨_, hg, by omega, ?_, ?_⟩
  · rcases hc2 with ⟨hb, rfl⟩ | ⟨hb, hi⟩
    · have := (hF.there.1 hb).2
      omega
    · have h3 := hend (by rw [hb]; decide)
      have hle := hF.le
      have hmc : L / e * e = e * (L / e) := Nat.mul_comm _ _
      clear hlt hg hc hend hF
      generalize L / e = q at hl hdm hmc ⊢
      have hq : q + 1 - m + j = q := by omega
      rw [hq]
      omega
  · have hmem : l.getD j zE ∈ l := by rw [List.getD_eq_getElem?_getD, List.getElem?_eq_getElem hj]; exact List.getElem_mem hj
    rw [h.snaps _ hmem, hg]
theorem last_bad (w : World) (ev mo la : Int) (h : ev < 1 ∨ ev > 64 ∨ mo < 1 ∨ mo > 64) : Calls Try.prog 3 #[.int .i64 ev, .int .i64 mo, .int .i64 la] w fun e w' => e = .returned (.bool true) ∧ Below w.heap.size w w' := by
  have HBAD := Aside0.mk h
  clear h
  by_cases h1 : ev < 1
  · go_enter Try.func3, Try.ntmps3
    go_wp2_with (go_at_call 5; refine Hold.out ?_)
    refine ⟨?_⟩
    refine (anchor_any _).mono ?_
    rintro e w1 ⟨rfl, hb⟩
    have HB := Aside0.mk hb
    clear hb
    go_wp2_with (go_at_call 6; refine Hold.out ?_)
    refine ⟨?_⟩
    refine (new_bad _ ev mo HBAD.out).mono ?_
    rintro e w2 ⟨rfl, hb⟩
    replace HB := Aside0.mk (HB.out.trans (hb.mono HB.out.size))
    clear hb
    go_wp2
    go_ret
    exact ⟨rfl, HB.out⟩
  · by_cases h2 : ev > 64
    · go_enter Try.func3, Try.ntmps3
      go_wp2_with (go_at_call 5; refine Hold.out ?_)
      refine ⟨?_⟩
      refine (anchor_any _).mono ?_
      rintro e w1 ⟨rfl, hb⟩
      have HB := Aside0.mk hb
      clear hb
      go_wp2_with (go_at_call 6; refine Hold.out ?_)
      refine ⟨?_⟩
      refine (new_bad _ ev mo HBAD.out).mono ?_
      rintro e w2 ⟨rfl, hb⟩
      replace HB := Aside0.mk (HB.out.trans (hb.mono HB.out.size))
      clear hb
      go_wp2
      go_ret
      exact ⟨rfl, HB.out⟩
    · by_cases h3 : mo < 1
      · go_enter Try.func3, Try.ntmps3
        go_wp2_with (go_at_call 5; refine Hold.out ?_)
        refine ⟨?_⟩
        refine (anchor_any _).mono ?_
        rintro e w1 ⟨rfl, hb⟩
        have HB := Aside0.mk hb
        clear hb
        go_wp2_with (go_at_call 6; refine Hold.out ?_)
        refine ⟨?_⟩
        refine (new_bad _ ev mo HBAD.out).mono ?_
        rintro e w2 ⟨rfl, hb⟩
        replace HB := Aside0.mk (HB.out.trans (hb.mono HB.out.size))
        clear hb
        go_wp2
        go_ret
        exact ⟨rfl, HB.out⟩
      · have h4 : mo > 64 := by have := HBAD.out; omega
        go_enter Try.func3, Try.ntmps3
        go_wp2_with (go_at_call 5; refine Hold.out ?_)
        refine ⟨?_⟩
        refine (anchor_any _).mono ?_
        rintro e w1 ⟨rfl, hb⟩
        have HB := Aside0.mk hb
        clear hb
        go_wp2_with (go_at_call 6; refine Hold.out ?_)
        refine ⟨?_⟩
        refine (new_bad _ ev mo HBAD.out).mono ?_
        rintro e w2 ⟨rfl, hb⟩
        replace HB := Aside0.mk (HB.out.trans (hb.mono HB.out.size))
        clear hb
        go_wp2
        go_ret
        exact ⟨rfl, HB.out⟩
theorem last_far (w : World) (ev mo la : Int) (h : 1 ≤ ev ∧ ev ≤ 64 ∧ 1 ≤ mo ∧ mo ≤ 64) (hl : la < 0 ∨ la > 600) : Calls Try.prog 3 #[.int .i64 ev, .int .i64 mo, .int .i64 la] w fun e w' => e = .returned (.bool true) ∧ Below w.heap.size w w' := by
  have HG := Aside0.mk h
  have n1 : ¬ (ev < 1) := by have := HG.out; omega
  have n2 : ¬ (ev > 64) := by have := HG.out; omega
  have n3 : ¬ (mo < 1) := by have := HG.out; omega
  have n4 : ¬ (mo > 64) := by have := HG.out; omega
  clear h
  by_cases h1 : la < 0
  · go_enter Try.func3, Try.ntmps3
    go_wp2_with (go_at_call 5; refine Hold.out ?_)
    refine ⟨?_⟩
    refine (anchor_any _).mono ?_
    rintro e w1 ⟨rfl, hb⟩
    have HB := Aside0.mk hb
    clear hb
    go_wp2_with (go_at_call 6; refine Hold.out ?_)
    refine ⟨?_⟩
    refine (new_any w.heap.size w1 ev mo HB.out.size HG.out.1 HG.out.2.1 HG.out.2.2.1 HG.out.2.2.2).mono ?_
    rintro e w2 ⟨B, rfl, hK, hb⟩
    have HK := Aside0.mk hK
    replace HB := Aside0.mk (HB.out.trans (hb.mono HB.out.size))
    clear hK hb
    go_wp2
    go_ret
    exact ⟨rfl, HB.out⟩
  · have h2 : la > 600 := by omega
    clear hl
    go_enter Try.func3, Try.ntmps3
    go_wp2_with (go_at_call 5; refine Hold.out ?_)
    refine ⟨?_⟩
    refine (anchor_any _).mono ?_
    rintro e w1 ⟨rfl, hb⟩
    have HB := Aside0.mk hb
    clear hb
    go_wp2_with (go_at_call 6; refine Hold.out ?_)
    refine ⟨?_⟩
    refine (new_any w.heap.size w1 ev mo HB.out.size HG.out.1 HG.out.2.1 HG.out.2.2.1 HG.out.2.2.2).mono ?_
    rintro e w2 ⟨B, rfl, hK, hb⟩
    have HK := Aside0.mk hK
    replace HB := Aside0.mk (HB.out.trans (hb.mono HB.out.size))
    clear hK hb
    go_wp2
    go_ret
    exact ⟨rfl, HB.out⟩
set_option maxHeartbeats 8000000 in
set_option maxRecDepth 100000 in
theorem last_near (w : World) (en mn L : Nat) (h : 1 ≤ (en : Int) ∧ (en : Int) ≤ 64 ∧ 1 ≤ (mn : Int) ∧ (mn : Int) ≤ 64) (hl : L ≤ 600) : Calls Try.prog 3 #[.int .i64 (en : Int), .int .i64 (mn : Int), .int .i64 (L : Int)] w fun e w' => e = .returned (.bool true) ∧ Below w.heap.size w w' := by
  have HG := Aside0.mk h
  have HL := Aside0.mk hl
  have n1 : ¬ ((en : Int) < 1) := by have := HG.out; omega
  have n2 : ¬ ((en : Int) > 64) := by have := HG.out; omega
  have n3 : ¬ ((mn : Int) < 1) := by have := HG.out; omega
  have n4 : ¬ ((mn : Int) > 64) := by have := HG.out; omega
  have h1 : ¬ ((L : Int) < 0) := by omega
  have h2 : ¬ ((L : Int) > 600) := by omega
  have wl : IntKind.i64.wrap ((L : Int) + 1) = (L : Int) + 1 := by rw [IntKind.wrap_i64]; omega
  clear h hl
  go_enter Try.func3, Try.ntmps3
  go_wp2_with (go_at_call 5; refine Hold.out ?_)
  refine ⟨?_⟩
  refine (anchor_any _).mono ?_
  rintro e w1 ⟨rfl, hb⟩
  have HB := Aside0.mk hb
  clear hb
  go_wp2_with (go_at_call 6; refine Hold.out ?_)
  refine ⟨?_⟩
  refine (new_any w.heap.size w1 (en : Int) (mn : Int) HB.out.size HG.out.1 HG.out.2.1 HG.out.2.2.1 HG.out.2.2.2).mono ?_
  rintro e w2 ⟨B, rfl, hK, hb⟩
  have HK := Aside0.mk hK
  replace HB := Aside0.mk (HB.out.trans (hb.mono HB.out.size))
  clear hK hb
  go_wp2
  have HE := Aside0.mk (And.intro (show 1 ≤ en by have := HG.out; omega) (And.intro (show en ≤ 64 by have := HG.out; omega) (And.intro (show 1 ≤ mn by have := HG.out; omega) (show mn ≤ 64 by have := HG.out; omega))))
  clear n1 n2 n3 n4 h1 h2
  go_loopw [66] (fun v66 wr => ∃ (k : Nat) (l : List E), v66 = .int .i64 (k : Int) ∧ k ≤ L + 1 ∧ Aside0 (Keep w.heap.size (fun _ => False) wr B (en : Int) (mn : Int) l ∧ Mk en mn k l ∧ Below w.heap.size w wr)) (fun v66 _ => L + 1 - (intOf v66).toNat)
  case atStart => exact ⟨0, [], rfl, Nat.zero_le _, ⟨HK.out, Mk.zero en mn HE.out.1, HB.out⟩⟩
  case round =>
    clear HK HB
    obtain ⟨k, l, rfl, hk, HI⟩ := hrel
    have hl9 := HL.out
    by_cases hlt : k < L + 1
    · have d1 : ((k : Int) < (L : Int) + 1) = True := eq_true (by omega)
      have d2 : (k < L + 1) = True := eq_true hlt
      have wk : IntKind.i64.wrap ((k : Int) + 1) = (k : Int) + 1 := by rw [IntKind.wrap_i64]; omega
      have HLT := Aside0.mk hlt
      clear hk hl9 hlt
      go_wp2_with (go_at_call 7; refine Hold.out ?_)
      refine ⟨?_⟩
      refine (note_any w.heap.size _ _ B (en : Int) (mn : Int) l (k : Int) _ (mS (k : Int)) HI.out.1 (HI.out.2.1.rising HE.out.1) (by have := HI.out.2.1.len; have := HE.out.2.2.2; omega) HG.out.1 HG.out.2.2.1 (snap_mS _ _) (by rw [tot_mS]; decide) HI.out.2.2.size).mono ?_
      rintro e w3 ⟨r, l', rfl, hP, hK2, hBs, hBl⟩
      have HN := Aside0.mk (And.intro hK2 (And.intro (HI.out.2.1.step HE.out.1 HE.out.2.2.1 hP) (HI.out.2.2.trans hBl)))
      clear hP hK2 hBs hBl HI
      go_wp2
      go_roundw
      case rel => exact ⟨k + 1, l', by go_num, HLT.out, HN⟩
      case measure => have := HLT.out; simp [intOf]; omega
    · obtain rfl : k = L + 1 := by omega
      have d1 : (((L + 1 : Nat) : Int) < (L : Int) + 1) = False := eq_false (by omega)
      clear hk hlt
      go_wp2_with (go_at_call 8; refine Hold.out ?_)
      refine ⟨?_⟩
      refine (ats_any w.heap.size _ _ B (en : Int) (mn : Int) l HI.out.1 (by have := HI.out.2.1.len; have := HE.out.2.2.2; omega)).mono ?_
      rintro e w4 ⟨v, rfl, hR, hb⟩
      have hats : ∀ j, j < l.length → rd (l.map (·.f0)) (j : Int) = (((cnt en (L + 1) - mn + j) * en : Nat) : Int) := fun j hj => by
        rw [← HI.out.2.1.get j hj]
        unfold rd
        rw [Int.toNat_natCast, List.getD_eq_getElem?_getD, List.getElem?_map, List.getD_eq_getElem?_getD, List.getElem?_eq_getElem hj]
        rfl
      have hlen := HI.out.2.1.len
      have hlm : (l.map (·.f0)).length = l.length := List.length_map _
      rw [← hlm] at hats hlen
      rw [cnt_last en L HE.out.1] at hats hlen
      obtain ⟨xs, hxs⟩ : ∃ z, z = l.map (·.f0) := ⟨_, rfl⟩
      rw [← hxs] at hR hats hlen
      obtain ⟨A, c, rfl⟩ := Kd.R_slice hR
      have HR := Aside0.mk (Kd.R_reads' hR).2.2
      have HB := Aside0.mk (HI.out.2.2.trans (hb.mono HI.out.2.2.size))
      have HK := Aside0.mk (HI.out.1.below hb)
      have HM := Aside0.mk HI.out.2.1
      obtain ⟨q, hq⟩ : ∃ z : Nat, z = L / en := ⟨_, rfl⟩
      rw [← hq] at hats hlen
      have hqL : q ≤ L := by rw [hq]; exact Nat.div_le_self _ _
      obtain ⟨hq0, hq1, hq2⟩ := div_nums L en HL.out
      rw [← hq] at hq0 hq1 hq2
      have q1 := min_nums xs.length q mn hlen
      have q2 : ((xs.length : Int) != min (mn : Int) (wrap64 (wrap64 ((L : Int) / (en : Int)) + 1))) = false := by rw [hq1, hq2]; exact q1
      have HX := Aside0.mk (And.intro hats (And.intro hlen (And.intro hq (And.intro hqL (And.intro hq0 (And.intro hq1 hq2))))))
      clear hR hb HI hats hlen hlm hxs hq hqL hq0
      go_wp2
      clear q1 q2 d1
      go_loopw [88] (fun v88 wz => ∃ i : Nat, v88 = .int .i64 (i : Int) ∧ i ≤ xs.length ∧ Aside0 (wz = w4)) (fun v88 _ => xs.length - (intOf v88).toNat)
      case atStart => exact ⟨0, rfl, Nat.zero_le _, (by first | exact ⟨trivial⟩ | exact ⟨rfl⟩)⟩
      case round =>
        obtain ⟨i, rfl, hi, ⟨rfl⟩⟩ := hrel
        by_cases hlt : i < xs.length
        · have hx := HX.out.1 i hlt
          have hn := HX.out.2.1
          have hqL := HX.out.2.2.2.1
          have hl := HL.out
          have he := HE.out.2.1
          have hn4 : (i : Int) < (xs.length : Int) := by omega
          have p : (0 : Int) ≤ (i : Int) := Int.natCast_nonneg _
          obtain ⟨ad, rfl, c0⟩ := Kd.at_int HR.out (i : Int) p hn4
          rw [hx, Int.toNat_natCast] at c0
          obtain ⟨s1, s2, s3, s4⟩ := round_nums xs.length q mn i en hn hlt (by omega) he
          have wk : IntKind.i64.wrap ((i : Int) + 1) = (i : Int) + 1 := wi_small i (by omega)
          obtain ⟨b, hb⟩ : ∃ z : Nat, z = q + 1 - mn + i := ⟨_, rfl⟩
          rw [← hb] at c0 s3 s4
          obtain ⟨t, ht⟩ : ∃ z : Nat, z = b * en := ⟨_, rfl⟩
          rw [← ht] at c0 s4
          have HLT := Aside0.mk hlt
          clear hx hn hqL hl he hb ht hlt hi
          go_wp2
          go_roundw
          case rel => exact ⟨i + 1, by go_num, HLT.out, (by first | exact ⟨trivial⟩ | exact ⟨rfl⟩)⟩
          case measure => have := HLT.out; simp [intOf]; omega
        · have hn4 : ¬ ((i : Int) < (xs.length : Int)) := by omega
          clear hlt hi
          go_wp2_with (go_at_call 9; refine Hold.out ?_)
          refine ⟨?_⟩
          clear hn4
          refine (near_any w.heap.size _ _ B (en : Int) (mn : Int) l (L : Int) HK.out (HM.out.rising HE.out.1) (by have := HM.out.len; have := HE.out.2.2.2; omega) HM.out.tot).mono ?_
          rintro e w5 ⟨i2, b2, hF, hP, hb⟩
          replace HB := Aside0.mk (HB.out.trans (hb.mono HB.out.size))
          obtain ⟨hno, hall⟩ := near_nums HM.out HE.out.1 HE.out.2.2.1 hF
          rcases hP.out with ⟨p1, p2, _⟩ | ⟨j, v, hj, hcase, rfl, hS⟩
          · exact absurd ⟨p1, p2⟩ hno
          obtain ⟨T, hT, hTL, hTe, hTs⟩ := hall j hj hcase
          rw [hTs] at hS
          rw [hT]
          obtain ⟨z, _, hz1, rfl, _⟩ := hS.mark 0
          have hz : z.s.f1 = (T : Int) := by rw [hz1]; rfl
          rw [hz]
          have w1_ : wrap64 ((L : Int) - (T : Int)) = (L : Int) - (T : Int) := wr_int _ (by omega) (by have := HL.out; omega)
          have d1 : ((L : Int) - (T : Int) < (en : Int)) = True := eq_true (by omega)
          have hb5 := Aside0.mk ((Below.refl w5.heap.size w5).alloc (Nat.le_refl _) (.cells #[.int .i64 z.s.f0, .int .i64 (T : Int), .int .i64 z.s.f2, .int .i64 z.s.f3, .int .u64 z.s.f4, .slice z.A5 z.s.f5.length z.c5, .slice z.A6 z.s.f6.length z.c6, .slice z.A7 z.s.f7.length z.c7, .slice z.A8 z.s.f8.length z.c8, .slice z.A9 z.s.f9.length z.c9, .string z.s.f10.f0, .slice z.A11 z.s.f10.f1.length z.c11, .int .u64 z.s.f10.f2, .slice z.A13 z.s.f10.f3.length z.c13] 38))
          have b1 : (w5.alloc (.cells #[.int .i64 z.s.f0, .int .i64 (T : Int), .int .i64 z.s.f2, .int .i64 z.s.f3, .int .u64 z.s.f4, .slice z.A5 z.s.f5.length z.c5, .slice z.A6 z.s.f6.length z.c6, .slice z.A7 z.s.f7.length z.c7, .slice z.A8 z.s.f8.length z.c8, .slice z.A9 z.s.f9.length z.c9, .string z.s.f10.f0, .slice z.A11 z.s.f10.f1.length z.c11, .int .u64 z.s.f10.f2, .slice z.A13 z.s.f10.f3.length z.c13] 38)).cell? ⟨w5.heap.size, 1, none⟩ = some (.int .i64 (T : Int)) := by rw [World.cell?_alloc_new]; rfl
          clear hF hP hb hno hall hj hcase hS hT hTL hTe hTs hz1 hz
          go_wp2
          go_ret
          exact ⟨rfl, HB.out.trans (hb5.out.mono HB.out.size)⟩
theorem last_row (ev mo la : Int) (w : World) (h0 : (Lit.int .i64 ev).wf = true) (h1 : (Lit.int .i64 mo).wf = true) (h2 : (Lit.int .i64 la).wf = true) : Calls Try.prog 3 #[.int .i64 ev, .int .i64 mo, .int .i64 la] w fun e w' => e = .returned (.bool true) ∧ Below w.heap.size w w' := by
  by_cases hb : ev < 1 ∨ ev > 64 ∨ mo < 1 ∨ mo > 64
  · exact last_bad w ev mo la hb
  · have hg : 1 ≤ ev ∧ ev ≤ 64 ∧ 1 ≤ mo ∧ mo ≤ 64 := by omega
    by_cases hl : la < 0 ∨ la > 600
    · exact last_far w ev mo la hg hl
    · obtain ⟨en, rfl⟩ : ∃ n : Nat, ev = n := ⟨ev.toNat, by omega⟩
      obtain ⟨mn, rfl⟩ : ∃ n : Nat, mo = n := ⟨mo.toNat, by omega⟩
      obtain ⟨L, rfl⟩ : ∃ n : Nat, la = n := ⟨la.toNat, by omega⟩
      exact last_near w en mn L hg (by omega)
end Go.Proofs.Ythadibmgahlpfaa.MD
