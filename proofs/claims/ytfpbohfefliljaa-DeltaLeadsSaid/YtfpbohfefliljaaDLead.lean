/- DeltaLeads: the law's call answers true, for all snapshots. -/
import Derived.Test.YtfpbohfefliljaaDLeadA
import Derived.Laws.Tables
namespace Go.Proofs.Ytfpbohfefliljaa.MD
open Go Go.RowKit Go.Proofs Go.Proofs.YtfpbohfefliljaaW.PrintWords Go.Proofs.YtfpbohfefliljaaW.PrintLast Go.Proofs.YtfpbohfefliljaaW.PrintMore MDeltaPatches
set_option linter.unusedVariables false
set_option linter.unusedSimpArgs false
set_option maxHeartbeats 32000000 in
set_option maxRecDepth 100000 in
theorem leads_any (w : World) (va vb : Value) (a b : S46) (ha : SnapC w va a) (hb : SnapC w vb b) (hsa : tot a ≤ 1152921504606846975) (hsb : tot b ≤ 1152921504606846975) : Calls Try.prog 6 #[va, vb] w fun e w' => e = .returned (.bool true) ∧ Below w.heap.size w w' := by
  obtain ⟨cs, rfl, hKa⟩ := ha
  obtain ⟨es, rfl, hKb⟩ := hb
  obtain ⟨A5, c5, A6, c6, A7, c7, A8, c8, A9, c9, A11, c11, A13, c13, rfl, l5, g5, l6, g6, l7, g7, l8, g8, l9, g9, l11, g11, l13, g13⟩ := k46_open hKa
  obtain ⟨E5, e5, E6, e6, E7, e7, E8, e8, E9, e9, E11, e11, E13, e13, rfl, m5, h5, m6, h6, m7, h7, m8, h8, m9, h9, m11, h11, m13, h13⟩ := k46_open hKb
  have HB := Aside0.mk (((Below.refl w.heap.size w).alloc (Nat.le_refl _) (.cells #[.int .i64 a.f0, .int .i64 a.f1, .int .i64 a.f2, .int .i64 a.f3, .int .u64 a.f4, .slice A5 a.f5.length c5, .slice A6 a.f6.length c6, .slice A7 a.f7.length c7, .slice A8 a.f8.length c8, .slice A9 a.f9.length c9, .string a.f10.f0, .slice A11 a.f10.f1.length c11, .int .u64 a.f10.f2, .slice A13 a.f10.f3.length c13] 46)).alloc (by simp) (.cells #[.int .i64 b.f0, .int .i64 b.f1, .int .i64 b.f2, .int .i64 b.f3, .int .u64 b.f4, .slice E5 b.f5.length e5, .slice E6 b.f6.length e6, .slice E7 b.f7.length e7, .slice E8 b.f8.length e8, .slice E9 b.f9.length e9, .string b.f10.f0, .slice E11 b.f10.f1.length e11, .int .u64 b.f10.f2, .slice E13 b.f10.f3.length e13] 46))
  have BA := Aside0.mk (blk_alloc (blk_new w (.cells #[.int .i64 a.f0, .int .i64 a.f1, .int .i64 a.f2, .int .i64 a.f3, .int .u64 a.f4, .slice A5 a.f5.length c5, .slice A6 a.f6.length c6, .slice A7 a.f7.length c7, .slice A8 a.f8.length c8, .slice A9 a.f9.length c9, .string a.f10.f0, .slice A11 a.f10.f1.length c11, .int .u64 a.f10.f2, .slice A13 a.f10.f3.length c13] 46)) (.cells #[.int .i64 b.f0, .int .i64 b.f1, .int .i64 b.f2, .int .i64 b.f3, .int .u64 b.f4, .slice E5 b.f5.length e5, .slice E6 b.f6.length e6, .slice E7 b.f7.length e7, .slice E8 b.f8.length e8, .slice E9 b.f9.length e9, .string b.f10.f0, .slice E11 b.f10.f1.length e11, .int .u64 b.f10.f2, .slice E13 b.f10.f3.length e13] 46))
  have hbb := blk_new (w.alloc (.cells #[.int .i64 a.f0, .int .i64 a.f1, .int .i64 a.f2, .int .i64 a.f3, .int .u64 a.f4, .slice A5 a.f5.length c5, .slice A6 a.f6.length c6, .slice A7 a.f7.length c7, .slice A8 a.f8.length c8, .slice A9 a.f9.length c9, .string a.f10.f0, .slice A11 a.f10.f1.length c11, .int .u64 a.f10.f2, .slice A13 a.f10.f3.length c13] 46)) (.cells #[.int .i64 b.f0, .int .i64 b.f1, .int .i64 b.f2, .int .i64 b.f3, .int .u64 b.f4, .slice E5 b.f5.length e5, .slice E6 b.f6.length e6, .slice E7 b.f7.length e7, .slice E8 b.f8.length e8, .slice E9 b.f9.length e9, .string b.f10.f0, .slice E11 b.f10.f1.length e11, .int .u64 b.f10.f2, .slice E13 b.f10.f3.length e13] 46)
  rw [World.size_alloc] at hbb
  have BB := Aside0.mk hbb
  clear hbb
  have HA5 := Aside0.mk (And.intro l5 (Kd.C_below g5 HB.out))
  have HE5 := Aside0.mk (And.intro m5 (Kd.C_below h5 HB.out))
  have HA6 := Aside0.mk (And.intro l6 (Kd.C_below g6 HB.out))
  have HE6 := Aside0.mk (And.intro m6 (Kd.C_below h6 HB.out))
  have HA7 := Aside0.mk (And.intro l7 (Kd.C_below g7 HB.out))
  have HE7 := Aside0.mk (And.intro m7 (Kd.C_below h7 HB.out))
  have HA8 := Aside0.mk (And.intro l8 (Kd.C_below g8 HB.out))
  have HE8 := Aside0.mk (And.intro m8 (Kd.C_below h8 HB.out))
  have HA9 := Aside0.mk (And.intro l9 (Kd.C_below g9 HB.out))
  have HE9 := Aside0.mk (And.intro m9 (Kd.C_below h9 HB.out))
  have HA11 := Aside0.mk (And.intro l11 (Kd.C_below g11 HB.out))
  have HE11 := Aside0.mk (And.intro m11 (Kd.C_below h11 HB.out))
  have HA13 := Aside0.mk (And.intro l13 (Kd.C_below g13 HB.out))
  have HE13 := Aside0.mk (And.intro m13 (Kd.C_below h13 HB.out))
  have HA : Aside0 (SnapC ((w.alloc (.cells #[.int .i64 a.f0, .int .i64 a.f1, .int .i64 a.f2, .int .i64 a.f3, .int .u64 a.f4, .slice A5 a.f5.length c5, .slice A6 a.f6.length c6, .slice A7 a.f7.length c7, .slice A8 a.f8.length c8, .slice A9 a.f9.length c9, .string a.f10.f0, .slice A11 a.f10.f1.length c11, .int .u64 a.f10.f2, .slice A13 a.f10.f3.length c13] 46)).alloc (.cells #[.int .i64 b.f0, .int .i64 b.f1, .int .i64 b.f2, .int .i64 b.f3, .int .u64 b.f4, .slice E5 b.f5.length e5, .slice E6 b.f6.length e6, .slice E7 b.f7.length e7, .slice E8 b.f8.length e8, .slice E9 b.f9.length e9, .string b.f10.f0, .slice E11 b.f10.f1.length e11, .int .u64 b.f10.f2, .slice E13 b.f10.f3.length e13] 46)) (.agg #[.int .i64 a.f0, .int .i64 a.f1, .int .i64 a.f2, .int .i64 a.f3, .int .u64 a.f4, .slice A5 a.f5.length c5, .slice A6 a.f6.length c6, .slice A7 a.f7.length c7, .slice A8 a.f8.length c8, .slice A9 a.f9.length c9, .string a.f10.f0, .slice A11 a.f10.f1.length c11, .int .u64 a.f10.f2, .slice A13 a.f10.f3.length c13]) a) := ⟨SnapC.below ⟨_, rfl, hKa⟩ HB.out⟩
  have HBS : Aside0 (SnapC ((w.alloc (.cells #[.int .i64 a.f0, .int .i64 a.f1, .int .i64 a.f2, .int .i64 a.f3, .int .u64 a.f4, .slice A5 a.f5.length c5, .slice A6 a.f6.length c6, .slice A7 a.f7.length c7, .slice A8 a.f8.length c8, .slice A9 a.f9.length c9, .string a.f10.f0, .slice A11 a.f10.f1.length c11, .int .u64 a.f10.f2, .slice A13 a.f10.f3.length c13] 46)).alloc (.cells #[.int .i64 b.f0, .int .i64 b.f1, .int .i64 b.f2, .int .i64 b.f3, .int .u64 b.f4, .slice E5 b.f5.length e5, .slice E6 b.f6.length e6, .slice E7 b.f7.length e7, .slice E8 b.f8.length e8, .slice E9 b.f9.length e9, .string b.f10.f0, .slice E11 b.f10.f1.length e11, .int .u64 b.f10.f2, .slice E13 b.f10.f3.length e13] 46)) (.agg #[.int .i64 b.f0, .int .i64 b.f1, .int .i64 b.f2, .int .i64 b.f3, .int .u64 b.f4, .slice E5 b.f5.length e5, .slice E6 b.f6.length e6, .slice E7 b.f7.length e7, .slice E8 b.f8.length e8, .slice E9 b.f9.length e9, .string b.f10.f0, .slice E11 b.f10.f1.length e11, .int .u64 b.f10.f2, .slice E13 b.f10.f3.length e13]) b) := ⟨SnapC.below ⟨_, rfl, hKb⟩ HB.out⟩
  have HSA := Aside0.mk hsa
  have HSB := Aside0.mk hsb
  clear l5 g5 l6 g6 l7 g7 l8 g8 l9 g9 l11 g11 l13 g13 m5 h5 m6 h6 m7 h7 m8 h8 m9 h9 m11 h11 m13 h13 hsa hsb hKa hKb
  obtain ⟨ca, hca⟩ : ∃ z : Array Value, z = #[.int .i64 a.f0, .int .i64 a.f1, .int .i64 a.f2, .int .i64 a.f3, .int .u64 a.f4, .slice A5 a.f5.length c5, .slice A6 a.f6.length c6, .slice A7 a.f7.length c7, .slice A8 a.f8.length c8, .slice A9 a.f9.length c9, .string a.f10.f0, .slice A11 a.f10.f1.length c11, .int .u64 a.f10.f2, .slice A13 a.f10.f3.length c13] := ⟨_, rfl⟩
  obtain ⟨cb, hcb⟩ : ∃ z : Array Value, z = #[.int .i64 b.f0, .int .i64 b.f1, .int .i64 b.f2, .int .i64 b.f3, .int .u64 b.f4, .slice E5 b.f5.length e5, .slice E6 b.f6.length e6, .slice E7 b.f7.length e7, .slice E8 b.f8.length e8, .slice E9 b.f9.length e9, .string b.f10.f0, .slice E11 b.f10.f1.length e11, .int .u64 b.f10.f2, .slice E13 b.f10.f3.length e13] := ⟨_, rfl⟩
  go_enter Try.func6, Try.ntmps6
  go_upto_region 1 with (fail)
  generalize (w.alloc (.cells #[.int .i64 a.f0, .int .i64 a.f1, .int .i64 a.f2, .int .i64 a.f3, .int .u64 a.f4, .slice A5 a.f5.length c5, .slice A6 a.f6.length c6, .slice A7 a.f7.length c7, .slice A8 a.f8.length c8, .slice A9 a.f9.length c9, .string a.f10.f0, .slice A11 a.f10.f1.length c11, .int .u64 a.f10.f2, .slice A13 a.f10.f3.length c13] 46)).alloc (.cells #[.int .i64 b.f0, .int .i64 b.f1, .int .i64 b.f2, .int .i64 b.f3, .int .u64 b.f4, .slice E5 b.f5.length e5, .slice E6 b.f6.length e6, .slice E7 b.f7.length e7, .slice E8 b.f8.length e8, .slice E9 b.f9.length e9, .string b.f10.f0, .slice E11 b.f10.f1.length e11, .int .u64 b.f10.f2, .slice E13 b.f10.f3.length e13] 46) = w0 at HB BA BB HA HBS HA5 HE5 HA6 HE6 HA7 HE7 HA8 HE8 HA9 HE9 HA11 HE11 HA13 HE13 ⊢
  rw [← hca] at BA HA ⊢
  rw [← hcb] at BB HBS ⊢
  have HCA : Aside0 (ca.size = 14) := ⟨by rw [hca]; rfl⟩
  have HCB : Aside0 (cb.size = 14) := ⟨by rw [hcb]; rfl⟩
  have HEA := Aside0.mk hca
  have HW0 := Aside0.mk (Below.refl w0.heap.size w0)
  have HEB := Aside0.mk hcb
  clear hca hcb
  go_wp2_with (go_at_call 7; refine Hold.out ?_)
  refine ⟨?_⟩
  refine (anchor_any _).mono ?_
  rintro e w1 ⟨rfl, hb⟩
  replace HB := Aside0.mk (HB.out.trans (hb.mono HB.out.size))
  replace HW0 := Aside0.mk (HW0.out.trans (hb.mono HW0.out.size))
  replace BA := Aside0.mk (blk_below BA.out hb)
  replace BB := Aside0.mk (blk_below BB.out hb)
  replace HA := Aside0.mk (HA.out.below hb)
  replace HBS := Aside0.mk (HBS.out.below hb)
  clear hb
  by_cases ht : tot a ≤ 300
  · have dt : decide (tot a ≤ 300) = true := decide_eq_true ht
    have HTA := Aside0.mk ht
    clear ht
    go_wp2_with ((with_reducible refine gate_dst (N := 14) rfl ?_); refine Hold.out ?_)
    refine ⟨?_⟩
    refine load_rowG 14 rfl rfl rfl rfl (load46 BA.out HCA.out) ?_
    go_wp2_with (go_at_call 15; refine Hold.out ?_)
    refine ⟨?_⟩
    refine (few_any _ _ a HA.out HSA.out).mono ?_
    rintro e w2 ⟨rfl, hb⟩
    replace HB := Aside0.mk (HB.out.trans (hb.mono HB.out.size))
    replace HW0 := Aside0.mk (HW0.out.trans (hb.mono HW0.out.size))
    replace BA := Aside0.mk (blk_below BA.out hb)
    replace BB := Aside0.mk (blk_below BB.out hb)
    replace HA := Aside0.mk (HA.out.below hb)
    replace HBS := Aside0.mk (HBS.out.below hb)
    clear hb
    rw [dt]
    clear dt
    by_cases ht : tot b ≤ 300
    · have dt : decide (tot b ≤ 300) = true := decide_eq_true ht
      have HTB := Aside0.mk ht
      clear ht
      go_wp2_with ((with_reducible refine gate_dst (N := 18) rfl ?_); refine Hold.out ?_)
      refine ⟨?_⟩
      refine load_rowG 18 rfl rfl rfl rfl (load46 BB.out HCB.out) ?_
      go_wp2_with (go_at_call 15; refine Hold.out ?_)
      refine ⟨?_⟩
      refine (few_any _ _ b HBS.out HSB.out).mono ?_
      rintro e w3 ⟨rfl, hb⟩
      replace HB := Aside0.mk (HB.out.trans (hb.mono HB.out.size))
      replace HW0 := Aside0.mk (HW0.out.trans (hb.mono HW0.out.size))
      replace BA := Aside0.mk (blk_below BA.out hb)
      replace BB := Aside0.mk (blk_below BB.out hb)
      replace HA := Aside0.mk (HA.out.below hb)
      replace HBS := Aside0.mk (HBS.out.below hb)
      clear hb
      rw [dt]
      clear dt
      go_upto_region 5 with (fail)
      have HT1 : Aside0 (tot a ≤ 1000) := ⟨by have := HTA.out; omega⟩
      have HSZ : Aside0 ((dWith a.f5 b.f5).length + (dWith a.f6 b.f6).length + (dWith a.f7 b.f7).length + (dWith a.f8 b.f8).length + (dWith a.f9 b.f9).length + (dWith a.f10.f1 b.f10.f1).length + (dWith a.f10.f3 b.f10.f3).length ≤ 1000) := ⟨dsz_le a b (by have := HTB.out; omega)⟩
      have HT2 : Aside0 (tot b ≤ 1000) := ⟨by have := HTB.out; omega⟩
      refine start_ (n := 10) (S := fun W => W.heap[w.heap.size]? = some (.cells ca 46 (0, 0)) ∧ W.heap[(w.heap.size + 1)]? = some (.cells cb 46 (0, 0)) ∧ Below w3.heap.size w3 W) (ds := [8, 9]) #[false, false, false, false, false, false, false, false, false, false] (by kernel_rfl) rfl rfl (⟨blk_drew BA.out, blk_drew BB.out, below_drew1 (Below.refl _ _)⟩) (fun hHeld => ?_)
      refine take_ (i := 0) (N := some 22) (v := .agg ca) (a' := ?_) #[true, false, false, false, false, false, false, false, false, false] rfl rfl (by kernel_rfl) (fun _ _ _ h => h) (Or.inl ⟨by rfl, ?_⟩) hHeld ?_ ?_
      · rintro w' ⟨s0, s1, s2⟩
        exact load_run (u := .pointer (some ⟨w.heap.size, 0, none⟩)) rfl rfl (load46 s0 HCA.out)
      rotate_left
      · simp only [Act.put, List.setIfInBounds_toArray, List.set_cons_zero, List.set_cons_succ, i64_w, i32_w]
        rfl
      refine take_ (i := 1) (N := some 23) (v := .agg cb) (a' := ?_) #[true, true, false, false, false, false, false, false, false, false] rfl rfl (by kernel_rfl) (fun _ _ _ h => h) (Or.inl ⟨by rfl, ?_⟩) hHeld ?_ ?_
      · rintro w' ⟨s0, s1, s2⟩
        exact load_run (u := .pointer (some ⟨(w.heap.size + 1), 0, none⟩)) rfl rfl (load46 s1 HCB.out)
      rotate_left
      · simp only [Act.put, List.setIfInBounds_toArray, List.set_cons_zero, List.set_cons_succ, i64_w, i32_w]
        rfl
      refine take_ (i := 3) (N := some 25) (v := .agg cb) (a' := ?_) #[true, true, false, true, false, false, false, false, false, false] rfl rfl (by kernel_rfl) (fun _ _ _ h => h) (Or.inl ⟨by rfl, ?_⟩) hHeld ?_ ?_
      · rintro w' ⟨s0, s1, s2⟩
        exact load_run (u := .pointer (some ⟨(w.heap.size + 1), 0, none⟩)) rfl rfl (load46 s1 HCB.out)
      rotate_left
      · simp only [Act.put, List.setIfInBounds_toArray, List.set_cons_zero, List.set_cons_succ, i64_w, i32_w]
        rfl
      refine take_ (i := 4) (N := some 26) (v := .agg ca) (a' := ?_) #[true, true, false, true, true, false, false, false, false, false] rfl rfl (by kernel_rfl) (fun _ _ _ h => h) (Or.inl ⟨by rfl, ?_⟩) hHeld ?_ ?_
      · rintro w' ⟨s0, s1, s2⟩
        exact load_run (u := .pointer (some ⟨w.heap.size, 0, none⟩)) rfl rfl (load46 s0 HCA.out)
      rotate_left
      · simp only [Act.put, List.setIfInBounds_toArray, List.set_cons_zero, List.set_cons_succ, i64_w, i32_w]
        rfl
      refine join_ (σ := Array Value × Array Value × Nat × Nat) 2 #[true, true, true, true, true, true, true, true, false, false] (fun s_ => [(24, .agg s_.1), (27, .agg s_.2.1), (5, .pointer (some ⟨s_.2.2.1, 0, none⟩)), (6, .pointer (some ⟨s_.2.2.2, 0, none⟩))]) (fun s_ W' => DeltaP s_.2.2.1 s_.2.2.2 W' (.agg s_.1) a b ∧ DeltaP s_.2.2.1 s_.2.2.2 W' (.agg s_.2.1) b a ∧ W'.heap[s_.2.2.1]? = some (.cells z61d 61 (0, 0)) ∧ W'.heap[s_.2.2.2]? = some (.cells z61d 61 (0, 0)) ∧ s_.2.2.1 ≠ s_.2.2.2 ∧ w3.heap.size ≤ s_.2.2.1 ∧ w3.heap.size ≤ s_.2.2.2 ∧ Below w3.heap.size w3 W' ∧ s_.1.size = 35 ∧ s_.2.1.size = 35 ∧ s_.1.all (·.oneCell') = true ∧ s_.2.1.all (·.oneCell') = true) ?_ ?_
      rotate_left
      · intro hCont
        have hB := below_drew1 (Below.refl w3.heap.size w3)
        have zz : w3.heap.size ≤ w3.drew.heap.size := Nat.le_refl _
        refine three_ (i := 2) (j := 6) (k := 7) (Ni := some 24) (Nj := some 5) (Nk := some 6) #[true, true, true, true, true, false, false, false, false, false] #[true, true, false, true, true, false, true, false, false, false] #[true, true, false, true, true, false, false, true, false, false] rfl rfl rfl rfl rfl rfl (by kernel_rfl) (by decide) (by decide) (by decide) (fun K hK => ?_) (fun K hK => ?_) (fun K hK => ?_)
        · skip
          refine goes_ Try.func17 (by kernel_rfl) rfl #[.agg ca, .agg cb] (by rfl) rfl rfl (by (try simp only [List.map_toArray, List.map_cons, List.map_nil]); first | done | rfl) ?_
          refine (between_new _ _ _ a b (HA.out.below hB) (HBS.out.below hB) HT1.out HT2.out).mono ?_
          rintro e x1 ⟨v, rfl, hD, hb⟩
          obtain ⟨cd, rfl, sD, oD⟩ := DeltaC_form (hD x1 (fun _ _ _ => rfl))
          have hDb := Below.refl x1.heap.size x1
          have z1 := hb.size
          refine ⟨_, rfl, ?_⟩
          replace hB := hB.trans (hb.mono hB.size)
          refine hK.out _ _ ⟨blk_below BA.out hB, blk_below BB.out hB, hB⟩ (fun hHeld => ?_)
          clear hb
          clear hK K
          refine norm_ (a' := ?_) ?_ ?_
          rotate_left
          · show Act.put _ (some 24) _ = _
            simp only [Act.put, List.setIfInBounds_toArray, List.set_cons_zero, List.set_cons_succ, i64_w, i32_w]
            rfl
          refine three_ (i := 5) (j := 6) (k := 7) (Ni := some 27) (Nj := some 5) (Nk := some 6) #[true, true, true, true, true, true, false, false, false, false] #[true, true, true, true, true, false, true, false, false, false] #[true, true, true, true, true, false, false, true, false, false] rfl rfl rfl rfl rfl rfl (by kernel_rfl) (by decide) (by decide) (by decide) (fun K hK => ?_) (fun K hK => ?_) (fun K hK => ?_)
          · skip
            refine goes_ Try.func17 (by kernel_rfl) rfl #[.agg cb, .agg ca] (by rfl) rfl rfl (by (try simp only [List.map_toArray, List.map_cons, List.map_nil]); first | done | rfl) ?_
            refine (between_new _ _ _ b a (HBS.out.below hB) (HA.out.below hB) HT2.out HT1.out).mono ?_
            rintro e x2 ⟨v, rfl, hE, hb⟩
            obtain ⟨ce, rfl, sE, oE⟩ := DeltaC_form (hE x2 (fun _ _ _ => rfl))
            have hEb := Below.refl x2.heap.size x2
            have z2 := hb.size
            refine ⟨_, rfl, ?_⟩
            replace hDb := hDb.trans (hb.mono hDb.size)
            replace hB := hB.trans (hb.mono hB.size)
            refine hK.out _ _ ⟨blk_below BA.out hB, blk_below BB.out hB, hB⟩ (fun hHeld => ?_)
            clear hb
            clear hK K
            refine norm_ (a' := ?_) ?_ ?_
            rotate_left
            · show Act.put _ (some 27) _ = _
              simp only [Act.put, List.setIfInBounds_toArray, List.set_cons_zero, List.set_cons_succ, i64_w, i32_w]
              rfl
            refine two_ (i := 6) (j := 7) (Ni := some 5) (Nj := some 6) #[true, true, true, true, true, true, true, false, false, false] #[true, true, true, true, true, true, false, true, false, false] rfl rfl rfl rfl (by kernel_rfl) (by decide) (by decide) (fun K hK => ?_) (fun K hK => ?_)
            · skip
              refine value_ (w1 := x2.alloc o61) (v := .pointer (some ⟨x2.heap.size, 0, none⟩)) (by rfl) rfl (alloc61 rfl) ?_
              have hp := blk_new x2 o61
              have hb := (Below.refl x2.heap.size x2).alloc (Nat.le_refl _) o61
              have z3 := World.size_alloc x2 o61
              obtain ⟨pd, ep⟩ : ∃ z : Nat, z = x2.heap.size := ⟨_, rfl⟩
              rw [← ep] at hp ⊢
              generalize x2.alloc o61 = x3 at hp hb z3 ⊢
              replace hDb := hDb.trans (hb.mono hDb.size)
              replace hEb := hEb.trans (hb.mono hEb.size)
              replace hB := hB.trans (hb.mono hB.size)
              refine hK.out _ _ ⟨blk_below BA.out hB, blk_below BB.out hB, hB⟩ (fun hHeld => ?_)
              clear hb
              clear hK K
              refine norm_ (a' := ?_) ?_ ?_
              rotate_left
              · show Act.put _ (some 5) _ = _
                simp only [Act.put, List.setIfInBounds_toArray, List.set_cons_zero, List.set_cons_succ, i64_w, i32_w]
                rfl
              refine one_ (i := 7) (N := some 6) #[true, true, true, true, true, true, true, true, false, false] rfl rfl (by kernel_rfl) (by decide) (fun K hK => ?_)
              refine value_ (w1 := x3.alloc o61) (v := .pointer (some ⟨x3.heap.size, 0, none⟩)) (by rfl) rfl (alloc61 rfl) ?_
              have hq := blk_new x3 o61
              have hb := (Below.refl x3.heap.size x3).alloc (Nat.le_refl _) o61
              have z4 := World.size_alloc x3 o61
              obtain ⟨pe, eq⟩ : ∃ z : Nat, z = x3.heap.size := ⟨_, rfl⟩
              rw [← eq] at hq ⊢
              generalize x3.alloc o61 = x4 at hq hb z4 ⊢
              replace hDb := hDb.trans (hb.mono hDb.size)
              replace hEb := hEb.trans (hb.mono hEb.size)
              replace hp := blk_below hp hb
              replace hB := hB.trans (hb.mono hB.size)
              refine hK.out _ _ ⟨blk_below BA.out hB, blk_below BB.out hB, hB⟩ (fun hHeld => ?_)
              clear hb
              clear hK K
              refine norm_ (a' := ?_) ?_ ?_
              rotate_left
              · show Act.put _ (some 6) _ = _
                simp only [Act.put, List.setIfInBounds_toArray, List.set_cons_zero, List.set_cons_succ, i64_w, i32_w]
                rfl
              have f1 : DeltaP pd pe x4 (.agg cd) a b := DeltaP_of hD hDb (by omega) (by omega)
              have f2 : DeltaP pd pe x4 (.agg ce) b a := DeltaP_of hE hEb (by omega) (by omega)
              have f3 : pd ≠ pe := by omega
              have f4 : w3.heap.size ≤ pd := by omega
              have f5 : w3.heap.size ≤ pe := by omega
              exact hCont (cd, ce, pd, pe) _ ⟨f1, f2, hp, hq, f3, f4, f5, hB, sD, sE, oD, oE⟩
            · skip
              refine value_ (w1 := x2.alloc o61) (v := .pointer (some ⟨x2.heap.size, 0, none⟩)) (by rfl) rfl (alloc61 rfl) ?_
              have hq := blk_new x2 o61
              have hb := (Below.refl x2.heap.size x2).alloc (Nat.le_refl _) o61
              have z5 := World.size_alloc x2 o61
              obtain ⟨pe, eq⟩ : ∃ z : Nat, z = x2.heap.size := ⟨_, rfl⟩
              rw [← eq] at hq ⊢
              generalize x2.alloc o61 = x5 at hq hb z5 ⊢
              replace hDb := hDb.trans (hb.mono hDb.size)
              replace hEb := hEb.trans (hb.mono hEb.size)
              replace hB := hB.trans (hb.mono hB.size)
              refine hK.out _ _ ⟨blk_below BA.out hB, blk_below BB.out hB, hB⟩ (fun hHeld => ?_)
              clear hb
              clear hK K
              refine norm_ (a' := ?_) ?_ ?_
              rotate_left
              · show Act.put _ (some 6) _ = _
                simp only [Act.put, List.setIfInBounds_toArray, List.set_cons_zero, List.set_cons_succ, i64_w, i32_w]
                rfl
              refine one_ (i := 6) (N := some 5) #[true, true, true, true, true, true, true, true, false, false] rfl rfl (by kernel_rfl) (by decide) (fun K hK => ?_)
              refine value_ (w1 := x5.alloc o61) (v := .pointer (some ⟨x5.heap.size, 0, none⟩)) (by rfl) rfl (alloc61 rfl) ?_
              have hp := blk_new x5 o61
              have hb := (Below.refl x5.heap.size x5).alloc (Nat.le_refl _) o61
              have z6 := World.size_alloc x5 o61
              obtain ⟨pd, ep⟩ : ∃ z : Nat, z = x5.heap.size := ⟨_, rfl⟩
              rw [← ep] at hp ⊢
              generalize x5.alloc o61 = x6 at hp hb z6 ⊢
              replace hDb := hDb.trans (hb.mono hDb.size)
              replace hEb := hEb.trans (hb.mono hEb.size)
              replace hq := blk_below hq hb
              replace hB := hB.trans (hb.mono hB.size)
              refine hK.out _ _ ⟨blk_below BA.out hB, blk_below BB.out hB, hB⟩ (fun hHeld => ?_)
              clear hb
              clear hK K
              refine norm_ (a' := ?_) ?_ ?_
              rotate_left
              · show Act.put _ (some 5) _ = _
                simp only [Act.put, List.setIfInBounds_toArray, List.set_cons_zero, List.set_cons_succ, i64_w, i32_w]
                rfl
              have f1 : DeltaP pd pe x6 (.agg cd) a b := DeltaP_of hD hDb (by omega) (by omega)
              have f2 : DeltaP pd pe x6 (.agg ce) b a := DeltaP_of hE hEb (by omega) (by omega)
              have f3 : pd ≠ pe := by omega
              have f4 : w3.heap.size ≤ pd := by omega
              have f5 : w3.heap.size ≤ pe := by omega
              exact hCont (cd, ce, pd, pe) _ ⟨f1, f2, hp, hq, f3, f4, f5, hB, sD, sE, oD, oE⟩
          · skip
            refine value_ (w1 := x1.alloc o61) (v := .pointer (some ⟨x1.heap.size, 0, none⟩)) (by rfl) rfl (alloc61 rfl) ?_
            have hp := blk_new x1 o61
            have hb := (Below.refl x1.heap.size x1).alloc (Nat.le_refl _) o61
            have z7 := World.size_alloc x1 o61
            obtain ⟨pd, ep⟩ : ∃ z : Nat, z = x1.heap.size := ⟨_, rfl⟩
            rw [← ep] at hp ⊢
            generalize x1.alloc o61 = x7 at hp hb z7 ⊢
            replace hDb := hDb.trans (hb.mono hDb.size)
            replace hB := hB.trans (hb.mono hB.size)
            refine hK.out _ _ ⟨blk_below BA.out hB, blk_below BB.out hB, hB⟩ (fun hHeld => ?_)
            clear hb
            clear hK K
            refine norm_ (a' := ?_) ?_ ?_
            rotate_left
            · show Act.put _ (some 5) _ = _
              simp only [Act.put, List.setIfInBounds_toArray, List.set_cons_zero, List.set_cons_succ, i64_w, i32_w]
              rfl
            refine two_ (i := 5) (j := 7) (Ni := some 27) (Nj := some 6) #[true, true, true, true, true, true, true, false, false, false] #[true, true, true, true, true, false, true, true, false, false] rfl rfl rfl rfl (by kernel_rfl) (by decide) (by decide) (fun K hK => ?_) (fun K hK => ?_)
            · skip
              refine goes_ Try.func17 (by kernel_rfl) rfl #[.agg cb, .agg ca] (by rfl) rfl rfl (by (try simp only [List.map_toArray, List.map_cons, List.map_nil]); first | done | rfl) ?_
              refine (between_new _ _ _ b a (HBS.out.below hB) (HA.out.below hB) HT2.out HT1.out).mono ?_
              rintro e x8 ⟨v, rfl, hE, hb⟩
              obtain ⟨ce, rfl, sE, oE⟩ := DeltaC_form (hE x8 (fun _ _ _ => rfl))
              have hEb := Below.refl x8.heap.size x8
              have z8 := hb.size
              refine ⟨_, rfl, ?_⟩
              replace hDb := hDb.trans (hb.mono hDb.size)
              replace hp := blk_below hp hb
              replace hB := hB.trans (hb.mono hB.size)
              refine hK.out _ _ ⟨blk_below BA.out hB, blk_below BB.out hB, hB⟩ (fun hHeld => ?_)
              clear hb
              clear hK K
              refine norm_ (a' := ?_) ?_ ?_
              rotate_left
              · show Act.put _ (some 27) _ = _
                simp only [Act.put, List.setIfInBounds_toArray, List.set_cons_zero, List.set_cons_succ, i64_w, i32_w]
                rfl
              refine one_ (i := 7) (N := some 6) #[true, true, true, true, true, true, true, true, false, false] rfl rfl (by kernel_rfl) (by decide) (fun K hK => ?_)
              refine value_ (w1 := x8.alloc o61) (v := .pointer (some ⟨x8.heap.size, 0, none⟩)) (by rfl) rfl (alloc61 rfl) ?_
              have hq := blk_new x8 o61
              have hb := (Below.refl x8.heap.size x8).alloc (Nat.le_refl _) o61
              have z9 := World.size_alloc x8 o61
              obtain ⟨pe, eq⟩ : ∃ z : Nat, z = x8.heap.size := ⟨_, rfl⟩
              rw [← eq] at hq ⊢
              generalize x8.alloc o61 = x9 at hq hb z9 ⊢
              replace hDb := hDb.trans (hb.mono hDb.size)
              replace hEb := hEb.trans (hb.mono hEb.size)
              replace hp := blk_below hp hb
              replace hB := hB.trans (hb.mono hB.size)
              refine hK.out _ _ ⟨blk_below BA.out hB, blk_below BB.out hB, hB⟩ (fun hHeld => ?_)
              clear hb
              clear hK K
              refine norm_ (a' := ?_) ?_ ?_
              rotate_left
              · show Act.put _ (some 6) _ = _
                simp only [Act.put, List.setIfInBounds_toArray, List.set_cons_zero, List.set_cons_succ, i64_w, i32_w]
                rfl
              have f1 : DeltaP pd pe x9 (.agg cd) a b := DeltaP_of hD hDb (by omega) (by omega)
              have f2 : DeltaP pd pe x9 (.agg ce) b a := DeltaP_of hE hEb (by omega) (by omega)
              have f3 : pd ≠ pe := by omega
              have f4 : w3.heap.size ≤ pd := by omega
              have f5 : w3.heap.size ≤ pe := by omega
              exact hCont (cd, ce, pd, pe) _ ⟨f1, f2, hp, hq, f3, f4, f5, hB, sD, sE, oD, oE⟩
            · skip
              refine value_ (w1 := x7.alloc o61) (v := .pointer (some ⟨x7.heap.size, 0, none⟩)) (by rfl) rfl (alloc61 rfl) ?_
              have hq := blk_new x7 o61
              have hb := (Below.refl x7.heap.size x7).alloc (Nat.le_refl _) o61
              have z10 := World.size_alloc x7 o61
              obtain ⟨pe, eq⟩ : ∃ z : Nat, z = x7.heap.size := ⟨_, rfl⟩
              rw [← eq] at hq ⊢
              generalize x7.alloc o61 = x10 at hq hb z10 ⊢
              replace hDb := hDb.trans (hb.mono hDb.size)
              replace hp := blk_below hp hb
              replace hB := hB.trans (hb.mono hB.size)
              refine hK.out _ _ ⟨blk_below BA.out hB, blk_below BB.out hB, hB⟩ (fun hHeld => ?_)
              clear hb
              clear hK K
              refine norm_ (a' := ?_) ?_ ?_
              rotate_left
              · show Act.put _ (some 6) _ = _
                simp only [Act.put, List.setIfInBounds_toArray, List.set_cons_zero, List.set_cons_succ, i64_w, i32_w]
                rfl
              refine one_ (i := 5) (N := some 27) #[true, true, true, true, true, true, true, true, false, false] rfl rfl (by kernel_rfl) (by decide) (fun K hK => ?_)
              refine goes_ Try.func17 (by kernel_rfl) rfl #[.agg cb, .agg ca] (by rfl) rfl rfl (by (try simp only [List.map_toArray, List.map_cons, List.map_nil]); first | done | rfl) ?_
              refine (between_new _ _ _ b a (HBS.out.below hB) (HA.out.below hB) HT2.out HT1.out).mono ?_
              rintro e x11 ⟨v, rfl, hE, hb⟩
              obtain ⟨ce, rfl, sE, oE⟩ := DeltaC_form (hE x11 (fun _ _ _ => rfl))
              have hEb := Below.refl x11.heap.size x11
              have z11 := hb.size
              refine ⟨_, rfl, ?_⟩
              replace hDb := hDb.trans (hb.mono hDb.size)
              replace hp := blk_below hp hb
              replace hq := blk_below hq hb
              replace hB := hB.trans (hb.mono hB.size)
              refine hK.out _ _ ⟨blk_below BA.out hB, blk_below BB.out hB, hB⟩ (fun hHeld => ?_)
              clear hb
              clear hK K
              refine norm_ (a' := ?_) ?_ ?_
              rotate_left
              · show Act.put _ (some 27) _ = _
                simp only [Act.put, List.setIfInBounds_toArray, List.set_cons_zero, List.set_cons_succ, i64_w, i32_w]
                rfl
              have f1 : DeltaP pd pe x11 (.agg cd) a b := DeltaP_of hD hDb (by omega) (by omega)
              have f2 : DeltaP pd pe x11 (.agg ce) b a := DeltaP_of hE hEb (by omega) (by omega)
              have f3 : pd ≠ pe := by omega
              have f4 : w3.heap.size ≤ pd := by omega
              have f5 : w3.heap.size ≤ pe := by omega
              exact hCont (cd, ce, pd, pe) _ ⟨f1, f2, hp, hq, f3, f4, f5, hB, sD, sE, oD, oE⟩
          · skip
            refine value_ (w1 := x1.alloc o61) (v := .pointer (some ⟨x1.heap.size, 0, none⟩)) (by rfl) rfl (alloc61 rfl) ?_
            have hq := blk_new x1 o61
            have hb := (Below.refl x1.heap.size x1).alloc (Nat.le_refl _) o61
            have z12 := World.size_alloc x1 o61
            obtain ⟨pe, eq⟩ : ∃ z : Nat, z = x1.heap.size := ⟨_, rfl⟩
            rw [← eq] at hq ⊢
            generalize x1.alloc o61 = x12 at hq hb z12 ⊢
            replace hDb := hDb.trans (hb.mono hDb.size)
            replace hB := hB.trans (hb.mono hB.size)
            refine hK.out _ _ ⟨blk_below BA.out hB, blk_below BB.out hB, hB⟩ (fun hHeld => ?_)
            clear hb
            clear hK K
            refine norm_ (a' := ?_) ?_ ?_
            rotate_left
            · show Act.put _ (some 6) _ = _
              simp only [Act.put, List.setIfInBounds_toArray, List.set_cons_zero, List.set_cons_succ, i64_w, i32_w]
              rfl
            refine two_ (i := 5) (j := 6) (Ni := some 27) (Nj := some 5) #[true, true, true, true, true, true, false, true, false, false] #[true, true, true, true, true, false, true, true, false, false] rfl rfl rfl rfl (by kernel_rfl) (by decide) (by decide) (fun K hK => ?_) (fun K hK => ?_)
            · skip
              refine goes_ Try.func17 (by kernel_rfl) rfl #[.agg cb, .agg ca] (by rfl) rfl rfl (by (try simp only [List.map_toArray, List.map_cons, List.map_nil]); first | done | rfl) ?_
              refine (between_new _ _ _ b a (HBS.out.below hB) (HA.out.below hB) HT2.out HT1.out).mono ?_
              rintro e x13 ⟨v, rfl, hE, hb⟩
              obtain ⟨ce, rfl, sE, oE⟩ := DeltaC_form (hE x13 (fun _ _ _ => rfl))
              have hEb := Below.refl x13.heap.size x13
              have z13 := hb.size
              refine ⟨_, rfl, ?_⟩
              replace hDb := hDb.trans (hb.mono hDb.size)
              replace hq := blk_below hq hb
              replace hB := hB.trans (hb.mono hB.size)
              refine hK.out _ _ ⟨blk_below BA.out hB, blk_below BB.out hB, hB⟩ (fun hHeld => ?_)
              clear hb
              clear hK K
              refine norm_ (a' := ?_) ?_ ?_
              rotate_left
              · show Act.put _ (some 27) _ = _
                simp only [Act.put, List.setIfInBounds_toArray, List.set_cons_zero, List.set_cons_succ, i64_w, i32_w]
                rfl
              refine one_ (i := 6) (N := some 5) #[true, true, true, true, true, true, true, true, false, false] rfl rfl (by kernel_rfl) (by decide) (fun K hK => ?_)
              refine value_ (w1 := x13.alloc o61) (v := .pointer (some ⟨x13.heap.size, 0, none⟩)) (by rfl) rfl (alloc61 rfl) ?_
              have hp := blk_new x13 o61
              have hb := (Below.refl x13.heap.size x13).alloc (Nat.le_refl _) o61
              have z14 := World.size_alloc x13 o61
              obtain ⟨pd, ep⟩ : ∃ z : Nat, z = x13.heap.size := ⟨_, rfl⟩
              rw [← ep] at hp ⊢
              generalize x13.alloc o61 = x14 at hp hb z14 ⊢
              replace hDb := hDb.trans (hb.mono hDb.size)
              replace hEb := hEb.trans (hb.mono hEb.size)
              replace hq := blk_below hq hb
              replace hB := hB.trans (hb.mono hB.size)
              refine hK.out _ _ ⟨blk_below BA.out hB, blk_below BB.out hB, hB⟩ (fun hHeld => ?_)
              clear hb
              clear hK K
              refine norm_ (a' := ?_) ?_ ?_
              rotate_left
              · show Act.put _ (some 5) _ = _
                simp only [Act.put, List.setIfInBounds_toArray, List.set_cons_zero, List.set_cons_succ, i64_w, i32_w]
                rfl
              have f1 : DeltaP pd pe x14 (.agg cd) a b := DeltaP_of hD hDb (by omega) (by omega)
              have f2 : DeltaP pd pe x14 (.agg ce) b a := DeltaP_of hE hEb (by omega) (by omega)
              have f3 : pd ≠ pe := by omega
              have f4 : w3.heap.size ≤ pd := by omega
              have f5 : w3.heap.size ≤ pe := by omega
              exact hCont (cd, ce, pd, pe) _ ⟨f1, f2, hp, hq, f3, f4, f5, hB, sD, sE, oD, oE⟩
            · skip
              refine value_ (w1 := x12.alloc o61) (v := .pointer (some ⟨x12.heap.size, 0, none⟩)) (by rfl) rfl (alloc61 rfl) ?_
              have hp := blk_new x12 o61
              have hb := (Below.refl x12.heap.size x12).alloc (Nat.le_refl _) o61
              have z15 := World.size_alloc x12 o61
              obtain ⟨pd, ep⟩ : ∃ z : Nat, z = x12.heap.size := ⟨_, rfl⟩
              rw [← ep] at hp ⊢
              generalize x12.alloc o61 = x15 at hp hb z15 ⊢
              replace hDb := hDb.trans (hb.mono hDb.size)
              replace hq := blk_below hq hb
              replace hB := hB.trans (hb.mono hB.size)
              refine hK.out _ _ ⟨blk_below BA.out hB, blk_below BB.out hB, hB⟩ (fun hHeld => ?_)
              clear hb
              clear hK K
              refine norm_ (a' := ?_) ?_ ?_
              rotate_left
              · show Act.put _ (some 5) _ = _
                simp only [Act.put, List.setIfInBounds_toArray, List.set_cons_zero, List.set_cons_succ, i64_w, i32_w]
                rfl
              refine one_ (i := 5) (N := some 27) #[true, true, true, true, true, true, true, true, false, false] rfl rfl (by kernel_rfl) (by decide) (fun K hK => ?_)
              refine goes_ Try.func17 (by kernel_rfl) rfl #[.agg cb, .agg ca] (by rfl) rfl rfl (by (try simp only [List.map_toArray, List.map_cons, List.map_nil]); first | done | rfl) ?_
              refine (between_new _ _ _ b a (HBS.out.below hB) (HA.out.below hB) HT2.out HT1.out).mono ?_
              rintro e x16 ⟨v, rfl, hE, hb⟩
              obtain ⟨ce, rfl, sE, oE⟩ := DeltaC_form (hE x16 (fun _ _ _ => rfl))
              have hEb := Below.refl x16.heap.size x16
              have z16 := hb.size
              refine ⟨_, rfl, ?_⟩
              replace hDb := hDb.trans (hb.mono hDb.size)
              replace hp := blk_below hp hb
              replace hq := blk_below hq hb
              replace hB := hB.trans (hb.mono hB.size)
              refine hK.out _ _ ⟨blk_below BA.out hB, blk_below BB.out hB, hB⟩ (fun hHeld => ?_)
              clear hb
              clear hK K
              refine norm_ (a' := ?_) ?_ ?_
              rotate_left
              · show Act.put _ (some 27) _ = _
                simp only [Act.put, List.setIfInBounds_toArray, List.set_cons_zero, List.set_cons_succ, i64_w, i32_w]
                rfl
              have f1 : DeltaP pd pe x16 (.agg cd) a b := DeltaP_of hD hDb (by omega) (by omega)
              have f2 : DeltaP pd pe x16 (.agg ce) b a := DeltaP_of hE hEb (by omega) (by omega)
              have f3 : pd ≠ pe := by omega
              have f4 : w3.heap.size ≤ pd := by omega
              have f5 : w3.heap.size ≤ pe := by omega
              exact hCont (cd, ce, pd, pe) _ ⟨f1, f2, hp, hq, f3, f4, f5, hB, sD, sE, oD, oE⟩
        · skip
          refine value_ (w1 := w3.drew.alloc o61) (v := .pointer (some ⟨w3.drew.heap.size, 0, none⟩)) (by rfl) rfl (alloc61 rfl) ?_
          have hp := blk_new w3.drew o61
          have hb := (Below.refl w3.drew.heap.size w3.drew).alloc (Nat.le_refl _) o61
          have z17 := World.size_alloc w3.drew o61
          obtain ⟨pd, ep⟩ : ∃ z : Nat, z = w3.drew.heap.size := ⟨_, rfl⟩
          rw [← ep] at hp ⊢
          generalize w3.drew.alloc o61 = x17 at hp hb z17 ⊢
          replace hB := hB.trans (hb.mono hB.size)
          refine hK.out _ _ ⟨blk_below BA.out hB, blk_below BB.out hB, hB⟩ (fun hHeld => ?_)
          clear hb
          clear hK K
          refine norm_ (a' := ?_) ?_ ?_
          rotate_left
          · show Act.put _ (some 5) _ = _
            simp only [Act.put, List.setIfInBounds_toArray, List.set_cons_zero, List.set_cons_succ, i64_w, i32_w]
            rfl
          refine two_ (i := 2) (j := 7) (Ni := some 24) (Nj := some 6) #[true, true, true, true, true, false, true, false, false, false] #[true, true, false, true, true, false, true, true, false, false] rfl rfl rfl rfl (by kernel_rfl) (by decide) (by decide) (fun K hK => ?_) (fun K hK => ?_)
          · skip
            refine goes_ Try.func17 (by kernel_rfl) rfl #[.agg ca, .agg cb] (by rfl) rfl rfl (by (try simp only [List.map_toArray, List.map_cons, List.map_nil]); first | done | rfl) ?_
            refine (between_new _ _ _ a b (HA.out.below hB) (HBS.out.below hB) HT1.out HT2.out).mono ?_
            rintro e x18 ⟨v, rfl, hD, hb⟩
            obtain ⟨cd, rfl, sD, oD⟩ := DeltaC_form (hD x18 (fun _ _ _ => rfl))
            have hDb := Below.refl x18.heap.size x18
            have z18 := hb.size
            refine ⟨_, rfl, ?_⟩
            replace hp := blk_below hp hb
            replace hB := hB.trans (hb.mono hB.size)
            refine hK.out _ _ ⟨blk_below BA.out hB, blk_below BB.out hB, hB⟩ (fun hHeld => ?_)
            clear hb
            clear hK K
            refine norm_ (a' := ?_) ?_ ?_
            rotate_left
            · show Act.put _ (some 24) _ = _
              simp only [Act.put, List.setIfInBounds_toArray, List.set_cons_zero, List.set_cons_succ, i64_w, i32_w]
              rfl
            refine two_ (i := 5) (j := 7) (Ni := some 27) (Nj := some 6) #[true, true, true, true, true, true, true, false, false, false] #[true, true, true, true, true, false, true, true, false, false] rfl rfl rfl rfl (by kernel_rfl) (by decide) (by decide) (fun K hK => ?_) (fun K hK => ?_)
            · skip
              refine goes_ Try.func17 (by kernel_rfl) rfl #[.agg cb, .agg ca] (by rfl) rfl rfl (by (try simp only [List.map_toArray, List.map_cons, List.map_nil]); first | done | rfl) ?_
              refine (between_new _ _ _ b a (HBS.out.below hB) (HA.out.below hB) HT2.out HT1.out).mono ?_
              rintro e x19 ⟨v, rfl, hE, hb⟩
              obtain ⟨ce, rfl, sE, oE⟩ := DeltaC_form (hE x19 (fun _ _ _ => rfl))
              have hEb := Below.refl x19.heap.size x19
              have z19 := hb.size
              refine ⟨_, rfl, ?_⟩
              replace hDb := hDb.trans (hb.mono hDb.size)
              replace hp := blk_below hp hb
              replace hB := hB.trans (hb.mono hB.size)
              refine hK.out _ _ ⟨blk_below BA.out hB, blk_below BB.out hB, hB⟩ (fun hHeld => ?_)
              clear hb
              clear hK K
              refine norm_ (a' := ?_) ?_ ?_
              rotate_left
              · show Act.put _ (some 27) _ = _
                simp only [Act.put, List.setIfInBounds_toArray, List.set_cons_zero, List.set_cons_succ, i64_w, i32_w]
                rfl
              refine one_ (i := 7) (N := some 6) #[true, true, true, true, true, true, true, true, false, false] rfl rfl (by kernel_rfl) (by decide) (fun K hK => ?_)
              refine value_ (w1 := x19.alloc o61) (v := .pointer (some ⟨x19.heap.size, 0, none⟩)) (by rfl) rfl (alloc61 rfl) ?_
              have hq := blk_new x19 o61
              have hb := (Below.refl x19.heap.size x19).alloc (Nat.le_refl _) o61
              have z20 := World.size_alloc x19 o61
              obtain ⟨pe, eq⟩ : ∃ z : Nat, z = x19.heap.size := ⟨_, rfl⟩
              rw [← eq] at hq ⊢
              generalize x19.alloc o61 = x20 at hq hb z20 ⊢
              replace hDb := hDb.trans (hb.mono hDb.size)
              replace hEb := hEb.trans (hb.mono hEb.size)
              replace hp := blk_below hp hb
              replace hB := hB.trans (hb.mono hB.size)
              refine hK.out _ _ ⟨blk_below BA.out hB, blk_below BB.out hB, hB⟩ (fun hHeld => ?_)
              clear hb
              clear hK K
              refine norm_ (a' := ?_) ?_ ?_
              rotate_left
              · show Act.put _ (some 6) _ = _
                simp only [Act.put, List.setIfInBounds_toArray, List.set_cons_zero, List.set_cons_succ, i64_w, i32_w]
                rfl
              have f1 : DeltaP pd pe x20 (.agg cd) a b := DeltaP_of hD hDb (by omega) (by omega)
              have f2 : DeltaP pd pe x20 (.agg ce) b a := DeltaP_of hE hEb (by omega) (by omega)
              have f3 : pd ≠ pe := by omega
              have f4 : w3.heap.size ≤ pd := by omega
              have f5 : w3.heap.size ≤ pe := by omega
              exact hCont (cd, ce, pd, pe) _ ⟨f1, f2, hp, hq, f3, f4, f5, hB, sD, sE, oD, oE⟩
            · skip
              refine value_ (w1 := x18.alloc o61) (v := .pointer (some ⟨x18.heap.size, 0, none⟩)) (by rfl) rfl (alloc61 rfl) ?_
              have hq := blk_new x18 o61
              have hb := (Below.refl x18.heap.size x18).alloc (Nat.le_refl _) o61
              have z21 := World.size_alloc x18 o61
              obtain ⟨pe, eq⟩ : ∃ z : Nat, z = x18.heap.size := ⟨_, rfl⟩
              rw [← eq] at hq ⊢
              generalize x18.alloc o61 = x21 at hq hb z21 ⊢
              replace hDb := hDb.trans (hb.mono hDb.size)
              replace hp := blk_below hp hb
              replace hB := hB.trans (hb.mono hB.size)
              refine hK.out _ _ ⟨blk_below BA.out hB, blk_below BB.out hB, hB⟩ (fun hHeld => ?_)
              clear hb
              clear hK K
              refine norm_ (a' := ?_) ?_ ?_
              rotate_left
              · show Act.put _ (some 6) _ = _
                simp only [Act.put, List.setIfInBounds_toArray, List.set_cons_zero, List.set_cons_succ, i64_w, i32_w]
                rfl
              refine one_ (i := 5) (N := some 27) #[true, true, true, true, true, true, true, true, false, false] rfl rfl (by kernel_rfl) (by decide) (fun K hK => ?_)
              refine goes_ Try.func17 (by kernel_rfl) rfl #[.agg cb, .agg ca] (by rfl) rfl rfl (by (try simp only [List.map_toArray, List.map_cons, List.map_nil]); first | done | rfl) ?_
              refine (between_new _ _ _ b a (HBS.out.below hB) (HA.out.below hB) HT2.out HT1.out).mono ?_
              rintro e x22 ⟨v, rfl, hE, hb⟩
              obtain ⟨ce, rfl, sE, oE⟩ := DeltaC_form (hE x22 (fun _ _ _ => rfl))
              have hEb := Below.refl x22.heap.size x22
              have z22 := hb.size
              refine ⟨_, rfl, ?_⟩
              replace hDb := hDb.trans (hb.mono hDb.size)
              replace hp := blk_below hp hb
              replace hq := blk_below hq hb
              replace hB := hB.trans (hb.mono hB.size)
              refine hK.out _ _ ⟨blk_below BA.out hB, blk_below BB.out hB, hB⟩ (fun hHeld => ?_)
              clear hb
              clear hK K
              refine norm_ (a' := ?_) ?_ ?_
              rotate_left
              · show Act.put _ (some 27) _ = _
                simp only [Act.put, List.setIfInBounds_toArray, List.set_cons_zero, List.set_cons_succ, i64_w, i32_w]
                rfl
              have f1 : DeltaP pd pe x22 (.agg cd) a b := DeltaP_of hD hDb (by omega) (by omega)
              have f2 : DeltaP pd pe x22 (.agg ce) b a := DeltaP_of hE hEb (by omega) (by omega)
              have f3 : pd ≠ pe := by omega
              have f4 : w3.heap.size ≤ pd := by omega
              have f5 : w3.heap.size ≤ pe := by omega
              exact hCont (cd, ce, pd, pe) _ ⟨f1, f2, hp, hq, f3, f4, f5, hB, sD, sE, oD, oE⟩
          · skip
            refine value_ (w1 := x17.alloc o61) (v := .pointer (some ⟨x17.heap.size, 0, none⟩)) (by rfl) rfl (alloc61 rfl) ?_
            have hq := blk_new x17 o61
            have hb := (Below.refl x17.heap.size x17).alloc (Nat.le_refl _) o61
            have z23 := World.size_alloc x17 o61
            obtain ⟨pe, eq⟩ : ∃ z : Nat, z = x17.heap.size := ⟨_, rfl⟩
            rw [← eq] at hq ⊢
            generalize x17.alloc o61 = x23 at hq hb z23 ⊢
            replace hp := blk_below hp hb
            replace hB := hB.trans (hb.mono hB.size)
            refine hK.out _ _ ⟨blk_below BA.out hB, blk_below BB.out hB, hB⟩ (fun hHeld => ?_)
            clear hb
            clear hK K
            refine norm_ (a' := ?_) ?_ ?_
            rotate_left
            · show Act.put _ (some 6) _ = _
              simp only [Act.put, List.setIfInBounds_toArray, List.set_cons_zero, List.set_cons_succ, i64_w, i32_w]
              rfl
            refine one_ (i := 2) (N := some 24) #[true, true, true, true, true, false, true, true, false, false] rfl rfl (by kernel_rfl) (by decide) (fun K hK => ?_)
            refine goes_ Try.func17 (by kernel_rfl) rfl #[.agg ca, .agg cb] (by rfl) rfl rfl (by (try simp only [List.map_toArray, List.map_cons, List.map_nil]); first | done | rfl) ?_
            refine (between_new _ _ _ a b (HA.out.below hB) (HBS.out.below hB) HT1.out HT2.out).mono ?_
            rintro e x24 ⟨v, rfl, hD, hb⟩
            obtain ⟨cd, rfl, sD, oD⟩ := DeltaC_form (hD x24 (fun _ _ _ => rfl))
            have hDb := Below.refl x24.heap.size x24
            have z24 := hb.size
            refine ⟨_, rfl, ?_⟩
            replace hp := blk_below hp hb
            replace hq := blk_below hq hb
            replace hB := hB.trans (hb.mono hB.size)
            refine hK.out _ _ ⟨blk_below BA.out hB, blk_below BB.out hB, hB⟩ (fun hHeld => ?_)
            clear hb
            clear hK K
            refine norm_ (a' := ?_) ?_ ?_
            rotate_left
            · show Act.put _ (some 24) _ = _
              simp only [Act.put, List.setIfInBounds_toArray, List.set_cons_zero, List.set_cons_succ, i64_w, i32_w]
              rfl
            refine one_ (i := 5) (N := some 27) #[true, true, true, true, true, true, true, true, false, false] rfl rfl (by kernel_rfl) (by decide) (fun K hK => ?_)
            refine goes_ Try.func17 (by kernel_rfl) rfl #[.agg cb, .agg ca] (by rfl) rfl rfl (by (try simp only [List.map_toArray, List.map_cons, List.map_nil]); first | done | rfl) ?_
            refine (between_new _ _ _ b a (HBS.out.below hB) (HA.out.below hB) HT2.out HT1.out).mono ?_
            rintro e x25 ⟨v, rfl, hE, hb⟩
            obtain ⟨ce, rfl, sE, oE⟩ := DeltaC_form (hE x25 (fun _ _ _ => rfl))
            have hEb := Below.refl x25.heap.size x25
            have z25 := hb.size
            refine ⟨_, rfl, ?_⟩
            replace hDb := hDb.trans (hb.mono hDb.size)
            replace hp := blk_below hp hb
            replace hq := blk_below hq hb
            replace hB := hB.trans (hb.mono hB.size)
            refine hK.out _ _ ⟨blk_below BA.out hB, blk_below BB.out hB, hB⟩ (fun hHeld => ?_)
            clear hb
            clear hK K
            refine norm_ (a' := ?_) ?_ ?_
            rotate_left
            · show Act.put _ (some 27) _ = _
              simp only [Act.put, List.setIfInBounds_toArray, List.set_cons_zero, List.set_cons_succ, i64_w, i32_w]
              rfl
            have f1 : DeltaP pd pe x25 (.agg cd) a b := DeltaP_of hD hDb (by omega) (by omega)
            have f2 : DeltaP pd pe x25 (.agg ce) b a := DeltaP_of hE hEb (by omega) (by omega)
            have f3 : pd ≠ pe := by omega
            have f4 : w3.heap.size ≤ pd := by omega
            have f5 : w3.heap.size ≤ pe := by omega
            exact hCont (cd, ce, pd, pe) _ ⟨f1, f2, hp, hq, f3, f4, f5, hB, sD, sE, oD, oE⟩
        · skip
          refine value_ (w1 := w3.drew.alloc o61) (v := .pointer (some ⟨w3.drew.heap.size, 0, none⟩)) (by rfl) rfl (alloc61 rfl) ?_
          have hq := blk_new w3.drew o61
          have hb := (Below.refl w3.drew.heap.size w3.drew).alloc (Nat.le_refl _) o61
          have z26 := World.size_alloc w3.drew o61
          obtain ⟨pe, eq⟩ : ∃ z : Nat, z = w3.drew.heap.size := ⟨_, rfl⟩
          rw [← eq] at hq ⊢
          generalize w3.drew.alloc o61 = x26 at hq hb z26 ⊢
          replace hB := hB.trans (hb.mono hB.size)
          refine hK.out _ _ ⟨blk_below BA.out hB, blk_below BB.out hB, hB⟩ (fun hHeld => ?_)
          clear hb
          clear hK K
          refine norm_ (a' := ?_) ?_ ?_
          rotate_left
          · show Act.put _ (some 6) _ = _
            simp only [Act.put, List.setIfInBounds_toArray, List.set_cons_zero, List.set_cons_succ, i64_w, i32_w]
            rfl
          refine two_ (i := 2) (j := 6) (Ni := some 24) (Nj := some 5) #[true, true, true, true, true, false, false, true, false, false] #[true, true, false, true, true, false, true, true, false, false] rfl rfl rfl rfl (by kernel_rfl) (by decide) (by decide) (fun K hK => ?_) (fun K hK => ?_)
          · skip
            refine goes_ Try.func17 (by kernel_rfl) rfl #[.agg ca, .agg cb] (by rfl) rfl rfl (by (try simp only [List.map_toArray, List.map_cons, List.map_nil]); first | done | rfl) ?_
            refine (between_new _ _ _ a b (HA.out.below hB) (HBS.out.below hB) HT1.out HT2.out).mono ?_
            rintro e x27 ⟨v, rfl, hD, hb⟩
            obtain ⟨cd, rfl, sD, oD⟩ := DeltaC_form (hD x27 (fun _ _ _ => rfl))
            have hDb := Below.refl x27.heap.size x27
            have z27 := hb.size
            refine ⟨_, rfl, ?_⟩
            replace hq := blk_below hq hb
            replace hB := hB.trans (hb.mono hB.size)
            refine hK.out _ _ ⟨blk_below BA.out hB, blk_below BB.out hB, hB⟩ (fun hHeld => ?_)
            clear hb
            clear hK K
            refine norm_ (a' := ?_) ?_ ?_
            rotate_left
            · show Act.put _ (some 24) _ = _
              simp only [Act.put, List.setIfInBounds_toArray, List.set_cons_zero, List.set_cons_succ, i64_w, i32_w]
              rfl
            refine two_ (i := 5) (j := 6) (Ni := some 27) (Nj := some 5) #[true, true, true, true, true, true, false, true, false, false] #[true, true, true, true, true, false, true, true, false, false] rfl rfl rfl rfl (by kernel_rfl) (by decide) (by decide) (fun K hK => ?_) (fun K hK => ?_)
            · skip
              refine goes_ Try.func17 (by kernel_rfl) rfl #[.agg cb, .agg ca] (by rfl) rfl rfl (by (try simp only [List.map_toArray, List.map_cons, List.map_nil]); first | done | rfl) ?_
              refine (between_new _ _ _ b a (HBS.out.below hB) (HA.out.below hB) HT2.out HT1.out).mono ?_
              rintro e x28 ⟨v, rfl, hE, hb⟩
              obtain ⟨ce, rfl, sE, oE⟩ := DeltaC_form (hE x28 (fun _ _ _ => rfl))
              have hEb := Below.refl x28.heap.size x28
              have z28 := hb.size
              refine ⟨_, rfl, ?_⟩
              replace hDb := hDb.trans (hb.mono hDb.size)
              replace hq := blk_below hq hb
              replace hB := hB.trans (hb.mono hB.size)
              refine hK.out _ _ ⟨blk_below BA.out hB, blk_below BB.out hB, hB⟩ (fun hHeld => ?_)
              clear hb
              clear hK K
              refine norm_ (a' := ?_) ?_ ?_
              rotate_left
              · show Act.put _ (some 27) _ = _
                simp only [Act.put, List.setIfInBounds_toArray, List.set_cons_zero, List.set_cons_succ, i64_w, i32_w]
                rfl
              refine one_ (i := 6) (N := some 5) #[true, true, true, true, true, true, true, true, false, false] rfl rfl (by kernel_rfl) (by decide) (fun K hK => ?_)
              refine value_ (w1 := x28.alloc o61) (v := .pointer (some ⟨x28.heap.size, 0, none⟩)) (by rfl) rfl (alloc61 rfl) ?_
              have hp := blk_new x28 o61
              have hb := (Below.refl x28.heap.size x28).alloc (Nat.le_refl _) o61
              have z29 := World.size_alloc x28 o61
              obtain ⟨pd, ep⟩ : ∃ z : Nat, z = x28.heap.size := ⟨_, rfl⟩
              rw [← ep] at hp ⊢
              generalize x28.alloc o61 = x29 at hp hb z29 ⊢
              replace hDb := hDb.trans (hb.mono hDb.size)
              replace hEb := hEb.trans (hb.mono hEb.size)
              replace hq := blk_below hq hb
              replace hB := hB.trans (hb.mono hB.size)
              refine hK.out _ _ ⟨blk_below BA.out hB, blk_below BB.out hB, hB⟩ (fun hHeld => ?_)
              clear hb
              clear hK K
              refine norm_ (a' := ?_) ?_ ?_
              rotate_left
              · show Act.put _ (some 5) _ = _
                simp only [Act.put, List.setIfInBounds_toArray, List.set_cons_zero, List.set_cons_succ, i64_w, i32_w]
                rfl
              have f1 : DeltaP pd pe x29 (.agg cd) a b := DeltaP_of hD hDb (by omega) (by omega)
              have f2 : DeltaP pd pe x29 (.agg ce) b a := DeltaP_of hE hEb (by omega) (by omega)
              have f3 : pd ≠ pe := by omega
              have f4 : w3.heap.size ≤ pd := by omega
              have f5 : w3.heap.size ≤ pe := by omega
              exact hCont (cd, ce, pd, pe) _ ⟨f1, f2, hp, hq, f3, f4, f5, hB, sD, sE, oD, oE⟩
            · skip
              refine value_ (w1 := x27.alloc o61) (v := .pointer (some ⟨x27.heap.size, 0, none⟩)) (by rfl) rfl (alloc61 rfl) ?_
              have hp := blk_new x27 o61
              have hb := (Below.refl x27.heap.size x27).alloc (Nat.le_refl _) o61
              have z30 := World.size_alloc x27 o61
              obtain ⟨pd, ep⟩ : ∃ z : Nat, z = x27.heap.size := ⟨_, rfl⟩
              rw [← ep] at hp ⊢
              generalize x27.alloc o61 = x30 at hp hb z30 ⊢
              replace hDb := hDb.trans (hb.mono hDb.size)
              replace hq := blk_below hq hb
              replace hB := hB.trans (hb.mono hB.size)
              refine hK.out _ _ ⟨blk_below BA.out hB, blk_below BB.out hB, hB⟩ (fun hHeld => ?_)
              clear hb
              clear hK K
              refine norm_ (a' := ?_) ?_ ?_
              rotate_left
              · show Act.put _ (some 5) _ = _
                simp only [Act.put, List.setIfInBounds_toArray, List.set_cons_zero, List.set_cons_succ, i64_w, i32_w]
                rfl
              refine one_ (i := 5) (N := some 27) #[true, true, true, true, true, true, true, true, false, false] rfl rfl (by kernel_rfl) (by decide) (fun K hK => ?_)
              refine goes_ Try.func17 (by kernel_rfl) rfl #[.agg cb, .agg ca] (by rfl) rfl rfl (by (try simp only [List.map_toArray, List.map_cons, List.map_nil]); first | done | rfl) ?_
              refine (between_new _ _ _ b a (HBS.out.below hB) (HA.out.below hB) HT2.out HT1.out).mono ?_
              rintro e x31 ⟨v, rfl, hE, hb⟩
              obtain ⟨ce, rfl, sE, oE⟩ := DeltaC_form (hE x31 (fun _ _ _ => rfl))
              have hEb := Below.refl x31.heap.size x31
              have z31 := hb.size
              refine ⟨_, rfl, ?_⟩
              replace hDb := hDb.trans (hb.mono hDb.size)
              replace hp := blk_below hp hb
              replace hq := blk_below hq hb
              replace hB := hB.trans (hb.mono hB.size)
              refine hK.out _ _ ⟨blk_below BA.out hB, blk_below BB.out hB, hB⟩ (fun hHeld => ?_)
              clear hb
              clear hK K
              refine norm_ (a' := ?_) ?_ ?_
              rotate_left
              · show Act.put _ (some 27) _ = _
                simp only [Act.put, List.setIfInBounds_toArray, List.set_cons_zero, List.set_cons_succ, i64_w, i32_w]
                rfl
              have f1 : DeltaP pd pe x31 (.agg cd) a b := DeltaP_of hD hDb (by omega) (by omega)
              have f2 : DeltaP pd pe x31 (.agg ce) b a := DeltaP_of hE hEb (by omega) (by omega)
              have f3 : pd ≠ pe := by omega
              have f4 : w3.heap.size ≤ pd := by omega
              have f5 : w3.heap.size ≤ pe := by omega
              exact hCont (cd, ce, pd, pe) _ ⟨f1, f2, hp, hq, f3, f4, f5, hB, sD, sE, oD, oE⟩
          · skip
            refine value_ (w1 := x26.alloc o61) (v := .pointer (some ⟨x26.heap.size, 0, none⟩)) (by rfl) rfl (alloc61 rfl) ?_
            have hp := blk_new x26 o61
            have hb := (Below.refl x26.heap.size x26).alloc (Nat.le_refl _) o61
            have z32 := World.size_alloc x26 o61
            obtain ⟨pd, ep⟩ : ∃ z : Nat, z = x26.heap.size := ⟨_, rfl⟩
            rw [← ep] at hp ⊢
            generalize x26.alloc o61 = x32 at hp hb z32 ⊢
            replace hq := blk_below hq hb
            replace hB := hB.trans (hb.mono hB.size)
            refine hK.out _ _ ⟨blk_below BA.out hB, blk_below BB.out hB, hB⟩ (fun hHeld => ?_)
            clear hb
            clear hK K
            refine norm_ (a' := ?_) ?_ ?_
            rotate_left
            · show Act.put _ (some 5) _ = _
              simp only [Act.put, List.setIfInBounds_toArray, List.set_cons_zero, List.set_cons_succ, i64_w, i32_w]
              rfl
            refine one_ (i := 2) (N := some 24) #[true, true, true, true, true, false, true, true, false, false] rfl rfl (by kernel_rfl) (by decide) (fun K hK => ?_)
            refine goes_ Try.func17 (by kernel_rfl) rfl #[.agg ca, .agg cb] (by rfl) rfl rfl (by (try simp only [List.map_toArray, List.map_cons, List.map_nil]); first | done | rfl) ?_
            refine (between_new _ _ _ a b (HA.out.below hB) (HBS.out.below hB) HT1.out HT2.out).mono ?_
            rintro e x33 ⟨v, rfl, hD, hb⟩
            obtain ⟨cd, rfl, sD, oD⟩ := DeltaC_form (hD x33 (fun _ _ _ => rfl))
            have hDb := Below.refl x33.heap.size x33
            have z33 := hb.size
            refine ⟨_, rfl, ?_⟩
            replace hp := blk_below hp hb
            replace hq := blk_below hq hb
            replace hB := hB.trans (hb.mono hB.size)
            refine hK.out _ _ ⟨blk_below BA.out hB, blk_below BB.out hB, hB⟩ (fun hHeld => ?_)
            clear hb
            clear hK K
            refine norm_ (a' := ?_) ?_ ?_
            rotate_left
            · show Act.put _ (some 24) _ = _
              simp only [Act.put, List.setIfInBounds_toArray, List.set_cons_zero, List.set_cons_succ, i64_w, i32_w]
              rfl
            refine one_ (i := 5) (N := some 27) #[true, true, true, true, true, true, true, true, false, false] rfl rfl (by kernel_rfl) (by decide) (fun K hK => ?_)
            refine goes_ Try.func17 (by kernel_rfl) rfl #[.agg cb, .agg ca] (by rfl) rfl rfl (by (try simp only [List.map_toArray, List.map_cons, List.map_nil]); first | done | rfl) ?_
            refine (between_new _ _ _ b a (HBS.out.below hB) (HA.out.below hB) HT2.out HT1.out).mono ?_
            rintro e x34 ⟨v, rfl, hE, hb⟩
            obtain ⟨ce, rfl, sE, oE⟩ := DeltaC_form (hE x34 (fun _ _ _ => rfl))
            have hEb := Below.refl x34.heap.size x34
            have z34 := hb.size
            refine ⟨_, rfl, ?_⟩
            replace hDb := hDb.trans (hb.mono hDb.size)
            replace hp := blk_below hp hb
            replace hq := blk_below hq hb
            replace hB := hB.trans (hb.mono hB.size)
            refine hK.out _ _ ⟨blk_below BA.out hB, blk_below BB.out hB, hB⟩ (fun hHeld => ?_)
            clear hb
            clear hK K
            refine norm_ (a' := ?_) ?_ ?_
            rotate_left
            · show Act.put _ (some 27) _ = _
              simp only [Act.put, List.setIfInBounds_toArray, List.set_cons_zero, List.set_cons_succ, i64_w, i32_w]
              rfl
            have f1 : DeltaP pd pe x34 (.agg cd) a b := DeltaP_of hD hDb (by omega) (by omega)
            have f2 : DeltaP pd pe x34 (.agg ce) b a := DeltaP_of hE hEb (by omega) (by omega)
            have f3 : pd ≠ pe := by omega
            have f4 : w3.heap.size ≤ pd := by omega
            have f5 : w3.heap.size ≤ pe := by omega
            exact hCont (cd, ce, pd, pe) _ ⟨f1, f2, hp, hq, f3, f4, f5, hB, sD, sE, oD, oE⟩
      rintro ⟨cd, ce, pd, pe⟩ w4 ⟨hD, hE, hp, hq, hpq, hbp, hbq, hB4, sD, sE, oD, oE⟩
      refine norm_ (a' := ?_) ?_ ?_
      rotate_left
      · simp only [putAll, Act.put, List.setIfInBounds_toArray, List.set_cons_zero, List.set_cons_succ, i64_w, i32_w]
        rfl
      refine last_ (i := 8) (N := none) #[true, true, true, true, true, true, true, true, true, false] rfl rfl (by kernel_rfl) (by decide) (fun K hK => ?_)
      refine skip_ (w1 := w4.setRow pd cd) (by rfl) rfl (store_row rfl rfl rfl hp (by rw [sD]; exact size61) (by rw [sD]; rfl) oD) ?_
      refine hK.out _ _ ?_
      clear hK K
      refine last_ (i := 9) (N := none) #[true, true, true, true, true, true, true, true, true, true] rfl rfl (by kernel_rfl) (by decide) (fun K hK => ?_)
      have hq2 : (w4.setRow pd cd).heap[pe]? = some (.cells z61d 61 (0, 0)) := (setRow_far w4 (Ne.symm hpq)).trans hq
      have BD := Aside0.mk (setRow_heap w4 pd _ cd 61 (0, 0) hp)
      refine skip_ (w1 := (w4.setRow pd cd).setRow pe ce) (by rfl) rfl (store_row rfl rfl rfl hq2 (by rw [sE]; exact size61) (by rw [sE]; rfl) oE) ?_
      refine hK.out _ _ ?_
      clear hK K hHeld
      replace BD := Aside0.mk ((setRow_far (c' := ce) (w4.setRow pd cd) hpq).trans BD.out)
      have BE := Aside0.mk (setRow_heap (w4.setRow pd cd) pe _ ce 61 (0, 0) hq2)
      have hfar : ∀ k, k ≠ pd → k ≠ pe → k < w4.heap.size → w4.heap[k]? = ((w4.setRow pd cd).setRow pe ce).heap[k]? := fun k h1 h2 _ => ((setRow_far (w4.setRow pd cd) h2).trans (setRow_far w4 h1)).symm
      have HD := Aside0.mk (hD _ hfar)
      have HE := Aside0.mk (hE _ hfar)
      have hb : Below w3.heap.size w3 ((w4.setRow pd cd).setRow pe ce) := setRow_below (setRow_below hB4 hbp) hbq
      have HCD := Aside0.mk sD
      have HCE := Aside0.mk sE
      replace HB := Aside0.mk (HB.out.trans (hb.mono HB.out.size))
      replace HW0 := Aside0.mk (HW0.out.trans (hb.mono HW0.out.size))
      replace BA := Aside0.mk (blk_below BA.out hb)
      replace BB := Aside0.mk (blk_below BB.out hb)
      replace HA := Aside0.mk (HA.out.below hb)
      replace HBS := Aside0.mk (HBS.out.below hb)
      refine done_ (by kernel_rfl) ?_
      clear hb hfar hD hE hp hq hpq hbp hbq hB4 sD sE oD oE hq2
      generalize (w4.setRow pd cd).setRow pe ce = w5 at HB HW0 BA BB HA HBS HD HE BD BE ⊢
      go_wp2_with ((with_reducible refine gate_dst (N := 29) rfl ?_); refine Hold.out ?_)
      refine ⟨?_⟩
      refine load_rowG 29 rfl rfl rfl rfl (load61 BD.out HCD.out) ?_
      go_wp2_with ((with_reducible refine gate_dst (N := 30) rfl ?_); refine Hold.out ?_)
      refine ⟨?_⟩
      refine load_rowG 30 rfl rfl rfl rfl (load46 BA.out HCA.out) ?_
      go_wp2_with (go_at_call 18; refine Hold.out ?_)
      refine ⟨?_⟩
      refine (apply_any _ _ _ a b HD.out HA.out HT1.out HT2.out).mono ?_
      rintro e w6 ⟨v, rfl, hS, hb⟩
      replace HB := Aside0.mk (HB.out.trans (hb.mono HB.out.size))
      replace HW0 := Aside0.mk (HW0.out.trans (hb.mono HW0.out.size))
      replace BA := Aside0.mk (blk_below BA.out hb)
      replace BB := Aside0.mk (blk_below BB.out hb)
      replace HA := Aside0.mk (HA.out.below hb)
      replace HBS := Aside0.mk (HBS.out.below hb)
      replace HD := Aside0.mk (HD.out.below hb)
      replace HE := Aside0.mk (HE.out.below hb)
      replace BD := Aside0.mk (blk_below BD.out hb)
      replace BE := Aside0.mk (blk_below BE.out hb)
      clear hb
      have HX := Aside0.mk (hS w6 (fun _ _ _ => rfl))
      obtain ⟨cx, rfl, sx, ox⟩ := SnapC_form HX.out
      have HCX := Aside0.mk sx
      have HOX := Aside0.mk ox
      clear hS sx ox
      go_wp2_with ((with_reducible refine gate_store (t := 46) (p := 7) (v := .tmp 32) rfl ?_); refine Hold.out ?_)
      refine ⟨?_⟩
      refine store_rowL (g := w6.heap.size) (c' := cx) rfl rfl rfl rfl rfl (blk_new w6 _) (by rw [HCX.out]; exact size46) (by rw [HCX.out]; rfl) HOX.out ?_
      have hb : Below w6.heap.size w6 ((w6.alloc (.cells #[.int .i64 0, .int .i64 0, .int .i64 0, .int .i64 0, .int .u64 0, .slice none 0 0, .slice none 0 0, .slice none 0 0, .slice none 0 0, .slice none 0 0, .string ⟨#[]⟩, .slice none 0 0, .int .u64 0, .slice none 0 0] 46)).setRow w6.heap.size cx) := setRow_below ((Below.refl _ w6).alloc (Nat.le_refl _) _) (Nat.le_refl _)
      have BX := Aside0.mk (setRow_heap (w6.alloc (.cells #[.int .i64 0, .int .i64 0, .int .i64 0, .int .i64 0, .int .u64 0, .slice none 0 0, .slice none 0 0, .slice none 0 0, .slice none 0 0, .slice none 0 0, .string ⟨#[]⟩, .slice none 0 0, .int .u64 0, .slice none 0 0] 46)) w6.heap.size _ cx 46 (0, 0) (blk_new w6 (.cells #[.int .i64 0, .int .i64 0, .int .i64 0, .int .i64 0, .int .u64 0, .slice none 0 0, .slice none 0 0, .slice none 0 0, .slice none 0 0, .slice none 0 0, .string ⟨#[]⟩, .slice none 0 0, .int .u64 0, .slice none 0 0] 46)))
      replace HB := Aside0.mk (HB.out.trans (hb.mono HB.out.size))
      replace HW0 := Aside0.mk (HW0.out.trans (hb.mono HW0.out.size))
      replace BA := Aside0.mk (blk_below BA.out hb)
      replace BB := Aside0.mk (blk_below BB.out hb)
      replace HA := Aside0.mk (HA.out.below hb)
      replace HBS := Aside0.mk (HBS.out.below hb)
      replace HD := Aside0.mk (HD.out.below hb)
      replace HE := Aside0.mk (HE.out.below hb)
      replace BD := Aside0.mk (blk_below BD.out hb)
      replace BE := Aside0.mk (blk_below BE.out hb)
      replace HX := Aside0.mk (HX.out.below hb)
      clear hb
      generalize (w6.alloc (.cells #[.int .i64 0, .int .i64 0, .int .i64 0, .int .i64 0, .int .u64 0, .slice none 0 0, .slice none 0 0, .slice none 0 0, .slice none 0 0, .slice none 0 0, .string ⟨#[]⟩, .slice none 0 0, .int .u64 0, .slice none 0 0] 46)).setRow w6.heap.size cx = w7 at HB HW0 BA BB HA HBS HD HE BD BE HX BX  ⊢
      generalize w6.heap.size = gx at BX ⊢
      go_wp2_with ((with_reducible refine gate_dst (N := 35) rfl ?_); refine Hold.out ?_)
      refine ⟨?_⟩
      refine load_rowG 35 rfl rfl rfl rfl (load61 BE.out HCE.out) ?_
      go_wp2_with ((with_reducible refine gate_dst (N := 36) rfl ?_); refine Hold.out ?_)
      refine ⟨?_⟩
      refine load_rowG 36 rfl rfl rfl rfl (load46 BB.out HCB.out) ?_
      go_wp2_with (go_at_call 18; refine Hold.out ?_)
      refine ⟨?_⟩
      refine (apply_any _ _ _ b a HE.out HBS.out HT2.out HT1.out).mono ?_
      rintro e w8 ⟨v, rfl, hS, hb⟩
      replace HB := Aside0.mk (HB.out.trans (hb.mono HB.out.size))
      replace HW0 := Aside0.mk (HW0.out.trans (hb.mono HW0.out.size))
      replace BA := Aside0.mk (blk_below BA.out hb)
      replace BB := Aside0.mk (blk_below BB.out hb)
      replace HA := Aside0.mk (HA.out.below hb)
      replace HBS := Aside0.mk (HBS.out.below hb)
      replace HD := Aside0.mk (HD.out.below hb)
      replace HE := Aside0.mk (HE.out.below hb)
      replace BD := Aside0.mk (blk_below BD.out hb)
      replace BE := Aside0.mk (blk_below BE.out hb)
      replace HX := Aside0.mk (HX.out.below hb)
      replace BX := Aside0.mk (blk_below BX.out hb)
      clear hb
      have HY := Aside0.mk (hS w8 (fun _ _ _ => rfl))
      obtain ⟨cy, rfl, sy, oy⟩ := SnapC_form HY.out
      have HCY := Aside0.mk sy
      have HOY := Aside0.mk oy
      clear hS sy oy
      go_wp2_with ((with_reducible refine gate_store (t := 46) (p := 9) (v := .tmp 38) rfl ?_); refine Hold.out ?_)
      refine ⟨?_⟩
      refine store_rowL (g := w8.heap.size) (c' := cy) rfl rfl rfl rfl rfl (blk_new w8 _) (by rw [HCY.out]; exact size46) (by rw [HCY.out]; rfl) HOY.out ?_
      have hb : Below w8.heap.size w8 ((w8.alloc (.cells #[.int .i64 0, .int .i64 0, .int .i64 0, .int .i64 0, .int .u64 0, .slice none 0 0, .slice none 0 0, .slice none 0 0, .slice none 0 0, .slice none 0 0, .string ⟨#[]⟩, .slice none 0 0, .int .u64 0, .slice none 0 0] 46)).setRow w8.heap.size cy) := setRow_below ((Below.refl _ w8).alloc (Nat.le_refl _) _) (Nat.le_refl _)
      have BY := Aside0.mk (setRow_heap (w8.alloc (.cells #[.int .i64 0, .int .i64 0, .int .i64 0, .int .i64 0, .int .u64 0, .slice none 0 0, .slice none 0 0, .slice none 0 0, .slice none 0 0, .slice none 0 0, .string ⟨#[]⟩, .slice none 0 0, .int .u64 0, .slice none 0 0] 46)) w8.heap.size _ cy 46 (0, 0) (blk_new w8 (.cells #[.int .i64 0, .int .i64 0, .int .i64 0, .int .i64 0, .int .u64 0, .slice none 0 0, .slice none 0 0, .slice none 0 0, .slice none 0 0, .slice none 0 0, .string ⟨#[]⟩, .slice none 0 0, .int .u64 0, .slice none 0 0] 46)))
      replace HB := Aside0.mk (HB.out.trans (hb.mono HB.out.size))
      replace HW0 := Aside0.mk (HW0.out.trans (hb.mono HW0.out.size))
      replace BA := Aside0.mk (blk_below BA.out hb)
      replace BB := Aside0.mk (blk_below BB.out hb)
      replace HA := Aside0.mk (HA.out.below hb)
      replace HBS := Aside0.mk (HBS.out.below hb)
      replace HD := Aside0.mk (HD.out.below hb)
      replace HE := Aside0.mk (HE.out.below hb)
      replace BD := Aside0.mk (blk_below BD.out hb)
      replace BE := Aside0.mk (blk_below BE.out hb)
      replace HX := Aside0.mk (HX.out.below hb)
      replace BX := Aside0.mk (blk_below BX.out hb)
      replace HY := Aside0.mk (HY.out.below hb)
      clear hb
      generalize (w8.alloc (.cells #[.int .i64 0, .int .i64 0, .int .i64 0, .int .i64 0, .int .u64 0, .slice none 0 0, .slice none 0 0, .slice none 0 0, .slice none 0 0, .slice none 0 0, .string ⟨#[]⟩, .slice none 0 0, .int .u64 0, .slice none 0 0] 46)).setRow w8.heap.size cy = w9 at HB HW0 BA BB HA HBS HD HE BD BE HY BY HX BX ⊢
      generalize w8.heap.size = gy at BY ⊢
      go_wp2_with ((with_reducible refine gate_dst (N := 47) rfl ?_); refine Hold.out ?_)
      refine ⟨?_⟩
      refine load_rowG 47 rfl rfl rfl rfl (load46 BX.out HCX.out) ?_
      go_wp2_with ((with_reducible refine gate_dst (N := 48) rfl ?_); refine Hold.out ?_)
      refine ⟨?_⟩
      refine load_rowG 48 rfl rfl rfl rfl (load46 BB.out HCB.out) ?_
      go_wp2_with (go_at_call 19; refine Hold.out ?_)
      refine ⟨?_⟩
      refine (same_any _ _ _ b HX.out HBS.out HT2.out).mono ?_
      rintro e w10 ⟨rfl, hb⟩
      replace HB := Aside0.mk (HB.out.trans (hb.mono HB.out.size))
      replace HW0 := Aside0.mk (HW0.out.trans (hb.mono HW0.out.size))
      replace BA := Aside0.mk (blk_below BA.out hb)
      replace BB := Aside0.mk (blk_below BB.out hb)
      replace HA := Aside0.mk (HA.out.below hb)
      replace HBS := Aside0.mk (HBS.out.below hb)
      replace HD := Aside0.mk (HD.out.below hb)
      replace HE := Aside0.mk (HE.out.below hb)
      replace BD := Aside0.mk (blk_below BD.out hb)
      replace BE := Aside0.mk (blk_below BE.out hb)
      replace HX := Aside0.mk (HX.out.below hb)
      replace BX := Aside0.mk (blk_below BX.out hb)
      replace HY := Aside0.mk (HY.out.below hb)
      replace BY := Aside0.mk (blk_below BY.out hb)
      clear hb
      go_wp2_with ((with_reducible refine gate_dst (N := 53) rfl ?_); refine Hold.out ?_)
      refine ⟨?_⟩
      refine load_rowG 53 rfl rfl rfl rfl (load46 BY.out HCY.out) ?_
      go_wp2_with ((with_reducible refine gate_dst (N := 54) rfl ?_); refine Hold.out ?_)
      refine ⟨?_⟩
      refine load_rowG 54 rfl rfl rfl rfl (load46 BA.out HCA.out) ?_
      go_wp2_with (go_at_call 19; refine Hold.out ?_)
      refine ⟨?_⟩
      refine (same_any _ _ _ a HY.out HA.out HT1.out).mono ?_
      rintro e w11 ⟨rfl, hb⟩
      replace HB := Aside0.mk (HB.out.trans (hb.mono HB.out.size))
      replace HW0 := Aside0.mk (HW0.out.trans (hb.mono HW0.out.size))
      replace BA := Aside0.mk (blk_below BA.out hb)
      replace BB := Aside0.mk (blk_below BB.out hb)
      replace HA := Aside0.mk (HA.out.below hb)
      replace HBS := Aside0.mk (HBS.out.below hb)
      replace HD := Aside0.mk (HD.out.below hb)
      replace HE := Aside0.mk (HE.out.below hb)
      replace BD := Aside0.mk (blk_below BD.out hb)
      replace BE := Aside0.mk (blk_below BE.out hb)
      replace HX := Aside0.mk (HX.out.below hb)
      replace BX := Aside0.mk (blk_below BX.out hb)
      replace HY := Aside0.mk (HY.out.below hb)
      replace BY := Aside0.mk (blk_below BY.out hb)
      clear hb
      go_upto_region 10 with (fail)
      clear HX HY BX BY HCX HCY HOX HOY
      refine start_ (n := 60) (S := fun W => W.heap[w.heap.size]? = some (.cells ca 46 (0, 0)) ∧ W.heap[(w.heap.size + 1)]? = some (.cells cb 46 (0, 0))) (ds := []) #[false, false, false, false, false, false, false, false, false, false, false, false, false, false, false, false, false, false, false, false, false, false, false, false, false, false, false, false, false, false, false, false, false, false, false, false, false, false, false, false, false, false, false, false, false, false, false, false, false, false, false, false, false, false, false, false, false, false, false, false] (by kernel_rfl) rfl rfl (⟨blk_drew BA.out, blk_drew BB.out⟩) (fun hHeld => ?_)
      have hb : Below w11.heap.size w11 w11.drew := below_drew1 (Below.refl _ _)
      replace HB := Aside0.mk (HB.out.trans (hb.mono HB.out.size))
      replace HW0 := Aside0.mk (HW0.out.trans (hb.mono HW0.out.size))
      replace BA := Aside0.mk (blk_below BA.out hb)
      replace BB := Aside0.mk (blk_below BB.out hb)
      replace HA := Aside0.mk (HA.out.below hb)
      replace HBS := Aside0.mk (HBS.out.below hb)
      replace HD := Aside0.mk (HD.out.below hb)
      replace HE := Aside0.mk (HE.out.below hb)
      replace BD := Aside0.mk (blk_below BD.out hb)
      replace BE := Aside0.mk (blk_below BE.out hb)
      clear hb
      refine pure_ (i := 0) (N := some 58) (v := ?_) (a' := ?_) #[true, false, false, false, false, false, false, false, false, false, false, false, false, false, false, false, false, false, false, false, false, false, false, false, false, false, false, false, false, false, false, false, false, false, false, false, false, false, false, false, false, false, false, false, false, false, false, false, false, false, false, false, false, false, false, false, false, false, false, false] rfl rfl (by kernel_rfl) (fun _ _ _ h => h) (Or.inl ⟨by rfl, ?_⟩) ?_ ?_
      rotate_left
      · intro w'
        go_simp
        with_reducible rfl
      rotate_left
      · simp only [Act.put, List.setIfInBounds_toArray, List.set_cons_zero, List.set_cons_succ, i64_w, i32_w]
        rfl
      refine take_ (i := 1) (N := some 59) (v := .slice A5 a.f5.length c5) (a' := ?_) #[true, true, false, false, false, false, false, false, false, false, false, false, false, false, false, false, false, false, false, false, false, false, false, false, false, false, false, false, false, false, false, false, false, false, false, false, false, false, false, false, false, false, false, false, false, false, false, false, false, false, false, false, false, false, false, false, false, false, false, false] rfl rfl (by kernel_rfl) (fun _ _ _ h => h) (Or.inl ⟨by rfl, ?_⟩) hHeld ?_ ?_
      · rintro w' ⟨s0, s1⟩
        have k0 : w'.cell? ⟨w.heap.size, 5, none⟩ = some (.slice A5 a.f5.length c5) := (blk_cell s0 5).trans (by rw [HEA.out]; rfl)
        go_simp
      rotate_left
      · simp only [Act.put, List.setIfInBounds_toArray, List.set_cons_zero, List.set_cons_succ, i64_w, i32_w]
        rfl
      refine pure_ (i := 2) (N := some 60) (v := ?_) (a' := ?_) #[true, true, true, false, false, false, false, false, false, false, false, false, false, false, false, false, false, false, false, false, false, false, false, false, false, false, false, false, false, false, false, false, false, false, false, false, false, false, false, false, false, false, false, false, false, false, false, false, false, false, false, false, false, false, false, false, false, false, false, false] rfl rfl (by kernel_rfl) (fun _ _ _ h => h) (Or.inl ⟨by rfl, ?_⟩) ?_ ?_
      rotate_left
      · intro w'
        go_simp
        with_reducible rfl
      rotate_left
      · simp only [Act.put, List.setIfInBounds_toArray, List.set_cons_zero, List.set_cons_succ, i64_w, i32_w]
        rfl
      refine take_ (i := 3) (N := some 61) (v := .slice E5 b.f5.length e5) (a' := ?_) #[true, true, true, true, false, false, false, false, false, false, false, false, false, false, false, false, false, false, false, false, false, false, false, false, false, false, false, false, false, false, false, false, false, false, false, false, false, false, false, false, false, false, false, false, false, false, false, false, false, false, false, false, false, false, false, false, false, false, false, false] rfl rfl (by kernel_rfl) (fun _ _ _ h => h) (Or.inl ⟨by rfl, ?_⟩) hHeld ?_ ?_
      · rintro w' ⟨s0, s1⟩
        have k0 : w'.cell? ⟨(w.heap.size + 1), 5, none⟩ = some (.slice E5 b.f5.length e5) := (blk_cell s1 5).trans (by rw [HEB.out]; rfl)
        go_simp
      rotate_left
      · simp only [Act.put, List.setIfInBounds_toArray, List.set_cons_zero, List.set_cons_succ, i64_w, i32_w]
        rfl
      refine pure_ (i := 7) (N := some 65) (v := ?_) (a' := ?_) #[true, true, true, true, false, false, false, true, false, false, false, false, false, false, false, false, false, false, false, false, false, false, false, false, false, false, false, false, false, false, false, false, false, false, false, false, false, false, false, false, false, false, false, false, false, false, false, false, false, false, false, false, false, false, false, false, false, false, false, false] rfl rfl (by kernel_rfl) (fun _ _ _ h => h) (Or.inl ⟨by rfl, ?_⟩) ?_ ?_
      rotate_left
      · intro w'
        go_simp
        with_reducible rfl
      rotate_left
      · simp only [Act.put, List.setIfInBounds_toArray, List.set_cons_zero, List.set_cons_succ, i64_w, i32_w]
        rfl
      refine take_ (i := 8) (N := some 66) (v := .slice A6 a.f6.length c6) (a' := ?_) #[true, true, true, true, false, false, false, true, true, false, false, false, false, false, false, false, false, false, false, false, false, false, false, false, false, false, false, false, false, false, false, false, false, false, false, false, false, false, false, false, false, false, false, false, false, false, false, false, false, false, false, false, false, false, false, false, false, false, false, false] rfl rfl (by kernel_rfl) (fun _ _ _ h => h) (Or.inl ⟨by rfl, ?_⟩) hHeld ?_ ?_
      · rintro w' ⟨s0, s1⟩
        have k0 : w'.cell? ⟨w.heap.size, 6, none⟩ = some (.slice A6 a.f6.length c6) := (blk_cell s0 6).trans (by rw [HEA.out]; rfl)
        go_simp
      rotate_left
      · simp only [Act.put, List.setIfInBounds_toArray, List.set_cons_zero, List.set_cons_succ, i64_w, i32_w]
        rfl
      refine pure_ (i := 9) (N := some 67) (v := ?_) (a' := ?_) #[true, true, true, true, false, false, false, true, true, true, false, false, false, false, false, false, false, false, false, false, false, false, false, false, false, false, false, false, false, false, false, false, false, false, false, false, false, false, false, false, false, false, false, false, false, false, false, false, false, false, false, false, false, false, false, false, false, false, false, false] rfl rfl (by kernel_rfl) (fun _ _ _ h => h) (Or.inl ⟨by rfl, ?_⟩) ?_ ?_
      rotate_left
      · intro w'
        go_simp
        with_reducible rfl
      rotate_left
      · simp only [Act.put, List.setIfInBounds_toArray, List.set_cons_zero, List.set_cons_succ, i64_w, i32_w]
        rfl
      refine take_ (i := 10) (N := some 68) (v := .slice E6 b.f6.length e6) (a' := ?_) #[true, true, true, true, false, false, false, true, true, true, true, false, false, false, false, false, false, false, false, false, false, false, false, false, false, false, false, false, false, false, false, false, false, false, false, false, false, false, false, false, false, false, false, false, false, false, false, false, false, false, false, false, false, false, false, false, false, false, false, false] rfl rfl (by kernel_rfl) (fun _ _ _ h => h) (Or.inl ⟨by rfl, ?_⟩) hHeld ?_ ?_
      · rintro w' ⟨s0, s1⟩
        have k0 : w'.cell? ⟨(w.heap.size + 1), 6, none⟩ = some (.slice E6 b.f6.length e6) := (blk_cell s1 6).trans (by rw [HEB.out]; rfl)
        go_simp
      rotate_left
      · simp only [Act.put, List.setIfInBounds_toArray, List.set_cons_zero, List.set_cons_succ, i64_w, i32_w]
        rfl
      refine pure_ (i := 15) (N := some 73) (v := ?_) (a' := ?_) #[true, true, true, true, false, false, false, true, true, true, true, false, false, false, false, true, false, false, false, false, false, false, false, false, false, false, false, false, false, false, false, false, false, false, false, false, false, false, false, false, false, false, false, false, false, false, false, false, false, false, false, false, false, false, false, false, false, false, false, false] rfl rfl (by kernel_rfl) (fun _ _ _ h => h) (Or.inl ⟨by rfl, ?_⟩) ?_ ?_
      rotate_left
      · intro w'
        go_simp
        with_reducible rfl
      rotate_left
      · simp only [Act.put, List.setIfInBounds_toArray, List.set_cons_zero, List.set_cons_succ, i64_w, i32_w]
        rfl
      refine take_ (i := 16) (N := some 74) (v := .slice A7 a.f7.length c7) (a' := ?_) #[true, true, true, true, false, false, false, true, true, true, true, false, false, false, false, true, true, false, false, false, false, false, false, false, false, false, false, false, false, false, false, false, false, false, false, false, false, false, false, false, false, false, false, false, false, false, false, false, false, false, false, false, false, false, false, false, false, false, false, false] rfl rfl (by kernel_rfl) (fun _ _ _ h => h) (Or.inl ⟨by rfl, ?_⟩) hHeld ?_ ?_
      · rintro w' ⟨s0, s1⟩
        have k0 : w'.cell? ⟨w.heap.size, 7, none⟩ = some (.slice A7 a.f7.length c7) := (blk_cell s0 7).trans (by rw [HEA.out]; rfl)
        go_simp
      rotate_left
      · simp only [Act.put, List.setIfInBounds_toArray, List.set_cons_zero, List.set_cons_succ, i64_w, i32_w]
        rfl
      refine pure_ (i := 17) (N := some 75) (v := ?_) (a' := ?_) #[true, true, true, true, false, false, false, true, true, true, true, false, false, false, false, true, true, true, false, false, false, false, false, false, false, false, false, false, false, false, false, false, false, false, false, false, false, false, false, false, false, false, false, false, false, false, false, false, false, false, false, false, false, false, false, false, false, false, false, false] rfl rfl (by kernel_rfl) (fun _ _ _ h => h) (Or.inl ⟨by rfl, ?_⟩) ?_ ?_
      rotate_left
      · intro w'
        go_simp
        with_reducible rfl
      rotate_left
      · simp only [Act.put, List.setIfInBounds_toArray, List.set_cons_zero, List.set_cons_succ, i64_w, i32_w]
        rfl
      refine take_ (i := 18) (N := some 76) (v := .slice E7 b.f7.length e7) (a' := ?_) #[true, true, true, true, false, false, false, true, true, true, true, false, false, false, false, true, true, true, true, false, false, false, false, false, false, false, false, false, false, false, false, false, false, false, false, false, false, false, false, false, false, false, false, false, false, false, false, false, false, false, false, false, false, false, false, false, false, false, false, false] rfl rfl (by kernel_rfl) (fun _ _ _ h => h) (Or.inl ⟨by rfl, ?_⟩) hHeld ?_ ?_
      · rintro w' ⟨s0, s1⟩
        have k0 : w'.cell? ⟨(w.heap.size + 1), 7, none⟩ = some (.slice E7 b.f7.length e7) := (blk_cell s1 7).trans (by rw [HEB.out]; rfl)
        go_simp
      rotate_left
      · simp only [Act.put, List.setIfInBounds_toArray, List.set_cons_zero, List.set_cons_succ, i64_w, i32_w]
        rfl
      refine pure_ (i := 23) (N := some 81) (v := ?_) (a' := ?_) #[true, true, true, true, false, false, false, true, true, true, true, false, false, false, false, true, true, true, true, false, false, false, false, true, false, false, false, false, false, false, false, false, false, false, false, false, false, false, false, false, false, false, false, false, false, false, false, false, false, false, false, false, false, false, false, false, false, false, false, false] rfl rfl (by kernel_rfl) (fun _ _ _ h => h) (Or.inl ⟨by rfl, ?_⟩) ?_ ?_
      rotate_left
      · intro w'
        go_simp
        with_reducible rfl
      rotate_left
      · simp only [Act.put, List.setIfInBounds_toArray, List.set_cons_zero, List.set_cons_succ, i64_w, i32_w]
        rfl
      refine take_ (i := 24) (N := some 82) (v := .slice A8 a.f8.length c8) (a' := ?_) #[true, true, true, true, false, false, false, true, true, true, true, false, false, false, false, true, true, true, true, false, false, false, false, true, true, false, false, false, false, false, false, false, false, false, false, false, false, false, false, false, false, false, false, false, false, false, false, false, false, false, false, false, false, false, false, false, false, false, false, false] rfl rfl (by kernel_rfl) (fun _ _ _ h => h) (Or.inl ⟨by rfl, ?_⟩) hHeld ?_ ?_
      · rintro w' ⟨s0, s1⟩
        have k0 : w'.cell? ⟨w.heap.size, 8, none⟩ = some (.slice A8 a.f8.length c8) := (blk_cell s0 8).trans (by rw [HEA.out]; rfl)
        go_simp
      rotate_left
      · simp only [Act.put, List.setIfInBounds_toArray, List.set_cons_zero, List.set_cons_succ, i64_w, i32_w]
        rfl
      refine pure_ (i := 25) (N := some 83) (v := ?_) (a' := ?_) #[true, true, true, true, false, false, false, true, true, true, true, false, false, false, false, true, true, true, true, false, false, false, false, true, true, true, false, false, false, false, false, false, false, false, false, false, false, false, false, false, false, false, false, false, false, false, false, false, false, false, false, false, false, false, false, false, false, false, false, false] rfl rfl (by kernel_rfl) (fun _ _ _ h => h) (Or.inl ⟨by rfl, ?_⟩) ?_ ?_
      rotate_left
      · intro w'
        go_simp
        with_reducible rfl
      rotate_left
      · simp only [Act.put, List.setIfInBounds_toArray, List.set_cons_zero, List.set_cons_succ, i64_w, i32_w]
        rfl
      refine take_ (i := 26) (N := some 84) (v := .slice E8 b.f8.length e8) (a' := ?_) #[true, true, true, true, false, false, false, true, true, true, true, false, false, false, false, true, true, true, true, false, false, false, false, true, true, true, true, false, false, false, false, false, false, false, false, false, false, false, false, false, false, false, false, false, false, false, false, false, false, false, false, false, false, false, false, false, false, false, false, false] rfl rfl (by kernel_rfl) (fun _ _ _ h => h) (Or.inl ⟨by rfl, ?_⟩) hHeld ?_ ?_
      · rintro w' ⟨s0, s1⟩
        have k0 : w'.cell? ⟨(w.heap.size + 1), 8, none⟩ = some (.slice E8 b.f8.length e8) := (blk_cell s1 8).trans (by rw [HEB.out]; rfl)
        go_simp
      rotate_left
      · simp only [Act.put, List.setIfInBounds_toArray, List.set_cons_zero, List.set_cons_succ, i64_w, i32_w]
        rfl
      refine pure_ (i := 31) (N := some 89) (v := ?_) (a' := ?_) #[true, true, true, true, false, false, false, true, true, true, true, false, false, false, false, true, true, true, true, false, false, false, false, true, true, true, true, false, false, false, false, true, false, false, false, false, false, false, false, false, false, false, false, false, false, false, false, false, false, false, false, false, false, false, false, false, false, false, false, false] rfl rfl (by kernel_rfl) (fun _ _ _ h => h) (Or.inl ⟨by rfl, ?_⟩) ?_ ?_
      rotate_left
      · intro w'
        go_simp
        with_reducible rfl
      rotate_left
      · simp only [Act.put, List.setIfInBounds_toArray, List.set_cons_zero, List.set_cons_succ, i64_w, i32_w]
        rfl
      refine take_ (i := 32) (N := some 90) (v := .slice A9 a.f9.length c9) (a' := ?_) #[true, true, true, true, false, false, false, true, true, true, true, false, false, false, false, true, true, true, true, false, false, false, false, true, true, true, true, false, false, false, false, true, true, false, false, false, false, false, false, false, false, false, false, false, false, false, false, false, false, false, false, false, false, false, false, false, false, false, false, false] rfl rfl (by kernel_rfl) (fun _ _ _ h => h) (Or.inl ⟨by rfl, ?_⟩) hHeld ?_ ?_
      · rintro w' ⟨s0, s1⟩
        have k0 : w'.cell? ⟨w.heap.size, 9, none⟩ = some (.slice A9 a.f9.length c9) := (blk_cell s0 9).trans (by rw [HEA.out]; rfl)
        go_simp
      rotate_left
      · simp only [Act.put, List.setIfInBounds_toArray, List.set_cons_zero, List.set_cons_succ, i64_w, i32_w]
        rfl
      refine pure_ (i := 33) (N := some 91) (v := ?_) (a' := ?_) #[true, true, true, true, false, false, false, true, true, true, true, false, false, false, false, true, true, true, true, false, false, false, false, true, true, true, true, false, false, false, false, true, true, true, false, false, false, false, false, false, false, false, false, false, false, false, false, false, false, false, false, false, false, false, false, false, false, false, false, false] rfl rfl (by kernel_rfl) (fun _ _ _ h => h) (Or.inl ⟨by rfl, ?_⟩) ?_ ?_
      rotate_left
      · intro w'
        go_simp
        with_reducible rfl
      rotate_left
      · simp only [Act.put, List.setIfInBounds_toArray, List.set_cons_zero, List.set_cons_succ, i64_w, i32_w]
        rfl
      refine take_ (i := 34) (N := some 92) (v := .slice E9 b.f9.length e9) (a' := ?_) #[true, true, true, true, false, false, false, true, true, true, true, false, false, false, false, true, true, true, true, false, false, false, false, true, true, true, true, false, false, false, false, true, true, true, true, false, false, false, false, false, false, false, false, false, false, false, false, false, false, false, false, false, false, false, false, false, false, false, false, false] rfl rfl (by kernel_rfl) (fun _ _ _ h => h) (Or.inl ⟨by rfl, ?_⟩) hHeld ?_ ?_
      · rintro w' ⟨s0, s1⟩
        have k0 : w'.cell? ⟨(w.heap.size + 1), 9, none⟩ = some (.slice E9 b.f9.length e9) := (blk_cell s1 9).trans (by rw [HEB.out]; rfl)
        go_simp
      rotate_left
      · simp only [Act.put, List.setIfInBounds_toArray, List.set_cons_zero, List.set_cons_succ, i64_w, i32_w]
        rfl
      refine pure_ (i := 39) (N := some 97) (v := ?_) (a' := ?_) #[true, true, true, true, false, false, false, true, true, true, true, false, false, false, false, true, true, true, true, false, false, false, false, true, true, true, true, false, false, false, false, true, true, true, true, false, false, false, false, true, false, false, false, false, false, false, false, false, false, false, false, false, false, false, false, false, false, false, false, false] rfl rfl (by kernel_rfl) (fun _ _ _ h => h) (Or.inl ⟨by rfl, ?_⟩) ?_ ?_
      rotate_left
      · intro w'
        go_simp
        with_reducible rfl
      rotate_left
      · simp only [Act.put, List.setIfInBounds_toArray, List.set_cons_zero, List.set_cons_succ, i64_w, i32_w]
        rfl
      refine pure_ (i := 40) (N := some 98) (v := ?_) (a' := ?_) #[true, true, true, true, false, false, false, true, true, true, true, false, false, false, false, true, true, true, true, false, false, false, false, true, true, true, true, false, false, false, false, true, true, true, true, false, false, false, false, true, true, false, false, false, false, false, false, false, false, false, false, false, false, false, false, false, false, false, false, false] rfl rfl (by kernel_rfl) (fun _ _ _ h => h) (Or.inl ⟨by rfl, ?_⟩) ?_ ?_
      rotate_left
      · intro w'
        go_simp
        with_reducible rfl
      rotate_left
      · simp only [Act.put, List.setIfInBounds_toArray, List.set_cons_zero, List.set_cons_succ, i64_w, i32_w]
        rfl
      refine take_ (i := 41) (N := some 99) (v := .slice A11 a.f10.f1.length c11) (a' := ?_) #[true, true, true, true, false, false, false, true, true, true, true, false, false, false, false, true, true, true, true, false, false, false, false, true, true, true, true, false, false, false, false, true, true, true, true, false, false, false, false, true, true, true, false, false, false, false, false, false, false, false, false, false, false, false, false, false, false, false, false, false] rfl rfl (by kernel_rfl) (fun _ _ _ h => h) (Or.inl ⟨by rfl, ?_⟩) hHeld ?_ ?_
      · rintro w' ⟨s0, s1⟩
        have k0 : w'.cell? ⟨w.heap.size, 11, none⟩ = some (.slice A11 a.f10.f1.length c11) := (blk_cell s0 11).trans (by rw [HEA.out]; rfl)
        go_simp
      rotate_left
      · simp only [Act.put, List.setIfInBounds_toArray, List.set_cons_zero, List.set_cons_succ, i64_w, i32_w]
        rfl
      refine pure_ (i := 42) (N := some 100) (v := ?_) (a' := ?_) #[true, true, true, true, false, false, false, true, true, true, true, false, false, false, false, true, true, true, true, false, false, false, false, true, true, true, true, false, false, false, false, true, true, true, true, false, false, false, false, true, true, true, true, false, false, false, false, false, false, false, false, false, false, false, false, false, false, false, false, false] rfl rfl (by kernel_rfl) (fun _ _ _ h => h) (Or.inl ⟨by rfl, ?_⟩) ?_ ?_
      rotate_left
      · intro w'
        go_simp
        with_reducible rfl
      rotate_left
      · simp only [Act.put, List.setIfInBounds_toArray, List.set_cons_zero, List.set_cons_succ, i64_w, i32_w]
        rfl
      refine pure_ (i := 43) (N := some 101) (v := ?_) (a' := ?_) #[true, true, true, true, false, false, false, true, true, true, true, false, false, false, false, true, true, true, true, false, false, false, false, true, true, true, true, false, false, false, false, true, true, true, true, false, false, false, false, true, true, true, true, true, false, false, false, false, false, false, false, false, false, false, false, false, false, false, false, false] rfl rfl (by kernel_rfl) (fun _ _ _ h => h) (Or.inl ⟨by rfl, ?_⟩) ?_ ?_
      rotate_left
      · intro w'
        go_simp
        with_reducible rfl
      rotate_left
      · simp only [Act.put, List.setIfInBounds_toArray, List.set_cons_zero, List.set_cons_succ, i64_w, i32_w]
        rfl
      refine take_ (i := 44) (N := some 102) (v := .slice E11 b.f10.f1.length e11) (a' := ?_) #[true, true, true, true, false, false, false, true, true, true, true, false, false, false, false, true, true, true, true, false, false, false, false, true, true, true, true, false, false, false, false, true, true, true, true, false, false, false, false, true, true, true, true, true, true, false, false, false, false, false, false, false, false, false, false, false, false, false, false, false] rfl rfl (by kernel_rfl) (fun _ _ _ h => h) (Or.inl ⟨by rfl, ?_⟩) hHeld ?_ ?_
      · rintro w' ⟨s0, s1⟩
        have k0 : w'.cell? ⟨(w.heap.size + 1), 11, none⟩ = some (.slice E11 b.f10.f1.length e11) := (blk_cell s1 11).trans (by rw [HEB.out]; rfl)
        go_simp
      rotate_left
      · simp only [Act.put, List.setIfInBounds_toArray, List.set_cons_zero, List.set_cons_succ, i64_w, i32_w]
        rfl
      refine pure_ (i := 49) (N := some 107) (v := ?_) (a' := ?_) #[true, true, true, true, false, false, false, true, true, true, true, false, false, false, false, true, true, true, true, false, false, false, false, true, true, true, true, false, false, false, false, true, true, true, true, false, false, false, false, true, true, true, true, true, true, false, false, false, false, true, false, false, false, false, false, false, false, false, false, false] rfl rfl (by kernel_rfl) (fun _ _ _ h => h) (Or.inl ⟨by rfl, ?_⟩) ?_ ?_
      rotate_left
      · intro w'
        go_simp
        with_reducible rfl
      rotate_left
      · simp only [Act.put, List.setIfInBounds_toArray, List.set_cons_zero, List.set_cons_succ, i64_w, i32_w]
        rfl
      refine pure_ (i := 50) (N := some 108) (v := ?_) (a' := ?_) #[true, true, true, true, false, false, false, true, true, true, true, false, false, false, false, true, true, true, true, false, false, false, false, true, true, true, true, false, false, false, false, true, true, true, true, false, false, false, false, true, true, true, true, true, true, false, false, false, false, true, true, false, false, false, false, false, false, false, false, false] rfl rfl (by kernel_rfl) (fun _ _ _ h => h) (Or.inl ⟨by rfl, ?_⟩) ?_ ?_
      rotate_left
      · intro w'
        go_simp
        with_reducible rfl
      rotate_left
      · simp only [Act.put, List.setIfInBounds_toArray, List.set_cons_zero, List.set_cons_succ, i64_w, i32_w]
        rfl
      refine take_ (i := 51) (N := some 109) (v := .slice A13 a.f10.f3.length c13) (a' := ?_) #[true, true, true, true, false, false, false, true, true, true, true, false, false, false, false, true, true, true, true, false, false, false, false, true, true, true, true, false, false, false, false, true, true, true, true, false, false, false, false, true, true, true, true, true, true, false, false, false, false, true, true, true, false, false, false, false, false, false, false, false] rfl rfl (by kernel_rfl) (fun _ _ _ h => h) (Or.inl ⟨by rfl, ?_⟩) hHeld ?_ ?_
      · rintro w' ⟨s0, s1⟩
        have k0 : w'.cell? ⟨w.heap.size, 13, none⟩ = some (.slice A13 a.f10.f3.length c13) := (blk_cell s0 13).trans (by rw [HEA.out]; rfl)
        go_simp
      rotate_left
      · simp only [Act.put, List.setIfInBounds_toArray, List.set_cons_zero, List.set_cons_succ, i64_w, i32_w]
        rfl
      refine pure_ (i := 52) (N := some 110) (v := ?_) (a' := ?_) #[true, true, true, true, false, false, false, true, true, true, true, false, false, false, false, true, true, true, true, false, false, false, false, true, true, true, true, false, false, false, false, true, true, true, true, false, false, false, false, true, true, true, true, true, true, false, false, false, false, true, true, true, true, false, false, false, false, false, false, false] rfl rfl (by kernel_rfl) (fun _ _ _ h => h) (Or.inl ⟨by rfl, ?_⟩) ?_ ?_
      rotate_left
      · intro w'
        go_simp
        with_reducible rfl
      rotate_left
      · simp only [Act.put, List.setIfInBounds_toArray, List.set_cons_zero, List.set_cons_succ, i64_w, i32_w]
        rfl
      refine pure_ (i := 53) (N := some 111) (v := ?_) (a' := ?_) #[true, true, true, true, false, false, false, true, true, true, true, false, false, false, false, true, true, true, true, false, false, false, false, true, true, true, true, false, false, false, false, true, true, true, true, false, false, false, false, true, true, true, true, true, true, false, false, false, false, true, true, true, true, true, false, false, false, false, false, false] rfl rfl (by kernel_rfl) (fun _ _ _ h => h) (Or.inl ⟨by rfl, ?_⟩) ?_ ?_
      rotate_left
      · intro w'
        go_simp
        with_reducible rfl
      rotate_left
      · simp only [Act.put, List.setIfInBounds_toArray, List.set_cons_zero, List.set_cons_succ, i64_w, i32_w]
        rfl
      refine take_ (i := 54) (N := some 112) (v := .slice E13 b.f10.f3.length e13) (a' := ?_) #[true, true, true, true, false, false, false, true, true, true, true, false, false, false, false, true, true, true, true, false, false, false, false, true, true, true, true, false, false, false, false, true, true, true, true, false, false, false, false, true, true, true, true, true, true, false, false, false, false, true, true, true, true, true, true, false, false, false, false, false] rfl rfl (by kernel_rfl) (fun _ _ _ h => h) (Or.inl ⟨by rfl, ?_⟩) hHeld ?_ ?_
      · rintro w' ⟨s0, s1⟩
        have k0 : w'.cell? ⟨(w.heap.size + 1), 13, none⟩ = some (.slice E13 b.f10.f3.length e13) := (blk_cell s1 13).trans (by rw [HEB.out]; rfl)
        go_simp
      rotate_left
      · simp only [Act.put, List.setIfInBounds_toArray, List.set_cons_zero, List.set_cons_succ, i64_w, i32_w]
        rfl
      refine one_ (i := 4) (N := some 62) #[true, true, true, true, true, false, false, true, true, true, true, false, false, false, false, true, true, true, true, false, false, false, false, true, true, true, true, false, false, false, false, true, true, true, true, false, false, false, false, true, true, true, true, true, true, false, false, false, false, true, true, true, true, true, true, false, false, false, false, false] rfl rfl (by kernel_rfl) (by decide) (fun K hK => ?_)
      refine goes_ Try.func20 (by kernel_rfl) rfl #[.slice A5 a.f5.length c5, .slice E5 b.f5.length e5] (by rfl) rfl rfl (by (try simp only [List.map_toArray, List.map_cons, List.map_nil]); first | done | rfl) ?_
      refine (DiB.diff_any A5 c5 a.f5 E5 e5 b.f5 _ (Kd.C_below HA5.out.2 HW0.out) HA5.out.1 (Kd.C_below HE5.out.2 HW0.out) HE5.out.1 (by have := HT1.out; unfold tot at this; omega) (by have := HT2.out; unfold tot at this; omega)).mono ?_
      rintro e v1 ⟨v, rfl, hR, hb⟩
      obtain ⟨X0, y0, rfl⟩ := Kd.R_slice hR
      clear hR
      replace HB := Aside0.mk (HB.out.trans (hb.mono HB.out.size))
      replace HW0 := Aside0.mk (HW0.out.trans (hb.mono HW0.out.size))
      replace BA := Aside0.mk (blk_below BA.out hb)
      replace BB := Aside0.mk (blk_below BB.out hb)
      replace HA := Aside0.mk (HA.out.below hb)
      replace HBS := Aside0.mk (HBS.out.below hb)
      replace HD := Aside0.mk (HD.out.below hb)
      replace HE := Aside0.mk (HE.out.below hb)
      replace BD := Aside0.mk (blk_below BD.out hb)
      replace BE := Aside0.mk (blk_below BE.out hb)
      refine ⟨_, rfl, ?_⟩
      refine hK.out _ _ ⟨blk_below hHeld.1 hb, blk_below hHeld.2 hb⟩ (fun hHeld => ?_)
      clear hb
      clear hK K
      refine norm_ (a' := ?_) ?_ ?_
      rotate_left
      · show Act.put _ (some 62) _ = _
        simp only [Act.put, List.setIfInBounds_toArray, List.set_cons_zero, List.set_cons_succ, i64_w, i32_w]
        rfl
      refine pure_ (i := 5) (N := some 63) (v := .slice X0 (dWith a.f5 b.f5).length y0) (a' := ?_) #[true, true, true, true, true, true, false, true, true, true, true, false, false, false, false, true, true, true, true, false, false, false, false, true, true, true, true, false, false, false, false, true, true, true, true, false, false, false, false, true, true, true, true, true, true, false, false, false, false, true, true, true, true, true, true, false, false, false, false, false] rfl rfl (by kernel_rfl) (fun _ _ _ h => h) (Or.inl ⟨by rfl, ?_⟩) ?_ ?_
      · intro w'
        exact field_run (t := 51) rfl rfl (fld51 _ _ _ _ _ _)
      rotate_left
      · simp only [Act.put, List.setIfInBounds_toArray, List.set_cons_zero, List.set_cons_succ, i64_w, i32_w]
        rfl
      refine pure_ (i := 6) (N := some 64) (v := .int .i64 ((dWith a.f5 b.f5).length : Int)) (a' := ?_) #[true, true, true, true, true, true, true, true, true, true, true, false, false, false, false, true, true, true, true, false, false, false, false, true, true, true, true, false, false, false, false, true, true, true, true, false, false, false, false, true, true, true, true, true, true, false, false, false, false, true, true, true, true, true, true, false, false, false, false, false] rfl rfl (by kernel_rfl) (fun _ _ _ h => h) (Or.inl ⟨by rfl, ?_⟩) ?_ ?_
      · intro w'
        go_simp
      rotate_left
      · simp only [Act.put, List.setIfInBounds_toArray, List.set_cons_zero, List.set_cons_succ, i64_w, i32_w]
        rfl
      refine one_ (i := 11) (N := some 69) #[true, true, true, true, true, true, true, true, true, true, true, true, false, false, false, true, true, true, true, false, false, false, false, true, true, true, true, false, false, false, false, true, true, true, true, false, false, false, false, true, true, true, true, true, true, false, false, false, false, true, true, true, true, true, true, false, false, false, false, false] rfl rfl (by kernel_rfl) (by decide) (fun K hK => ?_)
      refine goes_ Try.func21 (by kernel_rfl) rfl #[.slice A6 a.f6.length c6, .slice E6 b.f6.length e6] (by rfl) rfl rfl (by (try simp only [List.map_toArray, List.map_cons, List.map_nil]); first | done | rfl) ?_
      refine (DiV.diff_any A6 c6 a.f6 E6 e6 b.f6 _ (Kd.C_below HA6.out.2 HW0.out) HA6.out.1 (Kd.C_below HE6.out.2 HW0.out) HE6.out.1 (by have := HT1.out; unfold tot at this; omega) (by have := HT2.out; unfold tot at this; omega)).mono ?_
      rintro e v2 ⟨v, rfl, hR, hb⟩
      obtain ⟨X1, y1, rfl⟩ := Kd.R_slice hR
      clear hR
      replace HB := Aside0.mk (HB.out.trans (hb.mono HB.out.size))
      replace HW0 := Aside0.mk (HW0.out.trans (hb.mono HW0.out.size))
      replace BA := Aside0.mk (blk_below BA.out hb)
      replace BB := Aside0.mk (blk_below BB.out hb)
      replace HA := Aside0.mk (HA.out.below hb)
      replace HBS := Aside0.mk (HBS.out.below hb)
      replace HD := Aside0.mk (HD.out.below hb)
      replace HE := Aside0.mk (HE.out.below hb)
      replace BD := Aside0.mk (blk_below BD.out hb)
      replace BE := Aside0.mk (blk_below BE.out hb)
      refine ⟨_, rfl, ?_⟩
      refine hK.out _ _ ⟨blk_below hHeld.1 hb, blk_below hHeld.2 hb⟩ (fun hHeld => ?_)
      clear hb
      clear hK K
      refine norm_ (a' := ?_) ?_ ?_
      rotate_left
      · show Act.put _ (some 69) _ = _
        simp only [Act.put, List.setIfInBounds_toArray, List.set_cons_zero, List.set_cons_succ, i64_w, i32_w]
        rfl
      refine pure_ (i := 12) (N := some 70) (v := .slice X1 (dWith a.f6 b.f6).length y1) (a' := ?_) #[true, true, true, true, true, true, true, true, true, true, true, true, true, false, false, true, true, true, true, false, false, false, false, true, true, true, true, false, false, false, false, true, true, true, true, false, false, false, false, true, true, true, true, true, true, false, false, false, false, true, true, true, true, true, true, false, false, false, false, false] rfl rfl (by kernel_rfl) (fun _ _ _ h => h) (Or.inl ⟨by rfl, ?_⟩) ?_ ?_
      · intro w'
        exact field_run (t := 53) rfl rfl (fld53 _ _ _ _ _ _)
      rotate_left
      · simp only [Act.put, List.setIfInBounds_toArray, List.set_cons_zero, List.set_cons_succ, i64_w, i32_w]
        rfl
      refine pure_ (i := 13) (N := some 71) (v := .int .i64 ((dWith a.f6 b.f6).length : Int)) (a' := ?_) #[true, true, true, true, true, true, true, true, true, true, true, true, true, true, false, true, true, true, true, false, false, false, false, true, true, true, true, false, false, false, false, true, true, true, true, false, false, false, false, true, true, true, true, true, true, false, false, false, false, true, true, true, true, true, true, false, false, false, false, false] rfl rfl (by kernel_rfl) (fun _ _ _ h => h) (Or.inl ⟨by rfl, ?_⟩) ?_ ?_
      · intro w'
        go_simp
      rotate_left
      · simp only [Act.put, List.setIfInBounds_toArray, List.set_cons_zero, List.set_cons_succ, i64_w, i32_w]
        rfl
      refine pure_ (i := 14) (N := some 72) (v := .int .i64 (((dWith a.f5 b.f5).length : Int) + ((dWith a.f6 b.f6).length : Int))) (a' := ?_) #[true, true, true, true, true, true, true, true, true, true, true, true, true, true, true, true, true, true, true, false, false, false, false, true, true, true, true, false, false, false, false, true, true, true, true, false, false, false, false, true, true, true, true, true, true, false, false, false, false, true, true, true, true, true, true, false, false, false, false, false] rfl rfl (by kernel_rfl) (fun _ _ _ h => h) (Or.inl ⟨by rfl, ?_⟩) ?_ ?_
      · intro w'
        have e1 := wr_sm (((dWith a.f5 b.f5).length : Int) + ((dWith a.f6 b.f6).length : Int)) (by have := HSZ.out; omega) (by have := HSZ.out; omega)
        go_simp
        exact (i64_w _).trans e1
      rotate_left
      · simp only [Act.put, List.setIfInBounds_toArray, List.set_cons_zero, List.set_cons_succ, i64_w, i32_w]
        rfl
      refine one_ (i := 19) (N := some 77) #[true, true, true, true, true, true, true, true, true, true, true, true, true, true, true, true, true, true, true, true, false, false, false, true, true, true, true, false, false, false, false, true, true, true, true, false, false, false, false, true, true, true, true, true, true, false, false, false, false, true, true, true, true, true, true, false, false, false, false, false] rfl rfl (by kernel_rfl) (by decide) (fun K hK => ?_)
      refine goes_ Try.func9 (by kernel_rfl) rfl #[.slice A7 a.f7.length c7, .slice E7 b.f7.length e7] (by rfl) rfl rfl (by (try simp only [List.map_toArray, List.map_cons, List.map_nil]); first | done | rfl) ?_
      refine (ref_any A7 c7 a.f7 E7 e7 b.f7 _ (Kd.C_below HA7.out.2 HW0.out) HA7.out.1 (Kd.C_below HE7.out.2 HW0.out) HE7.out.1 (by have := HT1.out; unfold tot at this; omega) (by have := HT2.out; unfold tot at this; omega)).mono ?_
      rintro e v3 ⟨X2, y2, rfl, hb⟩
      replace HB := Aside0.mk (HB.out.trans (hb.mono HB.out.size))
      replace HW0 := Aside0.mk (HW0.out.trans (hb.mono HW0.out.size))
      replace BA := Aside0.mk (blk_below BA.out hb)
      replace BB := Aside0.mk (blk_below BB.out hb)
      replace HA := Aside0.mk (HA.out.below hb)
      replace HBS := Aside0.mk (HBS.out.below hb)
      replace HD := Aside0.mk (HD.out.below hb)
      replace HE := Aside0.mk (HE.out.below hb)
      replace BD := Aside0.mk (blk_below BD.out hb)
      replace BE := Aside0.mk (blk_below BE.out hb)
      refine ⟨_, rfl, ?_⟩
      refine hK.out _ _ ⟨blk_below hHeld.1 hb, blk_below hHeld.2 hb⟩ (fun hHeld => ?_)
      clear hb
      clear hK K
      refine norm_ (a' := ?_) ?_ ?_
      rotate_left
      · show Act.put _ (some 77) _ = _
        simp only [Act.put, List.setIfInBounds_toArray, List.set_cons_zero, List.set_cons_succ, i64_w, i32_w]
        rfl
      refine pure_ (i := 20) (N := some 78) (v := .slice X2 (dWith a.f7 b.f7).length y2) (a' := ?_) #[true, true, true, true, true, true, true, true, true, true, true, true, true, true, true, true, true, true, true, true, true, false, false, true, true, true, true, false, false, false, false, true, true, true, true, false, false, false, false, true, true, true, true, true, true, false, false, false, false, true, true, true, true, true, true, false, false, false, false, false] rfl rfl (by kernel_rfl) (fun _ _ _ h => h) (Or.inl ⟨by rfl, ?_⟩) ?_ ?_
      · intro w'
        exact field_run (t := 27) rfl rfl (fld27 _ _ _ _ _ _)
      rotate_left
      · simp only [Act.put, List.setIfInBounds_toArray, List.set_cons_zero, List.set_cons_succ, i64_w, i32_w]
        rfl
      refine pure_ (i := 21) (N := some 79) (v := .int .i64 ((dWith a.f7 b.f7).length : Int)) (a' := ?_) #[true, true, true, true, true, true, true, true, true, true, true, true, true, true, true, true, true, true, true, true, true, true, false, true, true, true, true, false, false, false, false, true, true, true, true, false, false, false, false, true, true, true, true, true, true, false, false, false, false, true, true, true, true, true, true, false, false, false, false, false] rfl rfl (by kernel_rfl) (fun _ _ _ h => h) (Or.inl ⟨by rfl, ?_⟩) ?_ ?_
      · intro w'
        go_simp
      rotate_left
      · simp only [Act.put, List.setIfInBounds_toArray, List.set_cons_zero, List.set_cons_succ, i64_w, i32_w]
        rfl
      refine pure_ (i := 22) (N := some 80) (v := .int .i64 (((dWith a.f5 b.f5).length : Int) + ((dWith a.f6 b.f6).length : Int) + ((dWith a.f7 b.f7).length : Int))) (a' := ?_) #[true, true, true, true, true, true, true, true, true, true, true, true, true, true, true, true, true, true, true, true, true, true, true, true, true, true, true, false, false, false, false, true, true, true, true, false, false, false, false, true, true, true, true, true, true, false, false, false, false, true, true, true, true, true, true, false, false, false, false, false] rfl rfl (by kernel_rfl) (fun _ _ _ h => h) (Or.inl ⟨by rfl, ?_⟩) ?_ ?_
      · intro w'
        have e1 := wr_sm (((dWith a.f5 b.f5).length : Int) + ((dWith a.f6 b.f6).length : Int) + ((dWith a.f7 b.f7).length : Int)) (by have := HSZ.out; omega) (by have := HSZ.out; omega)
        go_simp
        exact (i64_w _).trans e1
      rotate_left
      · simp only [Act.put, List.setIfInBounds_toArray, List.set_cons_zero, List.set_cons_succ, i64_w, i32_w]
        rfl
      refine one_ (i := 27) (N := some 85) #[true, true, true, true, true, true, true, true, true, true, true, true, true, true, true, true, true, true, true, true, true, true, true, true, true, true, true, true, false, false, false, true, true, true, true, false, false, false, false, true, true, true, true, true, true, false, false, false, false, true, true, true, true, true, true, false, false, false, false, false] rfl rfl (by kernel_rfl) (by decide) (fun K hK => ?_)
      refine goes_ Try.func9 (by kernel_rfl) rfl #[.slice A8 a.f8.length c8, .slice E8 b.f8.length e8] (by rfl) rfl rfl (by (try simp only [List.map_toArray, List.map_cons, List.map_nil]); first | done | rfl) ?_
      refine (ref_any A8 c8 a.f8 E8 e8 b.f8 _ (Kd.C_below HA8.out.2 HW0.out) HA8.out.1 (Kd.C_below HE8.out.2 HW0.out) HE8.out.1 (by have := HT1.out; unfold tot at this; omega) (by have := HT2.out; unfold tot at this; omega)).mono ?_
      rintro e v4 ⟨X3, y3, rfl, hb⟩
      replace HB := Aside0.mk (HB.out.trans (hb.mono HB.out.size))
      replace HW0 := Aside0.mk (HW0.out.trans (hb.mono HW0.out.size))
      replace BA := Aside0.mk (blk_below BA.out hb)
      replace BB := Aside0.mk (blk_below BB.out hb)
      replace HA := Aside0.mk (HA.out.below hb)
      replace HBS := Aside0.mk (HBS.out.below hb)
      replace HD := Aside0.mk (HD.out.below hb)
      replace HE := Aside0.mk (HE.out.below hb)
      replace BD := Aside0.mk (blk_below BD.out hb)
      replace BE := Aside0.mk (blk_below BE.out hb)
      refine ⟨_, rfl, ?_⟩
      refine hK.out _ _ ⟨blk_below hHeld.1 hb, blk_below hHeld.2 hb⟩ (fun hHeld => ?_)
      clear hb
      clear hK K
      refine norm_ (a' := ?_) ?_ ?_
      rotate_left
      · show Act.put _ (some 85) _ = _
        simp only [Act.put, List.setIfInBounds_toArray, List.set_cons_zero, List.set_cons_succ, i64_w, i32_w]
        rfl
      refine pure_ (i := 28) (N := some 86) (v := .slice X3 (dWith a.f8 b.f8).length y3) (a' := ?_) #[true, true, true, true, true, true, true, true, true, true, true, true, true, true, true, true, true, true, true, true, true, true, true, true, true, true, true, true, true, false, false, true, true, true, true, false, false, false, false, true, true, true, true, true, true, false, false, false, false, true, true, true, true, true, true, false, false, false, false, false] rfl rfl (by kernel_rfl) (fun _ _ _ h => h) (Or.inl ⟨by rfl, ?_⟩) ?_ ?_
      · intro w'
        exact field_run (t := 27) rfl rfl (fld27 _ _ _ _ _ _)
      rotate_left
      · simp only [Act.put, List.setIfInBounds_toArray, List.set_cons_zero, List.set_cons_succ, i64_w, i32_w]
        rfl
      refine pure_ (i := 29) (N := some 87) (v := .int .i64 ((dWith a.f8 b.f8).length : Int)) (a' := ?_) #[true, true, true, true, true, true, true, true, true, true, true, true, true, true, true, true, true, true, true, true, true, true, true, true, true, true, true, true, true, true, false, true, true, true, true, false, false, false, false, true, true, true, true, true, true, false, false, false, false, true, true, true, true, true, true, false, false, false, false, false] rfl rfl (by kernel_rfl) (fun _ _ _ h => h) (Or.inl ⟨by rfl, ?_⟩) ?_ ?_
      · intro w'
        go_simp
      rotate_left
      · simp only [Act.put, List.setIfInBounds_toArray, List.set_cons_zero, List.set_cons_succ, i64_w, i32_w]
        rfl
      refine pure_ (i := 30) (N := some 88) (v := .int .i64 (((dWith a.f5 b.f5).length : Int) + ((dWith a.f6 b.f6).length : Int) + ((dWith a.f7 b.f7).length : Int) + ((dWith a.f8 b.f8).length : Int))) (a' := ?_) #[true, true, true, true, true, true, true, true, true, true, true, true, true, true, true, true, true, true, true, true, true, true, true, true, true, true, true, true, true, true, true, true, true, true, true, false, false, false, false, true, true, true, true, true, true, false, false, false, false, true, true, true, true, true, true, false, false, false, false, false] rfl rfl (by kernel_rfl) (fun _ _ _ h => h) (Or.inl ⟨by rfl, ?_⟩) ?_ ?_
      · intro w'
        have e1 := wr_sm (((dWith a.f5 b.f5).length : Int) + ((dWith a.f6 b.f6).length : Int) + ((dWith a.f7 b.f7).length : Int) + ((dWith a.f8 b.f8).length : Int)) (by have := HSZ.out; omega) (by have := HSZ.out; omega)
        go_simp
        exact (i64_w _).trans e1
      rotate_left
      · simp only [Act.put, List.setIfInBounds_toArray, List.set_cons_zero, List.set_cons_succ, i64_w, i32_w]
        rfl
      refine one_ (i := 35) (N := some 93) #[true, true, true, true, true, true, true, true, true, true, true, true, true, true, true, true, true, true, true, true, true, true, true, true, true, true, true, true, true, true, true, true, true, true, true, true, false, false, false, true, true, true, true, true, true, false, false, false, false, true, true, true, true, true, true, false, false, false, false, false] rfl rfl (by kernel_rfl) (by decide) (fun K hK => ?_)
      refine goes_ Try.func22 (by kernel_rfl) rfl #[.slice A9 a.f9.length c9, .slice E9 b.f9.length e9] (by rfl) rfl rfl (by (try simp only [List.map_toArray, List.map_cons, List.map_nil]); first | done | rfl) ?_
      refine (DiT.diff_any A9 c9 a.f9 E9 e9 b.f9 _ (Kd.C_below HA9.out.2 HW0.out) HA9.out.1 (Kd.C_below HE9.out.2 HW0.out) HE9.out.1 (by have := HT1.out; unfold tot at this; omega) (by have := HT2.out; unfold tot at this; omega)).mono ?_
      rintro e v5 ⟨v, rfl, hR, hb⟩
      obtain ⟨X4, y4, rfl⟩ := Kd.R_slice hR
      clear hR
      replace HB := Aside0.mk (HB.out.trans (hb.mono HB.out.size))
      replace HW0 := Aside0.mk (HW0.out.trans (hb.mono HW0.out.size))
      replace BA := Aside0.mk (blk_below BA.out hb)
      replace BB := Aside0.mk (blk_below BB.out hb)
      replace HA := Aside0.mk (HA.out.below hb)
      replace HBS := Aside0.mk (HBS.out.below hb)
      replace HD := Aside0.mk (HD.out.below hb)
      replace HE := Aside0.mk (HE.out.below hb)
      replace BD := Aside0.mk (blk_below BD.out hb)
      replace BE := Aside0.mk (blk_below BE.out hb)
      refine ⟨_, rfl, ?_⟩
      refine hK.out _ _ ⟨blk_below hHeld.1 hb, blk_below hHeld.2 hb⟩ (fun hHeld => ?_)
      clear hb
      clear hK K
      refine norm_ (a' := ?_) ?_ ?_
      rotate_left
      · show Act.put _ (some 93) _ = _
        simp only [Act.put, List.setIfInBounds_toArray, List.set_cons_zero, List.set_cons_succ, i64_w, i32_w]
        rfl
      refine pure_ (i := 36) (N := some 94) (v := .slice X4 (dWith a.f9 b.f9).length y4) (a' := ?_) #[true, true, true, true, true, true, true, true, true, true, true, true, true, true, true, true, true, true, true, true, true, true, true, true, true, true, true, true, true, true, true, true, true, true, true, true, true, false, false, true, true, true, true, true, true, false, false, false, false, true, true, true, true, true, true, false, false, false, false, false] rfl rfl (by kernel_rfl) (fun _ _ _ h => h) (Or.inl ⟨by rfl, ?_⟩) ?_ ?_
      · intro w'
        exact field_run (t := 55) rfl rfl (fld55 _ _ _ _ _ _)
      rotate_left
      · simp only [Act.put, List.setIfInBounds_toArray, List.set_cons_zero, List.set_cons_succ, i64_w, i32_w]
        rfl
      refine pure_ (i := 37) (N := some 95) (v := .int .i64 ((dWith a.f9 b.f9).length : Int)) (a' := ?_) #[true, true, true, true, true, true, true, true, true, true, true, true, true, true, true, true, true, true, true, true, true, true, true, true, true, true, true, true, true, true, true, true, true, true, true, true, true, true, false, true, true, true, true, true, true, false, false, false, false, true, true, true, true, true, true, false, false, false, false, false] rfl rfl (by kernel_rfl) (fun _ _ _ h => h) (Or.inl ⟨by rfl, ?_⟩) ?_ ?_
      · intro w'
        go_simp
      rotate_left
      · simp only [Act.put, List.setIfInBounds_toArray, List.set_cons_zero, List.set_cons_succ, i64_w, i32_w]
        rfl
      refine pure_ (i := 38) (N := some 96) (v := .int .i64 (((dWith a.f5 b.f5).length : Int) + ((dWith a.f6 b.f6).length : Int) + ((dWith a.f7 b.f7).length : Int) + ((dWith a.f8 b.f8).length : Int) + ((dWith a.f9 b.f9).length : Int))) (a' := ?_) #[true, true, true, true, true, true, true, true, true, true, true, true, true, true, true, true, true, true, true, true, true, true, true, true, true, true, true, true, true, true, true, true, true, true, true, true, true, true, true, true, true, true, true, true, true, false, false, false, false, true, true, true, true, true, true, false, false, false, false, false] rfl rfl (by kernel_rfl) (fun _ _ _ h => h) (Or.inl ⟨by rfl, ?_⟩) ?_ ?_
      · intro w'
        have e1 := wr_sm (((dWith a.f5 b.f5).length : Int) + ((dWith a.f6 b.f6).length : Int) + ((dWith a.f7 b.f7).length : Int) + ((dWith a.f8 b.f8).length : Int) + ((dWith a.f9 b.f9).length : Int)) (by have := HSZ.out; omega) (by have := HSZ.out; omega)
        go_simp
        exact (i64_w _).trans e1
      rotate_left
      · simp only [Act.put, List.setIfInBounds_toArray, List.set_cons_zero, List.set_cons_succ, i64_w, i32_w]
        rfl
      refine one_ (i := 45) (N := some 103) #[true, true, true, true, true, true, true, true, true, true, true, true, true, true, true, true, true, true, true, true, true, true, true, true, true, true, true, true, true, true, true, true, true, true, true, true, true, true, true, true, true, true, true, true, true, true, false, false, false, true, true, true, true, true, true, false, false, false, false, false] rfl rfl (by kernel_rfl) (by decide) (fun K hK => ?_)
      refine goes_ Try.func23 (by kernel_rfl) rfl #[.slice A11 a.f10.f1.length c11, .slice E11 b.f10.f1.length e11] (by rfl) rfl rfl (by (try simp only [List.map_toArray, List.map_cons, List.map_nil]); first | done | rfl) ?_
      refine (DiI.diff_any A11 c11 a.f10.f1 E11 e11 b.f10.f1 _ (Kd.C_below HA11.out.2 HW0.out) HA11.out.1 (Kd.C_below HE11.out.2 HW0.out) HE11.out.1 (by have := HT1.out; unfold tot at this; omega) (by have := HT2.out; unfold tot at this; omega)).mono ?_
      rintro e v6 ⟨v, rfl, hR, hb⟩
      obtain ⟨X5, y5, rfl⟩ := Kd.R_slice hR
      clear hR
      replace HB := Aside0.mk (HB.out.trans (hb.mono HB.out.size))
      replace HW0 := Aside0.mk (HW0.out.trans (hb.mono HW0.out.size))
      replace BA := Aside0.mk (blk_below BA.out hb)
      replace BB := Aside0.mk (blk_below BB.out hb)
      replace HA := Aside0.mk (HA.out.below hb)
      replace HBS := Aside0.mk (HBS.out.below hb)
      replace HD := Aside0.mk (HD.out.below hb)
      replace HE := Aside0.mk (HE.out.below hb)
      replace BD := Aside0.mk (blk_below BD.out hb)
      replace BE := Aside0.mk (blk_below BE.out hb)
      refine ⟨_, rfl, ?_⟩
      refine hK.out _ _ ⟨blk_below hHeld.1 hb, blk_below hHeld.2 hb⟩ (fun hHeld => ?_)
      clear hb
      clear hK K
      refine norm_ (a' := ?_) ?_ ?_
      rotate_left
      · show Act.put _ (some 103) _ = _
        simp only [Act.put, List.setIfInBounds_toArray, List.set_cons_zero, List.set_cons_succ, i64_w, i32_w]
        rfl
      refine pure_ (i := 46) (N := some 104) (v := .slice X5 (dWith a.f10.f1 b.f10.f1).length y5) (a' := ?_) #[true, true, true, true, true, true, true, true, true, true, true, true, true, true, true, true, true, true, true, true, true, true, true, true, true, true, true, true, true, true, true, true, true, true, true, true, true, true, true, true, true, true, true, true, true, true, true, false, false, true, true, true, true, true, true, false, false, false, false, false] rfl rfl (by kernel_rfl) (fun _ _ _ h => h) (Or.inl ⟨by rfl, ?_⟩) ?_ ?_
      · intro w'
        exact field_run (t := 57) rfl rfl (fld57 _ _ _ _ _ _)
      rotate_left
      · simp only [Act.put, List.setIfInBounds_toArray, List.set_cons_zero, List.set_cons_succ, i64_w, i32_w]
        rfl
      refine pure_ (i := 47) (N := some 105) (v := .int .i64 ((dWith a.f10.f1 b.f10.f1).length : Int)) (a' := ?_) #[true, true, true, true, true, true, true, true, true, true, true, true, true, true, true, true, true, true, true, true, true, true, true, true, true, true, true, true, true, true, true, true, true, true, true, true, true, true, true, true, true, true, true, true, true, true, true, true, false, true, true, true, true, true, true, false, false, false, false, false] rfl rfl (by kernel_rfl) (fun _ _ _ h => h) (Or.inl ⟨by rfl, ?_⟩) ?_ ?_
      · intro w'
        go_simp
      rotate_left
      · simp only [Act.put, List.setIfInBounds_toArray, List.set_cons_zero, List.set_cons_succ, i64_w, i32_w]
        rfl
      refine pure_ (i := 48) (N := some 106) (v := .int .i64 (((dWith a.f5 b.f5).length : Int) + ((dWith a.f6 b.f6).length : Int) + ((dWith a.f7 b.f7).length : Int) + ((dWith a.f8 b.f8).length : Int) + ((dWith a.f9 b.f9).length : Int) + ((dWith a.f10.f1 b.f10.f1).length : Int))) (a' := ?_) #[true, true, true, true, true, true, true, true, true, true, true, true, true, true, true, true, true, true, true, true, true, true, true, true, true, true, true, true, true, true, true, true, true, true, true, true, true, true, true, true, true, true, true, true, true, true, true, true, true, true, true, true, true, true, true, false, false, false, false, false] rfl rfl (by kernel_rfl) (fun _ _ _ h => h) (Or.inl ⟨by rfl, ?_⟩) ?_ ?_
      · intro w'
        have e1 := wr_sm (((dWith a.f5 b.f5).length : Int) + ((dWith a.f6 b.f6).length : Int) + ((dWith a.f7 b.f7).length : Int) + ((dWith a.f8 b.f8).length : Int) + ((dWith a.f9 b.f9).length : Int) + ((dWith a.f10.f1 b.f10.f1).length : Int)) (by have := HSZ.out; omega) (by have := HSZ.out; omega)
        go_simp
        exact (i64_w _).trans e1
      rotate_left
      · simp only [Act.put, List.setIfInBounds_toArray, List.set_cons_zero, List.set_cons_succ, i64_w, i32_w]
        rfl
      refine one_ (i := 55) (N := some 113) #[true, true, true, true, true, true, true, true, true, true, true, true, true, true, true, true, true, true, true, true, true, true, true, true, true, true, true, true, true, true, true, true, true, true, true, true, true, true, true, true, true, true, true, true, true, true, true, true, true, true, true, true, true, true, true, true, false, false, false, false] rfl rfl (by kernel_rfl) (by decide) (fun K hK => ?_)
      refine goes_ Try.func9 (by kernel_rfl) rfl #[.slice A13 a.f10.f3.length c13, .slice E13 b.f10.f3.length e13] (by rfl) rfl rfl (by (try simp only [List.map_toArray, List.map_cons, List.map_nil]); first | done | rfl) ?_
      refine (ref_any A13 c13 a.f10.f3 E13 e13 b.f10.f3 _ (Kd.C_below HA13.out.2 HW0.out) HA13.out.1 (Kd.C_below HE13.out.2 HW0.out) HE13.out.1 (by have := HT1.out; unfold tot at this; omega) (by have := HT2.out; unfold tot at this; omega)).mono ?_
      rintro e v7 ⟨X6, y6, rfl, hb⟩
      replace HB := Aside0.mk (HB.out.trans (hb.mono HB.out.size))
      replace HW0 := Aside0.mk (HW0.out.trans (hb.mono HW0.out.size))
      replace BA := Aside0.mk (blk_below BA.out hb)
      replace BB := Aside0.mk (blk_below BB.out hb)
      replace HA := Aside0.mk (HA.out.below hb)
      replace HBS := Aside0.mk (HBS.out.below hb)
      replace HD := Aside0.mk (HD.out.below hb)
      replace HE := Aside0.mk (HE.out.below hb)
      replace BD := Aside0.mk (blk_below BD.out hb)
      replace BE := Aside0.mk (blk_below BE.out hb)
      refine ⟨_, rfl, ?_⟩
      refine hK.out _ _ ⟨blk_below hHeld.1 hb, blk_below hHeld.2 hb⟩ (fun hHeld => ?_)
      clear hb
      clear hK K
      refine norm_ (a' := ?_) ?_ ?_
      rotate_left
      · show Act.put _ (some 113) _ = _
        simp only [Act.put, List.setIfInBounds_toArray, List.set_cons_zero, List.set_cons_succ, i64_w, i32_w]
        rfl
      refine pure_ (i := 56) (N := some 114) (v := .slice X6 (dWith a.f10.f3 b.f10.f3).length y6) (a' := ?_) #[true, true, true, true, true, true, true, true, true, true, true, true, true, true, true, true, true, true, true, true, true, true, true, true, true, true, true, true, true, true, true, true, true, true, true, true, true, true, true, true, true, true, true, true, true, true, true, true, true, true, true, true, true, true, true, true, true, false, false, false] rfl rfl (by kernel_rfl) (fun _ _ _ h => h) (Or.inl ⟨by rfl, ?_⟩) ?_ ?_
      · intro w'
        exact field_run (t := 27) rfl rfl (fld27 _ _ _ _ _ _)
      rotate_left
      · simp only [Act.put, List.setIfInBounds_toArray, List.set_cons_zero, List.set_cons_succ, i64_w, i32_w]
        rfl
      refine pure_ (i := 57) (N := some 115) (v := .int .i64 ((dWith a.f10.f3 b.f10.f3).length : Int)) (a' := ?_) #[true, true, true, true, true, true, true, true, true, true, true, true, true, true, true, true, true, true, true, true, true, true, true, true, true, true, true, true, true, true, true, true, true, true, true, true, true, true, true, true, true, true, true, true, true, true, true, true, true, true, true, true, true, true, true, true, true, true, false, false] rfl rfl (by kernel_rfl) (fun _ _ _ h => h) (Or.inl ⟨by rfl, ?_⟩) ?_ ?_
      · intro w'
        go_simp
      rotate_left
      · simp only [Act.put, List.setIfInBounds_toArray, List.set_cons_zero, List.set_cons_succ, i64_w, i32_w]
        rfl
      refine pure_ (i := 58) (N := some 116) (v := .int .i64 (((dWith a.f5 b.f5).length : Int) + ((dWith a.f6 b.f6).length : Int) + ((dWith a.f7 b.f7).length : Int) + ((dWith a.f8 b.f8).length : Int) + ((dWith a.f9 b.f9).length : Int) + ((dWith a.f10.f1 b.f10.f1).length : Int) + ((dWith a.f10.f3 b.f10.f3).length : Int))) (a' := ?_) #[true, true, true, true, true, true, true, true, true, true, true, true, true, true, true, true, true, true, true, true, true, true, true, true, true, true, true, true, true, true, true, true, true, true, true, true, true, true, true, true, true, true, true, true, true, true, true, true, true, true, true, true, true, true, true, true, true, true, true, false] rfl rfl (by kernel_rfl) (fun _ _ _ h => h) (Or.inl ⟨by rfl, ?_⟩) ?_ ?_
      · intro w'
        have e1 := wr_sm (((dWith a.f5 b.f5).length : Int) + ((dWith a.f6 b.f6).length : Int) + ((dWith a.f7 b.f7).length : Int) + ((dWith a.f8 b.f8).length : Int) + ((dWith a.f9 b.f9).length : Int) + ((dWith a.f10.f1 b.f10.f1).length : Int) + ((dWith a.f10.f3 b.f10.f3).length : Int)) (by have := HSZ.out; omega) (by have := HSZ.out; omega)
        go_simp
        exact (i64_w _).trans e1
      rotate_left
      · simp only [Act.put, List.setIfInBounds_toArray, List.set_cons_zero, List.set_cons_succ, i64_w, i32_w]
        rfl
      refine pure_ (i := 59) (N := some 11) (v := .int .i64 (dsz a b : Int)) (a' := ?_) #[true, true, true, true, true, true, true, true, true, true, true, true, true, true, true, true, true, true, true, true, true, true, true, true, true, true, true, true, true, true, true, true, true, true, true, true, true, true, true, true, true, true, true, true, true, true, true, true, true, true, true, true, true, true, true, true, true, true, true, true] rfl rfl (by kernel_rfl) (fun _ _ _ h => h) (Or.inl ⟨by rfl, ?_⟩) ?_ ?_
      · intro w'
        go_simp
        unfold dsz
        simp only [Int.natCast_add]
      rotate_left
      · simp only [Act.put, List.setIfInBounds_toArray, List.set_cons_zero, List.set_cons_succ, i64_w, i32_w]
        rfl
      refine done_ (by kernel_rfl) ?_
      go_wp2_with ((with_reducible refine gate_dst (N := 117) rfl ?_); refine Hold.out ?_)
      refine ⟨?_⟩
      refine load_rowG 117 rfl rfl rfl rfl (load61 BD.out HCD.out) ?_
      go_wp2_with (go_at_call 24; refine Hold.out ?_)
      refine ⟨?_⟩
      refine (size_any _ _ a b HD.out HT2.out).mono ?_
      rintro e w12 ⟨rfl, hb⟩
      replace HB := Aside0.mk (HB.out.trans (hb.mono HB.out.size))
      replace HW0 := Aside0.mk (HW0.out.trans (hb.mono HW0.out.size))
      replace BA := Aside0.mk (blk_below BA.out hb)
      replace BB := Aside0.mk (blk_below BB.out hb)
      replace HA := Aside0.mk (HA.out.below hb)
      replace HBS := Aside0.mk (HBS.out.below hb)
      replace HD := Aside0.mk (HD.out.below hb)
      replace HE := Aside0.mk (HE.out.below hb)
      replace BD := Aside0.mk (blk_below BD.out hb)
      replace BE := Aside0.mk (blk_below BE.out hb)
      clear hb
      go_wp2_with ((with_reducible refine gate_dst (N := 122) rfl ?_); refine Hold.out ?_)
      refine ⟨?_⟩
      refine load_rowG 122 rfl rfl rfl rfl (load46 BA.out HCA.out) ?_
      go_wp2_with ((with_reducible refine gate_dst (N := 123) rfl ?_); refine Hold.out ?_)
      refine ⟨?_⟩
      refine load_rowG 123 rfl rfl rfl rfl (load46 BA.out HCA.out) ?_
      go_wp2_with (go_at_call 17; refine Hold.out ?_)
      refine ⟨?_⟩
      refine (between_any _ _ _ a a HA.out HA.out HT1.out HT1.out).mono ?_
      rintro e w13 ⟨vd, rfl, hDD, hb⟩
      replace HB := Aside0.mk (HB.out.trans (hb.mono HB.out.size))
      replace HW0 := Aside0.mk (HW0.out.trans (hb.mono HW0.out.size))
      replace BA := Aside0.mk (blk_below BA.out hb)
      replace BB := Aside0.mk (blk_below BB.out hb)
      replace HA := Aside0.mk (HA.out.below hb)
      replace HBS := Aside0.mk (HBS.out.below hb)
      replace HD := Aside0.mk (HD.out.below hb)
      replace HE := Aside0.mk (HE.out.below hb)
      replace BD := Aside0.mk (blk_below BD.out hb)
      replace BE := Aside0.mk (blk_below BE.out hb)
      have HDD := Aside0.mk hDD
      clear hDD
      clear hb
      go_wp2_with (go_at_call 24; refine Hold.out ?_)
      refine ⟨?_⟩
      refine (size_any _ _ a a HDD.out HT1.out).mono ?_
      rintro e w14 ⟨rfl, hb⟩
      replace HB := Aside0.mk (HB.out.trans (hb.mono HB.out.size))
      clear hb
      rw [dsz_self]
      go_wp2
      go_ret
      exact ⟨rfl, HB.out⟩
    · have dt : decide (tot b ≤ 300) = false := decide_eq_false ht
      clear ht
      go_wp2_with ((with_reducible refine gate_dst (N := 18) rfl ?_); refine Hold.out ?_)
      refine ⟨?_⟩
      refine load_rowG 18 rfl rfl rfl rfl (load46 BB.out HCB.out) ?_
      go_wp2_with (go_at_call 15; refine Hold.out ?_)
      refine ⟨?_⟩
      refine (few_any _ _ b HBS.out HSB.out).mono ?_
      rintro e w3 ⟨rfl, hb⟩
      replace HB := Aside0.mk (HB.out.trans (hb.mono HB.out.size))
      replace HW0 := Aside0.mk (HW0.out.trans (hb.mono HW0.out.size))
      replace BA := Aside0.mk (blk_below BA.out hb)
      replace BB := Aside0.mk (blk_below BB.out hb)
      replace HA := Aside0.mk (HA.out.below hb)
      replace HBS := Aside0.mk (HBS.out.below hb)
      clear hb
      rw [dt]
      go_wp2
      go_ret
      exact ⟨rfl, HB.out⟩
  · have dt : decide (tot a ≤ 300) = false := decide_eq_false ht
    clear ht
    go_wp2_with ((with_reducible refine gate_dst (N := 14) rfl ?_); refine Hold.out ?_)
    refine ⟨?_⟩
    refine load_rowG 14 rfl rfl rfl rfl (load46 BA.out HCA.out) ?_
    go_wp2_with (go_at_call 15; refine Hold.out ?_)
    refine ⟨?_⟩
    refine (few_any _ _ a HA.out HSA.out).mono ?_
    rintro e w2 ⟨rfl, hb⟩
    replace HB := Aside0.mk (HB.out.trans (hb.mono HB.out.size))
    replace HW0 := Aside0.mk (HW0.out.trans (hb.mono HW0.out.size))
    replace BA := Aside0.mk (blk_below BA.out hb)
    replace BB := Aside0.mk (blk_below BB.out hb)
    replace HA := Aside0.mk (HA.out.below hb)
    replace HBS := Aside0.mk (HBS.out.below hb)
    clear hb
    rw [dt]
    go_wp2
    go_ret
    exact ⟨rfl, HB.out⟩
end Go.Proofs.Ytfpbohfefliljaa.MD
