/- BitsLists: the law's walk, of a set with some numbers. -/
import Derived.Test.YtimodbkfjaknhaaDoorLListA
import Derived.Test.YtimodbkfjaknhaaDoorBack
import Derived.Test.YtimodbkfjaknhaaDoorBRef
import Derived.Test.YtimodbkfjaknhaaDoorBAnch
namespace Go.Proofs.YtimodbkfjaknhaaDoor.Seq
open Go Go.RowKit Go.Proofs Go.Shelf BPlain Go.Proofs.YtimodbkfjaknhaaDoorW.PrintWords Go.Proofs.YtimodbkfjaknhaaDoorW.PrintLast Go.Proofs.YtimodbkfjaknhaaDoorW.PrintMore
set_option linter.unusedVariables false
set_option linter.unusedSimpArgs false
attribute [local go_sem] Oper.semAt_some
set_option maxHeartbeats 40000000 in
set_option maxRecDepth 100000 in
theorem lists_some (s : Nat) (stop : Int) (hs : s < 18446744073709551616) (w : World) (ht : Tab w) (H0 : Aside0 (lst s ≠ [])) : Calls Tryd.prog 3 #[.int .u64 (s : Int), .int .i64 stop] w fun e w' => e = .returned (.bool true) ∧ Below w.heap.size w w' := by
  refine (callsIn_wide (n := 9)).1 ?_
  refine callsIn_of_wp_marks Tryd.func3 rfl trivial ?_ (by rfl)
  simp only [Tryd.ntmps3, List.size_toArray, List.length_cons, List.length_nil, Nat.reduceAdd, Nat.reduceSub, Array.replicate_succ, Array.replicate_zero, List.push_toArray, List.append_toArray, List.nil_append, List.cons_append]
  refine wpIn_wide.2 ?_
  go_wp2_with (go_at_call 6; refine Hold.out ?_)
  refine ⟨?_⟩
  have bP := (Boxed.new w 3 (.int .i64 stop)).alloc (.cells #[.bool false] 4)
  have bR := Boxed.new (w.alloc (.cells #[.int .i64 stop] 3)) 4 (.bool false)
  rw [World.size_alloc] at bR
  have hB0 : Below w.heap.size w ((w.alloc (.cells #[.int .i64 stop] 3)).alloc (.cells #[.bool false] 4)) := ((Below.refl _ w).alloc (Nat.le_refl _) _).alloc (by simp) _
  have hz : ((w.alloc (.cells #[.int .i64 stop] 3)).alloc (.cells #[.bool false] 4)).heap.size = w.heap.size + 2 := by simp
  have ht0 := ht.below hB0
  generalize (w.alloc (.cells #[.int .i64 stop] 3)).alloc (.cells #[.bool false] 4) = w0 at *
  refine (anchor_any w0 ht0).mono ?_
  rintro e w1 ⟨rfl, hb1⟩
  have bP1 := boxed_below bP hb1 bP.lt
  have bR1 := boxed_below bR hb1 bR.lt
  have hB1 := hB0.trans (hb1.mono hB0.size)
  have ht1 := ht0.below hb1
  have hz1 := hb1.size
  clear bP bR hB0 ht0 hb1
  go_wp2_with (go_at_call 7; refine Hold.out ?_)
  refine ⟨?_⟩
  refine (MBitsRef.ref_list s hs w1).mono ?_
  rintro e w2 ⟨v5, rfl, hR5, hb2⟩
  have bP2 := boxed_below bP1 hb2 bP1.lt
  have bR2 := boxed_below bR1 hb2 bR1.lt
  have hB2 := hB1.trans (hb2.mono hB1.size)
  have ht2 := ht1.below hb2
  have hz2 := hb2.size
  clear bP1 bR1 hB1 ht1 hb2
  obtain ⟨A5, c5, rfl⟩ := Kd.R_slice hR5
  go_wp2_with (go_at_call 8; refine Hold.out ?_)
  refine ⟨?_⟩
  have b5 := Boxed.new w2 25 (.slice A5 (lst s).length c5)
  have hA3 : Below w2.heap.size w2 (w2.alloc (.cells #[.slice A5 (lst s).length c5] 25)) := (Below.refl _ w2).alloc (Nat.le_refl _) _
  have hz3 : (w2.alloc (.cells #[.slice A5 (lst s).length c5] 25)).heap.size = w2.heap.size + 1 := by simp
  have hC5 := Kd.C_below (Kd.R_reads' hR5).2.2 hA3
  have hc5 := (Kd.R_reads' hR5).2.1
  have bP3 := boxed_below bP2 hA3 bP2.lt
  have bR3 := boxed_below bR2 hA3 bR2.lt
  have hB3 := hB2.trans (hA3.mono hB2.size)
  have ht3 := ht2.below hA3
  clear bP2 bR2 hB2 ht2 hA3 hR5
  generalize w2.alloc (.cells #[.slice A5 (lst s).length c5] 25) = w3 at *
  refine (list_any s hs w3 ht3).mono ?_
  rintro e w4 ⟨v6, rfl, hrow6, hb4⟩
  have hR6 : Kd.R (Kd.int .i64) 3 w4 w3.heap.size (fun _ => True) v6 (lst s) := Kd.R_of_own (by
    have e : encs (Value.int .i64) (lst s) = (lst s).map fun x => Value.int .i64 x := rfl
    rw [e]
    exact hrow6) (fun _ _ => trivial)
  obtain ⟨A6, c6, rfl⟩ := Kd.R_slice hR6
  have hC6 := (Kd.R_reads' hR6).2.2
  have bP4 := boxed_below bP3 hb4 bP3.lt
  have bR4 := boxed_below bR3 hb4 bR3.lt
  have b54 := boxed_below b5 hb4 (by omega)
  have hC54 := Kd.C_below hC5 hb4
  have hB4 := hB3.trans (hb4.mono hB3.size)
  have ht4 := ht3.below hb4
  have hz4 := hb4.size
  clear bP3 bR3 b5 hC5 hB3 ht3 hb4 hrow6 hR6
  have hl64 := (lst_all s).1
  have p54 := b54.cell
  have hpos := ht4.2
  have hfr : ∀ W, Below w4.heap.size w4 W → Calls Tryd.prog 11 #[.int .u64 (s : Int)] W fun e w' => e = .returned (.int .i64 ((lst s).headD (-1))) ∧ W = w' := fun W hb => first_of s hs W (ht4.below hb)
  have hshow : ∀ W, Below w4.heap.size w4 W → Calls Tryd.prog 9 #[.int .u64 (s : Int)] W fun e w' => e = .returned (.string (joined (lst s))) ∧ Below w4.heap.size w4 w' := fun W hb => (show_any s hs W (ht4.below hb)).mono fun e w' ⟨h1, h2⟩ => ⟨h1, hb.trans (h2.mono hb.size)⟩
  have hrefs : ∀ W, Below w4.heap.size w4 W → Calls Tryd.prog 10 #[.int .u64 (s : Int)] W fun e w' => e = .returned (.string (joined (lst s))) ∧ Below w4.heap.size w4 w' := fun W hb => (MBitsRef.ref_show s hs W).mono fun e w' ⟨h1, h2⟩ => ⟨h1, hb.trans (h2.mono hb.size)⟩
  have hp5 : ∀ W, Below w4.heap.size w4 W → W.cell? ⟨w2.heap.size, 0, none⟩ = some (.slice A5 (lst s).length c5) := fun W hb => (boxed_below b54 hb b54.lt).cell
  go_wp2
  generalize hJ : joined (lst s) = jj at hshow hrefs
  generalize hn : (lst s).length = n at *
  have h0 := H0.out
  focus
    have hlp : 0 < n := by rw [← hn]; exact List.length_pos_iff.2 h0
    have hC := hC54
    have hx : ∃ x0, rd (lst s) 0 = x0 ∧ (lst s).headD (-1) = x0 := by
      cases hls : lst s with
      | nil => exact absurd hls h0
      | cons x r => exact ⟨x, rfl, rfl⟩
    obtain ⟨x0, hx0, hxh⟩ := hx
    rw [hxh] at hfr
    obtain ⟨ad, rfl, hel⟩ := Kd.at_int hC 0 (Int.le_refl 0) (by omega)
    rw [hx0] at hel
    replace hel : w4.cell? ad = some (.int .i64 x0) := hel
    have hpe : ∀ W, Below w4.heap.size w4 W → W.cell? ad = some (.int .i64 x0) := fun W hb => (hb.cell (World.block_lt_of_cell? w4 _ hel)).trans hel
    have n0 : (((n : Nat) : Int) == 0) = false := by rw [beq_eq_false_iff_ne]; omega
    have n1 : decide ((n : Int) > 0) = true := decide_eq_true (by omega)
    have n2 : decide ((0 : Int) < (n : Int)) = true := decide_eq_true (by omega)
    have n3 : ((0 : Int) < (n : Int)) = True := eq_true (by omega)
    have n4 : ((n : Int) = 0) = False := eq_false (by omega)
    have n5 : (0 < n) = True := eq_true hlp
    have n6 : (n = 0) = False := eq_false (by omega)
    refine only_normal ?_
    refine start_ (n := 35) (S := fun W => W.cell? ⟨w2.heap.size, 0, none⟩ = some (.slice (some ad) n c5) ∧ W.cell? ad = some (.int .i64 x0) ∧ Below w4.heap.size w4 W) (ds := []) #[false, false, false, false, false, false, false, false, false, false, false, false, false, false, false, false, false, false, false, false, false, false, false, false, false, false, false, false, false, false, false, false, false, false, false] (by kernel_rfl) rfl rfl (⟨hp5 _ (below_drew1 (Below.refl _ _)), hpe _ (below_drew1 (Below.refl _ _)), (below_drew1 (Below.refl _ _))⟩) (fun hHeld => ?_)
    refine pure_ (i := 0) (N := some 18) (v := ?_) (a' := ?_) #[true, false, false, false, false, false, false, false, false, false, false, false, false, false, false, false, false, false, false, false, false, false, false, false, false, false, false, false, false, false, false, false, false, false, false] rfl rfl (by kernel_rfl) (fun _ _ _ h => h) (Or.inl ⟨by rfl, ?_⟩) ?_ ?_
    rotate_left
    · intro w'
      go_simp
      with_reducible rfl
    rotate_left
    · simp only [Act.put, List.setIfInBounds_toArray, List.set_cons_zero, List.set_cons_succ, i64_w, i32_w]
      rfl
    refine pure_ (i := 1) (N := some 19) (v := ?_) (a' := ?_) #[true, true, false, false, false, false, false, false, false, false, false, false, false, false, false, false, false, false, false, false, false, false, false, false, false, false, false, false, false, false, false, false, false, false, false] rfl rfl (by kernel_rfl) (fun _ _ _ h => h) (Or.inl ⟨by rfl, ?_⟩) ?_ ?_
    rotate_left
    · intro w'
      go_simp
      with_reducible rfl
    rotate_left
    · simp only [Act.put, List.setIfInBounds_toArray, List.set_cons_zero, List.set_cons_succ, i64_w, i32_w]
      rfl
    refine take_ (i := 2) (N := some 20) (v := ?_) (a' := ?_) #[true, true, true, false, false, false, false, false, false, false, false, false, false, false, false, false, false, false, false, false, false, false, false, false, false, false, false, false, false, false, false, false, false, false, false] rfl rfl (by kernel_rfl) (fun _ _ _ h => h) (Or.inl ⟨by rfl, ?_⟩) hHeld ?_ ?_
    rotate_left
    · rintro w' ⟨s0, s1, s2⟩
      go_simp
      with_reducible rfl
    rotate_left
    · simp only [Act.put, List.setIfInBounds_toArray, List.set_cons_zero, List.set_cons_succ, i64_w, i32_w]
      rfl
    refine pure_ (i := 3) (N := some 21) (v := ?_) (a' := ?_) #[true, true, true, true, false, false, false, false, false, false, false, false, false, false, false, false, false, false, false, false, false, false, false, false, false, false, false, false, false, false, false, false, false, false, false] rfl rfl (by kernel_rfl) (fun _ _ _ h => h) (Or.inl ⟨by rfl, ?_⟩) ?_ ?_
    rotate_left
    · intro w'
      go_simp
      with_reducible rfl
    rotate_left
    · simp only [Act.put, List.setIfInBounds_toArray, List.set_cons_zero, List.set_cons_succ, i64_w, i32_w]
      rfl
    refine pure_ (i := 4) (N := some 22) (v := ?_) (a' := ?_) #[true, true, true, true, true, false, false, false, false, false, false, false, false, false, false, false, false, false, false, false, false, false, false, false, false, false, false, false, false, false, false, false, false, false, false] rfl rfl (by kernel_rfl) (fun _ _ _ h => h) (Or.inl ⟨by rfl, ?_⟩) ?_ ?_
    rotate_left
    · intro w'
      go_simp
      with_reducible rfl
    rotate_left
    · simp only [Act.put, List.setIfInBounds_toArray, List.set_cons_zero, List.set_cons_succ, i64_w, i32_w]
      rfl
    refine pure_ (i := 5) (N := some 23) (v := ?_) (a' := ?_) #[true, true, true, true, true, true, false, false, false, false, false, false, false, false, false, false, false, false, false, false, false, false, false, false, false, false, false, false, false, false, false, false, false, false, false] rfl rfl (by kernel_rfl) (fun _ _ _ h => h) (Or.inl ⟨by rfl, ?_⟩) ?_ ?_
    rotate_left
    · intro w'
      go_simp
      with_reducible rfl
    rotate_left
    · simp only [Act.put, List.setIfInBounds_toArray, List.set_cons_zero, List.set_cons_succ, i64_w, i32_w]
      rfl
    refine pure_ (i := 6) (N := some 24) (v := ?_) (a' := ?_) #[true, true, true, true, true, true, true, false, false, false, false, false, false, false, false, false, false, false, false, false, false, false, false, false, false, false, false, false, false, false, false, false, false, false, false] rfl rfl (by kernel_rfl) (fun _ _ _ h => h) (Or.inl ⟨by rfl, ?_⟩) ?_ ?_
    rotate_left
    · intro w'
      go_simp
      with_reducible rfl
    rotate_left
    · simp only [Act.put, List.setIfInBounds_toArray, List.set_cons_zero, List.set_cons_succ, i64_w, i32_w]
      rfl
    refine pure_ (i := 8) (N := some 26) (v := ?_) (a' := ?_) #[true, true, true, true, true, true, true, false, true, false, false, false, false, false, false, false, false, false, false, false, false, false, false, false, false, false, false, false, false, false, false, false, false, false, false] rfl rfl (by kernel_rfl) (fun _ _ _ h => h) (Or.inl ⟨by rfl, ?_⟩) ?_ ?_
    rotate_left
    · intro w'
      go_simp
      with_reducible rfl
    rotate_left
    · simp only [Act.put, List.setIfInBounds_toArray, List.set_cons_zero, List.set_cons_succ, i64_w, i32_w]
      rfl
    refine one_ (i := 7) (N := some 25) #[true, true, true, true, true, true, true, true, true, false, false, false, false, false, false, false, false, false, false, false, false, false, false, false, false, false, false, false, false, false, false, false, false, false, false] rfl rfl (by kernel_rfl) (by decide) (fun K hK => ?_)
    refine goes_ Tryd.func9 (by kernel_rfl) rfl #[.int .u64 (s : Int)] (by rfl) rfl rfl (by (try simp only [List.map_toArray, List.map_cons, List.map_nil]); first | done | rfl) ?_
    refine (hshow _ (below_drew1 (Below.refl _ _))).mono ?_
    rintro e w5 ⟨rfl, hb5⟩
    refine ⟨_, rfl, ?_⟩
    refine hK.out _ _ ⟨hp5 _ hb5, hpe _ hb5, hb5⟩ (fun hHeld => ?_)
    clear hK K
    refine norm_ (a' := ?_) ?_ ?_
    rotate_left
    · show Act.put _ (some 25) _ = _
      simp only [Act.put, List.setIfInBounds_toArray, List.set_cons_zero, List.set_cons_succ, i64_w, i32_w]
      rfl
    refine one_ (i := 9) (N := some 27) #[true, true, true, true, true, true, true, true, true, true, false, false, false, false, false, false, false, false, false, false, false, false, false, false, false, false, false, false, false, false, false, false, false, false, false] rfl rfl (by kernel_rfl) (by decide) (fun K hK => ?_)
    refine goes_ Tryd.func10 (by kernel_rfl) rfl #[.int .u64 (s : Int)] (by rfl) rfl rfl (by (try simp only [List.map_toArray, List.map_cons, List.map_nil]); first | done | rfl) ?_
    refine (hrefs _ hb5).mono ?_
    rintro e w6 ⟨rfl, hb6⟩
    refine ⟨_, rfl, ?_⟩
    refine hK.out _ _ ⟨hp5 _ hb6, hpe _ hb6, hb6⟩ (fun hHeld => ?_)
    clear hK K
    refine norm_ (a' := ?_) ?_ ?_
    rotate_left
    · show Act.put _ (some 27) _ = _
      simp only [Act.put, List.setIfInBounds_toArray, List.set_cons_zero, List.set_cons_succ, i64_w, i32_w]
      rfl
    refine pure_ (i := 10) (N := some 28) (v := ?_) (a' := ?_) #[true, true, true, true, true, true, true, true, true, true, true, false, false, false, false, false, false, false, false, false, false, false, false, false, false, false, false, false, false, false, false, false, false, false, false] rfl rfl (by kernel_rfl) (fun _ _ _ h => h) (Or.inl ⟨by rfl, ?_⟩) ?_ ?_
    rotate_left
    · intro w'
      go_simp
      with_reducible rfl
    rotate_left
    · simp only [Act.put, List.setIfInBounds_toArray, List.set_cons_zero, List.set_cons_succ, i64_w, i32_w]
      rfl
    refine pure_ (i := 11) (N := some 29) (v := ?_) (a' := ?_) #[true, true, true, true, true, true, true, true, true, true, true, true, false, false, false, false, false, false, false, false, false, false, false, false, false, false, false, false, false, false, false, false, false, false, false] rfl rfl (by kernel_rfl) (fun _ _ _ h => h) (Or.inl ⟨by rfl, ?_⟩) ?_ ?_
    rotate_left
    · intro w'
      go_simp
      with_reducible rfl
    rotate_left
    · simp only [Act.put, List.setIfInBounds_toArray, List.set_cons_zero, List.set_cons_succ, i64_w, i32_w]
      rfl
    refine pure_ (i := 12) (N := some 30) (v := ?_) (a' := ?_) #[true, true, true, true, true, true, true, true, true, true, true, true, true, false, false, false, false, false, false, false, false, false, false, false, false, false, false, false, false, false, false, false, false, false, false] rfl rfl (by kernel_rfl) (fun _ _ _ h => h) (Or.inl ⟨by rfl, ?_⟩) ?_ ?_
    rotate_left
    · intro w'
      go_simp
      with_reducible rfl
    rotate_left
    · simp only [Act.put, List.setIfInBounds_toArray, List.set_cons_zero, List.set_cons_succ, i64_w, i32_w]
      rfl
    refine take_ (i := 13) (N := some 31) (v := ?_) (a' := ?_) #[true, true, true, true, true, true, true, true, true, true, true, true, true, true, false, false, false, false, false, false, false, false, false, false, false, false, false, false, false, false, false, false, false, false, false] rfl rfl (by kernel_rfl) (fun _ _ _ h => h) (Or.inl ⟨by rfl, ?_⟩) hHeld ?_ ?_
    rotate_left
    · rintro w' ⟨s0, s1, s2⟩
      go_simp
      with_reducible rfl
    rotate_left
    · simp only [Act.put, List.setIfInBounds_toArray, List.set_cons_zero, List.set_cons_succ, i64_w, i32_w]
      rfl
    refine pure_ (i := 14) (N := some 32) (v := ?_) (a' := ?_) #[true, true, true, true, true, true, true, true, true, true, true, true, true, true, true, false, false, false, false, false, false, false, false, false, false, false, false, false, false, false, false, false, false, false, false] rfl rfl (by kernel_rfl) (fun _ _ _ h => h) (Or.inl ⟨by rfl, ?_⟩) ?_ ?_
    rotate_left
    · intro w'
      go_simp
      with_reducible rfl
    rotate_left
    · simp only [Act.put, List.setIfInBounds_toArray, List.set_cons_zero, List.set_cons_succ, i64_w, i32_w]
      rfl
    refine pure_ (i := 15) (N := some 33) (v := ?_) (a' := ?_) #[true, true, true, true, true, true, true, true, true, true, true, true, true, true, true, true, false, false, false, false, false, false, false, false, false, false, false, false, false, false, false, false, false, false, false] rfl rfl (by kernel_rfl) (fun _ _ _ h => h) (Or.inl ⟨by rfl, ?_⟩) ?_ ?_
    rotate_left
    · intro w'
      go_simp
      with_reducible rfl
    rotate_left
    · simp only [Act.put, List.setIfInBounds_toArray, List.set_cons_zero, List.set_cons_succ, i64_w, i32_w]
      rfl
    refine pure_ (i := 16) (N := some 34) (v := ?_) (a' := ?_) #[true, true, true, true, true, true, true, true, true, true, true, true, true, true, true, true, true, false, false, false, false, false, false, false, false, false, false, false, false, false, false, false, false, false, false] rfl rfl (by kernel_rfl) (fun _ _ _ h => h) (Or.inl ⟨by rfl, ?_⟩) ?_ ?_
    rotate_left
    · intro w'
      go_simp
      with_reducible rfl
    rotate_left
    · simp only [Act.put, List.setIfInBounds_toArray, List.set_cons_zero, List.set_cons_succ, i64_w, i32_w]
      rfl
    refine pure_ (i := 17) (N := some 35) (v := undef) (a' := ?_) #[true, true, true, true, true, true, true, true, true, true, true, true, true, true, true, true, true, true, false, false, false, false, false, false, false, false, false, false, false, false, false, false, false, false, false] rfl rfl (by kernel_rfl) (fun _ _ _ h => h) (Or.inr ⟨by rfl, rfl⟩) ?_ ?_
    rotate_left
    · simp only [Act.put, List.setIfInBounds_toArray, List.set_cons_zero, List.set_cons_succ, i64_w, i32_w]
      rfl
    refine pure_ (i := 18) (N := some 36) (v := undef) (a' := ?_) #[true, true, true, true, true, true, true, true, true, true, true, true, true, true, true, true, true, true, true, false, false, false, false, false, false, false, false, false, false, false, false, false, false, false, false] rfl rfl (by kernel_rfl) (fun _ _ _ h => h) (Or.inr ⟨by rfl, rfl⟩) ?_ ?_
    rotate_left
    · simp only [Act.put, List.setIfInBounds_toArray, List.set_cons_zero, List.set_cons_succ, i64_w, i32_w]
      rfl
    refine pure_ (i := 19) (N := some 37) (v := undef) (a' := ?_) #[true, true, true, true, true, true, true, true, true, true, true, true, true, true, true, true, true, true, true, true, false, false, false, false, false, false, false, false, false, false, false, false, false, false, false] rfl rfl (by kernel_rfl) (fun _ _ _ h => h) (Or.inr ⟨by rfl, rfl⟩) ?_ ?_
    rotate_left
    · simp only [Act.put, List.setIfInBounds_toArray, List.set_cons_zero, List.set_cons_succ, i64_w, i32_w]
      rfl
    refine pure_ (i := 20) (N := some 38) (v := ?_) (a' := ?_) #[true, true, true, true, true, true, true, true, true, true, true, true, true, true, true, true, true, true, true, true, true, false, false, false, false, false, false, false, false, false, false, false, false, false, false] rfl rfl (by kernel_rfl) (fun _ _ _ h => h) (Or.inl ⟨by rfl, ?_⟩) ?_ ?_
    rotate_left
    · intro w'
      go_simp
      with_reducible rfl
    rotate_left
    · simp only [Act.put, List.setIfInBounds_toArray, List.set_cons_zero, List.set_cons_succ, i64_w, i32_w]
      rfl
    refine pure_ (i := 21) (N := some 39) (v := ?_) (a' := ?_) #[true, true, true, true, true, true, true, true, true, true, true, true, true, true, true, true, true, true, true, true, true, true, false, false, false, false, false, false, false, false, false, false, false, false, false] rfl rfl (by kernel_rfl) (fun _ _ _ h => h) (Or.inl ⟨by rfl, ?_⟩) ?_ ?_
    rotate_left
    · intro w'
      go_simp
      with_reducible rfl
    rotate_left
    · simp only [Act.put, List.setIfInBounds_toArray, List.set_cons_zero, List.set_cons_succ, i64_w, i32_w]
      rfl
    refine pure_ (i := 22) (N := some 40) (v := ?_) (a' := ?_) #[true, true, true, true, true, true, true, true, true, true, true, true, true, true, true, true, true, true, true, true, true, true, true, false, false, false, false, false, false, false, false, false, false, false, false] rfl rfl (by kernel_rfl) (fun _ _ _ h => h) (Or.inl ⟨by rfl, ?_⟩) ?_ ?_
    rotate_left
    · intro w'
      go_simp
      with_reducible rfl
    rotate_left
    · simp only [Act.put, List.setIfInBounds_toArray, List.set_cons_zero, List.set_cons_succ, i64_w, i32_w]
      rfl
    refine take_ (i := 23) (N := some 41) (v := ?_) (a' := ?_) #[true, true, true, true, true, true, true, true, true, true, true, true, true, true, true, true, true, true, true, true, true, true, true, true, false, false, false, false, false, false, false, false, false, false, false] rfl rfl (by kernel_rfl) (fun _ _ _ h => h) (Or.inl ⟨by rfl, ?_⟩) hHeld ?_ ?_
    rotate_left
    · rintro w' ⟨s0, s1, s2⟩
      go_simp
      with_reducible rfl
    rotate_left
    · simp only [Act.put, List.setIfInBounds_toArray, List.set_cons_zero, List.set_cons_succ, i64_w, i32_w]
      rfl
    refine pure_ (i := 24) (N := some 42) (v := ?_) (a' := ?_) #[true, true, true, true, true, true, true, true, true, true, true, true, true, true, true, true, true, true, true, true, true, true, true, true, true, false, false, false, false, false, false, false, false, false, false] rfl rfl (by kernel_rfl) (fun _ _ _ h => h) (Or.inl ⟨by rfl, ?_⟩) ?_ ?_
    rotate_left
    · intro w'
      go_simp
      with_reducible rfl
    rotate_left
    · simp only [Act.put, List.setIfInBounds_toArray, List.set_cons_zero, List.set_cons_succ, i64_w, i32_w]
      rfl
    refine pure_ (i := 25) (N := some 43) (v := ?_) (a' := ?_) #[true, true, true, true, true, true, true, true, true, true, true, true, true, true, true, true, true, true, true, true, true, true, true, true, true, true, false, false, false, false, false, false, false, false, false] rfl rfl (by kernel_rfl) (fun _ _ _ h => h) (Or.inl ⟨by rfl, ?_⟩) ?_ ?_
    rotate_left
    · intro w'
      go_simp
      with_reducible rfl
    rotate_left
    · simp only [Act.put, List.setIfInBounds_toArray, List.set_cons_zero, List.set_cons_succ, i64_w, i32_w]
      rfl
    refine pure_ (i := 26) (N := some 44) (v := ?_) (a' := ?_) #[true, true, true, true, true, true, true, true, true, true, true, true, true, true, true, true, true, true, true, true, true, true, true, true, true, true, true, false, false, false, false, false, false, false, false] rfl rfl (by kernel_rfl) (fun _ _ _ h => h) (Or.inl ⟨by rfl, ?_⟩) ?_ ?_
    rotate_left
    · intro w'
      go_simp
      with_reducible rfl
    rotate_left
    · simp only [Act.put, List.setIfInBounds_toArray, List.set_cons_zero, List.set_cons_succ, i64_w, i32_w]
      rfl
    refine pure_ (i := 27) (N := some 45) (v := ?_) (a' := ?_) #[true, true, true, true, true, true, true, true, true, true, true, true, true, true, true, true, true, true, true, true, true, true, true, true, true, true, true, true, false, false, false, false, false, false, false] rfl rfl (by kernel_rfl) (fun _ _ _ h => h) (Or.inl ⟨by rfl, ?_⟩) ?_ ?_
    rotate_left
    · intro w'
      go_simp
      with_reducible rfl
    rotate_left
    · simp only [Act.put, List.setIfInBounds_toArray, List.set_cons_zero, List.set_cons_succ, i64_w, i32_w]
      rfl
    refine take_ (i := 29) (N := some 47) (v := ?_) (a' := ?_) #[true, true, true, true, true, true, true, true, true, true, true, true, true, true, true, true, true, true, true, true, true, true, true, true, true, true, true, true, false, true, false, false, false, false, false] rfl rfl (by kernel_rfl) (fun _ _ _ h => h) (Or.inl ⟨by rfl, ?_⟩) hHeld ?_ ?_
    rotate_left
    · rintro w' ⟨s0, s1, s2⟩
      go_simp
      with_reducible rfl
    rotate_left
    · simp only [Act.put, List.setIfInBounds_toArray, List.set_cons_zero, List.set_cons_succ, i64_w, i32_w]
      rfl
    refine pure_ (i := 30) (N := some 48) (v := ?_) (a' := ?_) #[true, true, true, true, true, true, true, true, true, true, true, true, true, true, true, true, true, true, true, true, true, true, true, true, true, true, true, true, false, true, true, false, false, false, false] rfl rfl (by kernel_rfl) (fun _ _ _ h => h) (Or.inl ⟨by rfl, ?_⟩) ?_ ?_
    rotate_left
    · intro w'
      go_simp
      with_reducible rfl
    rotate_left
    · simp only [Act.put, List.setIfInBounds_toArray, List.set_cons_zero, List.set_cons_succ, i64_w, i32_w]
      rfl
    refine take_ (i := 31) (N := some 49) (v := ?_) (a' := ?_) #[true, true, true, true, true, true, true, true, true, true, true, true, true, true, true, true, true, true, true, true, true, true, true, true, true, true, true, true, false, true, true, true, false, false, false] rfl rfl (by kernel_rfl) (fun _ _ _ h => h) (Or.inl ⟨by rfl, ?_⟩) hHeld ?_ ?_
    rotate_left
    · rintro w' ⟨s0, s1, s2⟩
      go_simp
      with_reducible rfl
    rotate_left
    · simp only [Act.put, List.setIfInBounds_toArray, List.set_cons_zero, List.set_cons_succ, i64_w, i32_w]
      rfl
    refine one_ (i := 28) (N := some 46) #[true, true, true, true, true, true, true, true, true, true, true, true, true, true, true, true, true, true, true, true, true, true, true, true, true, true, true, true, true, true, true, true, false, false, false] rfl rfl (by kernel_rfl) (by decide) (fun K hK => ?_)
    refine goes_ Tryd.func11 (by kernel_rfl) rfl #[.int .u64 (s : Int)] (by rfl) rfl rfl (by (try simp only [List.map_toArray, List.map_cons, List.map_nil]); first | done | rfl) ?_
    refine (hfr _ hb6).mono ?_
    rintro e w6' ⟨rfl, rfl⟩
    refine ⟨_, rfl, ?_⟩
    refine hK.out _ _ ⟨hp5 _ hb6, hpe _ hb6, hb6⟩ (fun hHeld => ?_)
    clear hK K
    refine norm_ (a' := ?_) ?_ ?_
    rotate_left
    · show Act.put _ (some 46) _ = _
      simp only [Act.put, List.setIfInBounds_toArray, List.set_cons_zero, List.set_cons_succ, i64_w, i32_w]
      rfl
    refine pure_ (i := 32) (N := some 50) (v := ?_) (a' := ?_) #[true, true, true, true, true, true, true, true, true, true, true, true, true, true, true, true, true, true, true, true, true, true, true, true, true, true, true, true, true, true, true, true, true, false, false] rfl rfl (by kernel_rfl) (fun _ _ _ h => h) (Or.inl ⟨by rfl, ?_⟩) ?_ ?_
    rotate_left
    · intro w'
      go_simp
      with_reducible rfl
    rotate_left
    · simp only [Act.put, List.setIfInBounds_toArray, List.set_cons_zero, List.set_cons_succ, i64_w, i32_w]
      rfl
    refine pure_ (i := 33) (N := some 51) (v := ?_) (a' := ?_) #[true, true, true, true, true, true, true, true, true, true, true, true, true, true, true, true, true, true, true, true, true, true, true, true, true, true, true, true, true, true, true, true, true, true, false] rfl rfl (by kernel_rfl) (fun _ _ _ h => h) (Or.inl ⟨by rfl, ?_⟩) ?_ ?_
    rotate_left
    · intro w'
      go_simp
      with_reducible rfl
    rotate_left
    · simp only [Act.put, List.setIfInBounds_toArray, List.set_cons_zero, List.set_cons_succ, i64_w, i32_w]
      rfl
    refine pure_ (i := 34) (N := some 52) (v := ?_) (a' := ?_) #[true, true, true, true, true, true, true, true, true, true, true, true, true, true, true, true, true, true, true, true, true, true, true, true, true, true, true, true, true, true, true, true, true, true, true] rfl rfl (by kernel_rfl) (fun _ _ _ h => h) (Or.inl ⟨by rfl, ?_⟩) ?_ ?_
    rotate_left
    · intro w'
      go_simp
      with_reducible rfl
    rotate_left
    · simp only [Act.put, List.setIfInBounds_toArray, List.set_cons_zero, List.set_cons_succ, i64_w, i32_w]
      rfl
    refine done_ (by kernel_rfl) ?_
    clear n0 n1 n2 n3 n4 n5 n6
  all_goals
    have bP6 := boxed_below bP4 hb6 bP4.lt
    have bR6 := boxed_below bR4 hb6 bR4.lt
    have b56 := boxed_below b54 hb6 b54.lt
    have hC56 := Kd.C_below hC54 hb6
    have hC66 := Kd.C_below hC6 hb6
    have hB6 := hB4.trans (hb6.mono hB4.size)
    have ht6 := ht4.below hb6
    have hz6 := hb6.size
    have hlen := hn
    clear hfr hshow hrefs hp5 hb5 hb6 bP4 bR4 b54 hC54 hC6 hB4 ht4 p54
    have p56 := b56.cell
    go_wp2
    go_loopg [55] n (fun kq v w' => ∃ i : Nat, v = .int .i64 (i : Int) ∧ i + kq = n ∧ Drawn0 w6 w')
    case atStart => exact ⟨0, rfl, Nat.zero_add n, Drawn0.refl _⟩
    case round =>
      obtain ⟨i, rfl, hik, hd⟩ := hrel
      cases gk with
      | zero =>
        obtain rfl : i = n := hik
        obtain ⟨m1, rfl⟩ := hd
        have q1 : decide ((i : Int) < (i : Int)) = false := decide_eq_false (Int.lt_irrefl _)
        have bP7 : Boxed (w6.drewN m1) _ _ _ := bP6
        have bR7 : Boxed (w6.drewN m1) _ _ _ := bR6
        have b57 : Boxed (w6.drewN m1) _ _ _ := b56
        have hC57 := Kd.C_drewN hC56 m1
        have hB7 := pw_below_drewN hB6 m1
        have ht7 : Tab (w6.drewN m1) := ht6
        have hz7 : w4.heap.size ≤ (w6.drewN m1).heap.size := hz6
        clear bP6 bR6 b56 hC56 hC66 hB6 ht6 hz6 p56
        generalize w6.drewN m1 = w7 at *
        have p57 := b57.cell
        go_wp2_with (go_at_call 12; refine Hold.out ?_)
        refine ⟨?_⟩
        have b8 := (Boxed.new w7 3 (.int .i64 0)).alloc (.cells #[.int .u64 (s : Int)] 23)
        have bI := Boxed.new (w7.alloc (.cells #[.int .i64 0] 3)) 23 (.int .u64 (s : Int))
        rw [World.size_alloc] at bI
        have hA9 : Below w7.heap.size w7 ((w7.alloc (.cells #[.int .i64 0] 3)).alloc (.cells #[.int .u64 (s : Int)] 23)) := ((Below.refl _ w7).alloc (Nat.le_refl _) _).alloc (by simp) _
        have hz9 : ((w7.alloc (.cells #[.int .i64 0] 3)).alloc (.cells #[.int .u64 (s : Int)] 23)).heap.size = w7.heap.size + 2 := by simp
        have ht9 := ht7.below hA9
        have hpos7 := ht7.2
        refine (all_calls (s : Int) _).mono ?_
        rintro e w9 ⟨rfl, hw9⟩
        rw [World.size_alloc]
        rw [← hw9] at b8 bI hA9 hz9 ht9
        clear hw9
        have hbx : Box w9 (w7.heap.size + 1) (s : Int) w9.heap[0]? := ⟨bI, rfl, Nat.succ_pos _⟩
        go_wp2
        refine range_count (n := 9) (q := 9) (gf := 29) (b := w7.heap.size + 1) (B := w9.heap.size) (s := (s : Int)) (Z := w9.heap[0]?) (xs := lst s) rfl (enters_of Tryd.func29 (by kernel_rfl) rfl) (all_gives 8 _ (by decide) s hs w9 ht9) hbx (Nat.le_refl _)
          (Cnt w7 w7.heap.size stop) (CntX w7 w7.heap.size stop) (fun W => Boxed W w7.heap.size 3 (.int .i64 (fin (lst s).length stop)) ∧ Below w7.heap.size w7 W) (cnt_own _ _ _ _ (by rw [hz9]; exact Nat.le_add_right _ _) rfl) (cntx_own _ _ _ _ (by rw [hz9]; exact Nat.le_add_right _ _) rfl) (cnt_bears _ _ _ _ rfl (Nat.lt_succ_self _)) ⟨b8, hA9, fun c h1 h2 => absurd h2 (by rw [List.length_nil]; exact Nat.not_le.2 h1)⟩ ?hend ?assign ?body (fun W h => fin_all h) (fun pre W hp h => fin_brk hp h)
        case assign =>
          intro l x W K hK
          simp only [List.setIfInBounds_toArray, List.set_cons_zero, List.set_cons_succ] at hK ⊢
          gi_wp2
          exact hK
        case body =>
          rintro l pre x s1 W ⟨hb8, hb, hno⟩ hpx hbx1
          simp only [List.setIfInBounds_toArray, List.set_cons_zero, List.set_cons_succ]
          obtain ⟨tl, htl⟩ := hpx
          have hlt : pre.length < i := by
            rw [← hn, ← htl, List.length_append, List.length_append, List.length_singleton]
            exact Nat.lt_of_lt_of_le (Nat.lt_succ_self _) (Nat.le_add_right _ _)
          all_goals (try exact absurd (hl0 ▸ hlt) (Nat.not_lt_zero _))
          all_goals
            have hrd : rd (lst s) (pre.length : Int) = x := by
              rw [MBitsSets.rd_at (lst s) pre.length (by rw [hn]; exact hlt)]
              simp [← htl]
            obtain ⟨ad2, e2, g2⟩ := Kd.at_int (Kd.C_below hC57 hb) (pre.length : Int) (Int.natCast_nonneg _) (Int.ofNat_lt.2 hlt)
            cases e2
            rw [hrd, Int.toNat_natCast] at g2
            have p8 := hb8.cell
            have f8 := hb8.frozen
            have p5 := (boxed_below b57 hb b57.lt).cell
            have pP := (boxed_below bP7 hb bP7.lt).cell
            have k1 : decide ((pre.length : Int) ≥ (i : Int)) = false := decide_eq_false (Int.not_le.2 (Int.ofNat_lt.2 hlt))
            have k2 : ((i : Int) ≤ (pre.length : Int)) = False := eq_false (Int.not_le.2 (Int.ofNat_lt.2 hlt))
            have k3 : (i ≤ pre.length) = False := eq_false (Nat.not_le.2 hlt)
            have k4 : ((pre.length : Int) < (i : Int)) = True := eq_true (Int.ofNat_lt.2 hlt)
            have k5 : (pre.length < i) = True := eq_true hlt
            have q4 : wrap64 ((pre.length : Int) + 1) = ((pre.length + 1 : Nat) : Int) := MBitsSets.w64 _ (Nat.lt_of_lt_of_le hlt (Nat.le_trans hl64 (by decide)))
            have s8 := (hb8.set (.int .i64 ((pre.length + 1 : Nat) : Int))).cell
            have sP : (W.setCell ⟨w7.heap.size, 0, none⟩ (.int .i64 ((pre.length + 1 : Nat) : Int))).cell? ⟨w.heap.size, 0, none⟩ = some (.int .i64 stop) := ((boxed_below bP7 hb bP7.lt).kept (grownBy_setCell' W w7.heap.size _) (fun e => by injection e with e; exact absurd bP7.lt (by rw [e]; exact Nat.lt_irrefl _))).cell
            have hsame : ∀ c : Nat, c ≤ (pre ++ [x]).length → ¬ c ≤ pre.length → c = pre.length + 1 := fun c h1 h2 => by
              rw [List.length_append] at h1
              exact Nat.le_antisymm h1 (Nat.not_le.1 h2)
            have ev : ((pre ++ [x]).length : Int) = (pre.length : Int) + 1 := by
              rw [List.length_append]
              rfl
            gi_wp2
            · have hst : (pre.length : Int) + 1 = stop := beq_iff_eq.1 (by assumption)
              exact ⟨KeepsOthers.setCell W _ _, rfl, by first | (rw [ev]; exact hb8.set _) | (rw [ev, hst]; exact hb8.set _), hb.setCell (p := ⟨w7.heap.size, 0, none⟩) (Nat.le_refl _) _, by rw [List.length_append]; exact Nat.le_add_left 1 _, by rw [ev]; exact hst⟩
            · have hst : (pre.length : Int) + 1 ≠ stop := beq_eq_false_iff_ne.1 (by assumption)
              refine ⟨KeepsOthers.setCell W _ _, ⟨Below.heap_setCell W ⟨w7.heap.size, 0, none⟩ _ (w7.heap.size + 1) (fun e => absurd e (Nat.succ_ne_self _)), Below.heap_setCell W ⟨w7.heap.size, 0, none⟩ _ 0 (fun e => absurd hpos7 (by rw [← show 0 = w7.heap.size from e]; exact Nat.lt_irrefl _))⟩, by rw [ev]; exact hb8.set _, hb.setCell (p := ⟨w7.heap.size, 0, none⟩) (Nat.le_refl _) _, fun c h1 h2 => ?_⟩
              by_cases hc : c ≤ pre.length
              · exact hno c h1 hc
              · rw [hsame c h2 hc]
                exact hst
        case hend =>
          rintro D wA ⟨h8, hbA⟩ hD hBD
          have hDlt : D < wA.heap.size := (Array.getElem?_eq_some_iff.1 hD).1
          have bPA := boxed_below bP7 hbA bP7.lt
          have bRA := boxed_below bR7 hbA bR7.lt
          have b5A := boxed_below b57 hbA b57.lt
          have hC5A := Kd.C_below hC57 hbA
          have hBA := hB7.trans (hbA.mono hB7.size)
          have hB9 : w.heap.size ≤ w9.heap.size := Nat.le_trans hB7.size hA9.size
          have hposA : 0 < wA.heap.size := Nat.lt_of_lt_of_le hpos7 hbA.size
          rw [hn] at h8
          clear bP7 bR7 b57 hC57 hB7 ht7 hA9 ht9 hbx b8 bI p57
          go_wp2_with (go_at_call 13; refine Hold.out ?_)
          refine ⟨?_⟩
          have b10 := (Boxed.new wA 3 (.int .i64 0)).alloc (.cells #[.int .u64 (s : Int)] 23)
          have bI := Boxed.new (wA.alloc (.cells #[.int .i64 0] 3)) 23 (.int .u64 (s : Int))
          rw [World.size_alloc] at bI
          have hAC : Below wA.heap.size wA ((wA.alloc (.cells #[.int .i64 0] 3)).alloc (.cells #[.int .u64 (s : Int)] 23)) := ((Below.refl _ wA).alloc (Nat.le_refl _) _).alloc (by simp) _
          have hzC : ((wA.alloc (.cells #[.int .i64 0] 3)).alloc (.cells #[.int .u64 (s : Int)] 23)).heap.size = wA.heap.size + 2 := by simp
          refine (back_calls (s : Int) _).mono ?_
          rintro e wC ⟨rfl, hwC⟩
          rw [World.size_alloc]
          rw [← hwC] at b10 bI hAC hzC
          clear hwC
          have hBC : w.heap.size ≤ wC.heap.size := Nat.le_trans hBA.size hAC.size
          have hbx : Box wC (wA.heap.size + 1) (s : Int) wC.heap[0]? := ⟨bI, rfl, Nat.succ_pos _⟩
          go_wp2
          refine range_count (n := 9) (q := 11) (gf := 30) (b := wA.heap.size + 1) (B := wC.heap.size) (s := (s : Int)) (Z := wC.heap[0]?) (xs := (lst s).reverse) rfl (enters_of Tryd.func30 (by kernel_rfl) rfl) (back_gives 8 _ (by decide) s hs _) hbx (Nat.le_refl _)
            (Cnt wA wA.heap.size stop) (CntX wA wA.heap.size stop) (fun W => Boxed W wA.heap.size 3 (.int .i64 (fin (lst s).reverse.length stop)) ∧ Below wA.heap.size wA W) (cnt_own _ _ _ _ (by rw [hzC]; exact Nat.le_add_right _ _) rfl) (cntx_own _ _ _ _ (by rw [hzC]; exact Nat.le_add_right _ _) rfl) (cnt_bears _ _ _ _ rfl (Nat.lt_succ_self _)) ⟨b10, hAC, fun c h1 h2 => absurd h2 (by rw [List.length_nil]; exact Nat.not_le.2 h1)⟩ ?hend2 ?assign2 ?body2 (fun W h => fin_all h) (fun pre W hp h => fin_brk hp h)
          case assign2 =>
            intro l x W K hK
            simp only [List.setIfInBounds_toArray, List.set_cons_zero, List.set_cons_succ] at hK ⊢
            gi_wp2
            exact hK
          case body2 =>
            rintro l pre x s1 W ⟨hb8, hb, hno⟩ hpx hbx1
            simp only [List.setIfInBounds_toArray, List.set_cons_zero, List.set_cons_succ]
            obtain ⟨tl, htl⟩ := hpx
            have hlt : pre.length < i := by
              have hlr : (lst s).reverse.length = i := by rw [List.length_reverse, hn]
              rw [← hlr, ← htl, List.length_append, List.length_append, List.length_singleton]
              exact Nat.lt_of_lt_of_le (Nat.lt_succ_self _) (Nat.le_add_right _ _)
            all_goals (try exact absurd (hl0 ▸ hlt) (Nat.not_lt_zero _))
            all_goals
              obtain ⟨m, hm⟩ := Nat.exists_eq_add_of_lt hlt
              have hmi : m < i := by rw [hm]; exact Nat.lt_succ_of_le (Nat.le_add_left _ _)
              have hrd : rd (lst s) (m : Int) = x := by
                have hml : m < (lst s).length := by rw [hn]; exact hmi
                rw [MBitsSets.rd_at (lst s) m hml]
                have ht : (lst s).reverse[pre.length]? = some x := by rw [← htl]; simp
                rw [List.getElem?_reverse (by rw [hn]; exact hlt), hn, hm, sub_m, List.getElem?_eq_getElem hml] at ht
                exact Option.some.inj ht
              obtain ⟨ad2, e2, g2⟩ := Kd.at_int (Kd.C_below hC5A hb) (m : Int) (Int.natCast_nonneg _) (Int.ofNat_lt.2 hmi)
              cases e2
              rw [hrd, Int.toNat_natCast] at g2
              have p8 := hb8.cell
              have f8 := hb8.frozen
              have p5 := (boxed_below b5A hb b5A.lt).cell
              have pP := (boxed_below bPA hb bPA.lt).cell
              have k1 : decide ((pre.length : Int) ≥ (i : Int)) = false := decide_eq_false (Int.not_le.2 (Int.ofNat_lt.2 hlt))
              have k2 : ((i : Int) ≤ (pre.length : Int)) = False := eq_false (Int.not_le.2 (Int.ofNat_lt.2 hlt))
              have k3 : (i ≤ pre.length) = False := eq_false (Nat.not_le.2 hlt)
              have k4 : ((pre.length : Int) < (i : Int)) = True := eq_true (Int.ofNat_lt.2 hlt)
              have k5 : (pre.length < i) = True := eq_true hlt
              have k6 : ((m : Int) < (i : Int)) = True := eq_true (Int.ofNat_lt.2 hmi)
              have k7 : (0 ≤ (m : Int)) = True := eq_true (Int.natCast_nonneg _)
              have k8 : (m < i) = True := eq_true hmi
              have hi64 : pre.length + m + 1 ≤ 64 := by rw [← hm]; exact hl64
              obtain ⟨J, hJ1⟩ : ∃ J : Int, J = (i : Int) - 1 := ⟨_, rfl⟩
              have q5 : wrap64 ((i : Int) - 1) = J := by rw [hJ1, hm]; exact back_first _ _ hi64
              have q6 : wrap64 (J - (pre.length : Int)) = (m : Int) := by rw [hJ1, hm]; exact back_next _ _ hi64
              have q7 : wrap64 ((i : Int) - 1 - (pre.length : Int)) = (m : Int) := by rw [← hJ1]; exact q6
              have q4 : wrap64 ((pre.length : Int) + 1) = ((pre.length + 1 : Nat) : Int) := MBitsSets.w64 _ (Nat.lt_of_lt_of_le hlt (Nat.le_trans hl64 (by decide)))
              clear hJ1 hi64 hm
              have s8 := (hb8.set (.int .i64 ((pre.length + 1 : Nat) : Int))).cell
              have sP : (W.setCell ⟨wA.heap.size, 0, none⟩ (.int .i64 ((pre.length + 1 : Nat) : Int))).cell? ⟨w.heap.size, 0, none⟩ = some (.int .i64 stop) := ((boxed_below bPA hb bPA.lt).kept (grownBy_setCell' W wA.heap.size _) (fun e => by injection e with e; exact absurd bPA.lt (by rw [e]; exact Nat.lt_irrefl _))).cell
              have hsame : ∀ c : Nat, c ≤ (pre ++ [x]).length → ¬ c ≤ pre.length → c = pre.length + 1 := fun c h1 h2 => by
                rw [List.length_append] at h1
                exact Nat.le_antisymm h1 (Nat.not_le.1 h2)
              have ev : ((pre ++ [x]).length : Int) = (pre.length : Int) + 1 := by
                rw [List.length_append]
                rfl
              gi_wp2
              · have hst : (pre.length : Int) + 1 = stop := beq_iff_eq.1 (by assumption)
                exact ⟨KeepsOthers.setCell W _ _, rfl, by first | (rw [ev]; exact hb8.set _) | (rw [ev, hst]; exact hb8.set _), hb.setCell (p := ⟨wA.heap.size, 0, none⟩) (Nat.le_refl _) _, by rw [List.length_append]; exact Nat.le_add_left 1 _, by rw [ev]; exact hst⟩
              · have hst : (pre.length : Int) + 1 ≠ stop := beq_eq_false_iff_ne.1 (by assumption)
                refine ⟨KeepsOthers.setCell W _ _, ⟨Below.heap_setCell W ⟨wA.heap.size, 0, none⟩ _ (wA.heap.size + 1) (fun e => absurd e (Nat.succ_ne_self _)), Below.heap_setCell W ⟨wA.heap.size, 0, none⟩ _ 0 (fun e => absurd hposA (by rw [← show 0 = wA.heap.size from e]; exact Nat.lt_irrefl _))⟩, by rw [ev]; exact hb8.set _, hb.setCell (p := ⟨wA.heap.size, 0, none⟩) (Nat.le_refl _) _, fun c h1 h2 => ?_⟩
                by_cases hc : c ≤ pre.length
                · exact hno c h1 hc
                · rw [hsame c h2 hc]
                  exact hst
          case hend2 =>
            rintro D2 wE ⟨h10, hbE⟩ hD2 hBD2
            have hDE : wE.heap[D]? = some (.deferred (some [])) := (hbE.block D hDlt).trans hD
            have h8E := boxed_below h8 hbE h8.lt
            have bPE := boxed_below bPA hbE bPA.lt
            have bRE := boxed_below bRA hbE bRA.lt
            have b5E := boxed_below b5A hbE b5A.lt
            have hBE := hBA.trans (hbE.mono hBA.size)
            rw [List.length_reverse, hn] at h10
            have h2 := fin_two i stop
            generalize fin i stop = F at h8E h10 h2
            have p8 := h8E.cell
            have p10 := h10.cell
            have p5 := b5E.cell
            have pP := bPE.cell
            have fR := bRE.frozen
            have pR := bRE.cell
            by_cases hF : F = (i : Int)
            · have d1 : (F == (i : Int)) = true := beq_iff_eq.2 hF
              have d2 : (F = (i : Int)) = True := eq_true hF
              go_wp2
              exact leaves_two rfl (Nat.le_succ _) (hBE.setCell (p := ⟨w.heap.size + 1, 0, none⟩) (Nat.le_succ _) _) (bRE.set _) (putObj_set (fun e => by have hh : wE.heap[w.heap.size + 1]? = some (.cells #[.bool false] 4) := bRE; rw [← e, hDE] at hh; cases hh) hDE) (putObj_set (fun e => by have hh : wE.heap[w.heap.size + 1]? = some (.cells #[.bool false] 4) := bRE; rw [← e, hD2] at hh; cases hh) hD2) (Nat.le_trans hB9 hBD) (Nat.le_trans hBC hBD2) (fun e => absurd hDlt (Nat.not_lt.2 (by rw [e]; exact Nat.le_trans hAC.size hBD2)))
            · have d1 : (F == (i : Int)) = false := beq_eq_false_iff_ne.2 hF
              have d2 : (F = (i : Int)) = False := eq_false hF
              have hS : F = stop := h2.resolve_left hF
              have d3 : (F == stop) = true := beq_iff_eq.2 hS
              have d4 : (F = stop) = True := eq_true hS
              go_wp2
              exact leaves_two rfl (Nat.le_succ _) (hBE.setCell (p := ⟨w.heap.size + 1, 0, none⟩) (Nat.le_succ _) _) (bRE.set _) (putObj_set (fun e => by have hh : wE.heap[w.heap.size + 1]? = some (.cells #[.bool false] 4) := bRE; rw [← e, hDE] at hh; cases hh) hDE) (putObj_set (fun e => by have hh : wE.heap[w.heap.size + 1]? = some (.cells #[.bool false] 4) := bRE; rw [← e, hD2] at hh; cases hh) hD2) (Nat.le_trans hB9 hBD) (Nat.le_trans hBC hBD2) (fun e => absurd hDlt (Nat.not_lt.2 (by rw [e]; exact Nat.le_trans hAC.size hBD2)))
      | succ k1 =>
        have hi : i < n := by rw [← hik]; exact Nat.lt_add_of_pos_right (Nat.succ_pos k1)
        have q1 : decide ((i : Int) < (n : Int)) = true := decide_eq_true (Int.ofNat_lt.2 hi)
        have q2 : ((i : Int) < (n : Int)) = True := eq_true (Int.ofNat_lt.2 hi)
        have q3 : (0 ≤ (i : Int)) = True := eq_true (Int.natCast_nonneg i)
        have q4 : wrap64 ((i : Int) + 1) = ((i + 1 : Nat) : Int) := MBitsSets.w64 i (Nat.lt_of_lt_of_le hi (Nat.le_trans hl64 (by decide)))
        all_goals (try exact absurd (hl0 ▸ hi) (Nat.not_lt_zero _))
        all_goals
          go_wp2
          obtain ⟨ad1, e1, g1⟩ := Kd.at_int hC66 (i : Int) (Int.natCast_nonneg i) (Int.ofNat_lt.2 hi)
          obtain ⟨ad2, e2, g2⟩ := Kd.at_int hC56 (i : Int) (Int.natCast_nonneg i) (Int.ofNat_lt.2 hi)
          rw [Int.toNat_natCast] at g1 g2
          have tr : ∀ (a : Addr) (v : Value), w6.cell? a = some v → wr.cell? a = some v := by
            obtain ⟨m1, rfl⟩ := hd
            exact fun _ _ h => h
          replace g1 := tr _ _ g1
          replace g2 := tr _ _ g2
          have p5r := tr _ _ p56
          clear p56
          cases e1
          cases e2
          refine only_normal ?_
          refine start_ (n := 9) (S := fun W => W.cell? (ad1.add i) = some (.int .i64 (rd (lst s) (i : Int))) ∧ W.cell? ⟨w2.heap.size, 0, none⟩ = some (.slice (some ad) n c5) ∧ W.cell? (ad.add i) = some (.int .i64 (rd (lst s) (i : Int)))) (ds := []) #[false, false, false, false, false, false, false, false, false] (by kernel_rfl) rfl rfl (⟨g1, p5r, g2⟩) (fun hHeld => ?_)
          refine pure_ (i := 0) (N := some 58) (v := ?_) (a' := ?_) #[true, false, false, false, false, false, false, false, false] rfl rfl (by kernel_rfl) (fun _ _ _ h => h) (Or.inl ⟨by rfl, ?_⟩) ?_ ?_
          rotate_left
          · intro w'
            go_simp
            with_reducible rfl
          rotate_left
          · simp only [Act.put, List.setIfInBounds_toArray, List.set_cons_zero, List.set_cons_succ, i64_w, i32_w]
            rfl
          refine pure_ (i := 1) (N := some 59) (v := ?_) (a' := ?_) #[true, true, false, false, false, false, false, false, false] rfl rfl (by kernel_rfl) (fun _ _ _ h => h) (Or.inl ⟨by rfl, ?_⟩) ?_ ?_
          rotate_left
          · intro w'
            go_simp
            with_reducible rfl
          rotate_left
          · simp only [Act.put, List.setIfInBounds_toArray, List.set_cons_zero, List.set_cons_succ, i64_w, i32_w]
            rfl
          refine pure_ (i := 2) (N := some 60) (v := ?_) (a' := ?_) #[true, true, true, false, false, false, false, false, false] rfl rfl (by kernel_rfl) (fun _ _ _ h => h) (Or.inl ⟨by rfl, ?_⟩) ?_ ?_
          rotate_left
          · intro w'
            go_simp
            with_reducible rfl
          rotate_left
          · simp only [Act.put, List.setIfInBounds_toArray, List.set_cons_zero, List.set_cons_succ, i64_w, i32_w]
            rfl
          refine take_ (i := 3) (N := some 61) (v := ?_) (a' := ?_) #[true, true, true, true, false, false, false, false, false] rfl rfl (by kernel_rfl) (fun _ _ _ h => h) (Or.inl ⟨by rfl, ?_⟩) hHeld ?_ ?_
          rotate_left
          · rintro w' ⟨s0, s1, s2⟩
            go_simp
            with_reducible rfl
          rotate_left
          · simp only [Act.put, List.setIfInBounds_toArray, List.set_cons_zero, List.set_cons_succ, i64_w, i32_w]
            rfl
          refine take_ (i := 4) (N := some 62) (v := ?_) (a' := ?_) #[true, true, true, true, true, false, false, false, false] rfl rfl (by kernel_rfl) (fun _ _ _ h => h) (Or.inl ⟨by rfl, ?_⟩) hHeld ?_ ?_
          rotate_left
          · rintro w' ⟨s0, s1, s2⟩
            go_simp
            with_reducible rfl
          rotate_left
          · simp only [Act.put, List.setIfInBounds_toArray, List.set_cons_zero, List.set_cons_succ, i64_w, i32_w]
            rfl
          refine pure_ (i := 5) (N := some 63) (v := ?_) (a' := ?_) #[true, true, true, true, true, true, false, false, false] rfl rfl (by kernel_rfl) (fun _ _ _ h => h) (Or.inl ⟨by rfl, ?_⟩) ?_ ?_
          rotate_left
          · intro w'
            go_simp
            with_reducible rfl
          rotate_left
          · simp only [Act.put, List.setIfInBounds_toArray, List.set_cons_zero, List.set_cons_succ, i64_w, i32_w]
            rfl
          refine pure_ (i := 6) (N := some 64) (v := ?_) (a' := ?_) #[true, true, true, true, true, true, true, false, false] rfl rfl (by kernel_rfl) (fun _ _ _ h => h) (Or.inl ⟨by rfl, ?_⟩) ?_ ?_
          rotate_left
          · intro w'
            go_simp
            with_reducible rfl
          rotate_left
          · simp only [Act.put, List.setIfInBounds_toArray, List.set_cons_zero, List.set_cons_succ, i64_w, i32_w]
            rfl
          refine take_ (i := 7) (N := some 65) (v := ?_) (a' := ?_) #[true, true, true, true, true, true, true, true, false] rfl rfl (by kernel_rfl) (fun _ _ _ h => h) (Or.inl ⟨by rfl, ?_⟩) hHeld ?_ ?_
          rotate_left
          · rintro w' ⟨s0, s1, s2⟩
            go_simp
            with_reducible rfl
          rotate_left
          · simp only [Act.put, List.setIfInBounds_toArray, List.set_cons_zero, List.set_cons_succ, i64_w, i32_w]
            rfl
          refine pure_ (i := 8) (N := some 66) (v := ?_) (a' := ?_) #[true, true, true, true, true, true, true, true, true] rfl rfl (by kernel_rfl) (fun _ _ _ h => h) (Or.inl ⟨by rfl, ?_⟩) ?_ ?_
          rotate_left
          · intro w'
            go_simp
            with_reducible rfl
          rotate_left
          · simp only [Act.put, List.setIfInBounds_toArray, List.set_cons_zero, List.set_cons_succ, i64_w, i32_w]
            rfl
          refine done_ (by kernel_rfl) ?_
          go_wp2
        all_goals
          go_roundg k1
          case measure => exact Nat.lt_succ_self _
          case rel => exact ⟨i + 1, by rw [← q4], by rw [← hik]; omega, by repeat (first | (with_reducible exact hd) | apply Drawn0.step)⟩
end Go.Proofs.YtimodbkfjaknhaaDoor.Seq
