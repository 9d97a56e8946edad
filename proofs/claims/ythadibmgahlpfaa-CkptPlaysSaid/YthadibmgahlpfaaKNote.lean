/- The keeper's row is turned: what holds behind it. -/
import Derived.Test.YthadibmgahlpfaaKNear
section
namespace Go.Proofs.Ythadibmgahlpfaa.MD
open Go Go.RowKit Go.Proofs Go.Proofs.YthadibmgahlpfaaW.PrintWords Go.Proofs.YthadibmgahlpfaaW.PrintLast Go.Proofs.YthadibmgahlpfaaW.PrintMore
set_option linter.unusedVariables false
set_option linter.unusedSimpArgs false

theorem SnapC.tail {w : World} {x : E} (h : SnapC w (.agg #[.int .i64 x.s.f0, .int .i64 x.s.f1, .int .i64 x.s.f2, .int .i64 x.s.f3, .int .u64 x.s.f4, .slice x.A5 x.s.f5.length x.c5, .slice x.A6 x.s.f6.length x.c6, .slice x.A7 x.s.f7.length x.c7, .slice x.A8 x.s.f8.length x.c8, .slice x.A9 x.s.f9.length x.c9, .string x.s.f10.f0, .slice x.A11 x.s.f10.f1.length x.c11, .int .u64 x.s.f10.f2, .slice x.A13 x.s.f10.f3.length x.c13]) x.s) : SnapE w x := by
  obtain ⟨cs, e, hK⟩ := h
  injection e with e
  have e2 : cs = tailE x := (congrArg Array.toList e).symm
  rw [e2] at hK
  exact hK
theorem After.own {w w' : World} {v v' : Value} (h : After w w' v v') {k : Nat} (hk : k < w.heap.size) (hv : some k ≠ v.ownBlock) : some k ≠ v'.ownBlock := fun e => by
  rcases h.2 with g1 | ⟨b, g1, g2⟩
  · exact hv (e.trans g1)
  · rw [g1] at e
    injection e with e
    omega
theorem keep_turn {base : Nat} {ot : Nat → Prop} {w w' : World} {B : Nat} {ev mo : Int} {l l' : List E} {v v' : Value} (hbase : base ≤ w.heap.size) (h1 : w.heap[B]? = some (.cells #[.int .i64 ev, .int .i64 mo, v] 59 (0, 0))) (h2 : base ≤ B) (h3 : Kd.R kE 64 w base (fun _ => True) v l) (h4 : v.ownBlock ≠ some B)
    (h5 : ∀ k, v.ownBlock = some k → ¬ ot k) (h6 : ∀ k, ot k → k < w.heap.size ∧ k ≠ B) (h7 : ∀ x ∈ l, Own base B ot v.ownBlock w x) (hR : Kd.R kE 64 w' base (fun _ => True) v' l') (hA : After w w' v v')
    (hnew : ∀ x ∈ l', x ∈ l ∨ Own base B ot v.ownBlock w x) :
    Keep base ot (w'.setCell ⟨B, 2, none⟩ v') B ev mo l' ∧ Beside w (w'.setCell ⟨B, 2, none⟩ v') ∧ Below base w (w'.setCell ⟨B, 2, none⟩ v') ∧ w'.heap[B]? = some (.cells #[.int .i64 ev, .int .i64 mo, v] 59 (0, 0)) := by
  have h1' : w'.heap[B]? = some (.cells #[.int .i64 ev, .int .i64 mo, v] 59 (0, 0)) := (hA.1.block B (blk_lt h1) (fun e => h4 e.symm)).trans h1
  have hvB : v'.ownBlock ≠ some B := fun e => hA.own (blk_lt h1) (fun e2 => h4 e2.symm) e.symm
  have hR2 : Kd.R kE 64 (w'.setCell ⟨B, 2, none⟩ v') base (fun _ => True) v' l' := R_move hR (fun k hk => Below.heap_setCell w' ⟨B, 2, none⟩ v' k (fun e => hvB (by rw [hk, e])))
  refine ⟨⟨⟨v', blk_put (cs' := #[.int .i64 ev, .int .i64 mo, v']) h1' 2 v' rfl, h2, hR2, hvB, fun k hk ho => ?_, fun k hk => ⟨by rw [World.size_setCell]; exact Nat.lt_of_lt_of_le (h6 k hk).1 hA.1.size, (h6 k hk).2⟩, fun x hx W hW => ?_⟩⟩, (Beside.grown h3 hA.1).trans (Beside.cell59 h1' 2 v'), ((Below.refl base w).grown hA.1 hbase (fun k hk => Kd.R_base h3 k hk)).setCell (p := ⟨B, 2, none⟩) h2 v', h1'⟩
  · exact hA.own (h6 k ho).1 (fun e => h5 k e.symm ho) hk.symm
  · have hO : Own base B ot v.ownBlock w x := by
      rcases hnew x hx with g | g
      · exact h7 x g
      · exact g
    refine hO W (fun k k1 k2 k3 k4 k5 => ?_)
    refine (hW k k1 k2 (hA.own k5 k3) k4 (by rw [World.size_setCell]; exact Nat.lt_of_lt_of_le k5 hA.1.size)).trans ?_
    exact (Below.heap_setCell w' ⟨B, 2, none⟩ v' k k2).trans (hA.1.block k k5 k3)
end Go.Proofs.Ythadibmgahlpfaa.MD
end
section
namespace Go.Proofs.Ythadibmgahlpfaa.MD
open Go Go.RowKit Go.Proofs Go.Proofs.YthadibmgahlpfaaW.PrintWords Go.Proofs.YthadibmgahlpfaaW.PrintLast Go.Proofs.YthadibmgahlpfaaW.PrintMore
set_option linter.unusedVariables false
set_option linter.unusedSimpArgs false

theorem Own.below {base B : Nat} {ot : Nat → Prop} {rb : Option Nat} {w X : World} {x : E} (h : Own base B ot rb w x) (hb : Below w.heap.size w X) : Own base B ot rb X x := fun W hW => h W (fun k k1 k2 k3 k4 k5 => (hW k k1 k2 k3 k4 (Nat.lt_of_lt_of_le k5 hb.size)).trans (hb.block k k5))
/-- What Note makes of the marks, and what it answers. -/
structure NoteP (l : List E) (ev mo t : Int) (s : S38) (r : Bool) (l' : List E) : Prop where
  out : ∃ (i : Nat) (b : Bool), Found l t i b ∧ ((b = true ∨ t < 0 ∨ ¬ (t % ev = 0)) ∧ r = b ∧ l' = l ∨ (b = false ∧ 0 ≤ t ∧ t % ev = 0) ∧ ∃ x : E, x.f0 = t ∧ x.s = s ∧
    (mo < (l.length : Int) + 1 ∧ l' = (l.take i ++ x :: l.drop i).drop 1 ∧ r = decide (0 < i) ∨ ¬ (mo < (l.length : Int) + 1) ∧ l' = l.take i ++ x :: l.drop i ∧ r = true))
/-- What a call of Note leaves. -/
structure NotedP (base : Nat) (ot : Nat → Prop) (w : World) (B : Nat) (ev mo : Int) (l : List E) (t : Int) (s : S38) (e : Ending) (w' : World) : Prop where
  out : ∃ (r : Bool) (l' : List E), e = .returned (.bool r) ∧ NoteP l ev mo t s r l' ∧ Keep base ot w' B ev mo l' ∧ Beside w w' ∧ Below base w w'
set_option maxHeartbeats 8000000 in
set_option maxRecDepth 100000 in
theorem note_any (base : Nat) (ot : Nat → Prop) (w : World) (B : Nat) (ev mo : Int) (l : List E) (t : Int) (vs : Value) (s : S38) (h : Keep base ot w B ev mo l) (hr : Rising l) (hl : l.length ≤ 999) (hev : 1 ≤ ev) (hmo : 1 ≤ mo) (hs : SnapC w vs s) (hts : tot s ≤ 1000) (hbase : base ≤ w.heap.size) :
    Calls Try.prog 7 #[.pointer (some ⟨B, 0, none⟩), .int .i64 t, vs] w fun e w' => NotedP base ot w B ev mo l t s e w' := by
  obtain ⟨z, hz0, hz1, rfl, hz3⟩ := hs.mark t
  have HB := Aside0.mk ((Below.refl w.heap.size w).alloc (Nat.le_refl _) (.cells #[.int .i64 z.s.f0, .int .i64 z.s.f1, .int .i64 z.s.f2, .int .i64 z.s.f3, .int .u64 z.s.f4, .slice z.A5 z.s.f5.length z.c5, .slice z.A6 z.s.f6.length z.c6, .slice z.A7 z.s.f7.length z.c7, .slice z.A8 z.s.f8.length z.c8, .slice z.A9 z.s.f9.length z.c9, .string z.s.f10.f0, .slice z.A11 z.s.f10.f1.length z.c11, .int .u64 z.s.f10.f2, .slice z.A13 z.s.f10.f3.length z.c13] 38))
  have HK := Aside0.mk (h.below HB.out)
  have BZ := Aside0.mk (blk_new w (.cells #[.int .i64 z.s.f0, .int .i64 z.s.f1, .int .i64 z.s.f2, .int .i64 z.s.f3, .int .u64 z.s.f4, .slice z.A5 z.s.f5.length z.c5, .slice z.A6 z.s.f6.length z.c6, .slice z.A7 z.s.f7.length z.c7, .slice z.A8 z.s.f8.length z.c8, .slice z.A9 z.s.f9.length z.c9, .string z.s.f10.f0, .slice z.A11 z.s.f10.f1.length z.c11, .int .u64 z.s.f10.f2, .slice z.A13 z.s.f10.f3.length z.c13] 38))
  have HZ := Aside0.mk (hs.below HB.out)
  have HP := Aside0.mk (And.intro hr (And.intro hl (And.intro hev (And.intro hmo (And.intro hts hbase)))))
  clear h hr hl hs hts hbase hz0 hz3 hev hmo
  subst hz1
  go_enter Try.func7, Try.ntmps7
  go_upto_region 1 with (fail)
  obtain ⟨b0, hb0⟩ : ∃ z : Nat, z = w.heap.size := ⟨_, rfl⟩
  rw [← hb0] at BZ ⊢
  clear hb0
  generalize w.alloc (.cells #[.int .i64 z.s.f0, .int .i64 z.s.f1, .int .i64 z.s.f2, .int .i64 z.s.f3, .int .u64 z.s.f4, .slice z.A5 z.s.f5.length z.c5, .slice z.A6 z.s.f6.length z.c6, .slice z.A7 z.s.f7.length z.c7, .slice z.A8 z.s.f8.length z.c8, .slice z.A9 z.s.f9.length z.c9, .string z.s.f10.f0, .slice z.A11 z.s.f10.f1.length z.c11, .int .u64 z.s.f10.f2, .slice z.A13 z.s.f10.f3.length z.c13] 38) = w0 at HK HB BZ HZ ⊢
  go_wp2_with (go_at_call 17; refine Hold.out ?_)
  refine ⟨?_⟩
  refine (find_any base ot w0 B ev mo l t HK.out HP.out.1 (by have := HP.out.2.1; omega)).mono ?_
  rintro e w1 ⟨i, b, rfl, hF, hb⟩
  have HF := Aside0.mk hF
  replace HB := Aside0.mk (HB.out.trans (hb.mono HB.out.size))
  replace HK := Aside0.mk (HK.out.below hb)
  replace BZ := Aside0.mk (blk_below BZ.out hb)
  replace HZ := Aside0.mk (HZ.out.below hb)
  clear hF hb
  cases b with
  | true =>
    go_wp2
    go_ret
    exact ⟨true, l, rfl, ⟨i, true, HF.out, .inl ⟨.inl rfl, rfl, rfl⟩⟩, HK.out, Beside.of_below HB.out, HB.out.mono HP.out.2.2.2.2.2⟩
  | false =>
    by_cases ht : t < 0
    · have HT := Aside0.mk ht
      go_wp2
      go_ret
      exact ⟨false, l, rfl, ⟨i, false, HF.out, .inl ⟨.inr (.inl HT.out), rfl, rfl⟩⟩, HK.out, Beside.of_below HB.out, HB.out.mono HP.out.2.2.2.2.2⟩
    · have HT : Aside0 (0 ≤ t) := ⟨by omega⟩
      obtain ⟨v, h1, h2, h3, h4, h5, h6, h7⟩ := HK.out.out
      have k0 : w1.cell? ⟨B, 0, none⟩ = some (.int .i64 ev) := blk_cell h1 0
      have hev0 : ¬ (ev = 0) := by have := HP.out.2.2.1; omega
      have hev1 : ¬ (ev = -1) := by have := HP.out.2.2.1; omega
      clear h1 h2 h3 h4 h5 h6 h7
      by_cases hm : t % ev = 0
      · have HM := Aside0.mk hm
        have q1 : (t % ev != 0) = false := by rw [hm]; rfl
        go_upto_region 4 with (fail)
        clear k0 q1 hev0 hev1 hm
        obtain ⟨v, h1, h2, h3, h4, h5, h6, h7⟩ := HK.out.out
        obtain ⟨A, c, rfl⟩ := Kd.R_slice h3
        have HKK := Aside0.mk (And.intro h1 (And.intro h2 (And.intro h3 (And.intro h4 (And.intro h5 (And.intro h6 h7))))))
        clear h2 h3 h4 h5 h6 h7 HK
        refine start_ (n := 15) (S := fun W => W.heap[B]? = some (.cells #[.int .i64 ev, .int .i64 mo, .slice A l.length c] 59 (0, 0)) ∧ W.heap[b0]? = some (.cells #[.int .i64 z.s.f0, .int .i64 z.s.f1, .int .i64 z.s.f2, .int .i64 z.s.f3, .int .u64 z.s.f4, .slice z.A5 z.s.f5.length z.c5, .slice z.A6 z.s.f6.length z.c6, .slice z.A7 z.s.f7.length z.c7, .slice z.A8 z.s.f8.length z.c8, .slice z.A9 z.s.f9.length z.c9, .string z.s.f10.f0, .slice z.A11 z.s.f10.f1.length z.c11, .int .u64 z.s.f10.f2, .slice z.A13 z.s.f10.f3.length z.c13] 38 (0, 0))) (ds := [14]) #[false, false, false, false, false, false, false, false, false, false, false, false, false, false, false] (by kernel_rfl) rfl rfl (⟨blk_drew h1, blk_drew BZ.out⟩) (fun hHeld => ?_)
        clear h1
        refine pure_ (i := 0) (N := some 30) (v := ?_) (a' := ?_) #[true, false, false, false, false, false, false, false, false, false, false, false, false, false, false] rfl rfl (by kernel_rfl) (fun _ _ _ h => h) (Or.inl ⟨by rfl, ?_⟩) ?_ ?_
        rotate_left
        · intro w'
          go_simp
          with_reducible rfl
        rotate_left
        · simp only [Act.put, List.setIfInBounds_toArray, List.set_cons_zero, List.set_cons_succ, i64_w, i32_w]
          rfl
        refine pure_ (i := 1) (N := some 31) (v := ?_) (a' := ?_) #[true, true, false, false, false, false, false, false, false, false, false, false, false, false, false] rfl rfl (by kernel_rfl) (fun _ _ _ h => h) (Or.inl ⟨by rfl, ?_⟩) ?_ ?_
        rotate_left
        · intro w'
          go_simp
          with_reducible rfl
        rotate_left
        · simp only [Act.put, List.setIfInBounds_toArray, List.set_cons_zero, List.set_cons_succ, i64_w, i32_w]
          rfl
        refine pure_ (i := 2) (N := some 32) (v := ?_) (a' := ?_) #[true, true, true, false, false, false, false, false, false, false, false, false, false, false, false] rfl rfl (by kernel_rfl) (fun _ _ _ h => h) (Or.inl ⟨by rfl, ?_⟩) ?_ ?_
        rotate_left
        · intro w'
          go_simp
          with_reducible rfl
        rotate_left
        · simp only [Act.put, List.setIfInBounds_toArray, List.set_cons_zero, List.set_cons_succ, i64_w, i32_w]
          rfl
        refine pure_ (i := 3) (N := some 33) (v := ?_) (a' := ?_) #[true, true, true, true, false, false, false, false, false, false, false, false, false, false, false] rfl rfl (by kernel_rfl) (fun _ _ _ h => h) (Or.inl ⟨by rfl, ?_⟩) ?_ ?_
        rotate_left
        · intro w'
          go_simp
          with_reducible rfl
        rotate_left
        · simp only [Act.put, List.setIfInBounds_toArray, List.set_cons_zero, List.set_cons_succ, i64_w, i32_w]
          rfl
        refine take_ (i := 4) (N := some 34) (v := ?_) (a' := ?_) #[true, true, true, true, true, false, false, false, false, false, false, false, false, false, false] rfl rfl (by kernel_rfl) (fun _ _ _ h => h) (Or.inl ⟨by rfl, ?_⟩) hHeld ?_ ?_
        rotate_left
        · rintro w' ⟨s0, s1⟩
          have e : w'.cell? ⟨B, 2, none⟩ = some (.slice A l.length c) := blk_cell s0 2
          go_simp
          with_reducible rfl
        rotate_left
        · simp only [Act.put, List.setIfInBounds_toArray, List.set_cons_zero, List.set_cons_succ, i64_w, i32_w]
          rfl
        refine pure_ (i := 5) (N := some 35) (v := ?_) (a' := ?_) #[true, true, true, true, true, true, false, false, false, false, false, false, false, false, false] rfl rfl (by kernel_rfl) (fun _ _ _ h => h) (Or.inl ⟨by rfl, ?_⟩) ?_ ?_
        rotate_left
        · intro w'
          go_simp
          with_reducible rfl
        rotate_left
        · simp only [Act.put, List.setIfInBounds_toArray, List.set_cons_zero, List.set_cons_succ, i64_w, i32_w]
          rfl
        refine pure_ (i := 6) (N := some 36) (v := ?_) (a' := ?_) #[true, true, true, true, true, true, true, false, false, false, false, false, false, false, false] rfl rfl (by kernel_rfl) (fun _ _ _ h => h) (Or.inl ⟨by rfl, ?_⟩) ?_ ?_
        rotate_left
        · intro w'
          go_simp
          with_reducible rfl
        rotate_left
        · simp only [Act.put, List.setIfInBounds_toArray, List.set_cons_zero, List.set_cons_succ, i64_w, i32_w]
          rfl
        refine take_ (i := 7) (N := some 37) (v := ?_) (a' := ?_) #[true, true, true, true, true, true, true, true, false, false, false, false, false, false, false] rfl rfl (by kernel_rfl) (fun _ _ _ h => h) (Or.inl ⟨by rfl, ?_⟩) hHeld ?_ ?_
        rotate_left
        · rintro w' ⟨s0, s1⟩
          have e0 : w'.cell? ⟨b0, 0, none⟩ = some (.int .i64 z.s.f0) := blk_cell s1 0
          have e1 : w'.cell? ⟨b0, 1, none⟩ = some (.int .i64 z.s.f1) := blk_cell s1 1
          have e2 : w'.cell? ⟨b0, 2, none⟩ = some (.int .i64 z.s.f2) := blk_cell s1 2
          have e3 : w'.cell? ⟨b0, 3, none⟩ = some (.int .i64 z.s.f3) := blk_cell s1 3
          have e4 : w'.cell? ⟨b0, 4, none⟩ = some (.int .u64 z.s.f4) := blk_cell s1 4
          have e5 : w'.cell? ⟨b0, 5, none⟩ = some (.slice z.A5 z.s.f5.length z.c5) := blk_cell s1 5
          have e6 : w'.cell? ⟨b0, 6, none⟩ = some (.slice z.A6 z.s.f6.length z.c6) := blk_cell s1 6
          have e7 : w'.cell? ⟨b0, 7, none⟩ = some (.slice z.A7 z.s.f7.length z.c7) := blk_cell s1 7
          have e8 : w'.cell? ⟨b0, 8, none⟩ = some (.slice z.A8 z.s.f8.length z.c8) := blk_cell s1 8
          have e9 : w'.cell? ⟨b0, 9, none⟩ = some (.slice z.A9 z.s.f9.length z.c9) := blk_cell s1 9
          have e10 : w'.cell? ⟨b0, 10, none⟩ = some (.string z.s.f10.f0) := blk_cell s1 10
          have e11 : w'.cell? ⟨b0, 11, none⟩ = some (.slice z.A11 z.s.f10.f1.length z.c11) := blk_cell s1 11
          have e12 : w'.cell? ⟨b0, 12, none⟩ = some (.int .u64 z.s.f10.f2) := blk_cell s1 12
          have e13 : w'.cell? ⟨b0, 13, none⟩ = some (.slice z.A13 z.s.f10.f3.length z.c13) := blk_cell s1 13
          go_simp
          with_reducible rfl
        rotate_left
        · simp only [Act.put, List.setIfInBounds_toArray, List.set_cons_zero, List.set_cons_succ, i64_w, i32_w]
          rfl
        refine one_ (i := 8) (N := some 38) #[true, true, true, true, true, true, true, true, true, false, false, false, false, false, false] rfl rfl (by kernel_rfl) (by decide) (fun K hK => ?_)
        refine goes_ Try.func19 (by kernel_rfl) rfl #[.agg #[.int .i64 z.s.f0, .int .i64 z.s.f1, .int .i64 z.s.f2, .int .i64 z.s.f3, .int .u64 z.s.f4, .slice z.A5 z.s.f5.length z.c5, .slice z.A6 z.s.f6.length z.c6, .slice z.A7 z.s.f7.length z.c7, .slice z.A8 z.s.f8.length z.c8, .slice z.A9 z.s.f9.length z.c9, .string z.s.f10.f0, .slice z.A11 z.s.f10.f1.length z.c11, .int .u64 z.s.f10.f2, .slice z.A13 z.s.f10.f3.length z.c13]] (by rfl) rfl rfl (by (try simp only [List.map_toArray, List.map_cons, List.map_nil]); first | done | rfl) ?_
        refine (copy_new _ _ z.s (HZ.out.below (below_drew1 (Below.refl _ _))) HP.out.2.2.2.2.1).mono ?_
        rintro e x2 ⟨v, rfl, hN, hb⟩
        obtain ⟨x, hx0, hx1, rfl, hx3⟩ := (hN x2 (fun _ _ _ => rfl)).mark t
        subst hx0
        have HX1 := Aside0.mk hx1
        have HBX : Aside0 (Below w1.heap.size w1 x2) := ⟨(below_drew1 (Below.refl w1.heap.size w1)).trans hb⟩
        have HN := Aside0.mk hN
        have HSZ12 := Aside0.mk HBX.out.size
        clear hx1 hx3 hN
        refine ⟨_, rfl, ?_⟩
        refine hK.out _ _ ⟨blk_below hHeld.1 hb, blk_below hHeld.2 hb⟩ (fun hHeld => ?_)
        clear hb
        clear hK K
        refine norm_ (a' := ?_) ?_ ?_
        rotate_left
        · show Act.put _ (some 38) _ = _
          simp only [Act.put, List.setIfInBounds_toArray, List.set_cons_zero, List.set_cons_succ, i64_w, i32_w]
          rfl
        refine pure_ (i := 9) (N := some 39) (v := .agg #[.int .i64 x.f0, .int .i64 x.s.f0, .int .i64 x.s.f1, .int .i64 x.s.f2, .int .i64 x.s.f3, .int .u64 x.s.f4, .slice x.A5 x.s.f5.length x.c5, .slice x.A6 x.s.f6.length x.c6, .slice x.A7 x.s.f7.length x.c7, .slice x.A8 x.s.f8.length x.c8, .slice x.A9 x.s.f9.length x.c9, .string x.s.f10.f0, .slice x.A11 x.s.f10.f1.length x.c11, .int .u64 x.s.f10.f2, .slice x.A13 x.s.f10.f3.length x.c13]) (a' := ?_) #[true, true, true, true, true, true, true, true, true, true, false, false, false, false, false] rfl rfl (by kernel_rfl) (fun _ _ _ h => h) (Or.inl ⟨by rfl, ?_⟩) ?_ ?_
        · intro w'
          go_simp
        rotate_left
        · simp only [Act.put, List.setIfInBounds_toArray, List.set_cons_zero, List.set_cons_succ, i64_w, i32_w]
          rfl
        refine one_ (i := 10) (N := some 40) #[true, true, true, true, true, true, true, true, true, true, true, false, false, false, false] rfl rfl (by kernel_rfl) (by decide) (fun K hK => ?_)
        refine value_ (w1 := x2.alloc (.cells #[.int .i64 x.f0, .int .i64 x.s.f0, .int .i64 x.s.f1, .int .i64 x.s.f2, .int .i64 x.s.f3, .int .u64 x.s.f4, .slice x.A5 x.s.f5.length x.c5, .slice x.A6 x.s.f6.length x.c6, .slice x.A7 x.s.f7.length x.c7, .slice x.A8 x.s.f8.length x.c8, .slice x.A9 x.s.f9.length x.c9, .string x.s.f10.f0, .slice x.A11 x.s.f10.f1.length x.c11, .int .u64 x.s.f10.f2, .slice x.A13 x.s.f10.f3.length x.c13] 64)) (v := .slice (some ⟨x2.heap.size, 0, none⟩) 1 1) (by rfl) rfl (by go_simp) ?_
        have HVB := Aside0.mk (blk_new x2 (.cells #[.int .i64 x.f0, .int .i64 x.s.f0, .int .i64 x.s.f1, .int .i64 x.s.f2, .int .i64 x.s.f3, .int .u64 x.s.f4, .slice x.A5 x.s.f5.length x.c5, .slice x.A6 x.s.f6.length x.c6, .slice x.A7 x.s.f7.length x.c7, .slice x.A8 x.s.f8.length x.c8, .slice x.A9 x.s.f9.length x.c9, .string x.s.f10.f0, .slice x.A11 x.s.f10.f1.length x.c11, .int .u64 x.s.f10.f2, .slice x.A13 x.s.f10.f3.length x.c13] 64))
        replace HBX := Aside0.mk (HBX.out.alloc HBX.out.size (.cells #[.int .i64 x.f0, .int .i64 x.s.f0, .int .i64 x.s.f1, .int .i64 x.s.f2, .int .i64 x.s.f3, .int .u64 x.s.f4, .slice x.A5 x.s.f5.length x.c5, .slice x.A6 x.s.f6.length x.c6, .slice x.A7 x.s.f7.length x.c7, .slice x.A8 x.s.f8.length x.c8, .slice x.A9 x.s.f9.length x.c9, .string x.s.f10.f0, .slice x.A11 x.s.f10.f1.length x.c11, .int .u64 x.s.f10.f2, .slice x.A13 x.s.f10.f3.length x.c13] 64))
        have HS3 := Aside0.mk (World.size_alloc x2 (.cells #[.int .i64 x.f0, .int .i64 x.s.f0, .int .i64 x.s.f1, .int .i64 x.s.f2, .int .i64 x.s.f3, .int .u64 x.s.f4, .slice x.A5 x.s.f5.length x.c5, .slice x.A6 x.s.f6.length x.c6, .slice x.A7 x.s.f7.length x.c7, .slice x.A8 x.s.f8.length x.c8, .slice x.A9 x.s.f9.length x.c9, .string x.s.f10.f0, .slice x.A11 x.s.f10.f1.length x.c11, .int .u64 x.s.f10.f2, .slice x.A13 x.s.f10.f3.length x.c13] 64))
        have HA3 : Aside0 (∀ k, k < x2.heap.size → (x2.alloc (.cells #[.int .i64 x.f0, .int .i64 x.s.f0, .int .i64 x.s.f1, .int .i64 x.s.f2, .int .i64 x.s.f3, .int .u64 x.s.f4, .slice x.A5 x.s.f5.length x.c5, .slice x.A6 x.s.f6.length x.c6, .slice x.A7 x.s.f7.length x.c7, .slice x.A8 x.s.f8.length x.c8, .slice x.A9 x.s.f9.length x.c9, .string x.s.f10.f0, .slice x.A11 x.s.f10.f1.length x.c11, .int .u64 x.s.f10.f2, .slice x.A13 x.s.f10.f3.length x.c13] 64)).heap[k]? = x2.heap[k]?) := ⟨fun k hk => Below.heap_alloc x2 _ k hk⟩
        refine hK.out _ _ ⟨blk_alloc hHeld.1 _, blk_alloc hHeld.2 _⟩ (fun hHeld => ?_)
        clear hK K
        refine norm_ (a' := ?_) ?_ ?_
        rotate_left
        · show Act.put _ (some 40) _ = _
          simp only [Act.put, List.setIfInBounds_toArray, List.set_cons_zero, List.set_cons_succ, i64_w, i32_w]
          rfl
        generalize x2.alloc (.cells #[.int .i64 x.f0, .int .i64 x.s.f0, .int .i64 x.s.f1, .int .i64 x.s.f2, .int .i64 x.s.f3, .int .u64 x.s.f4, .slice x.A5 x.s.f5.length x.c5, .slice x.A6 x.s.f6.length x.c6, .slice x.A7 x.s.f7.length x.c7, .slice x.A8 x.s.f8.length x.c8, .slice x.A9 x.s.f9.length x.c9, .string x.s.f10.f0, .slice x.A11 x.s.f10.f1.length x.c11, .int .u64 x.s.f10.f2, .slice x.A13 x.s.f10.f3.length x.c13] 64) = x3 at HVB HBX HS3 HA3 hHeld ⊢
        refine one_ (i := 11) (N := some 41) #[true, true, true, true, true, true, true, true, true, true, true, true, false, false, false] rfl rfl (by kernel_rfl) (by decide) (fun K hK => ?_)
        refine goes_ Try.func18 (by kernel_rfl) rfl #[.slice A l.length c, .int .i64 (i : Int), .slice (some ⟨x2.heap.size, 0, none⟩) 1 1] (by rfl) rfl rfl (by (try simp only [List.map_toArray, List.map_cons, List.map_nil]); first | done | rfl) ?_
        obtain ⟨h1, h2, h3, h4, h5, h6, h7⟩ := HKK.out
        have hog : ∀ k, (Value.slice A l.length c).ownBlock = some k → k < w1.heap.size := fun k hk => by obtain ⟨cc, hcc⟩ := own_typed (own_of_R h3) k hk; exact blk_lt hcc
        have hB1 := blk_lt h1
        have hbs3 : base ≤ x3.heap.size := Nat.le_trans HP.out.2.2.2.2.2 (Nat.le_trans HB.out.size HBX.out.size)
        have hR3 := Kd.R_below h3 HBX.out
        refine (insert_any base (.slice A l.length c) l i x x2.heap.size x3 HF.out.le (by have := HP.out.2.1; omega) hR3 hbs3 HVB.out (fun e => by have := hog _ e; have := HSZ12.out; omega)).mono ?_
        rintro e x4 ⟨v', rfl, hR4, hb4, hA⟩
        have hlen2 : (l.take i ++ x :: l.drop i).length = l.length + 1 := by rw [List.length_append, List.length_cons, List.length_take, List.length_drop]; have := HF.out.le; omega
        have hOwn : Own base B ot (Value.slice A l.length c).ownBlock x3 x := fun W hW => by
          have h8 := HN.out W (fun k hk hlt => by
            have h9 : w1.heap.size ≤ k := hk
            refine (HA3.out k hlt).symm.trans (hW k ?_ ?_ ?_ ?_ ?_).symm
            · have := HB.out.size; have := HP.out.2.2.2.2.2; omega
            · omega
            · exact fun e => by have := hog k e.symm; omega
            · exact fun e => by have := (h6 k e).1; omega
            · have := HS3.out; omega)
          rw [← HX1.out] at h8
          exact h8.tail
        obtain ⟨g1, g2, g3, g4⟩ := keep_turn hbs3 (blk_below h1 HBX.out) h2 hR3 h4 h5 (fun k hk => ⟨Nat.lt_of_lt_of_le (h6 k hk).1 HBX.out.size, (h6 k hk).2⟩) (fun y hy => (h7 y hy).below HBX.out) hR4 hA (fun y hy => by
          rcases List.mem_append.1 hy with q | q
          · exact .inl (List.mem_of_mem_take q)
          · rcases List.mem_cons.1 q with rfl | q
            · exact .inr hOwn
            · exact .inl (List.mem_of_mem_drop q))
        rcases (own_of_R hR4).2 with ⟨_, hnil⟩ | ⟨g, cap, cur, rfl, hbg, hg, hrest⟩
        · omega
        rw [hlen2] at g1 g2 g3 ⊢
        have HK5 := Aside0.mk g1
        have HBS5 := Aside0.mk ((Beside.of_below (HB.out.trans (HBX.out.mono HB.out.size))).trans g2)
        have HBL5 := Aside0.mk (((HB.out.trans (HBX.out.mono HB.out.size)).mono HP.out.2.2.2.2.2).trans g3)
        have h38 : x4.heap[b0]? = some (.cells #[.int .i64 z.s.f0, .int .i64 z.s.f1, .int .i64 z.s.f2, .int .i64 z.s.f3, .int .u64 z.s.f4, .slice z.A5 z.s.f5.length z.c5, .slice z.A6 z.s.f6.length z.c6, .slice z.A7 z.s.f7.length z.c7, .slice z.A8 z.s.f8.length z.c8, .slice z.A9 z.s.f9.length z.c9, .string z.s.f10.f0, .slice z.A11 z.s.f10.f1.length z.c11, .int .u64 z.s.f10.f2, .slice z.A13 z.s.f10.f3.length z.c13] 38 (0, 0)) := (hA.1.block b0 (blk_lt hHeld.2) (fun e => by
          obtain ⟨cc, hcc⟩ := own_typed (own_of_R hR3) b0 e.symm
          rw [hHeld.2] at hcc
          injection hcc with hcc
          injection hcc with _ hcc
          cases hcc)).trans hHeld.2
        refine ⟨_, rfl, ?_⟩
        refine hK.out _ _ ⟨g4, h38⟩ (fun hHeld => ?_)
        have H4 := Aside0.mk g4
        have HL2 := Aside0.mk hlen2
        have HKI := Aside0.mk hOwn
        clear g1 g2 g3 g4 h38 h1 h2 h3 h4 h5 h6 h7 hog hB1 hbs3 hR3 hR4 hb4 hA hlen2 hOwn hbg hg hrest HKK HN HVB HS3 HA3 HBX
        clear hK K
        refine norm_ (a' := ?_) ?_ ?_
        rotate_left
        · show Act.put _ (some 41) _ = _
          simp only [Act.put, List.setIfInBounds_toArray, List.set_cons_zero, List.set_cons_succ, i64_w, i32_w]
          rfl
        refine pure_ (i := 12) (N := some 42) (v := ?_) (a' := ?_) #[true, true, true, true, true, true, true, true, true, true, true, true, true, false, false] rfl rfl (by kernel_rfl) (fun _ _ _ h => h) (Or.inl ⟨by rfl, ?_⟩) ?_ ?_
        rotate_left
        · intro w'
          go_simp
          with_reducible rfl
        rotate_left
        · simp only [Act.put, List.setIfInBounds_toArray, List.set_cons_zero, List.set_cons_succ, i64_w, i32_w]
          rfl
        refine pure_ (i := 13) (N := some 43) (v := ?_) (a' := ?_) #[true, true, true, true, true, true, true, true, true, true, true, true, true, true, false] rfl rfl (by kernel_rfl) (fun _ _ _ h => h) (Or.inl ⟨by rfl, ?_⟩) ?_ ?_
        rotate_left
        · intro w'
          go_simp
          with_reducible rfl
        rotate_left
        · simp only [Act.put, List.setIfInBounds_toArray, List.set_cons_zero, List.set_cons_succ, i64_w, i32_w]
          rfl
        refine last_ (i := 14) (N := none) #[true, true, true, true, true, true, true, true, true, true, true, true, true, true, true] rfl rfl (by kernel_rfl) (by decide) (fun K hK => ?_)
        have k0 : x4.cell? ⟨B, 2, none⟩ = some (.slice A l.length c) := blk_cell H4.out 2
        have z0 : x4.frozen? ⟨B, 2, none⟩ = false := blk_frozen H4.out 2
        refine skip_ (w1 := x4.setCell ⟨B, 2, none⟩ (.slice (some ⟨g, 0, none⟩) (l.length + 1) cap)) (by rfl) rfl (by go_simp) ?_
        have HB5 := Aside0.mk (blk_put (cs' := #[.int .i64 ev, .int .i64 mo, .slice (some ⟨g, 0, none⟩) (l.length + 1) cap]) H4.out 2 (.slice (some ⟨g, 0, none⟩) (l.length + 1) cap) rfl)
        refine hK.out _ _ ?_
        clear hK K hHeld k0 z0
        refine done_ (by kernel_rfl) ?_
        generalize x4.setCell ⟨B, 2, none⟩ (.slice (some ⟨g, 0, none⟩) (l.length + 1) cap) = x5 at HK5 HBS5 HBL5 HB5 ⊢
        obtain ⟨l2, hl2⟩ : ∃ q, q = l.take i ++ x :: l.drop i := ⟨_, rfl⟩
        rw [← hl2] at HK5 HL2
        obtain ⟨n2, hn2⟩ : ∃ q : Nat, q = l.length + 1 := ⟨_, rfl⟩
        rw [← hn2] at HB5 HL2 ⊢
        have HDEF := Aside0.mk hl2
        have HN2 := Aside0.mk hn2
        clear hl2 hn2
        have HBL5x := Aside0.mk (show base ≤ x5.heap.size from Nat.le_trans HP.out.2.2.2.2.2 HBS5.out.1)
        have k1 : x5.cell? ⟨B, 1, none⟩ = some (.int .i64 mo) := blk_cell HB5.out 1
        have k2 : x5.cell? ⟨B, 2, none⟩ = some (.slice (some ⟨g, 0, none⟩) n2 cap) := blk_cell HB5.out 2
        by_cases hc : mo < (n2 : Int)
        · have HC := Aside0.mk hc
          have d1 : decide ((n2 : Int) > mo) = true := decide_eq_true hc
          have e1 : (mo < (n2 : Int)) = True := eq_true hc
          clear hc
          go_upto_region 5 with (fail)
          go_quiet (fail)
          have hd : Below x5.heap.size x5 (x5.drewN nq) := pw_below_drewN (Below.refl _ _) _
          replace HK5 := Aside0.mk (HK5.out.below hd)
          replace HBS5 := Aside0.mk (HBS5.out.trans (Beside.of_below hd))
          replace HBL5 := Aside0.mk (HBL5.out.trans (hd.mono HBL5x.out))
          replace HB5 := Aside0.mk (blk_below HB5.out hd)
          clear hd k1 k2
          generalize x5.drewN nq = x6 at HK5 HBS5 HBL5 HB5 ⊢
          have k2 : x6.cell? ⟨B, 2, none⟩ = some (.slice (some ⟨g, 0, none⟩) n2 cap) := blk_cell HB5.out 2
          obtain ⟨v, q1, q2, q3, q4, q5, q6, q7⟩ := HK5.out.out
          have hv : v = .slice (some ⟨g, 0, none⟩) n2 cap := by
            have e := q1.symm.trans HB5.out
            injection e with e
            injection e with e
            have e2 := congrArg (fun a : Array Value => a[2]?) e
            exact Option.some.inj e2
          subst hv
          have hb6 : base ≤ x6.heap.size := Nat.le_trans HP.out.2.2.2.2.2 HBS5.out.1
          have hD := del_first base g cap l2 x6 (by rw [HL2.out]; exact q3) (by have := HL2.out; have := HN2.out; have := HC.out; have := HP.out.2.2.2.1; omega) (by have := HL2.out; have := HN2.out; have := HP.out.2.1; omega) hb6
          rw [HL2.out] at hD
          obtain ⟨l3, hl3⟩ : ∃ q, q = l2.drop 1 := ⟨_, rfl⟩
          rw [← hl3] at hD
          have HD := Aside0.mk hD
          have HL3 := Aside0.mk hl3
          have HQ := Aside0.mk (And.intro hb6 (And.intro q1 (And.intro q2 (And.intro q3 (And.intro q4 (And.intro q5 (And.intro q6 q7)))))))
          clear hD hl3 hb6 q1 q2 q3 q4 q5 q6 q7 HK5
          go_wp2_with (go_at_call 20; refine Hold.out ?_)
          refine ⟨?_⟩
          clear k2
          refine HD.out.mono ?_
          rintro e x7 ⟨rfl, hR7, hG7⟩
          clear HD
          obtain ⟨hb6, q1, q2, q3, q4, q5, q6, q7⟩ := HQ.out
          obtain ⟨g1, g2, g3, g4⟩ := keep_turn hb6 q1 q2 q3 q4 q5 q6 q7 hR7 ⟨hG7, .inl rfl⟩ (fun y hy => .inl (List.mem_of_mem_drop (HL3.out ▸ hy)))
          have k0 : x7.cell? ⟨B, 2, none⟩ = some (.slice (some ⟨g, 0, none⟩) n2 cap) := blk_cell g4 2
          have z0 : x7.frozen? ⟨B, 2, none⟩ = false := blk_frozen g4 2
          have HF7 := Aside0.mk (And.intro g1 (And.intro (HBS5.out.trans g2) (HBL5.out.trans g3)))
          clear hb6 q1 q2 q3 q4 q5 q6 q7 g1 g2 g3 g4 hR7 hG7 HQ
          go_wp2
          go_ret
          exact ⟨decide ((i : Int) > 0), l3, (by first | rfl | exact congrArg (fun b => Ending.returned (.bool b)) (decide_eq_decide.2 (by omega))), ⟨i, false, HF.out, .inr ⟨⟨rfl, HT.out, HM.out⟩, x, rfl, HX1.out, .inl ⟨by have := HC.out; have := HN2.out; omega, by rw [HL3.out, HDEF.out], decide_eq_decide.2 (by omega)⟩⟩⟩, HF7.out.1, HF7.out.2.1, HF7.out.2.2⟩
        · have HC := Aside0.mk hc
          have d1 : decide ((n2 : Int) > mo) = false := decide_eq_false hc
          have e1 : (mo < (n2 : Int)) = False := eq_false hc
          clear hc
          go_upto_region 5 with (fail)
          go_quiet (fail)
          have hd : Below x5.heap.size x5 (x5.drewN nq) := pw_below_drewN (Below.refl _ _) _
          replace HK5 := Aside0.mk (HK5.out.below hd)
          replace HBS5 := Aside0.mk (HBS5.out.trans (Beside.of_below hd))
          replace HBL5 := Aside0.mk (HBL5.out.trans (hd.mono HBL5x.out))
          replace HB5 := Aside0.mk (blk_below HB5.out hd)
          clear hd k1 k2
          generalize x5.drewN nq = x6 at HK5 HBS5 HBL5 HB5 ⊢
          go_wp2
          go_ret
          exact ⟨true, l2, rfl, ⟨i, false, HF.out, .inr ⟨⟨rfl, HT.out, HM.out⟩, x, rfl, HX1.out, .inr ⟨by have := HC.out; have := HN2.out; omega, HDEF.out, rfl⟩⟩⟩, HK5.out, HBS5.out, HBL5.out⟩
      · have HM := Aside0.mk hm
        have q1 : (t % ev != 0) = true := bne_iff_ne.2 hm
        go_wp2
        go_ret
        exact ⟨false, l, rfl, ⟨i, false, HF.out, .inl ⟨.inr (.inr HM.out), rfl, rfl⟩⟩, HK.out, Beside.of_below HB.out, HB.out.mono HP.out.2.2.2.2.2⟩
end Go.Proofs.Ythadibmgahlpfaa.MD
end
