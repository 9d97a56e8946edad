/- delta.Between walked: it answers the delta from one snapshot to another one. -/
import Derived.Test.YtfpbohfefliljaaDSnap
import Derived.Laws.Tables
namespace Go.Proofs.Ytfpbohfefliljaa.MD
open Go Go.RowKit Go.Proofs Go.Proofs.YtfpbohfefliljaaW.PrintWords Go.Proofs.YtfpbohfefliljaaW.PrintLast Go.Proofs.YtfpbohfefliljaaW.PrintMore
set_option linter.unusedVariables false
set_option linter.unusedSimpArgs false
theorem store_row {P : Program} {oi : Oper} {a : Act} {w : World} {t : TypeId} {p x : Operand} {g : Nat} {c c' : Array Value} (ho : oi.op = .store t p x) (hp : a.eval p = .pointer (some ⟨g, 0, none⟩)) (hx : a.eval x = .agg c')
    (hg : w.heap[g]? = some (.cells c t (0, 0))) (hi : (P.info? t).map (·.size) = some c'.size) (hs : c.size = c'.size) (h1 : c'.all (·.oneCell') = true) : (execOp a.eval oi).run P w = .ok .skip (w.setRow g c') := by
  have hrun : (Instr.storeAt t (.pointer (some ⟨g, 0, none⟩)) (.agg c')).run P w = .ok () (w.setRow g c') := by
    simp only [Instr.storeAt, Instr.sureAddr, Sem.run_bind, Sem.run_pure, Result.andThen]
    exact run_storeVar_row w g t t c c' hg hi hs h1
  unfold execOp
  simp only [ho, hp, hx, Sem.run_bind, Sem.run_pure, Result.andThen_ok, hrun]
theorem R_last {α : Type} {d : Kd α} {e : Nat} {W X : World} {base g : Nat} {v : Value} {xs : List α} {c' : Array Value} (h : d.R e W base (fun _ => True) v xs) (hb : Below W.heap.size W X) (hg : g < base) : d.R e (X.setRow g c') base (fun k => base ≤ k) v xs :=
  Kd.R_step (Kd.R_mono (Kd.R_bound h) (fun k hk => hk.2.1)) (fun k hk hlt => by
    rw [← hb.block k hlt]
    simp only [World.setRow, Array.getElem?_modify]
    rw [if_neg (by omega)])
theorem C_none {α : Type} (d : Kd α) (w : World) (A : Option Addr) : d.C w A 0 [] := ⟨rfl, Nat.zero_le _, fun h => absurd h (Nat.lt_irrefl 0)⟩
theorem plain_K {w w' : World} {b : S46} {ps : List Value} (h : k46.K w (plainS b) ps) : k46.K w' (plainS b) ps := by
  obtain ⟨A5, c5, A6, c6, A7, c7, A8, c8, A9, c9, A11, c11, A13, c13, rfl, l5, g5, l6, g6, l7, g7, l8, g8, l9, g9, l11, g11, l13, g13⟩ := k46_open h
  exact k46_mk w' (plainS b) l5 (C_none _ _ _) l6 (C_none _ _ _) l7 (C_none _ _ _) l8 (C_none _ _ _) l9 (C_none _ _ _) l11 (C_none _ _ _) l13 (C_none _ _ _)
/-- v reads as the delta from a to b in each world that agrees with w from block n on. -/
def DeltaN (n : Nat) (w : World) (v : Value) (a b : S46) : Prop := ∀ W : World, (∀ k, n ≤ k → k < w.heap.size → w.heap[k]? = W.heap[k]?) → DeltaC W v a b
set_option maxHeartbeats 16000000 in
set_option maxRecDepth 100000 in
theorem between_new (w : World) (va vb : Value) (a b : S46) (ha : SnapC w va a) (hb : SnapC w vb b) (hsa : tot a ≤ 1000) (hsb : tot b ≤ 1000) : Calls Try.prog 17 #[va, vb] w fun e w' => ∃ v', e = .returned v' ∧ DeltaN w.heap.size w' v' a b ∧ Below w.heap.size w w' := by
  obtain ⟨cs, rfl, hKa⟩ := ha
  obtain ⟨es, rfl, hKb⟩ := hb
  obtain ⟨A5, c5, A6, c6, A7, c7, A8, c8, A9, c9, A11, c11, A13, c13, rfl, l5, g5, l6, g6, l7, g7, l8, g8, l9, g9, l11, g11, l13, g13⟩ := k46_open hKa
  obtain ⟨E5, e5, E6, e6, E7, e7, E8, e8, E9, e9, E11, e11, E13, e13, rfl, m5, h5, m6, h6, m7, h7, m8, h8, m9, h9, m11, h11, m13, h13⟩ := k46_open hKb
  have HW0 := Aside0.mk ((((Below.refl w.heap.size w).alloc (Nat.le_refl _) (.cells #[.int .i64 a.f0, .int .i64 a.f1, .int .i64 a.f2, .int .i64 a.f3, .int .u64 a.f4, .slice A5 a.f5.length c5, .slice A6 a.f6.length c6, .slice A7 a.f7.length c7, .slice A8 a.f8.length c8, .slice A9 a.f9.length c9, .string a.f10.f0, .slice A11 a.f10.f1.length c11, .int .u64 a.f10.f2, .slice A13 a.f10.f3.length c13] 46)).alloc (by simp) (.cells #[.int .i64 b.f0, .int .i64 b.f1, .int .i64 b.f2, .int .i64 b.f3, .int .u64 b.f4, .slice E5 b.f5.length e5, .slice E6 b.f6.length e6, .slice E7 b.f7.length e7, .slice E8 b.f8.length e8, .slice E9 b.f9.length e9, .string b.f10.f0, .slice E11 b.f10.f1.length e11, .int .u64 b.f10.f2, .slice E13 b.f10.f3.length e13] 46)).alloc (by simp; omega) (.cells #[.int .i64 0, .int .i64 0, .slice none 0 0, .int .i64 0, .int .i64 0, .slice none 0 0, .int .i64 0, .int .i64 0, .slice none 0 0, .int .i64 0, .int .i64 0, .slice none 0 0, .int .i64 0, .int .i64 0, .slice none 0 0, .int .i64 0, .int .i64 0, .slice none 0 0, .int .i64 0, .int .i64 0, .slice none 0 0, .int .i64 0, .int .i64 0, .int .i64 0, .int .i64 0, .int .u64 0, .slice none 0 0, .slice none 0 0, .slice none 0 0, .slice none 0 0, .slice none 0 0, .string ⟨#[]⟩, .slice none 0 0, .int .u64 0, .slice none 0 0] 61))
  have BA := Aside0.mk (blk_alloc (blk_alloc (blk_new w (.cells #[.int .i64 a.f0, .int .i64 a.f1, .int .i64 a.f2, .int .i64 a.f3, .int .u64 a.f4, .slice A5 a.f5.length c5, .slice A6 a.f6.length c6, .slice A7 a.f7.length c7, .slice A8 a.f8.length c8, .slice A9 a.f9.length c9, .string a.f10.f0, .slice A11 a.f10.f1.length c11, .int .u64 a.f10.f2, .slice A13 a.f10.f3.length c13] 46)) (.cells #[.int .i64 b.f0, .int .i64 b.f1, .int .i64 b.f2, .int .i64 b.f3, .int .u64 b.f4, .slice E5 b.f5.length e5, .slice E6 b.f6.length e6, .slice E7 b.f7.length e7, .slice E8 b.f8.length e8, .slice E9 b.f9.length e9, .string b.f10.f0, .slice E11 b.f10.f1.length e11, .int .u64 b.f10.f2, .slice E13 b.f10.f3.length e13] 46)) (.cells #[.int .i64 0, .int .i64 0, .slice none 0 0, .int .i64 0, .int .i64 0, .slice none 0 0, .int .i64 0, .int .i64 0, .slice none 0 0, .int .i64 0, .int .i64 0, .slice none 0 0, .int .i64 0, .int .i64 0, .slice none 0 0, .int .i64 0, .int .i64 0, .slice none 0 0, .int .i64 0, .int .i64 0, .slice none 0 0, .int .i64 0, .int .i64 0, .int .i64 0, .int .i64 0, .int .u64 0, .slice none 0 0, .slice none 0 0, .slice none 0 0, .slice none 0 0, .slice none 0 0, .string ⟨#[]⟩, .slice none 0 0, .int .u64 0, .slice none 0 0] 61))
  have hbb := blk_alloc (blk_new (w.alloc (.cells #[.int .i64 a.f0, .int .i64 a.f1, .int .i64 a.f2, .int .i64 a.f3, .int .u64 a.f4, .slice A5 a.f5.length c5, .slice A6 a.f6.length c6, .slice A7 a.f7.length c7, .slice A8 a.f8.length c8, .slice A9 a.f9.length c9, .string a.f10.f0, .slice A11 a.f10.f1.length c11, .int .u64 a.f10.f2, .slice A13 a.f10.f3.length c13] 46)) (.cells #[.int .i64 b.f0, .int .i64 b.f1, .int .i64 b.f2, .int .i64 b.f3, .int .u64 b.f4, .slice E5 b.f5.length e5, .slice E6 b.f6.length e6, .slice E7 b.f7.length e7, .slice E8 b.f8.length e8, .slice E9 b.f9.length e9, .string b.f10.f0, .slice E11 b.f10.f1.length e11, .int .u64 b.f10.f2, .slice E13 b.f10.f3.length e13] 46)) (.cells #[.int .i64 0, .int .i64 0, .slice none 0 0, .int .i64 0, .int .i64 0, .slice none 0 0, .int .i64 0, .int .i64 0, .slice none 0 0, .int .i64 0, .int .i64 0, .slice none 0 0, .int .i64 0, .int .i64 0, .slice none 0 0, .int .i64 0, .int .i64 0, .slice none 0 0, .int .i64 0, .int .i64 0, .slice none 0 0, .int .i64 0, .int .i64 0, .int .i64 0, .int .i64 0, .int .u64 0, .slice none 0 0, .slice none 0 0, .slice none 0 0, .slice none 0 0, .slice none 0 0, .string ⟨#[]⟩, .slice none 0 0, .int .u64 0, .slice none 0 0] 61)
  rw [World.size_alloc] at hbb
  have BB := Aside0.mk hbb
  have hbr := blk_new ((w.alloc (.cells #[.int .i64 a.f0, .int .i64 a.f1, .int .i64 a.f2, .int .i64 a.f3, .int .u64 a.f4, .slice A5 a.f5.length c5, .slice A6 a.f6.length c6, .slice A7 a.f7.length c7, .slice A8 a.f8.length c8, .slice A9 a.f9.length c9, .string a.f10.f0, .slice A11 a.f10.f1.length c11, .int .u64 a.f10.f2, .slice A13 a.f10.f3.length c13] 46)).alloc (.cells #[.int .i64 b.f0, .int .i64 b.f1, .int .i64 b.f2, .int .i64 b.f3, .int .u64 b.f4, .slice E5 b.f5.length e5, .slice E6 b.f6.length e6, .slice E7 b.f7.length e7, .slice E8 b.f8.length e8, .slice E9 b.f9.length e9, .string b.f10.f0, .slice E11 b.f10.f1.length e11, .int .u64 b.f10.f2, .slice E13 b.f10.f3.length e13] 46)) (.cells #[.int .i64 0, .int .i64 0, .slice none 0 0, .int .i64 0, .int .i64 0, .slice none 0 0, .int .i64 0, .int .i64 0, .slice none 0 0, .int .i64 0, .int .i64 0, .slice none 0 0, .int .i64 0, .int .i64 0, .slice none 0 0, .int .i64 0, .int .i64 0, .slice none 0 0, .int .i64 0, .int .i64 0, .slice none 0 0, .int .i64 0, .int .i64 0, .int .i64 0, .int .i64 0, .int .u64 0, .slice none 0 0, .slice none 0 0, .slice none 0 0, .slice none 0 0, .slice none 0 0, .string ⟨#[]⟩, .slice none 0 0, .int .u64 0, .slice none 0 0] 61)
  rw [World.size_alloc, World.size_alloc] at hbr
  have BR := Aside0.mk hbr
  clear hbb hbr
  have HA5 := Aside0.mk (And.intro l5 (Kd.C_below g5 HW0.out))
  have HA6 := Aside0.mk (And.intro l6 (Kd.C_below g6 HW0.out))
  have HA7 := Aside0.mk (And.intro l7 (Kd.C_below g7 HW0.out))
  have HA8 := Aside0.mk (And.intro l8 (Kd.C_below g8 HW0.out))
  have HA9 := Aside0.mk (And.intro l9 (Kd.C_below g9 HW0.out))
  have HA11 := Aside0.mk (And.intro l11 (Kd.C_below g11 HW0.out))
  have HA13 := Aside0.mk (And.intro l13 (Kd.C_below g13 HW0.out))
  have HE5 := Aside0.mk (And.intro m5 (Kd.C_below h5 HW0.out))
  have HE6 := Aside0.mk (And.intro m6 (Kd.C_below h6 HW0.out))
  have HE7 := Aside0.mk (And.intro m7 (Kd.C_below h7 HW0.out))
  have HE8 := Aside0.mk (And.intro m8 (Kd.C_below h8 HW0.out))
  have HE9 := Aside0.mk (And.intro m9 (Kd.C_below h9 HW0.out))
  have HE11 := Aside0.mk (And.intro m11 (Kd.C_below h11 HW0.out))
  have HE13 := Aside0.mk (And.intro m13 (Kd.C_below h13 HW0.out))
  have hvb : SnapC w (.agg ([.int .i64 b.f0, .int .i64 b.f1, .int .i64 b.f2, .int .i64 b.f3, .int .u64 b.f4, .slice E5 b.f5.length e5, .slice E6 b.f6.length e6, .slice E7 b.f7.length e7, .slice E8 b.f8.length e8, .slice E9 b.f9.length e9, .string b.f10.f0, .slice E11 b.f10.f1.length e11, .int .u64 b.f10.f2, .slice E13 b.f10.f3.length e13] : List Value).toArray) b := ⟨_, rfl, hKb⟩
  have HVB := Aside0.mk (hvb.below HW0.out)
  have HSA := Aside0.mk hsa
  have HSB := Aside0.mk hsb
  clear l5 g5 l6 g6 l7 g7 l8 g8 l9 g9 l11 g11 l13 g13 m5 h5 m6 h6 m7 h7 m8 h8 m9 h9 m11 h11 m13 h13 hsa hsb hKa hKb hvb
  go_enter Try.func17, Try.ntmps17
  go_wp2
  generalize ((w.alloc (.cells #[.int .i64 a.f0, .int .i64 a.f1, .int .i64 a.f2, .int .i64 a.f3, .int .u64 a.f4, .slice A5 a.f5.length c5, .slice A6 a.f6.length c6, .slice A7 a.f7.length c7, .slice A8 a.f8.length c8, .slice A9 a.f9.length c9, .string a.f10.f0, .slice A11 a.f10.f1.length c11, .int .u64 a.f10.f2, .slice A13 a.f10.f3.length c13] 46)).alloc (.cells #[.int .i64 b.f0, .int .i64 b.f1, .int .i64 b.f2, .int .i64 b.f3, .int .u64 b.f4, .slice E5 b.f5.length e5, .slice E6 b.f6.length e6, .slice E7 b.f7.length e7, .slice E8 b.f8.length e8, .slice E9 b.f9.length e9, .string b.f10.f0, .slice E11 b.f10.f1.length e11, .int .u64 b.f10.f2, .slice E13 b.f10.f3.length e13] 46)).alloc (.cells #[.int .i64 0, .int .i64 0, .slice none 0 0, .int .i64 0, .int .i64 0, .slice none 0 0, .int .i64 0, .int .i64 0, .slice none 0 0, .int .i64 0, .int .i64 0, .slice none 0 0, .int .i64 0, .int .i64 0, .slice none 0 0, .int .i64 0, .int .i64 0, .slice none 0 0, .int .i64 0, .int .i64 0, .slice none 0 0, .int .i64 0, .int .i64 0, .int .i64 0, .int .i64 0, .int .u64 0, .slice none 0 0, .slice none 0 0, .slice none 0 0, .slice none 0 0, .slice none 0 0, .string ⟨#[]⟩, .slice none 0 0, .int .u64 0, .slice none 0 0] 61) = w0 at HW0 BA BB BR HA5 HA6 HA7 HA8 HA9 HA11 HA13 HE5 HE6 HE7 HE8 HE9 HE11 HE13 HVB ⊢
  refine start_ (n := 44) (S := fun W => W.heap[w.heap.size]? = some (.cells #[.int .i64 a.f0, .int .i64 a.f1, .int .i64 a.f2, .int .i64 a.f3, .int .u64 a.f4, .slice A5 a.f5.length c5, .slice A6 a.f6.length c6, .slice A7 a.f7.length c7, .slice A8 a.f8.length c8, .slice A9 a.f9.length c9, .string a.f10.f0, .slice A11 a.f10.f1.length c11, .int .u64 a.f10.f2, .slice A13 a.f10.f3.length c13] 46 (0, 0)) ∧ W.heap[w.heap.size + 1]? = some (.cells #[.int .i64 b.f0, .int .i64 b.f1, .int .i64 b.f2, .int .i64 b.f3, .int .u64 b.f4, .slice E5 b.f5.length e5, .slice E6 b.f6.length e6, .slice E7 b.f7.length e7, .slice E8 b.f8.length e8, .slice E9 b.f9.length e9, .string b.f10.f0, .slice E11 b.f10.f1.length e11, .int .u64 b.f10.f2, .slice E13 b.f10.f3.length e13] 46 (0, 0)) ∧ W.heap[w.heap.size + 2]? = some (.cells #[.int .i64 0, .int .i64 0, .slice none 0 0, .int .i64 0, .int .i64 0, .slice none 0 0, .int .i64 0, .int .i64 0, .slice none 0 0, .int .i64 0, .int .i64 0, .slice none 0 0, .int .i64 0, .int .i64 0, .slice none 0 0, .int .i64 0, .int .i64 0, .slice none 0 0, .int .i64 0, .int .i64 0, .slice none 0 0, .int .i64 0, .int .i64 0, .int .i64 0, .int .i64 0, .int .u64 0, .slice none 0 0, .slice none 0 0, .slice none 0 0, .slice none 0 0, .slice none 0 0, .string ⟨#[]⟩, .slice none 0 0, .int .u64 0, .slice none 0 0] 61 (0, 0)) ∧ Below w0.heap.size w0 W) (ds := [43]) #[false, false, false, false, false, false, false, false, false, false, false, false, false, false, false, false, false, false, false, false, false, false, false, false, false, false, false, false, false, false, false, false, false, false, false, false, false, false, false, false, false, false, false, false] (by kernel_rfl) rfl rfl (⟨blk_drew BA.out, blk_drew BB.out, blk_drew BR.out, below_drew1 (Below.refl _ _)⟩) (fun hHeld => ?_)
  refine pure_ (i := 0) (N := some 5) (v := ?_) (a' := ?_) #[true, false, false, false, false, false, false, false, false, false, false, false, false, false, false, false, false, false, false, false, false, false, false, false, false, false, false, false, false, false, false, false, false, false, false, false, false, false, false, false, false, false, false, false] rfl rfl (by kernel_rfl) (fun _ _ _ h => h) (Or.inl ⟨by rfl, ?_⟩) ?_ ?_
  rotate_left
  · intro w'
    go_simp
    with_reducible rfl
  rotate_left
  · simp only [Act.put, List.setIfInBounds_toArray, List.set_cons_zero, List.set_cons_succ, i64_w, i32_w]
    rfl
  refine take_ (i := 1) (N := some 6) (v := ?_) (a' := ?_) #[true, true, false, false, false, false, false, false, false, false, false, false, false, false, false, false, false, false, false, false, false, false, false, false, false, false, false, false, false, false, false, false, false, false, false, false, false, false, false, false, false, false, false, false] rfl rfl (by kernel_rfl) (fun _ _ _ h => h) (Or.inl ⟨by rfl, ?_⟩) hHeld ?_ ?_
  rotate_left
  · rintro w' ⟨s0, s1, s2, s3⟩
    have k0 : w'.cell? ⟨w.heap.size, 5, none⟩ = some (.slice A5 a.f5.length c5) := blk_cell s0 5
    go_simp
    with_reducible rfl
  rotate_left
  · simp only [Act.put, List.setIfInBounds_toArray, List.set_cons_zero, List.set_cons_succ, i64_w, i32_w]
    rfl
  refine pure_ (i := 2) (N := some 7) (v := ?_) (a' := ?_) #[true, true, true, false, false, false, false, false, false, false, false, false, false, false, false, false, false, false, false, false, false, false, false, false, false, false, false, false, false, false, false, false, false, false, false, false, false, false, false, false, false, false, false, false] rfl rfl (by kernel_rfl) (fun _ _ _ h => h) (Or.inl ⟨by rfl, ?_⟩) ?_ ?_
  rotate_left
  · intro w'
    go_simp
    with_reducible rfl
  rotate_left
  · simp only [Act.put, List.setIfInBounds_toArray, List.set_cons_zero, List.set_cons_succ, i64_w, i32_w]
    rfl
  refine take_ (i := 3) (N := some 8) (v := ?_) (a' := ?_) #[true, true, true, true, false, false, false, false, false, false, false, false, false, false, false, false, false, false, false, false, false, false, false, false, false, false, false, false, false, false, false, false, false, false, false, false, false, false, false, false, false, false, false, false] rfl rfl (by kernel_rfl) (fun _ _ _ h => h) (Or.inl ⟨by rfl, ?_⟩) hHeld ?_ ?_
  rotate_left
  · rintro w' ⟨s0, s1, s2, s3⟩
    have k0 : w'.cell? ⟨w.heap.size + 1, 5, none⟩ = some (.slice E5 b.f5.length e5) := blk_cell s1 5
    go_simp
    with_reducible rfl
  rotate_left
  · simp only [Act.put, List.setIfInBounds_toArray, List.set_cons_zero, List.set_cons_succ, i64_w, i32_w]
    rfl
  refine pure_ (i := 5) (N := some 10) (v := ?_) (a' := ?_) #[true, true, true, true, false, true, false, false, false, false, false, false, false, false, false, false, false, false, false, false, false, false, false, false, false, false, false, false, false, false, false, false, false, false, false, false, false, false, false, false, false, false, false, false] rfl rfl (by kernel_rfl) (fun _ _ _ h => h) (Or.inl ⟨by rfl, ?_⟩) ?_ ?_
  rotate_left
  · intro w'
    go_simp
    with_reducible rfl
  rotate_left
  · simp only [Act.put, List.setIfInBounds_toArray, List.set_cons_zero, List.set_cons_succ, i64_w, i32_w]
    rfl
  refine take_ (i := 6) (N := some 11) (v := ?_) (a' := ?_) #[true, true, true, true, false, true, true, false, false, false, false, false, false, false, false, false, false, false, false, false, false, false, false, false, false, false, false, false, false, false, false, false, false, false, false, false, false, false, false, false, false, false, false, false] rfl rfl (by kernel_rfl) (fun _ _ _ h => h) (Or.inl ⟨by rfl, ?_⟩) hHeld ?_ ?_
  rotate_left
  · rintro w' ⟨s0, s1, s2, s3⟩
    have k0 : w'.cell? ⟨w.heap.size, 6, none⟩ = some (.slice A6 a.f6.length c6) := blk_cell s0 6
    go_simp
    with_reducible rfl
  rotate_left
  · simp only [Act.put, List.setIfInBounds_toArray, List.set_cons_zero, List.set_cons_succ, i64_w, i32_w]
    rfl
  refine pure_ (i := 7) (N := some 12) (v := ?_) (a' := ?_) #[true, true, true, true, false, true, true, true, false, false, false, false, false, false, false, false, false, false, false, false, false, false, false, false, false, false, false, false, false, false, false, false, false, false, false, false, false, false, false, false, false, false, false, false] rfl rfl (by kernel_rfl) (fun _ _ _ h => h) (Or.inl ⟨by rfl, ?_⟩) ?_ ?_
  rotate_left
  · intro w'
    go_simp
    with_reducible rfl
  rotate_left
  · simp only [Act.put, List.setIfInBounds_toArray, List.set_cons_zero, List.set_cons_succ, i64_w, i32_w]
    rfl
  refine take_ (i := 8) (N := some 13) (v := ?_) (a' := ?_) #[true, true, true, true, false, true, true, true, true, false, false, false, false, false, false, false, false, false, false, false, false, false, false, false, false, false, false, false, false, false, false, false, false, false, false, false, false, false, false, false, false, false, false, false] rfl rfl (by kernel_rfl) (fun _ _ _ h => h) (Or.inl ⟨by rfl, ?_⟩) hHeld ?_ ?_
  rotate_left
  · rintro w' ⟨s0, s1, s2, s3⟩
    have k0 : w'.cell? ⟨w.heap.size + 1, 6, none⟩ = some (.slice E6 b.f6.length e6) := blk_cell s1 6
    go_simp
    with_reducible rfl
  rotate_left
  · simp only [Act.put, List.setIfInBounds_toArray, List.set_cons_zero, List.set_cons_succ, i64_w, i32_w]
    rfl
  refine pure_ (i := 10) (N := some 15) (v := ?_) (a' := ?_) #[true, true, true, true, false, true, true, true, true, false, true, false, false, false, false, false, false, false, false, false, false, false, false, false, false, false, false, false, false, false, false, false, false, false, false, false, false, false, false, false, false, false, false, false] rfl rfl (by kernel_rfl) (fun _ _ _ h => h) (Or.inl ⟨by rfl, ?_⟩) ?_ ?_
  rotate_left
  · intro w'
    go_simp
    with_reducible rfl
  rotate_left
  · simp only [Act.put, List.setIfInBounds_toArray, List.set_cons_zero, List.set_cons_succ, i64_w, i32_w]
    rfl
  refine take_ (i := 11) (N := some 16) (v := ?_) (a' := ?_) #[true, true, true, true, false, true, true, true, true, false, true, true, false, false, false, false, false, false, false, false, false, false, false, false, false, false, false, false, false, false, false, false, false, false, false, false, false, false, false, false, false, false, false, false] rfl rfl (by kernel_rfl) (fun _ _ _ h => h) (Or.inl ⟨by rfl, ?_⟩) hHeld ?_ ?_
  rotate_left
  · rintro w' ⟨s0, s1, s2, s3⟩
    have k0 : w'.cell? ⟨w.heap.size, 7, none⟩ = some (.slice A7 a.f7.length c7) := blk_cell s0 7
    go_simp
    with_reducible rfl
  rotate_left
  · simp only [Act.put, List.setIfInBounds_toArray, List.set_cons_zero, List.set_cons_succ, i64_w, i32_w]
    rfl
  refine pure_ (i := 12) (N := some 17) (v := ?_) (a' := ?_) #[true, true, true, true, false, true, true, true, true, false, true, true, true, false, false, false, false, false, false, false, false, false, false, false, false, false, false, false, false, false, false, false, false, false, false, false, false, false, false, false, false, false, false, false] rfl rfl (by kernel_rfl) (fun _ _ _ h => h) (Or.inl ⟨by rfl, ?_⟩) ?_ ?_
  rotate_left
  · intro w'
    go_simp
    with_reducible rfl
  rotate_left
  · simp only [Act.put, List.setIfInBounds_toArray, List.set_cons_zero, List.set_cons_succ, i64_w, i32_w]
    rfl
  refine take_ (i := 13) (N := some 18) (v := ?_) (a' := ?_) #[true, true, true, true, false, true, true, true, true, false, true, true, true, true, false, false, false, false, false, false, false, false, false, false, false, false, false, false, false, false, false, false, false, false, false, false, false, false, false, false, false, false, false, false] rfl rfl (by kernel_rfl) (fun _ _ _ h => h) (Or.inl ⟨by rfl, ?_⟩) hHeld ?_ ?_
  rotate_left
  · rintro w' ⟨s0, s1, s2, s3⟩
    have k0 : w'.cell? ⟨w.heap.size + 1, 7, none⟩ = some (.slice E7 b.f7.length e7) := blk_cell s1 7
    go_simp
    with_reducible rfl
  rotate_left
  · simp only [Act.put, List.setIfInBounds_toArray, List.set_cons_zero, List.set_cons_succ, i64_w, i32_w]
    rfl
  refine pure_ (i := 15) (N := some 20) (v := ?_) (a' := ?_) #[true, true, true, true, false, true, true, true, true, false, true, true, true, true, false, true, false, false, false, false, false, false, false, false, false, false, false, false, false, false, false, false, false, false, false, false, false, false, false, false, false, false, false, false] rfl rfl (by kernel_rfl) (fun _ _ _ h => h) (Or.inl ⟨by rfl, ?_⟩) ?_ ?_
  rotate_left
  · intro w'
    go_simp
    with_reducible rfl
  rotate_left
  · simp only [Act.put, List.setIfInBounds_toArray, List.set_cons_zero, List.set_cons_succ, i64_w, i32_w]
    rfl
  refine take_ (i := 16) (N := some 21) (v := ?_) (a' := ?_) #[true, true, true, true, false, true, true, true, true, false, true, true, true, true, false, true, true, false, false, false, false, false, false, false, false, false, false, false, false, false, false, false, false, false, false, false, false, false, false, false, false, false, false, false] rfl rfl (by kernel_rfl) (fun _ _ _ h => h) (Or.inl ⟨by rfl, ?_⟩) hHeld ?_ ?_
  rotate_left
  · rintro w' ⟨s0, s1, s2, s3⟩
    have k0 : w'.cell? ⟨w.heap.size, 8, none⟩ = some (.slice A8 a.f8.length c8) := blk_cell s0 8
    go_simp
    with_reducible rfl
  rotate_left
  · simp only [Act.put, List.setIfInBounds_toArray, List.set_cons_zero, List.set_cons_succ, i64_w, i32_w]
    rfl
  refine pure_ (i := 17) (N := some 22) (v := ?_) (a' := ?_) #[true, true, true, true, false, true, true, true, true, false, true, true, true, true, false, true, true, true, false, false, false, false, false, false, false, false, false, false, false, false, false, false, false, false, false, false, false, false, false, false, false, false, false, false] rfl rfl (by kernel_rfl) (fun _ _ _ h => h) (Or.inl ⟨by rfl, ?_⟩) ?_ ?_
  rotate_left
  · intro w'
    go_simp
    with_reducible rfl
  rotate_left
  · simp only [Act.put, List.setIfInBounds_toArray, List.set_cons_zero, List.set_cons_succ, i64_w, i32_w]
    rfl
  refine take_ (i := 18) (N := some 23) (v := ?_) (a' := ?_) #[true, true, true, true, false, true, true, true, true, false, true, true, true, true, false, true, true, true, true, false, false, false, false, false, false, false, false, false, false, false, false, false, false, false, false, false, false, false, false, false, false, false, false, false] rfl rfl (by kernel_rfl) (fun _ _ _ h => h) (Or.inl ⟨by rfl, ?_⟩) hHeld ?_ ?_
  rotate_left
  · rintro w' ⟨s0, s1, s2, s3⟩
    have k0 : w'.cell? ⟨w.heap.size + 1, 8, none⟩ = some (.slice E8 b.f8.length e8) := blk_cell s1 8
    go_simp
    with_reducible rfl
  rotate_left
  · simp only [Act.put, List.setIfInBounds_toArray, List.set_cons_zero, List.set_cons_succ, i64_w, i32_w]
    rfl
  refine pure_ (i := 20) (N := some 25) (v := ?_) (a' := ?_) #[true, true, true, true, false, true, true, true, true, false, true, true, true, true, false, true, true, true, true, false, true, false, false, false, false, false, false, false, false, false, false, false, false, false, false, false, false, false, false, false, false, false, false, false] rfl rfl (by kernel_rfl) (fun _ _ _ h => h) (Or.inl ⟨by rfl, ?_⟩) ?_ ?_
  rotate_left
  · intro w'
    go_simp
    with_reducible rfl
  rotate_left
  · simp only [Act.put, List.setIfInBounds_toArray, List.set_cons_zero, List.set_cons_succ, i64_w, i32_w]
    rfl
  refine take_ (i := 21) (N := some 26) (v := ?_) (a' := ?_) #[true, true, true, true, false, true, true, true, true, false, true, true, true, true, false, true, true, true, true, false, true, true, false, false, false, false, false, false, false, false, false, false, false, false, false, false, false, false, false, false, false, false, false, false] rfl rfl (by kernel_rfl) (fun _ _ _ h => h) (Or.inl ⟨by rfl, ?_⟩) hHeld ?_ ?_
  rotate_left
  · rintro w' ⟨s0, s1, s2, s3⟩
    have k0 : w'.cell? ⟨w.heap.size, 9, none⟩ = some (.slice A9 a.f9.length c9) := blk_cell s0 9
    go_simp
    with_reducible rfl
  rotate_left
  · simp only [Act.put, List.setIfInBounds_toArray, List.set_cons_zero, List.set_cons_succ, i64_w, i32_w]
    rfl
  refine pure_ (i := 22) (N := some 27) (v := ?_) (a' := ?_) #[true, true, true, true, false, true, true, true, true, false, true, true, true, true, false, true, true, true, true, false, true, true, true, false, false, false, false, false, false, false, false, false, false, false, false, false, false, false, false, false, false, false, false, false] rfl rfl (by kernel_rfl) (fun _ _ _ h => h) (Or.inl ⟨by rfl, ?_⟩) ?_ ?_
  rotate_left
  · intro w'
    go_simp
    with_reducible rfl
  rotate_left
  · simp only [Act.put, List.setIfInBounds_toArray, List.set_cons_zero, List.set_cons_succ, i64_w, i32_w]
    rfl
  refine take_ (i := 23) (N := some 28) (v := ?_) (a' := ?_) #[true, true, true, true, false, true, true, true, true, false, true, true, true, true, false, true, true, true, true, false, true, true, true, true, false, false, false, false, false, false, false, false, false, false, false, false, false, false, false, false, false, false, false, false] rfl rfl (by kernel_rfl) (fun _ _ _ h => h) (Or.inl ⟨by rfl, ?_⟩) hHeld ?_ ?_
  rotate_left
  · rintro w' ⟨s0, s1, s2, s3⟩
    have k0 : w'.cell? ⟨w.heap.size + 1, 9, none⟩ = some (.slice E9 b.f9.length e9) := blk_cell s1 9
    go_simp
    with_reducible rfl
  rotate_left
  · simp only [Act.put, List.setIfInBounds_toArray, List.set_cons_zero, List.set_cons_succ, i64_w, i32_w]
    rfl
  refine pure_ (i := 25) (N := some 30) (v := ?_) (a' := ?_) #[true, true, true, true, false, true, true, true, true, false, true, true, true, true, false, true, true, true, true, false, true, true, true, true, false, true, false, false, false, false, false, false, false, false, false, false, false, false, false, false, false, false, false, false] rfl rfl (by kernel_rfl) (fun _ _ _ h => h) (Or.inl ⟨by rfl, ?_⟩) ?_ ?_
  rotate_left
  · intro w'
    go_simp
    with_reducible rfl
  rotate_left
  · simp only [Act.put, List.setIfInBounds_toArray, List.set_cons_zero, List.set_cons_succ, i64_w, i32_w]
    rfl
  refine pure_ (i := 26) (N := some 31) (v := ?_) (a' := ?_) #[true, true, true, true, false, true, true, true, true, false, true, true, true, true, false, true, true, true, true, false, true, true, true, true, false, true, true, false, false, false, false, false, false, false, false, false, false, false, false, false, false, false, false, false] rfl rfl (by kernel_rfl) (fun _ _ _ h => h) (Or.inl ⟨by rfl, ?_⟩) ?_ ?_
  rotate_left
  · intro w'
    go_simp
    with_reducible rfl
  rotate_left
  · simp only [Act.put, List.setIfInBounds_toArray, List.set_cons_zero, List.set_cons_succ, i64_w, i32_w]
    rfl
  refine take_ (i := 27) (N := some 32) (v := ?_) (a' := ?_) #[true, true, true, true, false, true, true, true, true, false, true, true, true, true, false, true, true, true, true, false, true, true, true, true, false, true, true, true, false, false, false, false, false, false, false, false, false, false, false, false, false, false, false, false] rfl rfl (by kernel_rfl) (fun _ _ _ h => h) (Or.inl ⟨by rfl, ?_⟩) hHeld ?_ ?_
  rotate_left
  · rintro w' ⟨s0, s1, s2, s3⟩
    have k0 : w'.cell? ⟨w.heap.size, 11, none⟩ = some (.slice A11 a.f10.f1.length c11) := blk_cell s0 11
    go_simp
    with_reducible rfl
  rotate_left
  · simp only [Act.put, List.setIfInBounds_toArray, List.set_cons_zero, List.set_cons_succ, i64_w, i32_w]
    rfl
  refine pure_ (i := 28) (N := some 33) (v := ?_) (a' := ?_) #[true, true, true, true, false, true, true, true, true, false, true, true, true, true, false, true, true, true, true, false, true, true, true, true, false, true, true, true, true, false, false, false, false, false, false, false, false, false, false, false, false, false, false, false] rfl rfl (by kernel_rfl) (fun _ _ _ h => h) (Or.inl ⟨by rfl, ?_⟩) ?_ ?_
  rotate_left
  · intro w'
    go_simp
    with_reducible rfl
  rotate_left
  · simp only [Act.put, List.setIfInBounds_toArray, List.set_cons_zero, List.set_cons_succ, i64_w, i32_w]
    rfl
  refine pure_ (i := 29) (N := some 34) (v := ?_) (a' := ?_) #[true, true, true, true, false, true, true, true, true, false, true, true, true, true, false, true, true, true, true, false, true, true, true, true, false, true, true, true, true, true, false, false, false, false, false, false, false, false, false, false, false, false, false, false] rfl rfl (by kernel_rfl) (fun _ _ _ h => h) (Or.inl ⟨by rfl, ?_⟩) ?_ ?_
  rotate_left
  · intro w'
    go_simp
    with_reducible rfl
  rotate_left
  · simp only [Act.put, List.setIfInBounds_toArray, List.set_cons_zero, List.set_cons_succ, i64_w, i32_w]
    rfl
  refine take_ (i := 30) (N := some 35) (v := ?_) (a' := ?_) #[true, true, true, true, false, true, true, true, true, false, true, true, true, true, false, true, true, true, true, false, true, true, true, true, false, true, true, true, true, true, true, false, false, false, false, false, false, false, false, false, false, false, false, false] rfl rfl (by kernel_rfl) (fun _ _ _ h => h) (Or.inl ⟨by rfl, ?_⟩) hHeld ?_ ?_
  rotate_left
  · rintro w' ⟨s0, s1, s2, s3⟩
    have k0 : w'.cell? ⟨w.heap.size + 1, 11, none⟩ = some (.slice E11 b.f10.f1.length e11) := blk_cell s1 11
    go_simp
    with_reducible rfl
  rotate_left
  · simp only [Act.put, List.setIfInBounds_toArray, List.set_cons_zero, List.set_cons_succ, i64_w, i32_w]
    rfl
  refine pure_ (i := 32) (N := some 37) (v := ?_) (a' := ?_) #[true, true, true, true, false, true, true, true, true, false, true, true, true, true, false, true, true, true, true, false, true, true, true, true, false, true, true, true, true, true, true, false, true, false, false, false, false, false, false, false, false, false, false, false] rfl rfl (by kernel_rfl) (fun _ _ _ h => h) (Or.inl ⟨by rfl, ?_⟩) ?_ ?_
  rotate_left
  · intro w'
    go_simp
    with_reducible rfl
  rotate_left
  · simp only [Act.put, List.setIfInBounds_toArray, List.set_cons_zero, List.set_cons_succ, i64_w, i32_w]
    rfl
  refine pure_ (i := 33) (N := some 38) (v := ?_) (a' := ?_) #[true, true, true, true, false, true, true, true, true, false, true, true, true, true, false, true, true, true, true, false, true, true, true, true, false, true, true, true, true, true, true, false, true, true, false, false, false, false, false, false, false, false, false, false] rfl rfl (by kernel_rfl) (fun _ _ _ h => h) (Or.inl ⟨by rfl, ?_⟩) ?_ ?_
  rotate_left
  · intro w'
    go_simp
    with_reducible rfl
  rotate_left
  · simp only [Act.put, List.setIfInBounds_toArray, List.set_cons_zero, List.set_cons_succ, i64_w, i32_w]
    rfl
  refine take_ (i := 34) (N := some 39) (v := ?_) (a' := ?_) #[true, true, true, true, false, true, true, true, true, false, true, true, true, true, false, true, true, true, true, false, true, true, true, true, false, true, true, true, true, true, true, false, true, true, true, false, false, false, false, false, false, false, false, false] rfl rfl (by kernel_rfl) (fun _ _ _ h => h) (Or.inl ⟨by rfl, ?_⟩) hHeld ?_ ?_
  rotate_left
  · rintro w' ⟨s0, s1, s2, s3⟩
    have k0 : w'.cell? ⟨w.heap.size, 13, none⟩ = some (.slice A13 a.f10.f3.length c13) := blk_cell s0 13
    go_simp
    with_reducible rfl
  rotate_left
  · simp only [Act.put, List.setIfInBounds_toArray, List.set_cons_zero, List.set_cons_succ, i64_w, i32_w]
    rfl
  refine pure_ (i := 35) (N := some 40) (v := ?_) (a' := ?_) #[true, true, true, true, false, true, true, true, true, false, true, true, true, true, false, true, true, true, true, false, true, true, true, true, false, true, true, true, true, true, true, false, true, true, true, true, false, false, false, false, false, false, false, false] rfl rfl (by kernel_rfl) (fun _ _ _ h => h) (Or.inl ⟨by rfl, ?_⟩) ?_ ?_
  rotate_left
  · intro w'
    go_simp
    with_reducible rfl
  rotate_left
  · simp only [Act.put, List.setIfInBounds_toArray, List.set_cons_zero, List.set_cons_succ, i64_w, i32_w]
    rfl
  refine pure_ (i := 36) (N := some 41) (v := ?_) (a' := ?_) #[true, true, true, true, false, true, true, true, true, false, true, true, true, true, false, true, true, true, true, false, true, true, true, true, false, true, true, true, true, true, true, false, true, true, true, true, true, false, false, false, false, false, false, false] rfl rfl (by kernel_rfl) (fun _ _ _ h => h) (Or.inl ⟨by rfl, ?_⟩) ?_ ?_
  rotate_left
  · intro w'
    go_simp
    with_reducible rfl
  rotate_left
  · simp only [Act.put, List.setIfInBounds_toArray, List.set_cons_zero, List.set_cons_succ, i64_w, i32_w]
    rfl
  refine take_ (i := 37) (N := some 42) (v := ?_) (a' := ?_) #[true, true, true, true, false, true, true, true, true, false, true, true, true, true, false, true, true, true, true, false, true, true, true, true, false, true, true, true, true, true, true, false, true, true, true, true, true, true, false, false, false, false, false, false] rfl rfl (by kernel_rfl) (fun _ _ _ h => h) (Or.inl ⟨by rfl, ?_⟩) hHeld ?_ ?_
  rotate_left
  · rintro w' ⟨s0, s1, s2, s3⟩
    have k0 : w'.cell? ⟨w.heap.size + 1, 13, none⟩ = some (.slice E13 b.f10.f3.length e13) := blk_cell s1 13
    go_simp
    with_reducible rfl
  rotate_left
  · simp only [Act.put, List.setIfInBounds_toArray, List.set_cons_zero, List.set_cons_succ, i64_w, i32_w]
    rfl
  refine take_ (i := 40) (N := some 45) (v := ?_) (a' := ?_) #[true, true, true, true, false, true, true, true, true, false, true, true, true, true, false, true, true, true, true, false, true, true, true, true, false, true, true, true, true, true, true, false, true, true, true, true, true, true, false, false, true, false, false, false] rfl rfl (by kernel_rfl) (fun _ _ _ h => h) (Or.inl ⟨by rfl, ?_⟩) hHeld ?_ ?_
  rotate_left
  · rintro w' ⟨s0, s1, s2, s3⟩
    have k0 : w'.cell? ⟨w.heap.size + 1, 0, none⟩ = some (.int .i64 b.f0) := blk_cell s1 0
    have k1 : w'.cell? ⟨w.heap.size + 1, 1, none⟩ = some (.int .i64 b.f1) := blk_cell s1 1
    have k2 : w'.cell? ⟨w.heap.size + 1, 2, none⟩ = some (.int .i64 b.f2) := blk_cell s1 2
    have k3 : w'.cell? ⟨w.heap.size + 1, 3, none⟩ = some (.int .i64 b.f3) := blk_cell s1 3
    have k4 : w'.cell? ⟨w.heap.size + 1, 4, none⟩ = some (.int .u64 b.f4) := blk_cell s1 4
    have k5 : w'.cell? ⟨w.heap.size + 1, 5, none⟩ = some (.slice E5 b.f5.length e5) := blk_cell s1 5
    have k6 : w'.cell? ⟨w.heap.size + 1, 6, none⟩ = some (.slice E6 b.f6.length e6) := blk_cell s1 6
    have k7 : w'.cell? ⟨w.heap.size + 1, 7, none⟩ = some (.slice E7 b.f7.length e7) := blk_cell s1 7
    have k8 : w'.cell? ⟨w.heap.size + 1, 8, none⟩ = some (.slice E8 b.f8.length e8) := blk_cell s1 8
    have k9 : w'.cell? ⟨w.heap.size + 1, 9, none⟩ = some (.slice E9 b.f9.length e9) := blk_cell s1 9
    have k10 : w'.cell? ⟨w.heap.size + 1, 10, none⟩ = some (.string b.f10.f0) := blk_cell s1 10
    have k11 : w'.cell? ⟨w.heap.size + 1, 11, none⟩ = some (.slice E11 b.f10.f1.length e11) := blk_cell s1 11
    have k12 : w'.cell? ⟨w.heap.size + 1, 12, none⟩ = some (.int .u64 b.f10.f2) := blk_cell s1 12
    have k13 : w'.cell? ⟨w.heap.size + 1, 13, none⟩ = some (.slice E13 b.f10.f3.length e13) := blk_cell s1 13
    go_simp
    with_reducible rfl
  rotate_left
  · simp only [Act.put, List.setIfInBounds_toArray, List.set_cons_zero, List.set_cons_succ, i64_w, i32_w]
    rfl
  have HB0 := Aside0.mk (below_drew1 (Below.refl w0.heap.size w0))
  refine one_ (i := 4) (N := some 9) #[true, true, true, true, true, true, true, true, true, false, true, true, true, true, false, true, true, true, true, false, true, true, true, true, false, true, true, true, true, true, true, false, true, true, true, true, true, true, false, false, true, false, false, false] rfl rfl (by kernel_rfl) (by decide) (fun K hK => ?_)
  refine goes_ Try.func20 (by kernel_rfl) rfl #[.slice A5 a.f5.length c5, .slice E5 b.f5.length e5] (by rfl) rfl rfl (by (try simp only [List.map_toArray, List.map_cons, List.map_nil]); first | done | rfl) ?_
  refine (DiB.diff_any A5 c5 a.f5 E5 e5 b.f5 _ (Kd.C_below HA5.out.2 HB0.out) HA5.out.1 (Kd.C_below HE5.out.2 HB0.out) HE5.out.1 (by have := HSA.out; unfold tot at this; omega) (by have := HSB.out; unfold tot at this; omega)).mono ?_
  rintro e x1 ⟨v, rfl, hR, hb⟩
  obtain ⟨B1, d1, rfl⟩ := Kd.R_slice hR
  have HP1 := Aside0.mk hR
  have HX1 := Aside0.mk hb
  have HB1 := Aside0.mk (HB0.out.trans (hb.mono HB0.out.size))
  clear hR
  refine ⟨_, rfl, ?_⟩
  refine hK.out _ _ ⟨blk_below hHeld.1 hb, blk_below hHeld.2.1 hb, blk_below hHeld.2.2.1 hb, HB1.out⟩ (fun hHeld => ?_)
  clear hb
  clear hK K
  refine norm_ (a' := ?_) ?_ ?_
  rotate_left
  · show Act.put _ (some 9) _ = _
    simp only [Act.put, List.setIfInBounds_toArray, List.set_cons_zero, List.set_cons_succ, i64_w, i32_w]
    rfl
  refine one_ (i := 9) (N := some 14) #[true, true, true, true, true, true, true, true, true, true, true, true, true, true, false, true, true, true, true, false, true, true, true, true, false, true, true, true, true, true, true, false, true, true, true, true, true, true, false, false, true, false, false, false] rfl rfl (by kernel_rfl) (by decide) (fun K hK => ?_)
  refine goes_ Try.func21 (by kernel_rfl) rfl #[.slice A6 a.f6.length c6, .slice E6 b.f6.length e6] (by rfl) rfl rfl (by (try simp only [List.map_toArray, List.map_cons, List.map_nil]); first | done | rfl) ?_
  refine (DiV.diff_any A6 c6 a.f6 E6 e6 b.f6 _ (Kd.C_below HA6.out.2 HB1.out) HA6.out.1 (Kd.C_below HE6.out.2 HB1.out) HE6.out.1 (by have := HSA.out; unfold tot at this; omega) (by have := HSB.out; unfold tot at this; omega)).mono ?_
  rintro e x2 ⟨v, rfl, hR, hb⟩
  obtain ⟨B2, d2, rfl⟩ := Kd.R_slice hR
  have HP2 := Aside0.mk hR
  have HX2 := Aside0.mk hb
  have HB2 := Aside0.mk (HB1.out.trans (hb.mono HB1.out.size))
  clear hR
  refine ⟨_, rfl, ?_⟩
  refine hK.out _ _ ⟨blk_below hHeld.1 hb, blk_below hHeld.2.1 hb, blk_below hHeld.2.2.1 hb, HB2.out⟩ (fun hHeld => ?_)
  clear hb
  clear hK K
  refine norm_ (a' := ?_) ?_ ?_
  rotate_left
  · show Act.put _ (some 14) _ = _
    simp only [Act.put, List.setIfInBounds_toArray, List.set_cons_zero, List.set_cons_succ, i64_w, i32_w]
    rfl
  refine one_ (i := 14) (N := some 19) #[true, true, true, true, true, true, true, true, true, true, true, true, true, true, true, true, true, true, true, false, true, true, true, true, false, true, true, true, true, true, true, false, true, true, true, true, true, true, false, false, true, false, false, false] rfl rfl (by kernel_rfl) (by decide) (fun K hK => ?_)
  refine goes_ Try.func8 (by kernel_rfl) rfl #[.slice A7 a.f7.length c7, .slice E7 b.f7.length e7] (by rfl) rfl rfl (by (try simp only [List.map_toArray, List.map_cons, List.map_nil]); first | done | rfl) ?_
  refine (DiS.diff_any A7 c7 a.f7 E7 e7 b.f7 _ (Kd.C_below HA7.out.2 HB2.out) HA7.out.1 (Kd.C_below HE7.out.2 HB2.out) HE7.out.1 (by have := HSA.out; unfold tot at this; omega) (by have := HSB.out; unfold tot at this; omega)).mono ?_
  rintro e x3 ⟨v, rfl, hR, hb⟩
  obtain ⟨B3, d3, rfl⟩ := Kd.R_slice hR
  have HP3 := Aside0.mk hR
  have HX3 := Aside0.mk hb
  have HB3 := Aside0.mk (HB2.out.trans (hb.mono HB2.out.size))
  clear hR
  refine ⟨_, rfl, ?_⟩
  refine hK.out _ _ ⟨blk_below hHeld.1 hb, blk_below hHeld.2.1 hb, blk_below hHeld.2.2.1 hb, HB3.out⟩ (fun hHeld => ?_)
  clear hb
  clear hK K
  refine norm_ (a' := ?_) ?_ ?_
  rotate_left
  · show Act.put _ (some 19) _ = _
    simp only [Act.put, List.setIfInBounds_toArray, List.set_cons_zero, List.set_cons_succ, i64_w, i32_w]
    rfl
  refine one_ (i := 19) (N := some 24) #[true, true, true, true, true, true, true, true, true, true, true, true, true, true, true, true, true, true, true, true, true, true, true, true, false, true, true, true, true, true, true, false, true, true, true, true, true, true, false, false, true, false, false, false] rfl rfl (by kernel_rfl) (by decide) (fun K hK => ?_)
  refine goes_ Try.func8 (by kernel_rfl) rfl #[.slice A8 a.f8.length c8, .slice E8 b.f8.length e8] (by rfl) rfl rfl (by (try simp only [List.map_toArray, List.map_cons, List.map_nil]); first | done | rfl) ?_
  refine (DiS.diff_any A8 c8 a.f8 E8 e8 b.f8 _ (Kd.C_below HA8.out.2 HB3.out) HA8.out.1 (Kd.C_below HE8.out.2 HB3.out) HE8.out.1 (by have := HSA.out; unfold tot at this; omega) (by have := HSB.out; unfold tot at this; omega)).mono ?_
  rintro e x4 ⟨v, rfl, hR, hb⟩
  obtain ⟨B4, d4, rfl⟩ := Kd.R_slice hR
  have HP4 := Aside0.mk hR
  have HX4 := Aside0.mk hb
  have HB4 := Aside0.mk (HB3.out.trans (hb.mono HB3.out.size))
  clear hR
  refine ⟨_, rfl, ?_⟩
  refine hK.out _ _ ⟨blk_below hHeld.1 hb, blk_below hHeld.2.1 hb, blk_below hHeld.2.2.1 hb, HB4.out⟩ (fun hHeld => ?_)
  clear hb
  clear hK K
  refine norm_ (a' := ?_) ?_ ?_
  rotate_left
  · show Act.put _ (some 24) _ = _
    simp only [Act.put, List.setIfInBounds_toArray, List.set_cons_zero, List.set_cons_succ, i64_w, i32_w]
    rfl
  refine one_ (i := 24) (N := some 29) #[true, true, true, true, true, true, true, true, true, true, true, true, true, true, true, true, true, true, true, true, true, true, true, true, true, true, true, true, true, true, true, false, true, true, true, true, true, true, false, false, true, false, false, false] rfl rfl (by kernel_rfl) (by decide) (fun K hK => ?_)
  refine goes_ Try.func22 (by kernel_rfl) rfl #[.slice A9 a.f9.length c9, .slice E9 b.f9.length e9] (by rfl) rfl rfl (by (try simp only [List.map_toArray, List.map_cons, List.map_nil]); first | done | rfl) ?_
  refine (DiT.diff_any A9 c9 a.f9 E9 e9 b.f9 _ (Kd.C_below HA9.out.2 HB4.out) HA9.out.1 (Kd.C_below HE9.out.2 HB4.out) HE9.out.1 (by have := HSA.out; unfold tot at this; omega) (by have := HSB.out; unfold tot at this; omega)).mono ?_
  rintro e x5 ⟨v, rfl, hR, hb⟩
  obtain ⟨B5, d5, rfl⟩ := Kd.R_slice hR
  have HP5 := Aside0.mk hR
  have HX5 := Aside0.mk hb
  have HB5 := Aside0.mk (HB4.out.trans (hb.mono HB4.out.size))
  clear hR
  refine ⟨_, rfl, ?_⟩
  refine hK.out _ _ ⟨blk_below hHeld.1 hb, blk_below hHeld.2.1 hb, blk_below hHeld.2.2.1 hb, HB5.out⟩ (fun hHeld => ?_)
  clear hb
  clear hK K
  refine norm_ (a' := ?_) ?_ ?_
  rotate_left
  · show Act.put _ (some 29) _ = _
    simp only [Act.put, List.setIfInBounds_toArray, List.set_cons_zero, List.set_cons_succ, i64_w, i32_w]
    rfl
  refine one_ (i := 31) (N := some 36) #[true, true, true, true, true, true, true, true, true, true, true, true, true, true, true, true, true, true, true, true, true, true, true, true, true, true, true, true, true, true, true, true, true, true, true, true, true, true, false, false, true, false, false, false] rfl rfl (by kernel_rfl) (by decide) (fun K hK => ?_)
  refine goes_ Try.func23 (by kernel_rfl) rfl #[.slice A11 a.f10.f1.length c11, .slice E11 b.f10.f1.length e11] (by rfl) rfl rfl (by (try simp only [List.map_toArray, List.map_cons, List.map_nil]); first | done | rfl) ?_
  refine (DiI.diff_any A11 c11 a.f10.f1 E11 e11 b.f10.f1 _ (Kd.C_below HA11.out.2 HB5.out) HA11.out.1 (Kd.C_below HE11.out.2 HB5.out) HE11.out.1 (by have := HSA.out; unfold tot at this; omega) (by have := HSB.out; unfold tot at this; omega)).mono ?_
  rintro e x6 ⟨v, rfl, hR, hb⟩
  obtain ⟨B6, d6, rfl⟩ := Kd.R_slice hR
  have HP6 := Aside0.mk hR
  have HX6 := Aside0.mk hb
  have HB6 := Aside0.mk (HB5.out.trans (hb.mono HB5.out.size))
  clear hR
  refine ⟨_, rfl, ?_⟩
  refine hK.out _ _ ⟨blk_below hHeld.1 hb, blk_below hHeld.2.1 hb, blk_below hHeld.2.2.1 hb, HB6.out⟩ (fun hHeld => ?_)
  clear hb
  clear hK K
  refine norm_ (a' := ?_) ?_ ?_
  rotate_left
  · show Act.put _ (some 36) _ = _
    simp only [Act.put, List.setIfInBounds_toArray, List.set_cons_zero, List.set_cons_succ, i64_w, i32_w]
    rfl
  refine one_ (i := 38) (N := some 43) #[true, true, true, true, true, true, true, true, true, true, true, true, true, true, true, true, true, true, true, true, true, true, true, true, true, true, true, true, true, true, true, true, true, true, true, true, true, true, true, false, true, false, false, false] rfl rfl (by kernel_rfl) (by decide) (fun K hK => ?_)
  refine goes_ Try.func8 (by kernel_rfl) rfl #[.slice A13 a.f10.f3.length c13, .slice E13 b.f10.f3.length e13] (by rfl) rfl rfl (by (try simp only [List.map_toArray, List.map_cons, List.map_nil]); first | done | rfl) ?_
  refine (DiS.diff_any A13 c13 a.f10.f3 E13 e13 b.f10.f3 _ (Kd.C_below HA13.out.2 HB6.out) HA13.out.1 (Kd.C_below HE13.out.2 HB6.out) HE13.out.1 (by have := HSA.out; unfold tot at this; omega) (by have := HSB.out; unfold tot at this; omega)).mono ?_
  rintro e x7 ⟨v, rfl, hR, hb⟩
  obtain ⟨B7, d7, rfl⟩ := Kd.R_slice hR
  have HP7 := Aside0.mk hR
  have HX7 := Aside0.mk hb
  have HB7 := Aside0.mk (HB6.out.trans (hb.mono HB6.out.size))
  clear hR
  refine ⟨_, rfl, ?_⟩
  refine hK.out _ _ ⟨blk_below hHeld.1 hb, blk_below hHeld.2.1 hb, blk_below hHeld.2.2.1 hb, HB7.out⟩ (fun hHeld => ?_)
  clear hb
  clear hK K
  refine norm_ (a' := ?_) ?_ ?_
  rotate_left
  · show Act.put _ (some 43) _ = _
    simp only [Act.put, List.setIfInBounds_toArray, List.set_cons_zero, List.set_cons_succ, i64_w, i32_w]
    rfl
  refine pure_ (i := 39) (N := some 44) (v := ?_) (a' := ?_) #[true, true, true, true, true, true, true, true, true, true, true, true, true, true, true, true, true, true, true, true, true, true, true, true, true, true, true, true, true, true, true, true, true, true, true, true, true, true, true, true, true, false, false, false] rfl rfl (by kernel_rfl) (fun _ _ _ h => h) (Or.inl ⟨by rfl, ?_⟩) ?_ ?_
  rotate_left
  · intro w'
    go_simp
    with_reducible rfl
  rotate_left
  · simp only [Act.put, List.setIfInBounds_toArray, List.set_cons_zero, List.set_cons_succ, i64_w, i32_w]
    rfl
  refine one_ (i := 41) (N := some 46) #[true, true, true, true, true, true, true, true, true, true, true, true, true, true, true, true, true, true, true, true, true, true, true, true, true, true, true, true, true, true, true, true, true, true, true, true, true, true, true, true, true, true, false, false] rfl rfl (by kernel_rfl) (by decide) (fun K hK => ?_)
  refine goes_ Try.func32 (by kernel_rfl) rfl #[.agg #[.int .i64 b.f0, .int .i64 b.f1, .int .i64 b.f2, .int .i64 b.f3, .int .u64 b.f4, .slice E5 b.f5.length e5, .slice E6 b.f6.length e6, .slice E7 b.f7.length e7, .slice E8 b.f8.length e8, .slice E9 b.f9.length e9, .string b.f10.f0, .slice E11 b.f10.f1.length e11, .int .u64 b.f10.f2, .slice E13 b.f10.f3.length e13]] (by rfl) rfl rfl (by (try simp only [List.map_toArray, List.map_cons, List.map_nil]); first | done | rfl) ?_
  refine (plain_any _ _ b (HVB.out.below HB7.out)).mono ?_
  rintro e x8 ⟨v, rfl, ⟨ps, rfl, hK8⟩, hb⟩
  have HX8 := Aside0.mk hb
  have HB8 := Aside0.mk (HB7.out.trans (hb.mono HB7.out.size))
  have HPS := Aside0.mk hK8
  obtain ⟨F5, g5, F6, g6, F7, g7, F8, g8, F9, g9, F11, g11, F13, g13, rfl, _⟩ := k46_open hK8
  refine ⟨_, rfl, ?_⟩
  refine hK.out _ _ ⟨blk_below hHeld.1 hb, blk_below hHeld.2.1 hb, blk_below hHeld.2.2.1 hb, HB8.out⟩ (fun hHeld => ?_)
  clear hb hK8
  clear hK K
  refine norm_ (a' := ?_) ?_ ?_
  rotate_left
  · show Act.put _ (some 46) _ = _
    simp only [Act.put, List.setIfInBounds_toArray, List.set_cons_zero, List.set_cons_succ, i64_w, i32_w]
    rfl
  refine pure_ (i := 42) (N := some 47) (v := ?_) (a' := ?_) #[true, true, true, true, true, true, true, true, true, true, true, true, true, true, true, true, true, true, true, true, true, true, true, true, true, true, true, true, true, true, true, true, true, true, true, true, true, true, true, true, true, true, true, false] rfl rfl (by kernel_rfl) (fun _ _ _ h => h) (Or.inl ⟨by rfl, ?_⟩) ?_ ?_
  rotate_left
  · intro w'
    go_simp
    with_reducible rfl
  rotate_left
  · simp only [Act.put, List.setIfInBounds_toArray, List.set_cons_zero, List.set_cons_succ, i64_w, i32_w]
    rfl
  refine last_ (i := 43) (N := none) #[true, true, true, true, true, true, true, true, true, true, true, true, true, true, true, true, true, true, true, true, true, true, true, true, true, true, true, true, true, true, true, true, true, true, true, true, true, true, true, true, true, true, true, true] rfl rfl (by kernel_rfl) (by decide) (fun K hK => ?_)
  have hlt := blk_lt BR.out
  refine skip_ (w1 := x8.setRow (w.heap.size + 2) (#[.int .i64 (dAt a.f5 b.f5), .int .i64 (dLess a.f5 b.f5), .slice B1 (dWith a.f5 b.f5).length d1, .int .i64 (dAt a.f6 b.f6), .int .i64 (dLess a.f6 b.f6), .slice B2 (dWith a.f6 b.f6).length d2, .int .i64 (dAt a.f7 b.f7), .int .i64 (dLess a.f7 b.f7), .slice B3 (dWith a.f7 b.f7).length d3, .int .i64 (dAt a.f8 b.f8), .int .i64 (dLess a.f8 b.f8), .slice B4 (dWith a.f8 b.f8).length d4, .int .i64 (dAt a.f9 b.f9), .int .i64 (dLess a.f9 b.f9), .slice B5 (dWith a.f9 b.f9).length d5, .int .i64 (dAt a.f10.f1 b.f10.f1), .int .i64 (dLess a.f10.f1 b.f10.f1), .slice B6 (dWith a.f10.f1 b.f10.f1).length d6, .int .i64 (dAt a.f10.f3 b.f10.f3), .int .i64 (dLess a.f10.f3 b.f10.f3), .slice B7 (dWith a.f10.f3 b.f10.f3).length d7, .int .i64 (plainS b).f0, .int .i64 (plainS b).f1, .int .i64 (plainS b).f2, .int .i64 (plainS b).f3, .int .u64 (plainS b).f4, .slice F5 (plainS b).f5.length g5, .slice F6 (plainS b).f6.length g6, .slice F7 (plainS b).f7.length g7, .slice F8 (plainS b).f8.length g8, .slice F9 (plainS b).f9.length g9, .string (plainS b).f10.f0, .slice F11 (plainS b).f10.f1.length g11, .int .u64 (plainS b).f10.f2, .slice F13 (plainS b).f10.f3.length g13])) (by rfl) rfl (store_row rfl rfl rfl hHeld.2.2.1 (by kernel_rfl) rfl (by kernel_rfl)) ?_
  have HT8 := Aside0.mk (Below.refl x8.heap.size x8)
  have HT7 := Aside0.mk (HX8.out.trans (HT8.out.mono HX8.out.size))
  have HT6 := Aside0.mk (HX7.out.trans (HT7.out.mono HX7.out.size))
  have HT5 := Aside0.mk (HX6.out.trans (HT6.out.mono HX6.out.size))
  have HT4 := Aside0.mk (HX5.out.trans (HT5.out.mono HX5.out.size))
  have HT3 := Aside0.mk (HX4.out.trans (HT4.out.mono HX4.out.size))
  have HT2 := Aside0.mk (HX3.out.trans (HT3.out.mono HX3.out.size))
  have HT1 := Aside0.mk (HX2.out.trans (HT2.out.mono HX2.out.size))
  have HD : Aside0 (DeltaN w.heap.size (x8.setRow (w.heap.size + 2) (#[.int .i64 (dAt a.f5 b.f5), .int .i64 (dLess a.f5 b.f5), .slice B1 (dWith a.f5 b.f5).length d1, .int .i64 (dAt a.f6 b.f6), .int .i64 (dLess a.f6 b.f6), .slice B2 (dWith a.f6 b.f6).length d2, .int .i64 (dAt a.f7 b.f7), .int .i64 (dLess a.f7 b.f7), .slice B3 (dWith a.f7 b.f7).length d3, .int .i64 (dAt a.f8 b.f8), .int .i64 (dLess a.f8 b.f8), .slice B4 (dWith a.f8 b.f8).length d4, .int .i64 (dAt a.f9 b.f9), .int .i64 (dLess a.f9 b.f9), .slice B5 (dWith a.f9 b.f9).length d5, .int .i64 (dAt a.f10.f1 b.f10.f1), .int .i64 (dLess a.f10.f1 b.f10.f1), .slice B6 (dWith a.f10.f1 b.f10.f1).length d6, .int .i64 (dAt a.f10.f3 b.f10.f3), .int .i64 (dLess a.f10.f3 b.f10.f3), .slice B7 (dWith a.f10.f3 b.f10.f3).length d7, .int .i64 (plainS b).f0, .int .i64 (plainS b).f1, .int .i64 (plainS b).f2, .int .i64 (plainS b).f3, .int .u64 (plainS b).f4, .slice F5 (plainS b).f5.length g5, .slice F6 (plainS b).f6.length g6, .slice F7 (plainS b).f7.length g7, .slice F8 (plainS b).f8.length g8, .slice F9 (plainS b).f9.length g9, .string (plainS b).f10.f0, .slice F11 (plainS b).f10.f1.length g11, .int .u64 (plainS b).f10.f2, .slice F13 (plainS b).f10.f3.length g13])) (.agg (#[.int .i64 (dAt a.f5 b.f5), .int .i64 (dLess a.f5 b.f5), .slice B1 (dWith a.f5 b.f5).length d1, .int .i64 (dAt a.f6 b.f6), .int .i64 (dLess a.f6 b.f6), .slice B2 (dWith a.f6 b.f6).length d2, .int .i64 (dAt a.f7 b.f7), .int .i64 (dLess a.f7 b.f7), .slice B3 (dWith a.f7 b.f7).length d3, .int .i64 (dAt a.f8 b.f8), .int .i64 (dLess a.f8 b.f8), .slice B4 (dWith a.f8 b.f8).length d4, .int .i64 (dAt a.f9 b.f9), .int .i64 (dLess a.f9 b.f9), .slice B5 (dWith a.f9 b.f9).length d5, .int .i64 (dAt a.f10.f1 b.f10.f1), .int .i64 (dLess a.f10.f1 b.f10.f1), .slice B6 (dWith a.f10.f1 b.f10.f1).length d6, .int .i64 (dAt a.f10.f3 b.f10.f3), .int .i64 (dLess a.f10.f3 b.f10.f3), .slice B7 (dWith a.f10.f3 b.f10.f3).length d7, .int .i64 (plainS b).f0, .int .i64 (plainS b).f1, .int .i64 (plainS b).f2, .int .i64 (plainS b).f3, .int .u64 (plainS b).f4, .slice F5 (plainS b).f5.length g5, .slice F6 (plainS b).f6.length g6, .slice F7 (plainS b).f7.length g7, .slice F8 (plainS b).f8.length g8, .slice F9 (plainS b).f9.length g9, .string (plainS b).f10.f0, .slice F11 (plainS b).f10.f1.length g11, .int .u64 (plainS b).f10.f2, .slice F13 (plainS b).f10.f3.length g13])) a b) := by
    refine ⟨fun W hW => ⟨B1, d1, B2, d2, B3, d3, B4, d4, B5, d5, B6, d6, B7, d7, _, rfl, plain_K HPS.out, ?_⟩⟩
    have q1 := Kd.R_reads' (Kd.R_step (R_last (g := w.heap.size + 2) (c' := #[.int .i64 (dAt a.f5 b.f5), .int .i64 (dLess a.f5 b.f5), .slice B1 (dWith a.f5 b.f5).length d1, .int .i64 (dAt a.f6 b.f6), .int .i64 (dLess a.f6 b.f6), .slice B2 (dWith a.f6 b.f6).length d2, .int .i64 (dAt a.f7 b.f7), .int .i64 (dLess a.f7 b.f7), .slice B3 (dWith a.f7 b.f7).length d3, .int .i64 (dAt a.f8 b.f8), .int .i64 (dLess a.f8 b.f8), .slice B4 (dWith a.f8 b.f8).length d4, .int .i64 (dAt a.f9 b.f9), .int .i64 (dLess a.f9 b.f9), .slice B5 (dWith a.f9 b.f9).length d5, .int .i64 (dAt a.f10.f1 b.f10.f1), .int .i64 (dLess a.f10.f1 b.f10.f1), .slice B6 (dWith a.f10.f1 b.f10.f1).length d6, .int .i64 (dAt a.f10.f3 b.f10.f3), .int .i64 (dLess a.f10.f3 b.f10.f3), .slice B7 (dWith a.f10.f3 b.f10.f3).length d7, .int .i64 (plainS b).f0, .int .i64 (plainS b).f1, .int .i64 (plainS b).f2, .int .i64 (plainS b).f3, .int .u64 (plainS b).f4, .slice F5 (plainS b).f5.length g5, .slice F6 (plainS b).f6.length g6, .slice F7 (plainS b).f7.length g7, .slice F8 (plainS b).f8.length g8, .slice F9 (plainS b).f9.length g9, .string (plainS b).f10.f0, .slice F11 (plainS b).f10.f1.length g11, .int .u64 (plainS b).f10.f2, .slice F13 (plainS b).f10.f3.length g13]) HP1.out HT1.out (Nat.lt_of_lt_of_le hlt (below_size (below_drew1 (Below.refl w0.heap.size w0))))) (fun k hk hlt2 => (hW k (Nat.le_trans (Nat.le_trans HW0.out.size (below_size (below_drew1 (Below.refl w0.heap.size w0)))) hk) hlt2).symm))
    have q2 := Kd.R_reads' (Kd.R_step (R_last (g := w.heap.size + 2) (c' := #[.int .i64 (dAt a.f5 b.f5), .int .i64 (dLess a.f5 b.f5), .slice B1 (dWith a.f5 b.f5).length d1, .int .i64 (dAt a.f6 b.f6), .int .i64 (dLess a.f6 b.f6), .slice B2 (dWith a.f6 b.f6).length d2, .int .i64 (dAt a.f7 b.f7), .int .i64 (dLess a.f7 b.f7), .slice B3 (dWith a.f7 b.f7).length d3, .int .i64 (dAt a.f8 b.f8), .int .i64 (dLess a.f8 b.f8), .slice B4 (dWith a.f8 b.f8).length d4, .int .i64 (dAt a.f9 b.f9), .int .i64 (dLess a.f9 b.f9), .slice B5 (dWith a.f9 b.f9).length d5, .int .i64 (dAt a.f10.f1 b.f10.f1), .int .i64 (dLess a.f10.f1 b.f10.f1), .slice B6 (dWith a.f10.f1 b.f10.f1).length d6, .int .i64 (dAt a.f10.f3 b.f10.f3), .int .i64 (dLess a.f10.f3 b.f10.f3), .slice B7 (dWith a.f10.f3 b.f10.f3).length d7, .int .i64 (plainS b).f0, .int .i64 (plainS b).f1, .int .i64 (plainS b).f2, .int .i64 (plainS b).f3, .int .u64 (plainS b).f4, .slice F5 (plainS b).f5.length g5, .slice F6 (plainS b).f6.length g6, .slice F7 (plainS b).f7.length g7, .slice F8 (plainS b).f8.length g8, .slice F9 (plainS b).f9.length g9, .string (plainS b).f10.f0, .slice F11 (plainS b).f10.f1.length g11, .int .u64 (plainS b).f10.f2, .slice F13 (plainS b).f10.f3.length g13]) HP2.out HT2.out (Nat.lt_of_lt_of_le hlt (HB1.out.size))) (fun k hk hlt2 => (hW k (Nat.le_trans (Nat.le_trans HW0.out.size (HB1.out.size)) hk) hlt2).symm))
    have q3 := Kd.R_reads' (Kd.R_step (R_last (g := w.heap.size + 2) (c' := #[.int .i64 (dAt a.f5 b.f5), .int .i64 (dLess a.f5 b.f5), .slice B1 (dWith a.f5 b.f5).length d1, .int .i64 (dAt a.f6 b.f6), .int .i64 (dLess a.f6 b.f6), .slice B2 (dWith a.f6 b.f6).length d2, .int .i64 (dAt a.f7 b.f7), .int .i64 (dLess a.f7 b.f7), .slice B3 (dWith a.f7 b.f7).length d3, .int .i64 (dAt a.f8 b.f8), .int .i64 (dLess a.f8 b.f8), .slice B4 (dWith a.f8 b.f8).length d4, .int .i64 (dAt a.f9 b.f9), .int .i64 (dLess a.f9 b.f9), .slice B5 (dWith a.f9 b.f9).length d5, .int .i64 (dAt a.f10.f1 b.f10.f1), .int .i64 (dLess a.f10.f1 b.f10.f1), .slice B6 (dWith a.f10.f1 b.f10.f1).length d6, .int .i64 (dAt a.f10.f3 b.f10.f3), .int .i64 (dLess a.f10.f3 b.f10.f3), .slice B7 (dWith a.f10.f3 b.f10.f3).length d7, .int .i64 (plainS b).f0, .int .i64 (plainS b).f1, .int .i64 (plainS b).f2, .int .i64 (plainS b).f3, .int .u64 (plainS b).f4, .slice F5 (plainS b).f5.length g5, .slice F6 (plainS b).f6.length g6, .slice F7 (plainS b).f7.length g7, .slice F8 (plainS b).f8.length g8, .slice F9 (plainS b).f9.length g9, .string (plainS b).f10.f0, .slice F11 (plainS b).f10.f1.length g11, .int .u64 (plainS b).f10.f2, .slice F13 (plainS b).f10.f3.length g13]) HP3.out HT3.out (Nat.lt_of_lt_of_le hlt (HB2.out.size))) (fun k hk hlt2 => (hW k (Nat.le_trans (Nat.le_trans HW0.out.size (HB2.out.size)) hk) hlt2).symm))
    have q4 := Kd.R_reads' (Kd.R_step (R_last (g := w.heap.size + 2) (c' := #[.int .i64 (dAt a.f5 b.f5), .int .i64 (dLess a.f5 b.f5), .slice B1 (dWith a.f5 b.f5).length d1, .int .i64 (dAt a.f6 b.f6), .int .i64 (dLess a.f6 b.f6), .slice B2 (dWith a.f6 b.f6).length d2, .int .i64 (dAt a.f7 b.f7), .int .i64 (dLess a.f7 b.f7), .slice B3 (dWith a.f7 b.f7).length d3, .int .i64 (dAt a.f8 b.f8), .int .i64 (dLess a.f8 b.f8), .slice B4 (dWith a.f8 b.f8).length d4, .int .i64 (dAt a.f9 b.f9), .int .i64 (dLess a.f9 b.f9), .slice B5 (dWith a.f9 b.f9).length d5, .int .i64 (dAt a.f10.f1 b.f10.f1), .int .i64 (dLess a.f10.f1 b.f10.f1), .slice B6 (dWith a.f10.f1 b.f10.f1).length d6, .int .i64 (dAt a.f10.f3 b.f10.f3), .int .i64 (dLess a.f10.f3 b.f10.f3), .slice B7 (dWith a.f10.f3 b.f10.f3).length d7, .int .i64 (plainS b).f0, .int .i64 (plainS b).f1, .int .i64 (plainS b).f2, .int .i64 (plainS b).f3, .int .u64 (plainS b).f4, .slice F5 (plainS b).f5.length g5, .slice F6 (plainS b).f6.length g6, .slice F7 (plainS b).f7.length g7, .slice F8 (plainS b).f8.length g8, .slice F9 (plainS b).f9.length g9, .string (plainS b).f10.f0, .slice F11 (plainS b).f10.f1.length g11, .int .u64 (plainS b).f10.f2, .slice F13 (plainS b).f10.f3.length g13]) HP4.out HT4.out (Nat.lt_of_lt_of_le hlt (HB3.out.size))) (fun k hk hlt2 => (hW k (Nat.le_trans (Nat.le_trans HW0.out.size (HB3.out.size)) hk) hlt2).symm))
    have q5 := Kd.R_reads' (Kd.R_step (R_last (g := w.heap.size + 2) (c' := #[.int .i64 (dAt a.f5 b.f5), .int .i64 (dLess a.f5 b.f5), .slice B1 (dWith a.f5 b.f5).length d1, .int .i64 (dAt a.f6 b.f6), .int .i64 (dLess a.f6 b.f6), .slice B2 (dWith a.f6 b.f6).length d2, .int .i64 (dAt a.f7 b.f7), .int .i64 (dLess a.f7 b.f7), .slice B3 (dWith a.f7 b.f7).length d3, .int .i64 (dAt a.f8 b.f8), .int .i64 (dLess a.f8 b.f8), .slice B4 (dWith a.f8 b.f8).length d4, .int .i64 (dAt a.f9 b.f9), .int .i64 (dLess a.f9 b.f9), .slice B5 (dWith a.f9 b.f9).length d5, .int .i64 (dAt a.f10.f1 b.f10.f1), .int .i64 (dLess a.f10.f1 b.f10.f1), .slice B6 (dWith a.f10.f1 b.f10.f1).length d6, .int .i64 (dAt a.f10.f3 b.f10.f3), .int .i64 (dLess a.f10.f3 b.f10.f3), .slice B7 (dWith a.f10.f3 b.f10.f3).length d7, .int .i64 (plainS b).f0, .int .i64 (plainS b).f1, .int .i64 (plainS b).f2, .int .i64 (plainS b).f3, .int .u64 (plainS b).f4, .slice F5 (plainS b).f5.length g5, .slice F6 (plainS b).f6.length g6, .slice F7 (plainS b).f7.length g7, .slice F8 (plainS b).f8.length g8, .slice F9 (plainS b).f9.length g9, .string (plainS b).f10.f0, .slice F11 (plainS b).f10.f1.length g11, .int .u64 (plainS b).f10.f2, .slice F13 (plainS b).f10.f3.length g13]) HP5.out HT5.out (Nat.lt_of_lt_of_le hlt (HB4.out.size))) (fun k hk hlt2 => (hW k (Nat.le_trans (Nat.le_trans HW0.out.size (HB4.out.size)) hk) hlt2).symm))
    have q6 := Kd.R_reads' (Kd.R_step (R_last (g := w.heap.size + 2) (c' := #[.int .i64 (dAt a.f5 b.f5), .int .i64 (dLess a.f5 b.f5), .slice B1 (dWith a.f5 b.f5).length d1, .int .i64 (dAt a.f6 b.f6), .int .i64 (dLess a.f6 b.f6), .slice B2 (dWith a.f6 b.f6).length d2, .int .i64 (dAt a.f7 b.f7), .int .i64 (dLess a.f7 b.f7), .slice B3 (dWith a.f7 b.f7).length d3, .int .i64 (dAt a.f8 b.f8), .int .i64 (dLess a.f8 b.f8), .slice B4 (dWith a.f8 b.f8).length d4, .int .i64 (dAt a.f9 b.f9), .int .i64 (dLess a.f9 b.f9), .slice B5 (dWith a.f9 b.f9).length d5, .int .i64 (dAt a.f10.f1 b.f10.f1), .int .i64 (dLess a.f10.f1 b.f10.f1), .slice B6 (dWith a.f10.f1 b.f10.f1).length d6, .int .i64 (dAt a.f10.f3 b.f10.f3), .int .i64 (dLess a.f10.f3 b.f10.f3), .slice B7 (dWith a.f10.f3 b.f10.f3).length d7, .int .i64 (plainS b).f0, .int .i64 (plainS b).f1, .int .i64 (plainS b).f2, .int .i64 (plainS b).f3, .int .u64 (plainS b).f4, .slice F5 (plainS b).f5.length g5, .slice F6 (plainS b).f6.length g6, .slice F7 (plainS b).f7.length g7, .slice F8 (plainS b).f8.length g8, .slice F9 (plainS b).f9.length g9, .string (plainS b).f10.f0, .slice F11 (plainS b).f10.f1.length g11, .int .u64 (plainS b).f10.f2, .slice F13 (plainS b).f10.f3.length g13]) HP6.out HT6.out (Nat.lt_of_lt_of_le hlt (HB5.out.size))) (fun k hk hlt2 => (hW k (Nat.le_trans (Nat.le_trans HW0.out.size (HB5.out.size)) hk) hlt2).symm))
    have q7 := Kd.R_reads' (Kd.R_step (R_last (g := w.heap.size + 2) (c' := #[.int .i64 (dAt a.f5 b.f5), .int .i64 (dLess a.f5 b.f5), .slice B1 (dWith a.f5 b.f5).length d1, .int .i64 (dAt a.f6 b.f6), .int .i64 (dLess a.f6 b.f6), .slice B2 (dWith a.f6 b.f6).length d2, .int .i64 (dAt a.f7 b.f7), .int .i64 (dLess a.f7 b.f7), .slice B3 (dWith a.f7 b.f7).length d3, .int .i64 (dAt a.f8 b.f8), .int .i64 (dLess a.f8 b.f8), .slice B4 (dWith a.f8 b.f8).length d4, .int .i64 (dAt a.f9 b.f9), .int .i64 (dLess a.f9 b.f9), .slice B5 (dWith a.f9 b.f9).length d5, .int .i64 (dAt a.f10.f1 b.f10.f1), .int .i64 (dLess a.f10.f1 b.f10.f1), .slice B6 (dWith a.f10.f1 b.f10.f1).length d6, .int .i64 (dAt a.f10.f3 b.f10.f3), .int .i64 (dLess a.f10.f3 b.f10.f3), .slice B7 (dWith a.f10.f3 b.f10.f3).length d7, .int .i64 (plainS b).f0, .int .i64 (plainS b).f1, .int .i64 (plainS b).f2, .int .i64 (plainS b).f3, .int .u64 (plainS b).f4, .slice F5 (plainS b).f5.length g5, .slice F6 (plainS b).f6.length g6, .slice F7 (plainS b).f7.length g7, .slice F8 (plainS b).f8.length g8, .slice F9 (plainS b).f9.length g9, .string (plainS b).f10.f0, .slice F11 (plainS b).f10.f1.length g11, .int .u64 (plainS b).f10.f2, .slice F13 (plainS b).f10.f3.length g13]) HP7.out HT7.out (Nat.lt_of_lt_of_le hlt (HB6.out.size))) (fun k hk hlt2 => (hW k (Nat.le_trans (Nat.le_trans HW0.out.size (HB6.out.size)) hk) hlt2).symm))
    exact ⟨q1.2, q2.2, q3.2, q4.2, q5.2, q6.2, q7.2⟩
  have HBF := Aside0.mk (setRow_below (g := w.heap.size + 2) (cs := #[.int .i64 (dAt a.f5 b.f5), .int .i64 (dLess a.f5 b.f5), .slice B1 (dWith a.f5 b.f5).length d1, .int .i64 (dAt a.f6 b.f6), .int .i64 (dLess a.f6 b.f6), .slice B2 (dWith a.f6 b.f6).length d2, .int .i64 (dAt a.f7 b.f7), .int .i64 (dLess a.f7 b.f7), .slice B3 (dWith a.f7 b.f7).length d3, .int .i64 (dAt a.f8 b.f8), .int .i64 (dLess a.f8 b.f8), .slice B4 (dWith a.f8 b.f8).length d4, .int .i64 (dAt a.f9 b.f9), .int .i64 (dLess a.f9 b.f9), .slice B5 (dWith a.f9 b.f9).length d5, .int .i64 (dAt a.f10.f1 b.f10.f1), .int .i64 (dLess a.f10.f1 b.f10.f1), .slice B6 (dWith a.f10.f1 b.f10.f1).length d6, .int .i64 (dAt a.f10.f3 b.f10.f3), .int .i64 (dLess a.f10.f3 b.f10.f3), .slice B7 (dWith a.f10.f3 b.f10.f3).length d7, .int .i64 (plainS b).f0, .int .i64 (plainS b).f1, .int .i64 (plainS b).f2, .int .i64 (plainS b).f3, .int .u64 (plainS b).f4, .slice F5 (plainS b).f5.length g5, .slice F6 (plainS b).f6.length g6, .slice F7 (plainS b).f7.length g7, .slice F8 (plainS b).f8.length g8, .slice F9 (plainS b).f9.length g9, .string (plainS b).f10.f0, .slice F11 (plainS b).f10.f1.length g11, .int .u64 (plainS b).f10.f2, .slice F13 (plainS b).f10.f3.length g13]) (HW0.out.trans (HB8.out.mono HW0.out.size)) (by omega))
  have HRW := Aside0.mk (setRow_heap x8 (w.heap.size + 2) _ (#[.int .i64 (dAt a.f5 b.f5), .int .i64 (dLess a.f5 b.f5), .slice B1 (dWith a.f5 b.f5).length d1, .int .i64 (dAt a.f6 b.f6), .int .i64 (dLess a.f6 b.f6), .slice B2 (dWith a.f6 b.f6).length d2, .int .i64 (dAt a.f7 b.f7), .int .i64 (dLess a.f7 b.f7), .slice B3 (dWith a.f7 b.f7).length d3, .int .i64 (dAt a.f8 b.f8), .int .i64 (dLess a.f8 b.f8), .slice B4 (dWith a.f8 b.f8).length d4, .int .i64 (dAt a.f9 b.f9), .int .i64 (dLess a.f9 b.f9), .slice B5 (dWith a.f9 b.f9).length d5, .int .i64 (dAt a.f10.f1 b.f10.f1), .int .i64 (dLess a.f10.f1 b.f10.f1), .slice B6 (dWith a.f10.f1 b.f10.f1).length d6, .int .i64 (dAt a.f10.f3 b.f10.f3), .int .i64 (dLess a.f10.f3 b.f10.f3), .slice B7 (dWith a.f10.f3 b.f10.f3).length d7, .int .i64 (plainS b).f0, .int .i64 (plainS b).f1, .int .i64 (plainS b).f2, .int .i64 (plainS b).f3, .int .u64 (plainS b).f4, .slice F5 (plainS b).f5.length g5, .slice F6 (plainS b).f6.length g6, .slice F7 (plainS b).f7.length g7, .slice F8 (plainS b).f8.length g8, .slice F9 (plainS b).f9.length g9, .string (plainS b).f10.f0, .slice F11 (plainS b).f10.f1.length g11, .int .u64 (plainS b).f10.f2, .slice F13 (plainS b).f10.f3.length g13]) 61 (0, 0) hHeld.2.2.1)
  clear hlt
  refine hK.out _ _ ?_
  clear hK K
  refine done_ (by kernel_rfl) ?_
  generalize x8.setRow (w.heap.size + 2) (#[.int .i64 (dAt a.f5 b.f5), .int .i64 (dLess a.f5 b.f5), .slice B1 (dWith a.f5 b.f5).length d1, .int .i64 (dAt a.f6 b.f6), .int .i64 (dLess a.f6 b.f6), .slice B2 (dWith a.f6 b.f6).length d2, .int .i64 (dAt a.f7 b.f7), .int .i64 (dLess a.f7 b.f7), .slice B3 (dWith a.f7 b.f7).length d3, .int .i64 (dAt a.f8 b.f8), .int .i64 (dLess a.f8 b.f8), .slice B4 (dWith a.f8 b.f8).length d4, .int .i64 (dAt a.f9 b.f9), .int .i64 (dLess a.f9 b.f9), .slice B5 (dWith a.f9 b.f9).length d5, .int .i64 (dAt a.f10.f1 b.f10.f1), .int .i64 (dLess a.f10.f1 b.f10.f1), .slice B6 (dWith a.f10.f1 b.f10.f1).length d6, .int .i64 (dAt a.f10.f3 b.f10.f3), .int .i64 (dLess a.f10.f3 b.f10.f3), .slice B7 (dWith a.f10.f3 b.f10.f3).length d7, .int .i64 (plainS b).f0, .int .i64 (plainS b).f1, .int .i64 (plainS b).f2, .int .i64 (plainS b).f3, .int .u64 (plainS b).f4, .slice F5 (plainS b).f5.length g5, .slice F6 (plainS b).f6.length g6, .slice F7 (plainS b).f7.length g7, .slice F8 (plainS b).f8.length g8, .slice F9 (plainS b).f9.length g9, .string (plainS b).f10.f0, .slice F11 (plainS b).f10.f1.length g11, .int .u64 (plainS b).f10.f2, .slice F13 (plainS b).f10.f3.length g13]) = xf at HD HBF HRW ⊢
  go_wp2
  refine bodyPost_ret (results_cell_row rfl _ _ (w.heap.size + 2) 61 (#[.int .i64 (dAt a.f5 b.f5), .int .i64 (dLess a.f5 b.f5), .slice B1 (dWith a.f5 b.f5).length d1, .int .i64 (dAt a.f6 b.f6), .int .i64 (dLess a.f6 b.f6), .slice B2 (dWith a.f6 b.f6).length d2, .int .i64 (dAt a.f7 b.f7), .int .i64 (dLess a.f7 b.f7), .slice B3 (dWith a.f7 b.f7).length d3, .int .i64 (dAt a.f8 b.f8), .int .i64 (dLess a.f8 b.f8), .slice B4 (dWith a.f8 b.f8).length d4, .int .i64 (dAt a.f9 b.f9), .int .i64 (dLess a.f9 b.f9), .slice B5 (dWith a.f9 b.f9).length d5, .int .i64 (dAt a.f10.f1 b.f10.f1), .int .i64 (dLess a.f10.f1 b.f10.f1), .slice B6 (dWith a.f10.f1 b.f10.f1).length d6, .int .i64 (dAt a.f10.f3 b.f10.f3), .int .i64 (dLess a.f10.f3 b.f10.f3), .slice B7 (dWith a.f10.f3 b.f10.f3).length d7, .int .i64 (plainS b).f0, .int .i64 (plainS b).f1, .int .i64 (plainS b).f2, .int .i64 (plainS b).f3, .int .u64 (plainS b).f4, .slice F5 (plainS b).f5.length g5, .slice F6 (plainS b).f6.length g6, .slice F7 (plainS b).f7.length g7, .slice F8 (plainS b).f8.length g8, .slice F9 (plainS b).f9.length g9, .string (plainS b).f10.f0, .slice F11 (plainS b).f10.f1.length g11, .int .u64 (plainS b).f10.f2, .slice F13 (plainS b).f10.f3.length g13]) (0, 0) _ rfl HRW.out Try.underlying61 rfl (by kernel_rfl)) rfl ⟨_, rfl, HD.out, HBF.out⟩
theorem between_any (w : World) (va vb : Value) (a b : S46) (ha : SnapC w va a) (hb : SnapC w vb b) (hsa : tot a ≤ 1000) (hsb : tot b ≤ 1000) : Calls Try.prog 17 #[va, vb] w fun e w' => ∃ v', e = .returned v' ∧ DeltaC w' v' a b ∧ Below w.heap.size w w' := by
  refine (between_new w va vb a b ha hb hsa hsb).mono ?_
  rintro e w' ⟨v, rfl, hN, hbel⟩
  exact ⟨v, rfl, hN w' (fun _ _ _ => rfl), hbel⟩
end Go.Proofs.Ytfpbohfefliljaa.MD
