-- Walks made by a program (wip/givenprint.sh); Lean checks them.
import Derived.Test.YtimodbkfjaknhaaDoorMBitsSetsx0
import Derived.Test.YtimodbkfjaknhaaDoorMBitsSetsx1
namespace Go.Proofs.YtimodbkfjaknhaaDoor.MBitsSets
open Go.RowKit Go.Proofs.YtimodbkfjaknhaaDoorW.PrintWords Go.Proofs.YtimodbkfjaknhaaDoorW.PrintLast Go.Proofs.YtimodbkfjaknhaaDoorW.PrintMore
attribute [local go_sem] max2_int min2_int max_two min_two max_three min_three max_four min_four   -- for this text's walks alone
set_option linter.unusedVariables false
set_option linter.unusedSimpArgs false

/-! ### whirligiglaw10_BitsSets: function 5 -/
mutual
def whirligiglaw10_BitsSets.j0 : Nat → Int → Int → List Int → List Int → List Int → Bool → Option (Bool)
  | 0, _, _, _, _, _, _ => none
  | k + 1, x0, x1, x2, x9, x10, x50 => if x50 = true then (some false) else ((bits_Set_With.f k x0 x2).bind fun t123 => ((bits_Set_Without.f k x0 x2).bind fun t124 => ((bits_Set_Join.f k x0 (([x1] : List Int))).bind fun t128 => ((bits_Set_Meet.f x0 x1).bind fun t129 => ((bits_Set_Less.f x0 x1).bind fun t130 => (whirligiglaw10_BitsSets.l0 k x0 x1 x2 x9 x10 t123 t124 t128 t129 t130 true 0))))))
def whirligiglaw10_BitsSets.l0 : Nat → Int → Int → List Int → List Int → List Int → Int → Int → Int → Int → Int → Bool → Int → Option (Bool)
  | 0, _, _, _, _, _, _, _, _, _, _, _, _ => none
  | k + 1, x0, x1, x2, x9, x10, x11, x12, x13, x14, x15, x16, x67 => if x67 < 64 then ((whirligigref10_Has.f k x9 x67).bind fun t131 => ((whirligigref10_Has.f k x10 x67).bind fun t132 => ((whirligigref10_Has.f k x2 x67).bind fun t133 => ((bits_Set_Has.f x11 x67).bind fun t134 => (if t131 = true then (if (t134 != true) = true then (some false) else ((bits_Set_Has.f x12 x67).bind fun t135 => (if (t135 != (!t133)) = true then (some false) else ((bits_Set_Has.f x13 x67).bind fun t136 => (if (t136 != true) = true then (some false) else ((bits_Set_Has.f x14 x67).bind fun t137 => (if (t137 != t132) = true then (some false) else ((bits_Set_Has.f x15 x67).bind fun t138 => (if (t138 != (!t132)) = true then (some false) else (if x16 = true then (whirligiglaw10_BitsSets.l0 k x0 x1 x2 x9 x10 x11 x12 x13 x14 x15 t132 (wrap64 (x67 + 1))) else (whirligiglaw10_BitsSets.l0 k x0 x1 x2 x9 x10 x11 x12 x13 x14 x15 false (wrap64 (x67 + 1))))))))))))) else (if (t134 != t133) = true then (some false) else ((bits_Set_Has.f x12 x67).bind fun t139 => (if (t139 != false) = true then (some false) else ((bits_Set_Has.f x13 x67).bind fun t140 => (if (t140 != t132) = true then (some false) else ((bits_Set_Has.f x14 x67).bind fun t141 => (if (t141 != false) = true then (some false) else ((bits_Set_Has.f x15 x67).bind fun t142 => (if (t142 != false) = true then (some false) else (if x16 = true then (whirligiglaw10_BitsSets.l0 k x0 x1 x2 x9 x10 x11 x12 x13 x14 x15 true (wrap64 (x67 + 1))) else (whirligiglaw10_BitsSets.l0 k x0 x1 x2 x9 x10 x11 x12 x13 x14 x15 false (wrap64 (x67 + 1)))))))))))))))))) else ((bits_Set_In.f x0 x1).bind fun t143 => (if (t143 == x16) = true then ((bits_Set_Join.f k x0 ([] : List Int)).bind fun t144 => (if t144 = x0 then ((bits_Set_Join.f k x0 (([x1, x0] : List Int))).bind fun t148 => ((bits_Set_Join.f k x1 (([x0] : List Int))).bind fun t152 => (some (t148 == t152)))) else (some false))) else (some false)))
end
def whirligiglaw10_BitsSets.f (k : Nat) (a0 : Int) (a1 : Int) (l2 : List Int) (a3 : Int) : Option (Bool) := (whirligiglaw10_anchor.f).bind fun t111 => (if t111 = true then (if (l2.length : Int) > 100 then (some true) else ((whirligigref10_List.f k a0).bind fun t112 => ((whirligigref10_List.f k a1).bind fun t115 => ((bits_Of.f k l2).bind fun t118 => ((whirligigref10_Set.f k l2).bind fun t119 => (if t118 = t119 then ((bits_Set_Has.f a0 a3).bind fun t120 => ((whirligigref10_Has.f k t112 a3).bind fun t121 => (if (t120 != t121) = true then (whirligiglaw10_BitsSets.j0 k a0 a1 l2 t112 t115 true) else ((bits_Set_Count.f a0).bind fun t122 => (whirligiglaw10_BitsSets.j0 k a0 a1 l2 t112 t115 (t122 != (t112.length : Int))))))) else (whirligiglaw10_BitsSets.j0 k a0 a1 l2 t112 t115 true))))))) else (some false))
theorem whirligiglaw10_BitsSets.mono_l : ∀ k, (∀ y0 y1 y2 y3 y4 y5, LeO (whirligiglaw10_BitsSets.j0 k y0 y1 y2 y3 y4 y5) (whirligiglaw10_BitsSets.j0 (k + 1) y0 y1 y2 y3 y4 y5)) ∧ (∀ y0 y1 y2 y3 y4 y5 y6 y7 y8 y9 y10 y11, LeO (whirligiglaw10_BitsSets.l0 k y0 y1 y2 y3 y4 y5 y6 y7 y8 y9 y10 y11) (whirligiglaw10_BitsSets.l0 (k + 1) y0 y1 y2 y3 y4 y5 y6 y7 y8 y9 y10 y11))
  | 0 => ⟨fun _ _ _ _ _ _ r h => by simp [whirligiglaw10_BitsSets.j0] at h, fun _ _ _ _ _ _ _ _ _ _ _ _ r h => by simp [whirligiglaw10_BitsSets.l0] at h⟩
  | k + 1 => by
    obtain ⟨ih0, ih1⟩ := whirligiglaw10_BitsSets.mono_l k
    refine ⟨?_, ?_⟩
    · intro y0 y1 y2 y3 y4 y5
      unfold whirligiglaw10_BitsSets.j0
      repeat' first
      | (with_reducible exact ih0 _ _ _ _ _ _)
      | (with_reducible exact ih1 _ _ _ _ _ _ _ _ _ _ _ _)
      | (with_reducible exact bits_Of.mono _ _)
      | (with_reducible exact bits_Set_Join.mono _ _ _)
      | (with_reducible exact bits_Set_With.mono _ _ _)
      | (with_reducible exact bits_Set_Without.mono _ _ _)
      | (with_reducible exact whirligigref10_Has.mono _ _ _)
      | (with_reducible exact whirligigref10_List.mono _ _)
      | (with_reducible exact whirligigref10_Set.mono _ _)
      | (with_reducible exact LeO.refl _)
      | (with_reducible exact LeO.none _)
      | (with_reducible refine LeO.ite ?_ ?_)
      | (with_reducible refine LeO.bind ?_ (fun _ => ?_))
      | exact ih0 _ _ _ _ _ _
      | exact ih1 _ _ _ _ _ _ _ _ _ _ _ _
      | exact bits_Of.mono _ _
      | exact bits_Set_Join.mono _ _ _
      | exact bits_Set_With.mono _ _ _
      | exact bits_Set_Without.mono _ _ _
      | exact whirligigref10_Has.mono _ _ _
      | exact whirligigref10_List.mono _ _
      | exact whirligigref10_Set.mono _ _
      | exact LeO.none _
      | refine LeO.ite ?_ ?_
      | refine LeO.bind ?_ (fun _ => ?_)
    · intro y0 y1 y2 y3 y4 y5 y6 y7 y8 y9 y10 y11
      unfold whirligiglaw10_BitsSets.l0
      repeat' first
      | (with_reducible exact ih0 _ _ _ _ _ _)
      | (with_reducible exact ih1 _ _ _ _ _ _ _ _ _ _ _ _)
      | (with_reducible exact bits_Of.mono _ _)
      | (with_reducible exact bits_Set_Join.mono _ _ _)
      | (with_reducible exact bits_Set_With.mono _ _ _)
      | (with_reducible exact bits_Set_Without.mono _ _ _)
      | (with_reducible exact whirligigref10_Has.mono _ _ _)
      | (with_reducible exact whirligigref10_List.mono _ _)
      | (with_reducible exact whirligigref10_Set.mono _ _)
      | (with_reducible exact LeO.refl _)
      | (with_reducible exact LeO.none _)
      | (with_reducible refine LeO.ite ?_ ?_)
      | (with_reducible refine LeO.bind ?_ (fun _ => ?_))
      | exact ih0 _ _ _ _ _ _
      | exact ih1 _ _ _ _ _ _ _ _ _ _ _ _
      | exact bits_Of.mono _ _
      | exact bits_Set_Join.mono _ _ _
      | exact bits_Set_With.mono _ _ _
      | exact bits_Set_Without.mono _ _ _
      | exact whirligigref10_Has.mono _ _ _
      | exact whirligigref10_List.mono _ _
      | exact whirligigref10_Set.mono _ _
      | exact LeO.none _
      | refine LeO.ite ?_ ?_
      | refine LeO.bind ?_ (fun _ => ?_)
theorem whirligiglaw10_BitsSets.mono : ∀ a0 a1 a2 a3 k, LeO (whirligiglaw10_BitsSets.f k a0 a1 a2 a3) (whirligiglaw10_BitsSets.f (k + 1) a0 a1 a2 a3) := by
  intro a0 a1 a2 a3 k
  obtain ⟨ih0, ih1⟩ := whirligiglaw10_BitsSets.mono_l k
  unfold whirligiglaw10_BitsSets.f
  repeat' first
      | (with_reducible exact ih0 _ _ _ _ _ _)
      | (with_reducible exact ih1 _ _ _ _ _ _ _ _ _ _ _ _)
      | (with_reducible exact bits_Of.mono _ _)
      | (with_reducible exact bits_Set_Join.mono _ _ _)
      | (with_reducible exact bits_Set_With.mono _ _ _)
      | (with_reducible exact bits_Set_Without.mono _ _ _)
      | (with_reducible exact whirligigref10_Has.mono _ _ _)
      | (with_reducible exact whirligigref10_List.mono _ _)
      | (with_reducible exact whirligigref10_Set.mono _ _)
      | (with_reducible exact LeO.refl _)
      | (with_reducible exact LeO.none _)
      | (with_reducible refine LeO.ite ?_ ?_)
      | (with_reducible refine LeO.bind ?_ (fun _ => ?_))
      | exact ih0 _ _ _ _ _ _
      | exact ih1 _ _ _ _ _ _ _ _ _ _ _ _
      | exact bits_Of.mono _ _
      | exact bits_Set_Join.mono _ _ _
      | exact bits_Set_With.mono _ _ _
      | exact bits_Set_Without.mono _ _ _
      | exact whirligigref10_Has.mono _ _ _
      | exact whirligigref10_List.mono _ _
      | exact whirligigref10_Set.mono _ _
      | exact LeO.none _
      | refine LeO.ite ?_ ?_
      | refine LeO.bind ?_ (fun _ => ?_)
set_option maxHeartbeats 0 in
set_option maxRecDepth 100000 in
theorem whirligiglaw10_BitsSets.calls (k : Nat) (a0 : Int) (a1 : Int) (A2 : Option Addr) (c2 : Nat) (l2 : List Int) (a3 : Int) (r : Bool) (w : World) [TabFact w] (hr2 : Kd.C (Kd.int .i64) w A2 l2.length l2) (hc2 : l2.length ≤ c2) (h : whirligiglaw10_BitsSets.f k a0 a1 l2 a3 = some r) :
    Calls Tryd.prog 5 #[.int .u64 a0, .int .u64 a1, .slice A2 l2.length c2, .int .i64 a3] w fun e w' => e = .returned (.bool r) ∧ Below w.heap.size w w' := by
  have HR2 := Aside0.mk hr2
  have HC2 := Aside0.mk hc2
  clear hr2 hc2
  have HB := Aside0.mk (Below.refl w.heap.size w)
  have H : ((whirligiglaw10_anchor.f).bind fun t111 => (if t111 = true then (if (l2.length : Int) > 100 then (some true) else ((whirligigref10_List.f k a0).bind fun t112 => ((whirligigref10_List.f k a1).bind fun t115 => ((bits_Of.f k l2).bind fun t118 => ((whirligigref10_Set.f k l2).bind fun t119 => (if t118 = t119 then ((bits_Set_Has.f a0 a3).bind fun t120 => ((whirligigref10_Has.f k t112 a3).bind fun t121 => (if (t120 != t121) = true then (whirligiglaw10_BitsSets.j0 k a0 a1 l2 t112 t115 true) else ((bits_Set_Count.f a0).bind fun t122 => (whirligiglaw10_BitsSets.j0 k a0 a1 l2 t112 t115 (t122 != (t112.length : Int))))))) else (whirligiglaw10_BitsSets.j0 k a0 a1 l2 t112 t115 true))))))) else (some false))) = some r := h
  clear h
  replace H := Option.bind_eq_some_iff.mp H
  obtain ⟨t111, A50, H⟩ := H
  replace H : (if t111 = true then (if (l2.length : Int) > 100 then (some true) else ((whirligigref10_List.f k a0).bind fun t112 => ((whirligigref10_List.f k a1).bind fun t115 => ((bits_Of.f k l2).bind fun t118 => ((whirligigref10_Set.f k l2).bind fun t119 => (if t118 = t119 then ((bits_Set_Has.f a0 a3).bind fun t120 => ((whirligigref10_Has.f k t112 a3).bind fun t121 => (if (t120 != t121) = true then (whirligiglaw10_BitsSets.j0 k a0 a1 l2 t112 t115 true) else ((bits_Set_Count.f a0).bind fun t122 => (whirligiglaw10_BitsSets.j0 k a0 a1 l2 t112 t115 (t122 != (t112.length : Int))))))) else (whirligiglaw10_BitsSets.j0 k a0 a1 l2 t112 t115 true))))))) else (some false)) = some r := H
  have A5 := Aside0.mk A50
  clear A50
  by_cases c6 : t111 = true
  · subst c6
    have H1 : (if (l2.length : Int) > 100 then (some true) else ((whirligigref10_List.f k a0).bind fun t112 => ((whirligigref10_List.f k a1).bind fun t115 => ((bits_Of.f k l2).bind fun t118 => ((whirligigref10_Set.f k l2).bind fun t119 => (if t118 = t119 then ((bits_Set_Has.f a0 a3).bind fun t120 => ((whirligigref10_Has.f k t112 a3).bind fun t121 => (if (t120 != t121) = true then (whirligiglaw10_BitsSets.j0 k a0 a1 l2 t112 t115 true) else ((bits_Set_Count.f a0).bind fun t122 => (whirligiglaw10_BitsSets.j0 k a0 a1 l2 t112 t115 (t122 != (t112.length : Int))))))) else (whirligiglaw10_BitsSets.j0 k a0 a1 l2 t112 t115 true))))))) = some r := by rw [if_pos rfl] at H; exact H
    clear H
    have H := H1
    clear H1
    by_cases c7 : (l2.length : Int) > 100
    · rw [if_pos c7] at H
      have c7b0 : decide (100 < (l2.length : Int)) = true := decide_eq_true c7
      have c7b1 : decide (100 < l2.length) = true := decide_eq_true (by omega)
      clear c7
      obtain rfl := Option.some.inj H
      go_enter Tryd.func5, Tryd.ntmps5
      go_wp2_with (first | ((with_reducible refine gate_callee (f := 6) rfl ?_); refine goesL_ (some 21) rfl rfl Tryd.func6 (by kernel_rfl) rfl #[] rfl (by (try simp only [List.map_toArray, List.map_cons, List.map_nil]); first | done | rfl | (simp only [List.length_drop, List.length_take]; rfl)) ?_; (with_reducible refine (whirligiglaw10_anchor.calls  true _ A5.out).mono ?_); rintro e w8 ⟨rfl, hb⟩; refine ⟨_, rfl, ?_⟩; have n0_ := Aside0.mk (below_step (by repeat (first | (with_reducible first | exact HB.out | apply below_alloc | apply pw_below_drewN | apply below_drew1) | exact HB.out)) hb); clear HB; have HB := n0_; clear n0_; (try clear hb); (try clear hb2); (try clear hk); (try clear hi)))
      go_ret
      exact ⟨by first | rfl | (simp [errW_none, errW_some] <;> rfl) | (simp [*, errW_none, errW_some] <;> rfl), by repeat (first | (with_reducible first | exact HB.out | apply below_alloc | apply pw_below_drewN | apply below_drew1) | exact HB.out)⟩
    · rw [if_neg c7] at H
      have c7b0 : decide (100 < (l2.length : Int)) = false := decide_eq_false c7
      have c7b1 : decide (100 < l2.length) = false := decide_eq_false (by omega)
      clear c7
      replace H := Option.bind_eq_some_iff.mp H
      obtain ⟨t112, A90, H⟩ := H
      replace H : ((whirligigref10_List.f k a1).bind fun t115 => ((bits_Of.f k l2).bind fun t118 => ((whirligigref10_Set.f k l2).bind fun t119 => (if t118 = t119 then ((bits_Set_Has.f a0 a3).bind fun t120 => ((whirligigref10_Has.f k t112 a3).bind fun t121 => (if (t120 != t121) = true then (whirligiglaw10_BitsSets.j0 k a0 a1 l2 t112 t115 true) else ((bits_Set_Count.f a0).bind fun t122 => (whirligiglaw10_BitsSets.j0 k a0 a1 l2 t112 t115 (t122 != (t112.length : Int))))))) else (whirligiglaw10_BitsSets.j0 k a0 a1 l2 t112 t115 true))))) = some r := H
      have A9 := Aside0.mk A90
      clear A90
      replace H := Option.bind_eq_some_iff.mp H
      obtain ⟨t115, A100, H⟩ := H
      replace H : ((bits_Of.f k l2).bind fun t118 => ((whirligigref10_Set.f k l2).bind fun t119 => (if t118 = t119 then ((bits_Set_Has.f a0 a3).bind fun t120 => ((whirligigref10_Has.f k t112 a3).bind fun t121 => (if (t120 != t121) = true then (whirligiglaw10_BitsSets.j0 k a0 a1 l2 t112 t115 true) else ((bits_Set_Count.f a0).bind fun t122 => (whirligiglaw10_BitsSets.j0 k a0 a1 l2 t112 t115 (t122 != (t112.length : Int))))))) else (whirligiglaw10_BitsSets.j0 k a0 a1 l2 t112 t115 true)))) = some r := H
      have A10 := Aside0.mk A100
      clear A100
      have HC11 := Aside0.mk H
      clear H
      go_enter Tryd.func5, Tryd.ntmps5
      go_upto_region 6 with (first | ((with_reducible refine gate_callee (f := 6) rfl ?_); refine goesL_ (some 21) rfl rfl Tryd.func6 (by kernel_rfl) rfl #[] rfl (by (try simp only [List.map_toArray, List.map_cons, List.map_nil]); first | done | rfl | (simp only [List.length_drop, List.length_take]; rfl)) ?_; (with_reducible refine (whirligiglaw10_anchor.calls  true _ A5.out).mono ?_); rintro e w12 ⟨rfl, hb⟩; refine ⟨_, rfl, ?_⟩; have n0_ := Aside0.mk (below_step (by repeat (first | (with_reducible first | exact HB.out | apply below_alloc | apply pw_below_drewN | apply below_drew1) | exact HB.out)) hb); clear HB; have HB := n0_; clear n0_; (try clear hb); (try clear hb2); (try clear hk); (try clear hi)) | ((with_reducible refine gate_callee (f := 7) rfl ?_); refine goesL_ (some 27) rfl rfl Tryd.func7 (by kernel_rfl) rfl #[.int .u64 a0] rfl (by (try simp only [List.map_toArray, List.map_cons, List.map_nil]); first | done | rfl | (simp only [List.length_drop, List.length_take]; rfl)) ?_; (with_reducible refine (whirligigref10_List.calls k a0 t112 _ A9.out).mono ?_); rintro e w13 ⟨v113, rfl, ho0, hb⟩; refine ⟨_, rfl, ?_⟩; have n0_ := Aside0.mk (Kd.R_lower ho0 (below_size (by repeat (first | (with_reducible first | exact HB.out | apply below_alloc | apply pw_below_drewN | apply below_drew1) | exact HB.out)))); have n1_ := Aside0.mk (below_step (by repeat (first | (with_reducible first | exact HB.out | apply below_alloc | apply pw_below_drewN | apply below_drew1) | exact HB.out)) hb); clear HB; have HO114 := n0_; have HB := n1_; clear n0_ n1_; (try clear hb); (try clear hb2); (try clear hk); (try clear hi); (try clear ho0)) | ((with_reducible refine gate_callee (f := 7) rfl ?_); refine goesL_ (some 29) rfl rfl Tryd.func7 (by kernel_rfl) rfl #[.int .u64 a1] rfl (by (try simp only [List.map_toArray, List.map_cons, List.map_nil]); first | done | rfl | (simp only [List.length_drop, List.length_take]; rfl)) ?_; (with_reducible refine (whirligigref10_List.calls k a1 t115 _ A10.out).mono ?_); rintro e w14 ⟨v116, rfl, ho0, hb⟩; refine ⟨_, rfl, ?_⟩; have n0_ := Aside0.mk (Kd.R_elder' (by (with_reducible repeat (first | apply Kd.R_alloc | apply Kd.R_drewN | apply Kd.R_drew)); exact HO114.out) (Kd.R_base ho0) hb); have n1_ := Aside0.mk (Kd.R_lower (Kd.R_new' ho0 (Kd.R_lt (by (with_reducible repeat (first | apply Kd.R_alloc | apply Kd.R_drewN | apply Kd.R_drew)); exact HO114.out))) (below_size (by repeat (first | (with_reducible first | exact HB.out | apply below_alloc | apply pw_below_drewN | apply below_drew1) | exact HB.out)))); have n2_ := Aside0.mk (below_step (by repeat (first | (with_reducible first | exact HB.out | apply below_alloc | apply pw_below_drewN | apply below_drew1) | exact HB.out)) hb); clear HO114; clear HB; have HO114 := n0_; have HO117 := n1_; have HB := n2_; clear n0_ n1_ n2_; (try clear hb); (try clear hb2); (try clear hk); (try clear hi); (try clear ho0)))
      (try simp only [Act.put, List.setIfInBounds_toArray, List.set_cons_zero, List.set_cons_succ])
      go_cut [50] (fun v50 wc => ∃ (kq : Nat) (x50_10 : Bool), v50 = .bool x50_10 ∧ Aside0 (whirligiglaw10_BitsSets.j0 kq a0 a1 l2 t112 t115 x50_10 = some r) ∧ Aside0 (kq ≤ k) ∧ Aside0 (Kd.R (Kd.int .i64) 3 wc w.heap.size (fun k_ => some k_ ≠ (v116 : Value).ownBlock) v113 t112) ∧ Aside0 (Kd.R (Kd.int .i64) 3 wc w.heap.size (fun k_ => some k_ ≠ (v113 : Value).ownBlock) v116 t115) ∧ Aside0 (Below w.heap.size w wc))
      case first =>
        have H := HC11.out
        clear HC11
        replace H := Option.bind_eq_some_iff.mp H
        obtain ⟨t118, A150, H⟩ := H
        replace H : ((whirligigref10_Set.f k l2).bind fun t119 => (if t118 = t119 then ((bits_Set_Has.f a0 a3).bind fun t120 => ((whirligigref10_Has.f k t112 a3).bind fun t121 => (if (t120 != t121) = true then (whirligiglaw10_BitsSets.j0 k a0 a1 l2 t112 t115 true) else ((bits_Set_Count.f a0).bind fun t122 => (whirligiglaw10_BitsSets.j0 k a0 a1 l2 t112 t115 (t122 != (t112.length : Int))))))) else (whirligiglaw10_BitsSets.j0 k a0 a1 l2 t112 t115 true))) = some r := H
        have A15 := Aside0.mk A150
        clear A150
        replace H := Option.bind_eq_some_iff.mp H
        obtain ⟨t119, A160, H⟩ := H
        replace H : (if t118 = t119 then ((bits_Set_Has.f a0 a3).bind fun t120 => ((whirligigref10_Has.f k t112 a3).bind fun t121 => (if (t120 != t121) = true then (whirligiglaw10_BitsSets.j0 k a0 a1 l2 t112 t115 true) else ((bits_Set_Count.f a0).bind fun t122 => (whirligiglaw10_BitsSets.j0 k a0 a1 l2 t112 t115 (t122 != (t112.length : Int))))))) else (whirligiglaw10_BitsSets.j0 k a0 a1 l2 t112 t115 true)) = some r := H
        have A16 := Aside0.mk A160
        clear A160
        by_cases c17 : t118 = t119
        · rw [if_pos c17] at H
          have c17b0 : (t118 == t119) = true := beq_iff_eq.mpr c17
          have c17b1 : (t118 != t119) = false := bne_eq_false_iff_eq.mpr c17
          clear c17
          (first | rw [c17b0] | (simp only [i64_w, i32_w]; rw [c17b0]) | skip)
          replace H := Option.bind_eq_some_iff.mp H
          obtain ⟨t120, A180, H⟩ := H
          replace H : ((whirligigref10_Has.f k t112 a3).bind fun t121 => (if (t120 != t121) = true then (whirligiglaw10_BitsSets.j0 k a0 a1 l2 t112 t115 true) else ((bits_Set_Count.f a0).bind fun t122 => (whirligiglaw10_BitsSets.j0 k a0 a1 l2 t112 t115 (t122 != (t112.length : Int)))))) = some r := H
          have A18 := Aside0.mk A180
          clear A180
          replace H := Option.bind_eq_some_iff.mp H
          obtain ⟨t121, A190, H⟩ := H
          replace H : (if (t120 != t121) = true then (whirligiglaw10_BitsSets.j0 k a0 a1 l2 t112 t115 true) else ((bits_Set_Count.f a0).bind fun t122 => (whirligiglaw10_BitsSets.j0 k a0 a1 l2 t112 t115 (t122 != (t112.length : Int))))) = some r := H
          have A19 := Aside0.mk A190
          clear A190
          by_cases c20 : (t120 != t121) = true
          · rw [if_pos c20] at H
            have c20b0 : (t120 != t121) = true := c20
            (try (have c20b1 : decide (t120 = t121) = false := by simpa using c20))
            (try (have c20b2 : (t120 == t121) = false := by simpa using c20))
            (try (have c20b3 : ¬ (t120 = t121) := by simpa using c20))
            clear c20
            have H' := Aside0.mk H
            clear H
            go_wp2_with (first | ((with_reducible refine gate_callee (f := 19) rfl ?_); refine goesL_ (some 31) rfl rfl Tryd.func19 (by kernel_rfl) rfl #[.slice A2 l2.length c2] rfl (by (try simp only [List.map_toArray, List.map_cons, List.map_nil]); first | done | rfl | (simp only [List.length_drop, List.length_take]; rfl)) ?_; (with_reducible refine (bits_Of.calls k _ _ l2 t118 _ ?side1 ?side2 A15.out).mono ?_); (case side1 => repeat (first | exact (Kd.C_below HR2.out HB.out) | (with_reducible refine Kd.C_alloc ?_ _) | (with_reducible refine Kd.C_drewN ?_ _) | (with_reducible refine Kd.C_drew ?_))); (case side2 => exact HC2.out); rintro e w' ⟨rfl, ⟨nd, rfl⟩⟩; refine ⟨_, rfl, ?_⟩) | ((with_reducible refine gate_callee (f := 20) rfl ?_); refine goesL_ (some 33) rfl rfl Tryd.func20 (by kernel_rfl) rfl #[.slice A2 l2.length c2] rfl (by (try simp only [List.map_toArray, List.map_cons, List.map_nil]); first | done | rfl | (simp only [List.length_drop, List.length_take]; rfl)) ?_; (with_reducible refine (whirligigref10_Set.calls k _ _ l2 t119 _ ?side1 ?side2 A16.out).mono ?_); (case side1 => repeat (first | exact (Kd.C_below HR2.out (by repeat (first | (with_reducible first | exact HB.out | apply below_alloc | apply pw_below_drewN | apply below_drew1) | exact HB.out))) | (with_reducible refine Kd.C_alloc ?_ _) | (with_reducible refine Kd.C_drewN ?_ _) | (with_reducible refine Kd.C_drew ?_))); (case side2 => exact HC2.out); rintro e w' ⟨rfl, ⟨nd, rfl⟩⟩; refine ⟨_, rfl, ?_⟩) | (go_at_call 21; (with_reducible refine (bits_Set_Has.calls a0 a3 t120 _ A18.out).mono ?_); rintro e w' ⟨rfl, ⟨nd, rfl⟩⟩; obtain ⟨Ao21, co21, eo21⟩ := Kd.R_slice HO114.out; subst eo21) | (go_at_call 22; (with_reducible refine (whirligigref10_Has.calls k _ _ t112 a3 t121 _ ?side1 ?side2 A19.out).mono ?_); (case side1 => repeat (first | exact (Kd.R_reads' HO114.out).2.2 | (with_reducible refine Kd.C_alloc ?_ _) | (with_reducible refine Kd.C_drewN ?_ _) | (with_reducible refine Kd.C_drew ?_))); (case side2 => exact (Kd.R_reads' HO114.out).2.1); rintro e w' ⟨rfl, ⟨nd, rfl⟩⟩))
            go_meet
            case rel => exact ⟨_, (true), (by first | rfl | (simp; done) | (simp [*]; done)), H', ⟨by first | omega | exact Nat.le_refl _⟩, ⟨by (with_reducible repeat (first | apply Kd.R_alloc | apply Kd.R_drewN | apply Kd.R_drew)); exact Kd.R_mono HO114.out (fun _ hk => hk.2)⟩, ⟨by (with_reducible repeat (first | apply Kd.R_alloc | apply Kd.R_drewN | apply Kd.R_drew)); exact Kd.R_mono HO117.out (fun _ hk => hk.2)⟩, ⟨by repeat (first | (with_reducible first | exact HB.out | apply below_alloc | apply pw_below_drewN | apply below_drew1) | exact HB.out)⟩⟩
          · rw [if_neg c20] at H
            have c20b0 : (t120 != t121) = false := by simpa using c20
            (try (have c20b1 : decide (t120 = t121) = true := by simpa using c20))
            (try (have c20b2 : (t120 == t121) = true := by simpa using c20))
            clear c20
            replace H := Option.bind_eq_some_iff.mp H
            obtain ⟨t122, A220, H⟩ := H
            replace H : (whirligiglaw10_BitsSets.j0 k a0 a1 l2 t112 t115 (t122 != (t112.length : Int))) = some r := H
            have A22 := Aside0.mk A220
            clear A220
            have H' := Aside0.mk H
            clear H
            go_wp2_with (first | ((with_reducible refine gate_callee (f := 19) rfl ?_); refine goesL_ (some 31) rfl rfl Tryd.func19 (by kernel_rfl) rfl #[.slice A2 l2.length c2] rfl (by (try simp only [List.map_toArray, List.map_cons, List.map_nil]); first | done | rfl | (simp only [List.length_drop, List.length_take]; rfl)) ?_; (with_reducible refine (bits_Of.calls k _ _ l2 t118 _ ?side1 ?side2 A15.out).mono ?_); (case side1 => repeat (first | exact (Kd.C_below HR2.out HB.out) | (with_reducible refine Kd.C_alloc ?_ _) | (with_reducible refine Kd.C_drewN ?_ _) | (with_reducible refine Kd.C_drew ?_))); (case side2 => exact HC2.out); rintro e w' ⟨rfl, ⟨nd, rfl⟩⟩; refine ⟨_, rfl, ?_⟩) | ((with_reducible refine gate_callee (f := 20) rfl ?_); refine goesL_ (some 33) rfl rfl Tryd.func20 (by kernel_rfl) rfl #[.slice A2 l2.length c2] rfl (by (try simp only [List.map_toArray, List.map_cons, List.map_nil]); first | done | rfl | (simp only [List.length_drop, List.length_take]; rfl)) ?_; (with_reducible refine (whirligigref10_Set.calls k _ _ l2 t119 _ ?side1 ?side2 A16.out).mono ?_); (case side1 => repeat (first | exact (Kd.C_below HR2.out (by repeat (first | (with_reducible first | exact HB.out | apply below_alloc | apply pw_below_drewN | apply below_drew1) | exact HB.out))) | (with_reducible refine Kd.C_alloc ?_ _) | (with_reducible refine Kd.C_drewN ?_ _) | (with_reducible refine Kd.C_drew ?_))); (case side2 => exact HC2.out); rintro e w' ⟨rfl, ⟨nd, rfl⟩⟩; refine ⟨_, rfl, ?_⟩) | (go_at_call 21; (with_reducible refine (bits_Set_Has.calls a0 a3 t120 _ A18.out).mono ?_); rintro e w' ⟨rfl, ⟨nd, rfl⟩⟩; obtain ⟨Ao23, co23, eo23⟩ := Kd.R_slice HO114.out; subst eo23) | (go_at_call 22; (with_reducible refine (whirligigref10_Has.calls k _ _ t112 a3 t121 _ ?side1 ?side2 A19.out).mono ?_); (case side1 => repeat (first | exact (Kd.R_reads' HO114.out).2.2 | (with_reducible refine Kd.C_alloc ?_ _) | (with_reducible refine Kd.C_drewN ?_ _) | (with_reducible refine Kd.C_drew ?_))); (case side2 => exact (Kd.R_reads' HO114.out).2.1); rintro e w' ⟨rfl, ⟨nd, rfl⟩⟩) | (go_at_call 18; (with_reducible refine (bits_Set_Count.calls a0 t122 _ A22.out).mono ?_); rintro e w' ⟨rfl, ⟨nd, rfl⟩⟩))
            go_meet
            case rel => exact ⟨_, ((t122 != (t112.length : Int))), (by first | rfl | (simp; done) | (simp [*]; done)), H', ⟨by first | omega | exact Nat.le_refl _⟩, ⟨by (with_reducible repeat (first | apply Kd.R_alloc | apply Kd.R_drewN | apply Kd.R_drew)); exact Kd.R_mono HO114.out (fun _ hk => hk.2)⟩, ⟨by (with_reducible repeat (first | apply Kd.R_alloc | apply Kd.R_drewN | apply Kd.R_drew)); exact Kd.R_mono HO117.out (fun _ hk => hk.2)⟩, ⟨by repeat (first | (with_reducible first | exact HB.out | apply below_alloc | apply pw_below_drewN | apply below_drew1) | exact HB.out)⟩⟩
        · rw [if_neg c17] at H
          have c17b0 : (t118 == t119) = false := beq_eq_false_iff_ne.mpr c17
          have c17b1 : (t118 != t119) = true := bne_iff_ne.mpr c17
          (first | rw [c17b0] | (simp only [i64_w, i32_w]; rw [c17b0]) | skip)
          have H' := Aside0.mk H
          clear H
          go_wp2_with (first | ((with_reducible refine gate_callee (f := 19) rfl ?_); refine goesL_ (some 31) rfl rfl Tryd.func19 (by kernel_rfl) rfl #[.slice A2 l2.length c2] rfl (by (try simp only [List.map_toArray, List.map_cons, List.map_nil]); first | done | rfl | (simp only [List.length_drop, List.length_take]; rfl)) ?_; (with_reducible refine (bits_Of.calls k _ _ l2 t118 _ ?side1 ?side2 A15.out).mono ?_); (case side1 => repeat (first | exact (Kd.C_below HR2.out HB.out) | (with_reducible refine Kd.C_alloc ?_ _) | (with_reducible refine Kd.C_drewN ?_ _) | (with_reducible refine Kd.C_drew ?_))); (case side2 => exact HC2.out); rintro e w' ⟨rfl, ⟨nd, rfl⟩⟩; refine ⟨_, rfl, ?_⟩) | ((with_reducible refine gate_callee (f := 20) rfl ?_); refine goesL_ (some 33) rfl rfl Tryd.func20 (by kernel_rfl) rfl #[.slice A2 l2.length c2] rfl (by (try simp only [List.map_toArray, List.map_cons, List.map_nil]); first | done | rfl | (simp only [List.length_drop, List.length_take]; rfl)) ?_; (with_reducible refine (whirligigref10_Set.calls k _ _ l2 t119 _ ?side1 ?side2 A16.out).mono ?_); (case side1 => repeat (first | exact (Kd.C_below HR2.out (by repeat (first | (with_reducible first | exact HB.out | apply below_alloc | apply pw_below_drewN | apply below_drew1) | exact HB.out))) | (with_reducible refine Kd.C_alloc ?_ _) | (with_reducible refine Kd.C_drewN ?_ _) | (with_reducible refine Kd.C_drew ?_))); (case side2 => exact HC2.out); rintro e w' ⟨rfl, ⟨nd, rfl⟩⟩; refine ⟨_, rfl, ?_⟩))
          go_meet
          case rel => exact ⟨_, (true), (by first | rfl | (simp; done) | (simp [*]; done)), H', ⟨by first | omega | exact Nat.le_refl _⟩, ⟨by (with_reducible repeat (first | apply Kd.R_alloc | apply Kd.R_drewN | apply Kd.R_drew)); exact Kd.R_mono HO114.out (fun _ hk => hk.2)⟩, ⟨by (with_reducible repeat (first | apply Kd.R_alloc | apply Kd.R_drewN | apply Kd.R_drew)); exact Kd.R_mono HO117.out (fun _ hk => hk.2)⟩, ⟨by repeat (first | (with_reducible first | exact HB.out | apply below_alloc | apply pw_below_drewN | apply below_drew1) | exact HB.out)⟩⟩
      case rest =>
        clear HC11
        try clear c1
        try clear c2
        try clear p2
        try clear c5
        try clear c6
        try clear c7
        try clear c7b0
        try clear c7b1
        try clear c17
        try clear c17b0
        try clear c17b1
        try clear c19
        try clear c20
        try clear c20b0
        try clear c20b1
        try clear c20b2
        obtain ⟨kq, x50_10, rfl, HA, HJ10, HO_9, HO_10, HB⟩ := hcut
        cases kq with
        | zero => exact absurd HA.out (by simp [whirligiglaw10_BitsSets.j0])
        | succ kj10 =>
          have H := HA.out
          clear HA
          simp only [whirligiglaw10_BitsSets.j0] at H
          by_cases c24 : x50_10 = true
          · subst c24
            have H1 : (some false) = some r := by rw [if_pos rfl] at H; exact H
            clear H
            have H := H1
            clear H1
            obtain rfl := Option.some.inj H
            go_wp2
            go_ret
            exact ⟨by first | rfl | (simp [errW_none, errW_some] <;> rfl) | (simp [*, errW_none, errW_some] <;> rfl), by repeat (first | (with_reducible first | exact HB.out | apply below_alloc | apply pw_below_drewN | apply below_drew1) | exact HB.out)⟩
          · replace c24 := Bool.eq_false_iff.mpr c24
            subst c24
            have H1 : ((bits_Set_With.f kj10 a0 l2).bind fun t123 => ((bits_Set_Without.f kj10 a0 l2).bind fun t124 => ((bits_Set_Join.f kj10 a0 (([a1] : List Int))).bind fun t128 => ((bits_Set_Meet.f a0 a1).bind fun t129 => ((bits_Set_Less.f a0 a1).bind fun t130 => (whirligiglaw10_BitsSets.l0 kj10 a0 a1 l2 t112 t115 t123 t124 t128 t129 t130 true 0)))))) = some r := by rw [if_neg (show ¬ (false = true) by decide)] at H; exact H
            clear H
            have H := H1
            clear H1
            replace H := Option.bind_eq_some_iff.mp H
            obtain ⟨t123, A250, H⟩ := H
            replace H : ((bits_Set_Without.f kj10 a0 l2).bind fun t124 => ((bits_Set_Join.f kj10 a0 (([a1] : List Int))).bind fun t128 => ((bits_Set_Meet.f a0 a1).bind fun t129 => ((bits_Set_Less.f a0 a1).bind fun t130 => (whirligiglaw10_BitsSets.l0 kj10 a0 a1 l2 t112 t115 t123 t124 t128 t129 t130 true 0))))) = some r := H
            have A25 := Aside0.mk A250
            clear A250
            replace H := Option.bind_eq_some_iff.mp H
            obtain ⟨t124, A260, H⟩ := H
            replace H : ((bits_Set_Join.f kj10 a0 (([a1] : List Int))).bind fun t128 => ((bits_Set_Meet.f a0 a1).bind fun t129 => ((bits_Set_Less.f a0 a1).bind fun t130 => (whirligiglaw10_BitsSets.l0 kj10 a0 a1 l2 t112 t115 t123 t124 t128 t129 t130 true 0)))) = some r := H
            have A26 := Aside0.mk A260
            clear A260
            obtain ⟨y125, hy125⟩ : ∃ y_ : List Int, y_ = (([a1] : List Int)) := ⟨_, rfl⟩
            replace H : ((bits_Set_Join.f kj10 a0 y125).bind fun t128 => ((bits_Set_Meet.f a0 a1).bind fun t129 => ((bits_Set_Less.f a0 a1).bind fun t130 => (whirligiglaw10_BitsSets.l0 kj10 a0 a1 l2 t112 t115 t123 t124 t128 t129 t130 true 0)))) = some r := by first | (rw [hy125]; with_reducible exact H) | (have H2_ := (Option.bind_some _ _).symm.trans H; rw [hy125]; with_reducible exact H2_) | (have H2_ := (Option.bind_some _ _).symm.trans H; with_reducible exact H2_) | with_reducible exact H | (rw [hy125]; exact H) | exact H
            have Ny125 := Aside0.mk hy125
            clear hy125
            replace H := Option.bind_eq_some_iff.mp H
            obtain ⟨t128, A270, H⟩ := H
            replace H : ((bits_Set_Meet.f a0 a1).bind fun t129 => ((bits_Set_Less.f a0 a1).bind fun t130 => (whirligiglaw10_BitsSets.l0 kj10 a0 a1 l2 t112 t115 t123 t124 t128 t129 t130 true 0))) = some r := H
            have A27 := Aside0.mk A270
            clear A270
            replace H := Option.bind_eq_some_iff.mp H
            obtain ⟨t129, A280, H⟩ := H
            replace H : ((bits_Set_Less.f a0 a1).bind fun t130 => (whirligiglaw10_BitsSets.l0 kj10 a0 a1 l2 t112 t115 t123 t124 t128 t129 t130 true 0)) = some r := H
            have A28 := Aside0.mk A280
            clear A280
            replace H := Option.bind_eq_some_iff.mp H
            obtain ⟨t130, A290, H⟩ := H
            replace H : (whirligiglaw10_BitsSets.l0 kj10 a0 a1 l2 t112 t115 t123 t124 t128 t129 t130 true 0) = some r := H
            have A29 := Aside0.mk A290
            clear A290
            have H' := Aside0.mk H
            clear H
            go_wp2_with (first | ((with_reducible refine gate_callee (f := 23) rfl ?_); refine goesL_ (some 53) rfl rfl Tryd.func23 (by kernel_rfl) rfl #[.int .u64 a0, .slice A2 l2.length c2] rfl (by (try simp only [List.map_toArray, List.map_cons, List.map_nil]); first | done | rfl | (simp only [List.length_drop, List.length_take]; rfl)) ?_; (with_reducible refine (bits_Set_With.calls kj10 a0 _ _ l2 t123 _ ?side1 ?side2 A25.out).mono ?_); (case side1 => repeat (first | exact (Kd.C_below HR2.out HB.out) | (with_reducible refine Kd.C_alloc ?_ _) | (with_reducible refine Kd.C_drewN ?_ _) | (with_reducible refine Kd.C_drew ?_))); (case side2 => exact HC2.out); rintro e w' ⟨rfl, ⟨nd, rfl⟩⟩; refine ⟨_, rfl, ?_⟩) | ((with_reducible refine gate_callee (f := 24) rfl ?_); refine goesL_ (some 56) rfl rfl Tryd.func24 (by kernel_rfl) rfl #[.int .u64 a0, .slice A2 l2.length c2] rfl (by (try simp only [List.map_toArray, List.map_cons, List.map_nil]); first | done | rfl | (simp only [List.length_drop, List.length_take]; rfl)) ?_; (with_reducible refine (bits_Set_Without.calls kj10 a0 _ _ l2 t124 _ ?side1 ?side2 A26.out).mono ?_); (case side1 => repeat (first | exact (Kd.C_below HR2.out (by repeat (first | (with_reducible first | exact HB.out | apply below_alloc | apply pw_below_drewN | apply below_drew1) | exact HB.out))) | (with_reducible refine Kd.C_alloc ?_ _) | (with_reducible refine Kd.C_drewN ?_ _) | (with_reducible refine Kd.C_drew ?_))); (case side2 => exact HC2.out); rintro e w' ⟨rfl, ⟨nd, rfl⟩⟩; refine ⟨_, rfl, ?_⟩) | ((with_reducible refine gate_dst (N := 59) rfl ?_); (try (refine gate_guard (by rfl) ?_; dsimp only)); refine Kd.R_lit (Kd.int .u64) _ 23 ?hg (N := 59) ?hd (xs := ([a1] : List Int)) (inner := [.int .u64 a1]) (ok := fun _ => True) (okp := fun _ => True) ?hr ?hp (fun _ hk => hk) trivial (Below.refl _ _) (Nat.le_refl _) (by simp) ?_; (case hd => rfl); (case hg => rfl); (case hr => first | (go_simp; done) | (go_simp; rfl)); (case hp => exact (Reps.one (show Kd.M (Kd.int .u64) _ _ _ a1 [.int .u64 a1] from rfl) (Reps.none _ _))); intro v126 w30 ho31 hb hg_ hnew_; clear hg_ hnew_; (first | rw [← Ny125.out] at ho31 | (simp only [Int.reduceToNat] at ho31; rw [← Ny125.out] at ho31)); have n0_ := Aside0.mk (Kd.R_below (by (with_reducible repeat (first | apply Kd.R_alloc | apply Kd.R_drewN | apply Kd.R_drew)); exact HO_9.out) hb); have n1_ := Aside0.mk (Kd.R_below (by (with_reducible repeat (first | apply Kd.R_alloc | apply Kd.R_drewN | apply Kd.R_drew)); exact HO_10.out) hb); have n2_ := Aside0.mk (Kd.R_lower ho31 (below_size (by repeat (first | (with_reducible first | exact HB.out | apply below_alloc | apply pw_below_drewN | apply below_drew1) | exact HB.out)))); have n3_ := Aside0.mk (below_step (by repeat (first | (with_reducible first | exact HB.out | apply below_alloc | apply pw_below_drewN | apply below_drew1) | exact HB.out)) hb); clear HO_9; clear HO_10; clear HB; have HO_9 := n0_; have HO_10 := n1_; have HO127 := n2_; have HB := n3_; clear n0_ n1_ n2_ n3_; clear hb ho31; obtain ⟨Ao32, co32, eo32⟩ := Kd.R_slice HO127.out; subst eo32) | ((with_reducible refine gate_callee (f := 14) rfl ?_); refine goesL_ (some 60) rfl rfl Tryd.func14 (by kernel_rfl) rfl #[.int .u64 a0, .slice Ao32 y125.length co32] rfl (by (try simp only [List.map_toArray, List.map_cons, List.map_nil]); first | done | rfl | (simp only [List.length_drop, List.length_take]; rfl)) ?_; (with_reducible refine (bits_Set_Join.calls kj10 a0 _ _ y125 t128 _ ?side1 ?side2 A27.out).mono ?_); (case side1 => repeat (first | exact (Kd.R_reads' HO127.out).2.2 | (with_reducible refine Kd.C_alloc ?_ _) | (with_reducible refine Kd.C_drewN ?_ _) | (with_reducible refine Kd.C_drew ?_))); (case side2 => exact (Kd.R_reads' HO127.out).2.1); rintro e w' ⟨rfl, ⟨nd, rfl⟩⟩; refine ⟨_, rfl, ?_⟩) | ((with_reducible refine gate_callee (f := 16) rfl ?_); refine goesL_ (some 63) rfl rfl Tryd.func16 (by kernel_rfl) rfl #[.int .u64 a0, .int .u64 a1] rfl (by (try simp only [List.map_toArray, List.map_cons, List.map_nil]); first | done | rfl | (simp only [List.length_drop, List.length_take]; rfl)) ?_; (with_reducible refine (bits_Set_Meet.calls a0 a1 t129 _ A28.out).mono ?_); rintro e w' ⟨rfl, ⟨nd, rfl⟩⟩; refine ⟨_, rfl, ?_⟩) | ((with_reducible refine gate_callee (f := 15) rfl ?_); refine goesL_ (some 66) rfl rfl Tryd.func15 (by kernel_rfl) rfl #[.int .u64 a0, .int .u64 a1] rfl (by (try simp only [List.map_toArray, List.map_cons, List.map_nil]); first | done | rfl | (simp only [List.length_drop, List.length_take]; rfl)) ?_; (with_reducible refine (bits_Set_Less.calls a0 a1 t130 _ A29.out).mono ?_); rintro e w' ⟨rfl, ⟨nd, rfl⟩⟩; refine ⟨_, rfl, ?_⟩))
            go_loopg [16, 67] kj10 (fun kq v16 v67 w' => ∃ (x16_2 : Bool) (x67_2 : Int), v16 = .bool x16_2 ∧ v67 = .int .i64 x67_2 ∧ Aside0 (whirligiglaw10_BitsSets.l0 kq a0 a1 l2 t112 t115 t123 t124 t128 t129 t130 x16_2 x67_2 = some r) ∧ Aside0 (kq ≤ kj10) ∧ Aside0 (Kd.R (Kd.int .i64) 3 w' w.heap.size (fun k_ => some k_ ≠ (v116 : Value).ownBlock) v113 t112) ∧ Aside0 (Kd.R (Kd.int .i64) 3 w' w.heap.size (fun k_ => some k_ ≠ (v113 : Value).ownBlock) v116 t115) ∧ Aside0 (Below w.heap.size w w'))
            case atStart => exact ⟨(true), (0), (by first | rfl | (simp; done) | (simp [*]; done)), (by first | rfl | (simp; done) | (simp [*]; done)), H', ⟨Nat.le_refl _⟩, ⟨by (with_reducible repeat (first | apply Kd.R_alloc | apply Kd.R_drewN | apply Kd.R_drew)); exact HO_9.out⟩, ⟨by (with_reducible repeat (first | apply Kd.R_alloc | apply Kd.R_drewN | apply Kd.R_drew)); exact HO_10.out⟩, ⟨by repeat (first | (with_reducible first | exact HB.out | apply below_alloc | apply pw_below_drewN | apply below_drew1) | exact HB.out)⟩⟩
            case round =>
              clear H'
              try clear c1
              try clear c2
              try clear p2
              try clear c5
              try clear c6
              try clear c7
              try clear c7b0
              try clear c7b1
              try clear c14
              try clear c15
              try clear c16
              try clear c17
              try clear c17b0
              try clear c17b1
              try clear c19
              try clear c20
              try clear c20b0
              try clear c20b1
              try clear c20b2
              try clear c23
              try clear c24
              try clear p2
              obtain ⟨x16_2, x67_2, rfl, rfl, HA, HK2, HO_9, HO_10, HB⟩ := hrel
              cases gk with
              | zero => exact absurd HA.out (by simp [whirligiglaw10_BitsSets.l0])
              | succ k2 =>
                have H := HA.out
                clear HA
                simp only [whirligiglaw10_BitsSets.l0] at H
                by_cases c33 : x67_2 < 64
                · rw [if_pos c33] at H
                  have c33b0 : decide (x67_2 < 64) = true := decide_eq_true c33
                  clear c33
                  replace H := Option.bind_eq_some_iff.mp H
                  obtain ⟨t131, A340, H⟩ := H
                  replace H : ((whirligigref10_Has.f k2 t115 x67_2).bind fun t132 => ((whirligigref10_Has.f k2 l2 x67_2).bind fun t133 => ((bits_Set_Has.f t123 x67_2).bind fun t134 => (if t131 = true then (if (t134 != true) = true then (some false) else ((bits_Set_Has.f t124 x67_2).bind fun t135 => (if (t135 != (!t133)) = true then (some false) else ((bits_Set_Has.f t128 x67_2).bind fun t136 => (if (t136 != true) = true then (some false) else ((bits_Set_Has.f t129 x67_2).bind fun t137 => (if (t137 != t132) = true then (some false) else ((bits_Set_Has.f t130 x67_2).bind fun t138 => (if (t138 != (!t132)) = true then (some false) else (if x16_2 = true then (whirligiglaw10_BitsSets.l0 k2 a0 a1 l2 t112 t115 t123 t124 t128 t129 t130 t132 (wrap64 (x67_2 + 1))) else (whirligiglaw10_BitsSets.l0 k2 a0 a1 l2 t112 t115 t123 t124 t128 t129 t130 false (wrap64 (x67_2 + 1))))))))))))) else (if (t134 != t133) = true then (some false) else ((bits_Set_Has.f t124 x67_2).bind fun t139 => (if (t139 != false) = true then (some false) else ((bits_Set_Has.f t128 x67_2).bind fun t140 => (if (t140 != t132) = true then (some false) else ((bits_Set_Has.f t129 x67_2).bind fun t141 => (if (t141 != false) = true then (some false) else ((bits_Set_Has.f t130 x67_2).bind fun t142 => (if (t142 != false) = true then (some false) else (if x16_2 = true then (whirligiglaw10_BitsSets.l0 k2 a0 a1 l2 t112 t115 t123 t124 t128 t129 t130 true (wrap64 (x67_2 + 1))) else (whirligiglaw10_BitsSets.l0 k2 a0 a1 l2 t112 t115 t123 t124 t128 t129 t130 false (wrap64 (x67_2 + 1))))))))))))))))) = some r := H
                  have A34 := Aside0.mk A340
                  clear A340
                  replace H := Option.bind_eq_some_iff.mp H
                  obtain ⟨t132, A350, H⟩ := H
                  replace H : ((whirligigref10_Has.f k2 l2 x67_2).bind fun t133 => ((bits_Set_Has.f t123 x67_2).bind fun t134 => (if t131 = true then (if (t134 != true) = true then (some false) else ((bits_Set_Has.f t124 x67_2).bind fun t135 => (if (t135 != (!t133)) = true then (some false) else ((bits_Set_Has.f t128 x67_2).bind fun t136 => (if (t136 != true) = true then (some false) else ((bits_Set_Has.f t129 x67_2).bind fun t137 => (if (t137 != t132) = true then (some false) else ((bits_Set_Has.f t130 x67_2).bind fun t138 => (if (t138 != (!t132)) = true then (some false) else (if x16_2 = true then (whirligiglaw10_BitsSets.l0 k2 a0 a1 l2 t112 t115 t123 t124 t128 t129 t130 t132 (wrap64 (x67_2 + 1))) else (whirligiglaw10_BitsSets.l0 k2 a0 a1 l2 t112 t115 t123 t124 t128 t129 t130 false (wrap64 (x67_2 + 1))))))))))))) else (if (t134 != t133) = true then (some false) else ((bits_Set_Has.f t124 x67_2).bind fun t139 => (if (t139 != false) = true then (some false) else ((bits_Set_Has.f t128 x67_2).bind fun t140 => (if (t140 != t132) = true then (some false) else ((bits_Set_Has.f t129 x67_2).bind fun t141 => (if (t141 != false) = true then (some false) else ((bits_Set_Has.f t130 x67_2).bind fun t142 => (if (t142 != false) = true then (some false) else (if x16_2 = true then (whirligiglaw10_BitsSets.l0 k2 a0 a1 l2 t112 t115 t123 t124 t128 t129 t130 true (wrap64 (x67_2 + 1))) else (whirligiglaw10_BitsSets.l0 k2 a0 a1 l2 t112 t115 t123 t124 t128 t129 t130 false (wrap64 (x67_2 + 1)))))))))))))))) = some r := H
                  have A35 := Aside0.mk A350
                  clear A350
                  replace H := Option.bind_eq_some_iff.mp H
                  obtain ⟨t133, A360, H⟩ := H
                  replace H : ((bits_Set_Has.f t123 x67_2).bind fun t134 => (if t131 = true then (if (t134 != true) = true then (some false) else ((bits_Set_Has.f t124 x67_2).bind fun t135 => (if (t135 != (!t133)) = true then (some false) else ((bits_Set_Has.f t128 x67_2).bind fun t136 => (if (t136 != true) = true then (some false) else ((bits_Set_Has.f t129 x67_2).bind fun t137 => (if (t137 != t132) = true then (some false) else ((bits_Set_Has.f t130 x67_2).bind fun t138 => (if (t138 != (!t132)) = true then (some false) else (if x16_2 = true then (whirligiglaw10_BitsSets.l0 k2 a0 a1 l2 t112 t115 t123 t124 t128 t129 t130 t132 (wrap64 (x67_2 + 1))) else (whirligiglaw10_BitsSets.l0 k2 a0 a1 l2 t112 t115 t123 t124 t128 t129 t130 false (wrap64 (x67_2 + 1))))))))))))) else (if (t134 != t133) = true then (some false) else ((bits_Set_Has.f t124 x67_2).bind fun t139 => (if (t139 != false) = true then (some false) else ((bits_Set_Has.f t128 x67_2).bind fun t140 => (if (t140 != t132) = true then (some false) else ((bits_Set_Has.f t129 x67_2).bind fun t141 => (if (t141 != false) = true then (some false) else ((bits_Set_Has.f t130 x67_2).bind fun t142 => (if (t142 != false) = true then (some false) else (if x16_2 = true then (whirligiglaw10_BitsSets.l0 k2 a0 a1 l2 t112 t115 t123 t124 t128 t129 t130 true (wrap64 (x67_2 + 1))) else (whirligiglaw10_BitsSets.l0 k2 a0 a1 l2 t112 t115 t123 t124 t128 t129 t130 false (wrap64 (x67_2 + 1))))))))))))))) = some r := H
                  have A36 := Aside0.mk A360
                  clear A360
                  replace H := Option.bind_eq_some_iff.mp H
                  obtain ⟨t134, A370, H⟩ := H
                  replace H : (if t131 = true then (if (t134 != true) = true then (some false) else ((bits_Set_Has.f t124 x67_2).bind fun t135 => (if (t135 != (!t133)) = true then (some false) else ((bits_Set_Has.f t128 x67_2).bind fun t136 => (if (t136 != true) = true then (some false) else ((bits_Set_Has.f t129 x67_2).bind fun t137 => (if (t137 != t132) = true then (some false) else ((bits_Set_Has.f t130 x67_2).bind fun t138 => (if (t138 != (!t132)) = true then (some false) else (if x16_2 = true then (whirligiglaw10_BitsSets.l0 k2 a0 a1 l2 t112 t115 t123 t124 t128 t129 t130 t132 (wrap64 (x67_2 + 1))) else (whirligiglaw10_BitsSets.l0 k2 a0 a1 l2 t112 t115 t123 t124 t128 t129 t130 false (wrap64 (x67_2 + 1))))))))))))) else (if (t134 != t133) = true then (some false) else ((bits_Set_Has.f t124 x67_2).bind fun t139 => (if (t139 != false) = true then (some false) else ((bits_Set_Has.f t128 x67_2).bind fun t140 => (if (t140 != t132) = true then (some false) else ((bits_Set_Has.f t129 x67_2).bind fun t141 => (if (t141 != false) = true then (some false) else ((bits_Set_Has.f t130 x67_2).bind fun t142 => (if (t142 != false) = true then (some false) else (if x16_2 = true then (whirligiglaw10_BitsSets.l0 k2 a0 a1 l2 t112 t115 t123 t124 t128 t129 t130 true (wrap64 (x67_2 + 1))) else (whirligiglaw10_BitsSets.l0 k2 a0 a1 l2 t112 t115 t123 t124 t128 t129 t130 false (wrap64 (x67_2 + 1)))))))))))))) = some r := H
                  have A37 := Aside0.mk A370
                  clear A370
                  by_cases c38 : t131 = true
                  · subst c38
                    have H1 : (if (t134 != true) = true then (some false) else ((bits_Set_Has.f t124 x67_2).bind fun t135 => (if (t135 != (!t133)) = true then (some false) else ((bits_Set_Has.f t128 x67_2).bind fun t136 => (if (t136 != true) = true then (some false) else ((bits_Set_Has.f t129 x67_2).bind fun t137 => (if (t137 != t132) = true then (some false) else ((bits_Set_Has.f t130 x67_2).bind fun t138 => (if (t138 != (!t132)) = true then (some false) else (if x16_2 = true then (whirligiglaw10_BitsSets.l0 k2 a0 a1 l2 t112 t115 t123 t124 t128 t129 t130 t132 (wrap64 (x67_2 + 1))) else (whirligiglaw10_BitsSets.l0 k2 a0 a1 l2 t112 t115 t123 t124 t128 t129 t130 false (wrap64 (x67_2 + 1))))))))))))) = some r := by rw [if_pos rfl] at H; exact H
                    clear H
                    have H := H1
                    clear H1
                    by_cases c39 : (t134 != true) = true
                    · rw [if_pos c39] at H
                      have c39b0 : (t134 != true) = true := c39
                      (try (have c39b1 : decide (t134 = true) = false := by simpa using c39))
                      (try (have c39b2 : (t134 == true) = false := by simpa using c39))
                      (try (have c39b3 : ¬ (t134 = true) := by simpa using c39))
                      clear c39
                      obtain rfl := Option.some.inj H
                      obtain ⟨Ao40, co40, eo40⟩ := Kd.R_slice HO_9.out
                      subst eo40
                      go_wp2_with (first | ((with_reducible refine gate_callee (f := 22) rfl ?_); refine goesL_ (some 72) rfl rfl Tryd.func22 (by kernel_rfl) rfl #[.slice Ao40 t112.length co40, .int .i64 x67_2] rfl (by (try simp only [List.map_toArray, List.map_cons, List.map_nil]); first | done | rfl | (simp only [List.length_drop, List.length_take]; rfl)) ?_; (with_reducible refine (whirligigref10_Has.calls k2 _ _ t112 x67_2 true _ ?side1 ?side2 A34.out).mono ?_); (case side1 => repeat (first | exact (Kd.R_reads' HO_9.out).2.2 | (with_reducible refine Kd.C_alloc ?_ _) | (with_reducible refine Kd.C_drewN ?_ _) | (with_reducible refine Kd.C_drew ?_))); (case side2 => exact (Kd.R_reads' HO_9.out).2.1); rintro e w' ⟨rfl, ⟨nd, rfl⟩⟩; refine ⟨_, rfl, ?_⟩; obtain ⟨Ao41, co41, eo41⟩ := Kd.R_slice HO_10.out; subst eo41) | ((with_reducible refine gate_callee (f := 22) rfl ?_); refine goesL_ (some 75) rfl rfl Tryd.func22 (by kernel_rfl) rfl #[.slice Ao41 t115.length co41, .int .i64 x67_2] rfl (by (try simp only [List.map_toArray, List.map_cons, List.map_nil]); first | done | rfl | (simp only [List.length_drop, List.length_take]; rfl)) ?_; (with_reducible refine (whirligigref10_Has.calls k2 _ _ t115 x67_2 t132 _ ?side1 ?side2 A35.out).mono ?_); (case side1 => repeat (first | exact (Kd.R_reads' HO_10.out).2.2 | (with_reducible refine Kd.C_alloc ?_ _) | (with_reducible refine Kd.C_drewN ?_ _) | (with_reducible refine Kd.C_drew ?_))); (case side2 => exact (Kd.R_reads' HO_10.out).2.1); rintro e w' ⟨rfl, ⟨nd, rfl⟩⟩; refine ⟨_, rfl, ?_⟩) | ((with_reducible refine gate_callee (f := 22) rfl ?_); refine goesL_ (some 78) rfl rfl Tryd.func22 (by kernel_rfl) rfl #[.slice A2 l2.length c2, .int .i64 x67_2] rfl (by (try simp only [List.map_toArray, List.map_cons, List.map_nil]); first | done | rfl | (simp only [List.length_drop, List.length_take]; rfl)) ?_; (with_reducible refine (whirligigref10_Has.calls k2 _ _ l2 x67_2 t133 _ ?side1 ?side2 A36.out).mono ?_); (case side1 => repeat (first | exact (Kd.C_below HR2.out (by repeat (first | (with_reducible first | exact HB.out | apply below_alloc | apply pw_below_drewN | apply below_drew1) | exact HB.out))) | (with_reducible refine Kd.C_alloc ?_ _) | (with_reducible refine Kd.C_drewN ?_ _) | (with_reducible refine Kd.C_drew ?_))); (case side2 => exact HC2.out); rintro e w' ⟨rfl, ⟨nd, rfl⟩⟩; refine ⟨_, rfl, ?_⟩) | ((with_reducible refine gate_callee (f := 21) rfl ?_); refine goesL_ (some 81) rfl rfl Tryd.func21 (by kernel_rfl) rfl #[.int .u64 t123, .int .i64 x67_2] rfl (by (try simp only [List.map_toArray, List.map_cons, List.map_nil]); first | done | rfl | (simp only [List.length_drop, List.length_take]; rfl)) ?_; (with_reducible refine (bits_Set_Has.calls t123 x67_2 t134 _ A37.out).mono ?_); rintro e w' ⟨rfl, ⟨nd, rfl⟩⟩; refine ⟨_, rfl, ?_⟩))
                      go_ret
                      exact ⟨by first | rfl | (simp [errW_none, errW_some] <;> rfl) | (simp [*, errW_none, errW_some] <;> rfl), by repeat (first | (with_reducible first | exact HB.out | apply below_alloc | apply pw_below_drewN | apply below_drew1) | exact HB.out)⟩
                    · rw [if_neg c39] at H
                      have c39b0 : (t134 != true) = false := by simpa using c39
                      (try (have c39b1 : decide (t134 = true) = true := by simpa using c39))
                      (try (have c39b2 : (t134 == true) = true := by simpa using c39))
                      clear c39
                      replace H := Option.bind_eq_some_iff.mp H
                      obtain ⟨t135, A420, H⟩ := H
                      replace H : (if (t135 != (!t133)) = true then (some false) else ((bits_Set_Has.f t128 x67_2).bind fun t136 => (if (t136 != true) = true then (some false) else ((bits_Set_Has.f t129 x67_2).bind fun t137 => (if (t137 != t132) = true then (some false) else ((bits_Set_Has.f t130 x67_2).bind fun t138 => (if (t138 != (!t132)) = true then (some false) else (if x16_2 = true then (whirligiglaw10_BitsSets.l0 k2 a0 a1 l2 t112 t115 t123 t124 t128 t129 t130 t132 (wrap64 (x67_2 + 1))) else (whirligiglaw10_BitsSets.l0 k2 a0 a1 l2 t112 t115 t123 t124 t128 t129 t130 false (wrap64 (x67_2 + 1))))))))))) = some r := H
                      have A42 := Aside0.mk A420
                      clear A420
                      by_cases c43 : (t135 != (!t133)) = true
                      · rw [if_pos c43] at H
                        have c43b0 : (t135 != (!t133)) = true := c43
                        (try (have c43b1 : decide (t135 = (!t133)) = false := by simpa using c43))
                        (try (have c43b2 : (t135 == (!t133)) = false := by simpa using c43))
                        (try (have c43b3 : ¬ (t135 = (!t133)) := by simpa using c43))
                        clear c43
                        obtain rfl := Option.some.inj H
                        obtain ⟨Ao44, co44, eo44⟩ := Kd.R_slice HO_9.out
                        subst eo44
                        go_wp2_with (first | ((with_reducible refine gate_callee (f := 22) rfl ?_); refine goesL_ (some 72) rfl rfl Tryd.func22 (by kernel_rfl) rfl #[.slice Ao44 t112.length co44, .int .i64 x67_2] rfl (by (try simp only [List.map_toArray, List.map_cons, List.map_nil]); first | done | rfl | (simp only [List.length_drop, List.length_take]; rfl)) ?_; (with_reducible refine (whirligigref10_Has.calls k2 _ _ t112 x67_2 true _ ?side1 ?side2 A34.out).mono ?_); (case side1 => repeat (first | exact (Kd.R_reads' HO_9.out).2.2 | (with_reducible refine Kd.C_alloc ?_ _) | (with_reducible refine Kd.C_drewN ?_ _) | (with_reducible refine Kd.C_drew ?_))); (case side2 => exact (Kd.R_reads' HO_9.out).2.1); rintro e w' ⟨rfl, ⟨nd, rfl⟩⟩; refine ⟨_, rfl, ?_⟩; obtain ⟨Ao45, co45, eo45⟩ := Kd.R_slice HO_10.out; subst eo45) | ((with_reducible refine gate_callee (f := 22) rfl ?_); refine goesL_ (some 75) rfl rfl Tryd.func22 (by kernel_rfl) rfl #[.slice Ao45 t115.length co45, .int .i64 x67_2] rfl (by (try simp only [List.map_toArray, List.map_cons, List.map_nil]); first | done | rfl | (simp only [List.length_drop, List.length_take]; rfl)) ?_; (with_reducible refine (whirligigref10_Has.calls k2 _ _ t115 x67_2 t132 _ ?side1 ?side2 A35.out).mono ?_); (case side1 => repeat (first | exact (Kd.R_reads' HO_10.out).2.2 | (with_reducible refine Kd.C_alloc ?_ _) | (with_reducible refine Kd.C_drewN ?_ _) | (with_reducible refine Kd.C_drew ?_))); (case side2 => exact (Kd.R_reads' HO_10.out).2.1); rintro e w' ⟨rfl, ⟨nd, rfl⟩⟩; refine ⟨_, rfl, ?_⟩) | ((with_reducible refine gate_callee (f := 22) rfl ?_); refine goesL_ (some 78) rfl rfl Tryd.func22 (by kernel_rfl) rfl #[.slice A2 l2.length c2, .int .i64 x67_2] rfl (by (try simp only [List.map_toArray, List.map_cons, List.map_nil]); first | done | rfl | (simp only [List.length_drop, List.length_take]; rfl)) ?_; (with_reducible refine (whirligigref10_Has.calls k2 _ _ l2 x67_2 t133 _ ?side1 ?side2 A36.out).mono ?_); (case side1 => repeat (first | exact (Kd.C_below HR2.out (by repeat (first | (with_reducible first | exact HB.out | apply below_alloc | apply pw_below_drewN | apply below_drew1) | exact HB.out))) | (with_reducible refine Kd.C_alloc ?_ _) | (with_reducible refine Kd.C_drewN ?_ _) | (with_reducible refine Kd.C_drew ?_))); (case side2 => exact HC2.out); rintro e w' ⟨rfl, ⟨nd, rfl⟩⟩; refine ⟨_, rfl, ?_⟩) | ((with_reducible refine gate_callee (f := 21) rfl ?_); refine goesL_ (some 81) rfl rfl Tryd.func21 (by kernel_rfl) rfl #[.int .u64 t123, .int .i64 x67_2] rfl (by (try simp only [List.map_toArray, List.map_cons, List.map_nil]); first | done | rfl | (simp only [List.length_drop, List.length_take]; rfl)) ?_; (with_reducible refine (bits_Set_Has.calls t123 x67_2 t134 _ A37.out).mono ?_); rintro e w' ⟨rfl, ⟨nd, rfl⟩⟩; refine ⟨_, rfl, ?_⟩) | (go_at_call 21; (with_reducible refine (bits_Set_Has.calls t124 x67_2 t135 _ A42.out).mono ?_); rintro e w' ⟨rfl, ⟨nd, rfl⟩⟩))
                        go_ret
                        exact ⟨by first | rfl | (simp [errW_none, errW_some] <;> rfl) | (simp [*, errW_none, errW_some] <;> rfl), by repeat (first | (with_reducible first | exact HB.out | apply below_alloc | apply pw_below_drewN | apply below_drew1) | exact HB.out)⟩
                      · rw [if_neg c43] at H
                        have c43b0 : (t135 != (!t133)) = false := by simpa using c43
                        have c43b1 : decide (t135 = (!t133)) = true := by revert c43; cases t135 <;> cases t133 <;> simp
                        have c43b2 : (t135 == (!t133)) = true := by revert c43; cases t135 <;> cases t133 <;> simp
                        clear c43
                        replace H := Option.bind_eq_some_iff.mp H
                        obtain ⟨t136, A460, H⟩ := H
                        replace H : (if (t136 != true) = true then (some false) else ((bits_Set_Has.f t129 x67_2).bind fun t137 => (if (t137 != t132) = true then (some false) else ((bits_Set_Has.f t130 x67_2).bind fun t138 => (if (t138 != (!t132)) = true then (some false) else (if x16_2 = true then (whirligiglaw10_BitsSets.l0 k2 a0 a1 l2 t112 t115 t123 t124 t128 t129 t130 t132 (wrap64 (x67_2 + 1))) else (whirligiglaw10_BitsSets.l0 k2 a0 a1 l2 t112 t115 t123 t124 t128 t129 t130 false (wrap64 (x67_2 + 1))))))))) = some r := H
                        have A46 := Aside0.mk A460
                        clear A460
                        by_cases c47 : (t136 != true) = true
                        · rw [if_pos c47] at H
                          have c47b0 : (t136 != true) = true := c47
                          (try (have c47b1 : decide (t136 = true) = false := by simpa using c47))
                          (try (have c47b2 : (t136 == true) = false := by simpa using c47))
                          (try (have c47b3 : ¬ (t136 = true) := by simpa using c47))
                          clear c47
                          obtain rfl := Option.some.inj H
                          obtain ⟨Ao48, co48, eo48⟩ := Kd.R_slice HO_9.out
                          subst eo48
                          go_wp2_with (first | ((with_reducible refine gate_callee (f := 22) rfl ?_); refine goesL_ (some 72) rfl rfl Tryd.func22 (by kernel_rfl) rfl #[.slice Ao48 t112.length co48, .int .i64 x67_2] rfl (by (try simp only [List.map_toArray, List.map_cons, List.map_nil]); first | done | rfl | (simp only [List.length_drop, List.length_take]; rfl)) ?_; (with_reducible refine (whirligigref10_Has.calls k2 _ _ t112 x67_2 true _ ?side1 ?side2 A34.out).mono ?_); (case side1 => repeat (first | exact (Kd.R_reads' HO_9.out).2.2 | (with_reducible refine Kd.C_alloc ?_ _) | (with_reducible refine Kd.C_drewN ?_ _) | (with_reducible refine Kd.C_drew ?_))); (case side2 => exact (Kd.R_reads' HO_9.out).2.1); rintro e w' ⟨rfl, ⟨nd, rfl⟩⟩; refine ⟨_, rfl, ?_⟩; obtain ⟨Ao49, co49, eo49⟩ := Kd.R_slice HO_10.out; subst eo49) | ((with_reducible refine gate_callee (f := 22) rfl ?_); refine goesL_ (some 75) rfl rfl Tryd.func22 (by kernel_rfl) rfl #[.slice Ao49 t115.length co49, .int .i64 x67_2] rfl (by (try simp only [List.map_toArray, List.map_cons, List.map_nil]); first | done | rfl | (simp only [List.length_drop, List.length_take]; rfl)) ?_; (with_reducible refine (whirligigref10_Has.calls k2 _ _ t115 x67_2 t132 _ ?side1 ?side2 A35.out).mono ?_); (case side1 => repeat (first | exact (Kd.R_reads' HO_10.out).2.2 | (with_reducible refine Kd.C_alloc ?_ _) | (with_reducible refine Kd.C_drewN ?_ _) | (with_reducible refine Kd.C_drew ?_))); (case side2 => exact (Kd.R_reads' HO_10.out).2.1); rintro e w' ⟨rfl, ⟨nd, rfl⟩⟩; refine ⟨_, rfl, ?_⟩) | ((with_reducible refine gate_callee (f := 22) rfl ?_); refine goesL_ (some 78) rfl rfl Tryd.func22 (by kernel_rfl) rfl #[.slice A2 l2.length c2, .int .i64 x67_2] rfl (by (try simp only [List.map_toArray, List.map_cons, List.map_nil]); first | done | rfl | (simp only [List.length_drop, List.length_take]; rfl)) ?_; (with_reducible refine (whirligigref10_Has.calls k2 _ _ l2 x67_2 t133 _ ?side1 ?side2 A36.out).mono ?_); (case side1 => repeat (first | exact (Kd.C_below HR2.out (by repeat (first | (with_reducible first | exact HB.out | apply below_alloc | apply pw_below_drewN | apply below_drew1) | exact HB.out))) | (with_reducible refine Kd.C_alloc ?_ _) | (with_reducible refine Kd.C_drewN ?_ _) | (with_reducible refine Kd.C_drew ?_))); (case side2 => exact HC2.out); rintro e w' ⟨rfl, ⟨nd, rfl⟩⟩; refine ⟨_, rfl, ?_⟩) | ((with_reducible refine gate_callee (f := 21) rfl ?_); refine goesL_ (some 81) rfl rfl Tryd.func21 (by kernel_rfl) rfl #[.int .u64 t123, .int .i64 x67_2] rfl (by (try simp only [List.map_toArray, List.map_cons, List.map_nil]); first | done | rfl | (simp only [List.length_drop, List.length_take]; rfl)) ?_; (with_reducible refine (bits_Set_Has.calls t123 x67_2 t134 _ A37.out).mono ?_); rintro e w' ⟨rfl, ⟨nd, rfl⟩⟩; refine ⟨_, rfl, ?_⟩) | (go_at_call 21; (with_reducible refine (bits_Set_Has.calls t124 x67_2 t135 _ A42.out).mono ?_); rintro e w' ⟨rfl, ⟨nd, rfl⟩⟩) | (go_at_call 21; (with_reducible refine (bits_Set_Has.calls t128 x67_2 t136 _ A46.out).mono ?_); rintro e w' ⟨rfl, ⟨nd, rfl⟩⟩))
                          go_ret
                          exact ⟨by first | rfl | (simp [errW_none, errW_some] <;> rfl) | (simp [*, errW_none, errW_some] <;> rfl), by repeat (first | (with_reducible first | exact HB.out | apply below_alloc | apply pw_below_drewN | apply below_drew1) | exact HB.out)⟩
                        · rw [if_neg c47] at H
                          have c47b0 : (t136 != true) = false := by simpa using c47
                          (try (have c47b1 : decide (t136 = true) = true := by simpa using c47))
                          (try (have c47b2 : (t136 == true) = true := by simpa using c47))
                          clear c47
                          replace H := Option.bind_eq_some_iff.mp H
                          obtain ⟨t137, A500, H⟩ := H
                          replace H : (if (t137 != t132) = true then (some false) else ((bits_Set_Has.f t130 x67_2).bind fun t138 => (if (t138 != (!t132)) = true then (some false) else (if x16_2 = true then (whirligiglaw10_BitsSets.l0 k2 a0 a1 l2 t112 t115 t123 t124 t128 t129 t130 t132 (wrap64 (x67_2 + 1))) else (whirligiglaw10_BitsSets.l0 k2 a0 a1 l2 t112 t115 t123 t124 t128 t129 t130 false (wrap64 (x67_2 + 1))))))) = some r := H
                          have A50 := Aside0.mk A500
                          clear A500
                          by_cases c51 : (t137 != t132) = true
                          · rw [if_pos c51] at H
                            have c51b0 : (t137 != t132) = true := c51
                            (try (have c51b1 : decide (t137 = t132) = false := by simpa using c51))
                            (try (have c51b2 : (t137 == t132) = false := by simpa using c51))
                            (try (have c51b3 : ¬ (t137 = t132) := by simpa using c51))
                            clear c51
                            obtain rfl := Option.some.inj H
                            obtain ⟨Ao52, co52, eo52⟩ := Kd.R_slice HO_9.out
                            subst eo52
                            go_wp2_with (first | ((with_reducible refine gate_callee (f := 22) rfl ?_); refine goesL_ (some 72) rfl rfl Tryd.func22 (by kernel_rfl) rfl #[.slice Ao52 t112.length co52, .int .i64 x67_2] rfl (by (try simp only [List.map_toArray, List.map_cons, List.map_nil]); first | done | rfl | (simp only [List.length_drop, List.length_take]; rfl)) ?_; (with_reducible refine (whirligigref10_Has.calls k2 _ _ t112 x67_2 true _ ?side1 ?side2 A34.out).mono ?_); (case side1 => repeat (first | exact (Kd.R_reads' HO_9.out).2.2 | (with_reducible refine Kd.C_alloc ?_ _) | (with_reducible refine Kd.C_drewN ?_ _) | (with_reducible refine Kd.C_drew ?_))); (case side2 => exact (Kd.R_reads' HO_9.out).2.1); rintro e w' ⟨rfl, ⟨nd, rfl⟩⟩; refine ⟨_, rfl, ?_⟩; obtain ⟨Ao53, co53, eo53⟩ := Kd.R_slice HO_10.out; subst eo53) | ((with_reducible refine gate_callee (f := 22) rfl ?_); refine goesL_ (some 75) rfl rfl Tryd.func22 (by kernel_rfl) rfl #[.slice Ao53 t115.length co53, .int .i64 x67_2] rfl (by (try simp only [List.map_toArray, List.map_cons, List.map_nil]); first | done | rfl | (simp only [List.length_drop, List.length_take]; rfl)) ?_; (with_reducible refine (whirligigref10_Has.calls k2 _ _ t115 x67_2 t132 _ ?side1 ?side2 A35.out).mono ?_); (case side1 => repeat (first | exact (Kd.R_reads' HO_10.out).2.2 | (with_reducible refine Kd.C_alloc ?_ _) | (with_reducible refine Kd.C_drewN ?_ _) | (with_reducible refine Kd.C_drew ?_))); (case side2 => exact (Kd.R_reads' HO_10.out).2.1); rintro e w' ⟨rfl, ⟨nd, rfl⟩⟩; refine ⟨_, rfl, ?_⟩) | ((with_reducible refine gate_callee (f := 22) rfl ?_); refine goesL_ (some 78) rfl rfl Tryd.func22 (by kernel_rfl) rfl #[.slice A2 l2.length c2, .int .i64 x67_2] rfl (by (try simp only [List.map_toArray, List.map_cons, List.map_nil]); first | done | rfl | (simp only [List.length_drop, List.length_take]; rfl)) ?_; (with_reducible refine (whirligigref10_Has.calls k2 _ _ l2 x67_2 t133 _ ?side1 ?side2 A36.out).mono ?_); (case side1 => repeat (first | exact (Kd.C_below HR2.out (by repeat (first | (with_reducible first | exact HB.out | apply below_alloc | apply pw_below_drewN | apply below_drew1) | exact HB.out))) | (with_reducible refine Kd.C_alloc ?_ _) | (with_reducible refine Kd.C_drewN ?_ _) | (with_reducible refine Kd.C_drew ?_))); (case side2 => exact HC2.out); rintro e w' ⟨rfl, ⟨nd, rfl⟩⟩; refine ⟨_, rfl, ?_⟩) | ((with_reducible refine gate_callee (f := 21) rfl ?_); refine goesL_ (some 81) rfl rfl Tryd.func21 (by kernel_rfl) rfl #[.int .u64 t123, .int .i64 x67_2] rfl (by (try simp only [List.map_toArray, List.map_cons, List.map_nil]); first | done | rfl | (simp only [List.length_drop, List.length_take]; rfl)) ?_; (with_reducible refine (bits_Set_Has.calls t123 x67_2 t134 _ A37.out).mono ?_); rintro e w' ⟨rfl, ⟨nd, rfl⟩⟩; refine ⟨_, rfl, ?_⟩) | (go_at_call 21; (with_reducible refine (bits_Set_Has.calls t124 x67_2 t135 _ A42.out).mono ?_); rintro e w' ⟨rfl, ⟨nd, rfl⟩⟩) | (go_at_call 21; (with_reducible refine (bits_Set_Has.calls t128 x67_2 t136 _ A46.out).mono ?_); rintro e w' ⟨rfl, ⟨nd, rfl⟩⟩) | (go_at_call 21; (with_reducible refine (bits_Set_Has.calls t129 x67_2 t137 _ A50.out).mono ?_); rintro e w' ⟨rfl, ⟨nd, rfl⟩⟩))
                            go_ret
                            exact ⟨by first | rfl | (simp [errW_none, errW_some] <;> rfl) | (simp [*, errW_none, errW_some] <;> rfl), by repeat (first | (with_reducible first | exact HB.out | apply below_alloc | apply pw_below_drewN | apply below_drew1) | exact HB.out)⟩
                          · rw [if_neg c51] at H
                            have c51b0 : (t137 != t132) = false := by simpa using c51
                            (try (have c51b1 : decide (t137 = t132) = true := by simpa using c51))
                            (try (have c51b2 : (t137 == t132) = true := by simpa using c51))
                            clear c51
                            replace H := Option.bind_eq_some_iff.mp H
                            obtain ⟨t138, A540, H⟩ := H
                            replace H : (if (t138 != (!t132)) = true then (some false) else (if x16_2 = true then (whirligiglaw10_BitsSets.l0 k2 a0 a1 l2 t112 t115 t123 t124 t128 t129 t130 t132 (wrap64 (x67_2 + 1))) else (whirligiglaw10_BitsSets.l0 k2 a0 a1 l2 t112 t115 t123 t124 t128 t129 t130 false (wrap64 (x67_2 + 1))))) = some r := H
                            have A54 := Aside0.mk A540
                            clear A540
                            by_cases c55 : (t138 != (!t132)) = true
                            · rw [if_pos c55] at H
                              have c55b0 : (t138 != (!t132)) = true := c55
                              (try (have c55b1 : decide (t138 = (!t132)) = false := by simpa using c55))
                              (try (have c55b2 : (t138 == (!t132)) = false := by simpa using c55))
                              (try (have c55b3 : ¬ (t138 = (!t132)) := by simpa using c55))
                              clear c55
                              obtain rfl := Option.some.inj H
                              obtain ⟨Ao56, co56, eo56⟩ := Kd.R_slice HO_9.out
                              subst eo56
                              go_wp2_with (first | ((with_reducible refine gate_callee (f := 22) rfl ?_); refine goesL_ (some 72) rfl rfl Tryd.func22 (by kernel_rfl) rfl #[.slice Ao56 t112.length co56, .int .i64 x67_2] rfl (by (try simp only [List.map_toArray, List.map_cons, List.map_nil]); first | done | rfl | (simp only [List.length_drop, List.length_take]; rfl)) ?_; (with_reducible refine (whirligigref10_Has.calls k2 _ _ t112 x67_2 true _ ?side1 ?side2 A34.out).mono ?_); (case side1 => repeat (first | exact (Kd.R_reads' HO_9.out).2.2 | (with_reducible refine Kd.C_alloc ?_ _) | (with_reducible refine Kd.C_drewN ?_ _) | (with_reducible refine Kd.C_drew ?_))); (case side2 => exact (Kd.R_reads' HO_9.out).2.1); rintro e w' ⟨rfl, ⟨nd, rfl⟩⟩; refine ⟨_, rfl, ?_⟩; obtain ⟨Ao57, co57, eo57⟩ := Kd.R_slice HO_10.out; subst eo57) | ((with_reducible refine gate_callee (f := 22) rfl ?_); refine goesL_ (some 75) rfl rfl Tryd.func22 (by kernel_rfl) rfl #[.slice Ao57 t115.length co57, .int .i64 x67_2] rfl (by (try simp only [List.map_toArray, List.map_cons, List.map_nil]); first | done | rfl | (simp only [List.length_drop, List.length_take]; rfl)) ?_; (with_reducible refine (whirligigref10_Has.calls k2 _ _ t115 x67_2 t132 _ ?side1 ?side2 A35.out).mono ?_); (case side1 => repeat (first | exact (Kd.R_reads' HO_10.out).2.2 | (with_reducible refine Kd.C_alloc ?_ _) | (with_reducible refine Kd.C_drewN ?_ _) | (with_reducible refine Kd.C_drew ?_))); (case side2 => exact (Kd.R_reads' HO_10.out).2.1); rintro e w' ⟨rfl, ⟨nd, rfl⟩⟩; refine ⟨_, rfl, ?_⟩) | ((with_reducible refine gate_callee (f := 22) rfl ?_); refine goesL_ (some 78) rfl rfl Tryd.func22 (by kernel_rfl) rfl #[.slice A2 l2.length c2, .int .i64 x67_2] rfl (by (try simp only [List.map_toArray, List.map_cons, List.map_nil]); first | done | rfl | (simp only [List.length_drop, List.length_take]; rfl)) ?_; (with_reducible refine (whirligigref10_Has.calls k2 _ _ l2 x67_2 t133 _ ?side1 ?side2 A36.out).mono ?_); (case side1 => repeat (first | exact (Kd.C_below HR2.out (by repeat (first | (with_reducible first | exact HB.out | apply below_alloc | apply pw_below_drewN | apply below_drew1) | exact HB.out))) | (with_reducible refine Kd.C_alloc ?_ _) | (with_reducible refine Kd.C_drewN ?_ _) | (with_reducible refine Kd.C_drew ?_))); (case side2 => exact HC2.out); rintro e w' ⟨rfl, ⟨nd, rfl⟩⟩; refine ⟨_, rfl, ?_⟩) | ((with_reducible refine gate_callee (f := 21) rfl ?_); refine goesL_ (some 81) rfl rfl Tryd.func21 (by kernel_rfl) rfl #[.int .u64 t123, .int .i64 x67_2] rfl (by (try simp only [List.map_toArray, List.map_cons, List.map_nil]); first | done | rfl | (simp only [List.length_drop, List.length_take]; rfl)) ?_; (with_reducible refine (bits_Set_Has.calls t123 x67_2 t134 _ A37.out).mono ?_); rintro e w' ⟨rfl, ⟨nd, rfl⟩⟩; refine ⟨_, rfl, ?_⟩) | (go_at_call 21; (with_reducible refine (bits_Set_Has.calls t124 x67_2 t135 _ A42.out).mono ?_); rintro e w' ⟨rfl, ⟨nd, rfl⟩⟩) | (go_at_call 21; (with_reducible refine (bits_Set_Has.calls t128 x67_2 t136 _ A46.out).mono ?_); rintro e w' ⟨rfl, ⟨nd, rfl⟩⟩) | (go_at_call 21; (with_reducible refine (bits_Set_Has.calls t129 x67_2 t137 _ A50.out).mono ?_); rintro e w' ⟨rfl, ⟨nd, rfl⟩⟩) | (go_at_call 21; (with_reducible refine (bits_Set_Has.calls t130 x67_2 t138 _ A54.out).mono ?_); rintro e w' ⟨rfl, ⟨nd, rfl⟩⟩))
                              go_ret
                              exact ⟨by first | rfl | (simp [errW_none, errW_some] <;> rfl) | (simp [*, errW_none, errW_some] <;> rfl), by repeat (first | (with_reducible first | exact HB.out | apply below_alloc | apply pw_below_drewN | apply below_drew1) | exact HB.out)⟩
                            · rw [if_neg c55] at H
                              have c55b0 : (t138 != (!t132)) = false := by simpa using c55
                              have c55b1 : decide (t138 = (!t132)) = true := by revert c55; cases t138 <;> cases t132 <;> simp
                              have c55b2 : (t138 == (!t132)) = true := by revert c55; cases t138 <;> cases t132 <;> simp
                              clear c55
                              by_cases c58 : x16_2 = true
                              · subst c58
                                have H1 : (whirligiglaw10_BitsSets.l0 k2 a0 a1 l2 t112 t115 t123 t124 t128 t129 t130 t132 (wrap64 (x67_2 + 1))) = some r := by rw [if_pos rfl] at H; exact H
                                clear H
                                have H := H1
                                clear H1
                                have H' := Aside0.mk H
                                clear H
                                obtain ⟨Ao59, co59, eo59⟩ := Kd.R_slice HO_9.out
                                subst eo59
                                go_wp2_with (first | ((with_reducible refine gate_callee (f := 22) rfl ?_); refine goesL_ (some 72) rfl rfl Tryd.func22 (by kernel_rfl) rfl #[.slice Ao59 t112.length co59, .int .i64 x67_2] rfl (by (try simp only [List.map_toArray, List.map_cons, List.map_nil]); first | done | rfl | (simp only [List.length_drop, List.length_take]; rfl)) ?_; (with_reducible refine (whirligigref10_Has.calls k2 _ _ t112 x67_2 true _ ?side1 ?side2 A34.out).mono ?_); (case side1 => repeat (first | exact (Kd.R_reads' HO_9.out).2.2 | (with_reducible refine Kd.C_alloc ?_ _) | (with_reducible refine Kd.C_drewN ?_ _) | (with_reducible refine Kd.C_drew ?_))); (case side2 => exact (Kd.R_reads' HO_9.out).2.1); rintro e w' ⟨rfl, ⟨nd, rfl⟩⟩; refine ⟨_, rfl, ?_⟩; obtain ⟨Ao60, co60, eo60⟩ := Kd.R_slice HO_10.out; subst eo60) | ((with_reducible refine gate_callee (f := 22) rfl ?_); refine goesL_ (some 75) rfl rfl Tryd.func22 (by kernel_rfl) rfl #[.slice Ao60 t115.length co60, .int .i64 x67_2] rfl (by (try simp only [List.map_toArray, List.map_cons, List.map_nil]); first | done | rfl | (simp only [List.length_drop, List.length_take]; rfl)) ?_; (with_reducible refine (whirligigref10_Has.calls k2 _ _ t115 x67_2 t132 _ ?side1 ?side2 A35.out).mono ?_); (case side1 => repeat (first | exact (Kd.R_reads' HO_10.out).2.2 | (with_reducible refine Kd.C_alloc ?_ _) | (with_reducible refine Kd.C_drewN ?_ _) | (with_reducible refine Kd.C_drew ?_))); (case side2 => exact (Kd.R_reads' HO_10.out).2.1); rintro e w' ⟨rfl, ⟨nd, rfl⟩⟩; refine ⟨_, rfl, ?_⟩) | ((with_reducible refine gate_callee (f := 22) rfl ?_); refine goesL_ (some 78) rfl rfl Tryd.func22 (by kernel_rfl) rfl #[.slice A2 l2.length c2, .int .i64 x67_2] rfl (by (try simp only [List.map_toArray, List.map_cons, List.map_nil]); first | done | rfl | (simp only [List.length_drop, List.length_take]; rfl)) ?_; (with_reducible refine (whirligigref10_Has.calls k2 _ _ l2 x67_2 t133 _ ?side1 ?side2 A36.out).mono ?_); (case side1 => repeat (first | exact (Kd.C_below HR2.out (by repeat (first | (with_reducible first | exact HB.out | apply below_alloc | apply pw_below_drewN | apply below_drew1) | exact HB.out))) | (with_reducible refine Kd.C_alloc ?_ _) | (with_reducible refine Kd.C_drewN ?_ _) | (with_reducible refine Kd.C_drew ?_))); (case side2 => exact HC2.out); rintro e w' ⟨rfl, ⟨nd, rfl⟩⟩; refine ⟨_, rfl, ?_⟩) | ((with_reducible refine gate_callee (f := 21) rfl ?_); refine goesL_ (some 81) rfl rfl Tryd.func21 (by kernel_rfl) rfl #[.int .u64 t123, .int .i64 x67_2] rfl (by (try simp only [List.map_toArray, List.map_cons, List.map_nil]); first | done | rfl | (simp only [List.length_drop, List.length_take]; rfl)) ?_; (with_reducible refine (bits_Set_Has.calls t123 x67_2 t134 _ A37.out).mono ?_); rintro e w' ⟨rfl, ⟨nd, rfl⟩⟩; refine ⟨_, rfl, ?_⟩) | (go_at_call 21; (with_reducible refine (bits_Set_Has.calls t124 x67_2 t135 _ A42.out).mono ?_); rintro e w' ⟨rfl, ⟨nd, rfl⟩⟩) | (go_at_call 21; (with_reducible refine (bits_Set_Has.calls t128 x67_2 t136 _ A46.out).mono ?_); rintro e w' ⟨rfl, ⟨nd, rfl⟩⟩) | (go_at_call 21; (with_reducible refine (bits_Set_Has.calls t129 x67_2 t137 _ A50.out).mono ?_); rintro e w' ⟨rfl, ⟨nd, rfl⟩⟩) | (go_at_call 21; (with_reducible refine (bits_Set_Has.calls t130 x67_2 t138 _ A54.out).mono ?_); rintro e w' ⟨rfl, ⟨nd, rfl⟩⟩))
                                go_roundg k2
                                case measure => have := HJ10.out; have := HK2.out; omega
                                case rel => exact ⟨(t132), (wrap64 (x67_2 + 1)), (by first | rfl | (simp; done) | (simp [*]; done)), (by first | rfl | (simp; done) | (simp [*]; done)), H', ⟨by have := HJ10.out; have := HK2.out; omega⟩, ⟨by (with_reducible repeat (first | apply Kd.R_alloc | apply Kd.R_drewN | apply Kd.R_drew)); exact HO_9.out⟩, ⟨by (with_reducible repeat (first | apply Kd.R_alloc | apply Kd.R_drewN | apply Kd.R_drew)); exact HO_10.out⟩, ⟨by repeat (first | (with_reducible first | exact HB.out | apply below_alloc | apply pw_below_drewN | apply below_drew1) | exact HB.out)⟩⟩
                              · replace c58 := Bool.eq_false_iff.mpr c58
                                subst c58
                                have H1 : (whirligiglaw10_BitsSets.l0 k2 a0 a1 l2 t112 t115 t123 t124 t128 t129 t130 false (wrap64 (x67_2 + 1))) = some r := by rw [if_neg (show ¬ (false = true) by decide)] at H; exact H
                                clear H
                                have H := H1
                                clear H1
                                have H' := Aside0.mk H
                                clear H
                                obtain ⟨Ao61, co61, eo61⟩ := Kd.R_slice HO_9.out
                                subst eo61
                                go_wp2_with (first | ((with_reducible refine gate_callee (f := 22) rfl ?_); refine goesL_ (some 72) rfl rfl Tryd.func22 (by kernel_rfl) rfl #[.slice Ao61 t112.length co61, .int .i64 x67_2] rfl (by (try simp only [List.map_toArray, List.map_cons, List.map_nil]); first | done | rfl | (simp only [List.length_drop, List.length_take]; rfl)) ?_; (with_reducible refine (whirligigref10_Has.calls k2 _ _ t112 x67_2 true _ ?side1 ?side2 A34.out).mono ?_); (case side1 => repeat (first | exact (Kd.R_reads' HO_9.out).2.2 | (with_reducible refine Kd.C_alloc ?_ _) | (with_reducible refine Kd.C_drewN ?_ _) | (with_reducible refine Kd.C_drew ?_))); (case side2 => exact (Kd.R_reads' HO_9.out).2.1); rintro e w' ⟨rfl, ⟨nd, rfl⟩⟩; refine ⟨_, rfl, ?_⟩; obtain ⟨Ao62, co62, eo62⟩ := Kd.R_slice HO_10.out; subst eo62) | ((with_reducible refine gate_callee (f := 22) rfl ?_); refine goesL_ (some 75) rfl rfl Tryd.func22 (by kernel_rfl) rfl #[.slice Ao62 t115.length co62, .int .i64 x67_2] rfl (by (try simp only [List.map_toArray, List.map_cons, List.map_nil]); first | done | rfl | (simp only [List.length_drop, List.length_take]; rfl)) ?_; (with_reducible refine (whirligigref10_Has.calls k2 _ _ t115 x67_2 t132 _ ?side1 ?side2 A35.out).mono ?_); (case side1 => repeat (first | exact (Kd.R_reads' HO_10.out).2.2 | (with_reducible refine Kd.C_alloc ?_ _) | (with_reducible refine Kd.C_drewN ?_ _) | (with_reducible refine Kd.C_drew ?_))); (case side2 => exact (Kd.R_reads' HO_10.out).2.1); rintro e w' ⟨rfl, ⟨nd, rfl⟩⟩; refine ⟨_, rfl, ?_⟩) | ((with_reducible refine gate_callee (f := 22) rfl ?_); refine goesL_ (some 78) rfl rfl Tryd.func22 (by kernel_rfl) rfl #[.slice A2 l2.length c2, .int .i64 x67_2] rfl (by (try simp only [List.map_toArray, List.map_cons, List.map_nil]); first | done | rfl | (simp only [List.length_drop, List.length_take]; rfl)) ?_; (with_reducible refine (whirligigref10_Has.calls k2 _ _ l2 x67_2 t133 _ ?side1 ?side2 A36.out).mono ?_); (case side1 => repeat (first | exact (Kd.C_below HR2.out (by repeat (first | (with_reducible first | exact HB.out | apply below_alloc | apply pw_below_drewN | apply below_drew1) | exact HB.out))) | (with_reducible refine Kd.C_alloc ?_ _) | (with_reducible refine Kd.C_drewN ?_ _) | (with_reducible refine Kd.C_drew ?_))); (case side2 => exact HC2.out); rintro e w' ⟨rfl, ⟨nd, rfl⟩⟩; refine ⟨_, rfl, ?_⟩) | ((with_reducible refine gate_callee (f := 21) rfl ?_); refine goesL_ (some 81) rfl rfl Tryd.func21 (by kernel_rfl) rfl #[.int .u64 t123, .int .i64 x67_2] rfl (by (try simp only [List.map_toArray, List.map_cons, List.map_nil]); first | done | rfl | (simp only [List.length_drop, List.length_take]; rfl)) ?_; (with_reducible refine (bits_Set_Has.calls t123 x67_2 t134 _ A37.out).mono ?_); rintro e w' ⟨rfl, ⟨nd, rfl⟩⟩; refine ⟨_, rfl, ?_⟩) | (go_at_call 21; (with_reducible refine (bits_Set_Has.calls t124 x67_2 t135 _ A42.out).mono ?_); rintro e w' ⟨rfl, ⟨nd, rfl⟩⟩) | (go_at_call 21; (with_reducible refine (bits_Set_Has.calls t128 x67_2 t136 _ A46.out).mono ?_); rintro e w' ⟨rfl, ⟨nd, rfl⟩⟩) | (go_at_call 21; (with_reducible refine (bits_Set_Has.calls t129 x67_2 t137 _ A50.out).mono ?_); rintro e w' ⟨rfl, ⟨nd, rfl⟩⟩) | (go_at_call 21; (with_reducible refine (bits_Set_Has.calls t130 x67_2 t138 _ A54.out).mono ?_); rintro e w' ⟨rfl, ⟨nd, rfl⟩⟩))
                                go_roundg k2
                                case measure => have := HJ10.out; have := HK2.out; omega
                                case rel => exact ⟨(false), (wrap64 (x67_2 + 1)), (by first | rfl | (simp; done) | (simp [*]; done)), (by first | rfl | (simp; done) | (simp [*]; done)), H', ⟨by have := HJ10.out; have := HK2.out; omega⟩, ⟨by (with_reducible repeat (first | apply Kd.R_alloc | apply Kd.R_drewN | apply Kd.R_drew)); exact HO_9.out⟩, ⟨by (with_reducible repeat (first | apply Kd.R_alloc | apply Kd.R_drewN | apply Kd.R_drew)); exact HO_10.out⟩, ⟨by repeat (first | (with_reducible first | exact HB.out | apply below_alloc | apply pw_below_drewN | apply below_drew1) | exact HB.out)⟩⟩
                  · replace c38 := Bool.eq_false_iff.mpr c38
                    subst c38
                    have H1 : (if (t134 != t133) = true then (some false) else ((bits_Set_Has.f t124 x67_2).bind fun t139 => (if (t139 != false) = true then (some false) else ((bits_Set_Has.f t128 x67_2).bind fun t140 => (if (t140 != t132) = true then (some false) else ((bits_Set_Has.f t129 x67_2).bind fun t141 => (if (t141 != false) = true then (some false) else ((bits_Set_Has.f t130 x67_2).bind fun t142 => (if (t142 != false) = true then (some false) else (if x16_2 = true then (whirligiglaw10_BitsSets.l0 k2 a0 a1 l2 t112 t115 t123 t124 t128 t129 t130 true (wrap64 (x67_2 + 1))) else (whirligiglaw10_BitsSets.l0 k2 a0 a1 l2 t112 t115 t123 t124 t128 t129 t130 false (wrap64 (x67_2 + 1))))))))))))) = some r := by rw [if_neg (show ¬ (false = true) by decide)] at H; exact H
                    clear H
                    have H := H1
                    clear H1
                    by_cases c63 : (t134 != t133) = true
                    · rw [if_pos c63] at H
                      have c63b0 : (t134 != t133) = true := c63
                      (try (have c63b1 : decide (t134 = t133) = false := by simpa using c63))
                      (try (have c63b2 : (t134 == t133) = false := by simpa using c63))
                      (try (have c63b3 : ¬ (t134 = t133) := by simpa using c63))
                      clear c63
                      obtain rfl := Option.some.inj H
                      obtain ⟨Ao64, co64, eo64⟩ := Kd.R_slice HO_9.out
                      subst eo64
                      go_wp2_with (first | ((with_reducible refine gate_callee (f := 22) rfl ?_); refine goesL_ (some 72) rfl rfl Tryd.func22 (by kernel_rfl) rfl #[.slice Ao64 t112.length co64, .int .i64 x67_2] rfl (by (try simp only [List.map_toArray, List.map_cons, List.map_nil]); first | done | rfl | (simp only [List.length_drop, List.length_take]; rfl)) ?_; (with_reducible refine (whirligigref10_Has.calls k2 _ _ t112 x67_2 false _ ?side1 ?side2 A34.out).mono ?_); (case side1 => repeat (first | exact (Kd.R_reads' HO_9.out).2.2 | (with_reducible refine Kd.C_alloc ?_ _) | (with_reducible refine Kd.C_drewN ?_ _) | (with_reducible refine Kd.C_drew ?_))); (case side2 => exact (Kd.R_reads' HO_9.out).2.1); rintro e w' ⟨rfl, ⟨nd, rfl⟩⟩; refine ⟨_, rfl, ?_⟩; obtain ⟨Ao65, co65, eo65⟩ := Kd.R_slice HO_10.out; subst eo65) | ((with_reducible refine gate_callee (f := 22) rfl ?_); refine goesL_ (some 75) rfl rfl Tryd.func22 (by kernel_rfl) rfl #[.slice Ao65 t115.length co65, .int .i64 x67_2] rfl (by (try simp only [List.map_toArray, List.map_cons, List.map_nil]); first | done | rfl | (simp only [List.length_drop, List.length_take]; rfl)) ?_; (with_reducible refine (whirligigref10_Has.calls k2 _ _ t115 x67_2 t132 _ ?side1 ?side2 A35.out).mono ?_); (case side1 => repeat (first | exact (Kd.R_reads' HO_10.out).2.2 | (with_reducible refine Kd.C_alloc ?_ _) | (with_reducible refine Kd.C_drewN ?_ _) | (with_reducible refine Kd.C_drew ?_))); (case side2 => exact (Kd.R_reads' HO_10.out).2.1); rintro e w' ⟨rfl, ⟨nd, rfl⟩⟩; refine ⟨_, rfl, ?_⟩) | ((with_reducible refine gate_callee (f := 22) rfl ?_); refine goesL_ (some 78) rfl rfl Tryd.func22 (by kernel_rfl) rfl #[.slice A2 l2.length c2, .int .i64 x67_2] rfl (by (try simp only [List.map_toArray, List.map_cons, List.map_nil]); first | done | rfl | (simp only [List.length_drop, List.length_take]; rfl)) ?_; (with_reducible refine (whirligigref10_Has.calls k2 _ _ l2 x67_2 t133 _ ?side1 ?side2 A36.out).mono ?_); (case side1 => repeat (first | exact (Kd.C_below HR2.out (by repeat (first | (with_reducible first | exact HB.out | apply below_alloc | apply pw_below_drewN | apply below_drew1) | exact HB.out))) | (with_reducible refine Kd.C_alloc ?_ _) | (with_reducible refine Kd.C_drewN ?_ _) | (with_reducible refine Kd.C_drew ?_))); (case side2 => exact HC2.out); rintro e w' ⟨rfl, ⟨nd, rfl⟩⟩; refine ⟨_, rfl, ?_⟩) | ((with_reducible refine gate_callee (f := 21) rfl ?_); refine goesL_ (some 81) rfl rfl Tryd.func21 (by kernel_rfl) rfl #[.int .u64 t123, .int .i64 x67_2] rfl (by (try simp only [List.map_toArray, List.map_cons, List.map_nil]); first | done | rfl | (simp only [List.length_drop, List.length_take]; rfl)) ?_; (with_reducible refine (bits_Set_Has.calls t123 x67_2 t134 _ A37.out).mono ?_); rintro e w' ⟨rfl, ⟨nd, rfl⟩⟩; refine ⟨_, rfl, ?_⟩))
                      go_ret
                      exact ⟨by first | rfl | (simp [errW_none, errW_some] <;> rfl) | (simp [*, errW_none, errW_some] <;> rfl), by repeat (first | (with_reducible first | exact HB.out | apply below_alloc | apply pw_below_drewN | apply below_drew1) | exact HB.out)⟩
                    · rw [if_neg c63] at H
                      have c63b0 : (t134 != t133) = false := by simpa using c63
                      (try (have c63b1 : decide (t134 = t133) = true := by simpa using c63))
                      (try (have c63b2 : (t134 == t133) = true := by simpa using c63))
                      clear c63
                      replace H := Option.bind_eq_some_iff.mp H
                      obtain ⟨t139, A660, H⟩ := H
                      replace H : (if (t139 != false) = true then (some false) else ((bits_Set_Has.f t128 x67_2).bind fun t140 => (if (t140 != t132) = true then (some false) else ((bits_Set_Has.f t129 x67_2).bind fun t141 => (if (t141 != false) = true then (some false) else ((bits_Set_Has.f t130 x67_2).bind fun t142 => (if (t142 != false) = true then (some false) else (if x16_2 = true then (whirligiglaw10_BitsSets.l0 k2 a0 a1 l2 t112 t115 t123 t124 t128 t129 t130 true (wrap64 (x67_2 + 1))) else (whirligiglaw10_BitsSets.l0 k2 a0 a1 l2 t112 t115 t123 t124 t128 t129 t130 false (wrap64 (x67_2 + 1))))))))))) = some r := H
                      have A66 := Aside0.mk A660
                      clear A660
                      by_cases c67 : (t139 != false) = true
                      · rw [if_pos c67] at H
                        have c67b0 : (t139 != false) = true := c67
                        (try (have c67b1 : decide (t139 = false) = false := by simpa using c67))
                        (try (have c67b2 : (t139 == false) = false := by simpa using c67))
                        (try (have c67b3 : ¬ (t139 = false) := by simpa using c67))
                        clear c67
                        obtain rfl := Option.some.inj H
                        obtain ⟨Ao68, co68, eo68⟩ := Kd.R_slice HO_9.out
                        subst eo68
                        go_wp2_with (first | ((with_reducible refine gate_callee (f := 22) rfl ?_); refine goesL_ (some 72) rfl rfl Tryd.func22 (by kernel_rfl) rfl #[.slice Ao68 t112.length co68, .int .i64 x67_2] rfl (by (try simp only [List.map_toArray, List.map_cons, List.map_nil]); first | done | rfl | (simp only [List.length_drop, List.length_take]; rfl)) ?_; (with_reducible refine (whirligigref10_Has.calls k2 _ _ t112 x67_2 false _ ?side1 ?side2 A34.out).mono ?_); (case side1 => repeat (first | exact (Kd.R_reads' HO_9.out).2.2 | (with_reducible refine Kd.C_alloc ?_ _) | (with_reducible refine Kd.C_drewN ?_ _) | (with_reducible refine Kd.C_drew ?_))); (case side2 => exact (Kd.R_reads' HO_9.out).2.1); rintro e w' ⟨rfl, ⟨nd, rfl⟩⟩; refine ⟨_, rfl, ?_⟩; obtain ⟨Ao69, co69, eo69⟩ := Kd.R_slice HO_10.out; subst eo69) | ((with_reducible refine gate_callee (f := 22) rfl ?_); refine goesL_ (some 75) rfl rfl Tryd.func22 (by kernel_rfl) rfl #[.slice Ao69 t115.length co69, .int .i64 x67_2] rfl (by (try simp only [List.map_toArray, List.map_cons, List.map_nil]); first | done | rfl | (simp only [List.length_drop, List.length_take]; rfl)) ?_; (with_reducible refine (whirligigref10_Has.calls k2 _ _ t115 x67_2 t132 _ ?side1 ?side2 A35.out).mono ?_); (case side1 => repeat (first | exact (Kd.R_reads' HO_10.out).2.2 | (with_reducible refine Kd.C_alloc ?_ _) | (with_reducible refine Kd.C_drewN ?_ _) | (with_reducible refine Kd.C_drew ?_))); (case side2 => exact (Kd.R_reads' HO_10.out).2.1); rintro e w' ⟨rfl, ⟨nd, rfl⟩⟩; refine ⟨_, rfl, ?_⟩) | ((with_reducible refine gate_callee (f := 22) rfl ?_); refine goesL_ (some 78) rfl rfl Tryd.func22 (by kernel_rfl) rfl #[.slice A2 l2.length c2, .int .i64 x67_2] rfl (by (try simp only [List.map_toArray, List.map_cons, List.map_nil]); first | done | rfl | (simp only [List.length_drop, List.length_take]; rfl)) ?_; (with_reducible refine (whirligigref10_Has.calls k2 _ _ l2 x67_2 t133 _ ?side1 ?side2 A36.out).mono ?_); (case side1 => repeat (first | exact (Kd.C_below HR2.out (by repeat (first | (with_reducible first | exact HB.out | apply below_alloc | apply pw_below_drewN | apply below_drew1) | exact HB.out))) | (with_reducible refine Kd.C_alloc ?_ _) | (with_reducible refine Kd.C_drewN ?_ _) | (with_reducible refine Kd.C_drew ?_))); (case side2 => exact HC2.out); rintro e w' ⟨rfl, ⟨nd, rfl⟩⟩; refine ⟨_, rfl, ?_⟩) | ((with_reducible refine gate_callee (f := 21) rfl ?_); refine goesL_ (some 81) rfl rfl Tryd.func21 (by kernel_rfl) rfl #[.int .u64 t123, .int .i64 x67_2] rfl (by (try simp only [List.map_toArray, List.map_cons, List.map_nil]); first | done | rfl | (simp only [List.length_drop, List.length_take]; rfl)) ?_; (with_reducible refine (bits_Set_Has.calls t123 x67_2 t134 _ A37.out).mono ?_); rintro e w' ⟨rfl, ⟨nd, rfl⟩⟩; refine ⟨_, rfl, ?_⟩) | (go_at_call 21; (with_reducible refine (bits_Set_Has.calls t124 x67_2 t139 _ A66.out).mono ?_); rintro e w' ⟨rfl, ⟨nd, rfl⟩⟩))
                        go_ret
                        exact ⟨by first | rfl | (simp [errW_none, errW_some] <;> rfl) | (simp [*, errW_none, errW_some] <;> rfl), by repeat (first | (with_reducible first | exact HB.out | apply below_alloc | apply pw_below_drewN | apply below_drew1) | exact HB.out)⟩
                      · rw [if_neg c67] at H
                        have c67b0 : (t139 != false) = false := by simpa using c67
                        (try (have c67b1 : decide (t139 = false) = true := by simpa using c67))
                        (try (have c67b2 : (t139 == false) = true := by simpa using c67))
                        clear c67
                        replace H := Option.bind_eq_some_iff.mp H
                        obtain ⟨t140, A700, H⟩ := H
                        replace H : (if (t140 != t132) = true then (some false) else ((bits_Set_Has.f t129 x67_2).bind fun t141 => (if (t141 != false) = true then (some false) else ((bits_Set_Has.f t130 x67_2).bind fun t142 => (if (t142 != false) = true then (some false) else (if x16_2 = true then (whirligiglaw10_BitsSets.l0 k2 a0 a1 l2 t112 t115 t123 t124 t128 t129 t130 true (wrap64 (x67_2 + 1))) else (whirligiglaw10_BitsSets.l0 k2 a0 a1 l2 t112 t115 t123 t124 t128 t129 t130 false (wrap64 (x67_2 + 1))))))))) = some r := H
                        have A70 := Aside0.mk A700
                        clear A700
                        by_cases c71 : (t140 != t132) = true
                        · rw [if_pos c71] at H
                          have c71b0 : (t140 != t132) = true := c71
                          (try (have c71b1 : decide (t140 = t132) = false := by simpa using c71))
                          (try (have c71b2 : (t140 == t132) = false := by simpa using c71))
                          (try (have c71b3 : ¬ (t140 = t132) := by simpa using c71))
                          clear c71
                          obtain rfl := Option.some.inj H
                          obtain ⟨Ao72, co72, eo72⟩ := Kd.R_slice HO_9.out
                          subst eo72
                          go_wp2_with (first | ((with_reducible refine gate_callee (f := 22) rfl ?_); refine goesL_ (some 72) rfl rfl Tryd.func22 (by kernel_rfl) rfl #[.slice Ao72 t112.length co72, .int .i64 x67_2] rfl (by (try simp only [List.map_toArray, List.map_cons, List.map_nil]); first | done | rfl | (simp only [List.length_drop, List.length_take]; rfl)) ?_; (with_reducible refine (whirligigref10_Has.calls k2 _ _ t112 x67_2 false _ ?side1 ?side2 A34.out).mono ?_); (case side1 => repeat (first | exact (Kd.R_reads' HO_9.out).2.2 | (with_reducible refine Kd.C_alloc ?_ _) | (with_reducible refine Kd.C_drewN ?_ _) | (with_reducible refine Kd.C_drew ?_))); (case side2 => exact (Kd.R_reads' HO_9.out).2.1); rintro e w' ⟨rfl, ⟨nd, rfl⟩⟩; refine ⟨_, rfl, ?_⟩; obtain ⟨Ao73, co73, eo73⟩ := Kd.R_slice HO_10.out; subst eo73) | ((with_reducible refine gate_callee (f := 22) rfl ?_); refine goesL_ (some 75) rfl rfl Tryd.func22 (by kernel_rfl) rfl #[.slice Ao73 t115.length co73, .int .i64 x67_2] rfl (by (try simp only [List.map_toArray, List.map_cons, List.map_nil]); first | done | rfl | (simp only [List.length_drop, List.length_take]; rfl)) ?_; (with_reducible refine (whirligigref10_Has.calls k2 _ _ t115 x67_2 t132 _ ?side1 ?side2 A35.out).mono ?_); (case side1 => repeat (first | exact (Kd.R_reads' HO_10.out).2.2 | (with_reducible refine Kd.C_alloc ?_ _) | (with_reducible refine Kd.C_drewN ?_ _) | (with_reducible refine Kd.C_drew ?_))); (case side2 => exact (Kd.R_reads' HO_10.out).2.1); rintro e w' ⟨rfl, ⟨nd, rfl⟩⟩; refine ⟨_, rfl, ?_⟩) | ((with_reducible refine gate_callee (f := 22) rfl ?_); refine goesL_ (some 78) rfl rfl Tryd.func22 (by kernel_rfl) rfl #[.slice A2 l2.length c2, .int .i64 x67_2] rfl (by (try simp only [List.map_toArray, List.map_cons, List.map_nil]); first | done | rfl | (simp only [List.length_drop, List.length_take]; rfl)) ?_; (with_reducible refine (whirligigref10_Has.calls k2 _ _ l2 x67_2 t133 _ ?side1 ?side2 A36.out).mono ?_); (case side1 => repeat (first | exact (Kd.C_below HR2.out (by repeat (first | (with_reducible first | exact HB.out | apply below_alloc | apply pw_below_drewN | apply below_drew1) | exact HB.out))) | (with_reducible refine Kd.C_alloc ?_ _) | (with_reducible refine Kd.C_drewN ?_ _) | (with_reducible refine Kd.C_drew ?_))); (case side2 => exact HC2.out); rintro e w' ⟨rfl, ⟨nd, rfl⟩⟩; refine ⟨_, rfl, ?_⟩) | ((with_reducible refine gate_callee (f := 21) rfl ?_); refine goesL_ (some 81) rfl rfl Tryd.func21 (by kernel_rfl) rfl #[.int .u64 t123, .int .i64 x67_2] rfl (by (try simp only [List.map_toArray, List.map_cons, List.map_nil]); first | done | rfl | (simp only [List.length_drop, List.length_take]; rfl)) ?_; (with_reducible refine (bits_Set_Has.calls t123 x67_2 t134 _ A37.out).mono ?_); rintro e w' ⟨rfl, ⟨nd, rfl⟩⟩; refine ⟨_, rfl, ?_⟩) | (go_at_call 21; (with_reducible refine (bits_Set_Has.calls t124 x67_2 t139 _ A66.out).mono ?_); rintro e w' ⟨rfl, ⟨nd, rfl⟩⟩) | (go_at_call 21; (with_reducible refine (bits_Set_Has.calls t128 x67_2 t140 _ A70.out).mono ?_); rintro e w' ⟨rfl, ⟨nd, rfl⟩⟩))
                          go_ret
                          exact ⟨by first | rfl | (simp [errW_none, errW_some] <;> rfl) | (simp [*, errW_none, errW_some] <;> rfl), by repeat (first | (with_reducible first | exact HB.out | apply below_alloc | apply pw_below_drewN | apply below_drew1) | exact HB.out)⟩
                        · rw [if_neg c71] at H
                          have c71b0 : (t140 != t132) = false := by simpa using c71
                          (try (have c71b1 : decide (t140 = t132) = true := by simpa using c71))
                          (try (have c71b2 : (t140 == t132) = true := by simpa using c71))
                          clear c71
                          replace H := Option.bind_eq_some_iff.mp H
                          obtain ⟨t141, A740, H⟩ := H
                          replace H : (if (t141 != false) = true then (some false) else ((bits_Set_Has.f t130 x67_2).bind fun t142 => (if (t142 != false) = true then (some false) else (if x16_2 = true then (whirligiglaw10_BitsSets.l0 k2 a0 a1 l2 t112 t115 t123 t124 t128 t129 t130 true (wrap64 (x67_2 + 1))) else (whirligiglaw10_BitsSets.l0 k2 a0 a1 l2 t112 t115 t123 t124 t128 t129 t130 false (wrap64 (x67_2 + 1))))))) = some r := H
                          have A74 := Aside0.mk A740
                          clear A740
                          by_cases c75 : (t141 != false) = true
                          · rw [if_pos c75] at H
                            have c75b0 : (t141 != false) = true := c75
                            (try (have c75b1 : decide (t141 = false) = false := by simpa using c75))
                            (try (have c75b2 : (t141 == false) = false := by simpa using c75))
                            (try (have c75b3 : ¬ (t141 = false) := by simpa using c75))
                            clear c75
                            obtain rfl := Option.some.inj H
                            obtain ⟨Ao76, co76, eo76⟩ := Kd.R_slice HO_9.out
                            subst eo76
                            go_wp2_with (first | ((with_reducible refine gate_callee (f := 22) rfl ?_); refine goesL_ (some 72) rfl rfl Tryd.func22 (by kernel_rfl) rfl #[.slice Ao76 t112.length co76, .int .i64 x67_2] rfl (by (try simp only [List.map_toArray, List.map_cons, List.map_nil]); first | done | rfl | (simp only [List.length_drop, List.length_take]; rfl)) ?_; (with_reducible refine (whirligigref10_Has.calls k2 _ _ t112 x67_2 false _ ?side1 ?side2 A34.out).mono ?_); (case side1 => repeat (first | exact (Kd.R_reads' HO_9.out).2.2 | (with_reducible refine Kd.C_alloc ?_ _) | (with_reducible refine Kd.C_drewN ?_ _) | (with_reducible refine Kd.C_drew ?_))); (case side2 => exact (Kd.R_reads' HO_9.out).2.1); rintro e w' ⟨rfl, ⟨nd, rfl⟩⟩; refine ⟨_, rfl, ?_⟩; obtain ⟨Ao77, co77, eo77⟩ := Kd.R_slice HO_10.out; subst eo77) | ((with_reducible refine gate_callee (f := 22) rfl ?_); refine goesL_ (some 75) rfl rfl Tryd.func22 (by kernel_rfl) rfl #[.slice Ao77 t115.length co77, .int .i64 x67_2] rfl (by (try simp only [List.map_toArray, List.map_cons, List.map_nil]); first | done | rfl | (simp only [List.length_drop, List.length_take]; rfl)) ?_; (with_reducible refine (whirligigref10_Has.calls k2 _ _ t115 x67_2 t132 _ ?side1 ?side2 A35.out).mono ?_); (case side1 => repeat (first | exact (Kd.R_reads' HO_10.out).2.2 | (with_reducible refine Kd.C_alloc ?_ _) | (with_reducible refine Kd.C_drewN ?_ _) | (with_reducible refine Kd.C_drew ?_))); (case side2 => exact (Kd.R_reads' HO_10.out).2.1); rintro e w' ⟨rfl, ⟨nd, rfl⟩⟩; refine ⟨_, rfl, ?_⟩) | ((with_reducible refine gate_callee (f := 22) rfl ?_); refine goesL_ (some 78) rfl rfl Tryd.func22 (by kernel_rfl) rfl #[.slice A2 l2.length c2, .int .i64 x67_2] rfl (by (try simp only [List.map_toArray, List.map_cons, List.map_nil]); first | done | rfl | (simp only [List.length_drop, List.length_take]; rfl)) ?_; (with_reducible refine (whirligigref10_Has.calls k2 _ _ l2 x67_2 t133 _ ?side1 ?side2 A36.out).mono ?_); (case side1 => repeat (first | exact (Kd.C_below HR2.out (by repeat (first | (with_reducible first | exact HB.out | apply below_alloc | apply pw_below_drewN | apply below_drew1) | exact HB.out))) | (with_reducible refine Kd.C_alloc ?_ _) | (with_reducible refine Kd.C_drewN ?_ _) | (with_reducible refine Kd.C_drew ?_))); (case side2 => exact HC2.out); rintro e w' ⟨rfl, ⟨nd, rfl⟩⟩; refine ⟨_, rfl, ?_⟩) | ((with_reducible refine gate_callee (f := 21) rfl ?_); refine goesL_ (some 81) rfl rfl Tryd.func21 (by kernel_rfl) rfl #[.int .u64 t123, .int .i64 x67_2] rfl (by (try simp only [List.map_toArray, List.map_cons, List.map_nil]); first | done | rfl | (simp only [List.length_drop, List.length_take]; rfl)) ?_; (with_reducible refine (bits_Set_Has.calls t123 x67_2 t134 _ A37.out).mono ?_); rintro e w' ⟨rfl, ⟨nd, rfl⟩⟩; refine ⟨_, rfl, ?_⟩) | (go_at_call 21; (with_reducible refine (bits_Set_Has.calls t124 x67_2 t139 _ A66.out).mono ?_); rintro e w' ⟨rfl, ⟨nd, rfl⟩⟩) | (go_at_call 21; (with_reducible refine (bits_Set_Has.calls t128 x67_2 t140 _ A70.out).mono ?_); rintro e w' ⟨rfl, ⟨nd, rfl⟩⟩) | (go_at_call 21; (with_reducible refine (bits_Set_Has.calls t129 x67_2 t141 _ A74.out).mono ?_); rintro e w' ⟨rfl, ⟨nd, rfl⟩⟩))
                            go_ret
                            exact ⟨by first | rfl | (simp [errW_none, errW_some] <;> rfl) | (simp [*, errW_none, errW_some] <;> rfl), by repeat (first | (with_reducible first | exact HB.out | apply below_alloc | apply pw_below_drewN | apply below_drew1) | exact HB.out)⟩
                          · rw [if_neg c75] at H
                            have c75b0 : (t141 != false) = false := by simpa using c75
                            (try (have c75b1 : decide (t141 = false) = true := by simpa using c75))
                            (try (have c75b2 : (t141 == false) = true := by simpa using c75))
                            clear c75
                            replace H := Option.bind_eq_some_iff.mp H
                            obtain ⟨t142, A780, H⟩ := H
                            replace H : (if (t142 != false) = true then (some false) else (if x16_2 = true then (whirligiglaw10_BitsSets.l0 k2 a0 a1 l2 t112 t115 t123 t124 t128 t129 t130 true (wrap64 (x67_2 + 1))) else (whirligiglaw10_BitsSets.l0 k2 a0 a1 l2 t112 t115 t123 t124 t128 t129 t130 false (wrap64 (x67_2 + 1))))) = some r := H
                            have A78 := Aside0.mk A780
                            clear A780
                            by_cases c79 : (t142 != false) = true
                            · rw [if_pos c79] at H
                              have c79b0 : (t142 != false) = true := c79
                              (try (have c79b1 : decide (t142 = false) = false := by simpa using c79))
                              (try (have c79b2 : (t142 == false) = false := by simpa using c79))
                              (try (have c79b3 : ¬ (t142 = false) := by simpa using c79))
                              clear c79
                              obtain rfl := Option.some.inj H
                              obtain ⟨Ao80, co80, eo80⟩ := Kd.R_slice HO_9.out
                              subst eo80
                              go_wp2_with (first | ((with_reducible refine gate_callee (f := 22) rfl ?_); refine goesL_ (some 72) rfl rfl Tryd.func22 (by kernel_rfl) rfl #[.slice Ao80 t112.length co80, .int .i64 x67_2] rfl (by (try simp only [List.map_toArray, List.map_cons, List.map_nil]); first | done | rfl | (simp only [List.length_drop, List.length_take]; rfl)) ?_; (with_reducible refine (whirligigref10_Has.calls k2 _ _ t112 x67_2 false _ ?side1 ?side2 A34.out).mono ?_); (case side1 => repeat (first | exact (Kd.R_reads' HO_9.out).2.2 | (with_reducible refine Kd.C_alloc ?_ _) | (with_reducible refine Kd.C_drewN ?_ _) | (with_reducible refine Kd.C_drew ?_))); (case side2 => exact (Kd.R_reads' HO_9.out).2.1); rintro e w' ⟨rfl, ⟨nd, rfl⟩⟩; refine ⟨_, rfl, ?_⟩; obtain ⟨Ao81, co81, eo81⟩ := Kd.R_slice HO_10.out; subst eo81) | ((with_reducible refine gate_callee (f := 22) rfl ?_); refine goesL_ (some 75) rfl rfl Tryd.func22 (by kernel_rfl) rfl #[.slice Ao81 t115.length co81, .int .i64 x67_2] rfl (by (try simp only [List.map_toArray, List.map_cons, List.map_nil]); first | done | rfl | (simp only [List.length_drop, List.length_take]; rfl)) ?_; (with_reducible refine (whirligigref10_Has.calls k2 _ _ t115 x67_2 t132 _ ?side1 ?side2 A35.out).mono ?_); (case side1 => repeat (first | exact (Kd.R_reads' HO_10.out).2.2 | (with_reducible refine Kd.C_alloc ?_ _) | (with_reducible refine Kd.C_drewN ?_ _) | (with_reducible refine Kd.C_drew ?_))); (case side2 => exact (Kd.R_reads' HO_10.out).2.1); rintro e w' ⟨rfl, ⟨nd, rfl⟩⟩; refine ⟨_, rfl, ?_⟩) | ((with_reducible refine gate_callee (f := 22) rfl ?_); refine goesL_ (some 78) rfl rfl Tryd.func22 (by kernel_rfl) rfl #[.slice A2 l2.length c2, .int .i64 x67_2] rfl (by (try simp only [List.map_toArray, List.map_cons, List.map_nil]); first | done | rfl | (simp only [List.length_drop, List.length_take]; rfl)) ?_; (with_reducible refine (whirligigref10_Has.calls k2 _ _ l2 x67_2 t133 _ ?side1 ?side2 A36.out).mono ?_); (case side1 => repeat (first | exact (Kd.C_below HR2.out (by repeat (first | (with_reducible first | exact HB.out | apply below_alloc | apply pw_below_drewN | apply below_drew1) | exact HB.out))) | (with_reducible refine Kd.C_alloc ?_ _) | (with_reducible refine Kd.C_drewN ?_ _) | (with_reducible refine Kd.C_drew ?_))); (case side2 => exact HC2.out); rintro e w' ⟨rfl, ⟨nd, rfl⟩⟩; refine ⟨_, rfl, ?_⟩) | ((with_reducible refine gate_callee (f := 21) rfl ?_); refine goesL_ (some 81) rfl rfl Tryd.func21 (by kernel_rfl) rfl #[.int .u64 t123, .int .i64 x67_2] rfl (by (try simp only [List.map_toArray, List.map_cons, List.map_nil]); first | done | rfl | (simp only [List.length_drop, List.length_take]; rfl)) ?_; (with_reducible refine (bits_Set_Has.calls t123 x67_2 t134 _ A37.out).mono ?_); rintro e w' ⟨rfl, ⟨nd, rfl⟩⟩; refine ⟨_, rfl, ?_⟩) | (go_at_call 21; (with_reducible refine (bits_Set_Has.calls t124 x67_2 t139 _ A66.out).mono ?_); rintro e w' ⟨rfl, ⟨nd, rfl⟩⟩) | (go_at_call 21; (with_reducible refine (bits_Set_Has.calls t128 x67_2 t140 _ A70.out).mono ?_); rintro e w' ⟨rfl, ⟨nd, rfl⟩⟩) | (go_at_call 21; (with_reducible refine (bits_Set_Has.calls t129 x67_2 t141 _ A74.out).mono ?_); rintro e w' ⟨rfl, ⟨nd, rfl⟩⟩) | (go_at_call 21; (with_reducible refine (bits_Set_Has.calls t130 x67_2 t142 _ A78.out).mono ?_); rintro e w' ⟨rfl, ⟨nd, rfl⟩⟩))
                              go_ret
                              exact ⟨by first | rfl | (simp [errW_none, errW_some] <;> rfl) | (simp [*, errW_none, errW_some] <;> rfl), by repeat (first | (with_reducible first | exact HB.out | apply below_alloc | apply pw_below_drewN | apply below_drew1) | exact HB.out)⟩
                            · rw [if_neg c79] at H
                              have c79b0 : (t142 != false) = false := by simpa using c79
                              (try (have c79b1 : decide (t142 = false) = true := by simpa using c79))
                              (try (have c79b2 : (t142 == false) = true := by simpa using c79))
                              clear c79
                              by_cases c82 : x16_2 = true
                              · subst c82
                                have H1 : (whirligiglaw10_BitsSets.l0 k2 a0 a1 l2 t112 t115 t123 t124 t128 t129 t130 true (wrap64 (x67_2 + 1))) = some r := by rw [if_pos rfl] at H; exact H
                                clear H
                                have H := H1
                                clear H1
                                have H' := Aside0.mk H
                                clear H
                                obtain ⟨Ao83, co83, eo83⟩ := Kd.R_slice HO_9.out
                                subst eo83
                                go_wp2_with (first | ((with_reducible refine gate_callee (f := 22) rfl ?_); refine goesL_ (some 72) rfl rfl Tryd.func22 (by kernel_rfl) rfl #[.slice Ao83 t112.length co83, .int .i64 x67_2] rfl (by (try simp only [List.map_toArray, List.map_cons, List.map_nil]); first | done | rfl | (simp only [List.length_drop, List.length_take]; rfl)) ?_; (with_reducible refine (whirligigref10_Has.calls k2 _ _ t112 x67_2 false _ ?side1 ?side2 A34.out).mono ?_); (case side1 => repeat (first | exact (Kd.R_reads' HO_9.out).2.2 | (with_reducible refine Kd.C_alloc ?_ _) | (with_reducible refine Kd.C_drewN ?_ _) | (with_reducible refine Kd.C_drew ?_))); (case side2 => exact (Kd.R_reads' HO_9.out).2.1); rintro e w' ⟨rfl, ⟨nd, rfl⟩⟩; refine ⟨_, rfl, ?_⟩; obtain ⟨Ao84, co84, eo84⟩ := Kd.R_slice HO_10.out; subst eo84) | ((with_reducible refine gate_callee (f := 22) rfl ?_); refine goesL_ (some 75) rfl rfl Tryd.func22 (by kernel_rfl) rfl #[.slice Ao84 t115.length co84, .int .i64 x67_2] rfl (by (try simp only [List.map_toArray, List.map_cons, List.map_nil]); first | done | rfl | (simp only [List.length_drop, List.length_take]; rfl)) ?_; (with_reducible refine (whirligigref10_Has.calls k2 _ _ t115 x67_2 t132 _ ?side1 ?side2 A35.out).mono ?_); (case side1 => repeat (first | exact (Kd.R_reads' HO_10.out).2.2 | (with_reducible refine Kd.C_alloc ?_ _) | (with_reducible refine Kd.C_drewN ?_ _) | (with_reducible refine Kd.C_drew ?_))); (case side2 => exact (Kd.R_reads' HO_10.out).2.1); rintro e w' ⟨rfl, ⟨nd, rfl⟩⟩; refine ⟨_, rfl, ?_⟩) | ((with_reducible refine gate_callee (f := 22) rfl ?_); refine goesL_ (some 78) rfl rfl Tryd.func22 (by kernel_rfl) rfl #[.slice A2 l2.length c2, .int .i64 x67_2] rfl (by (try simp only [List.map_toArray, List.map_cons, List.map_nil]); first | done | rfl | (simp only [List.length_drop, List.length_take]; rfl)) ?_; (with_reducible refine (whirligigref10_Has.calls k2 _ _ l2 x67_2 t133 _ ?side1 ?side2 A36.out).mono ?_); (case side1 => repeat (first | exact (Kd.C_below HR2.out (by repeat (first | (with_reducible first | exact HB.out | apply below_alloc | apply pw_below_drewN | apply below_drew1) | exact HB.out))) | (with_reducible refine Kd.C_alloc ?_ _) | (with_reducible refine Kd.C_drewN ?_ _) | (with_reducible refine Kd.C_drew ?_))); (case side2 => exact HC2.out); rintro e w' ⟨rfl, ⟨nd, rfl⟩⟩; refine ⟨_, rfl, ?_⟩) | ((with_reducible refine gate_callee (f := 21) rfl ?_); refine goesL_ (some 81) rfl rfl Tryd.func21 (by kernel_rfl) rfl #[.int .u64 t123, .int .i64 x67_2] rfl (by (try simp only [List.map_toArray, List.map_cons, List.map_nil]); first | done | rfl | (simp only [List.length_drop, List.length_take]; rfl)) ?_; (with_reducible refine (bits_Set_Has.calls t123 x67_2 t134 _ A37.out).mono ?_); rintro e w' ⟨rfl, ⟨nd, rfl⟩⟩; refine ⟨_, rfl, ?_⟩) | (go_at_call 21; (with_reducible refine (bits_Set_Has.calls t124 x67_2 t139 _ A66.out).mono ?_); rintro e w' ⟨rfl, ⟨nd, rfl⟩⟩) | (go_at_call 21; (with_reducible refine (bits_Set_Has.calls t128 x67_2 t140 _ A70.out).mono ?_); rintro e w' ⟨rfl, ⟨nd, rfl⟩⟩) | (go_at_call 21; (with_reducible refine (bits_Set_Has.calls t129 x67_2 t141 _ A74.out).mono ?_); rintro e w' ⟨rfl, ⟨nd, rfl⟩⟩) | (go_at_call 21; (with_reducible refine (bits_Set_Has.calls t130 x67_2 t142 _ A78.out).mono ?_); rintro e w' ⟨rfl, ⟨nd, rfl⟩⟩))
                                go_roundg k2
                                case measure => have := HJ10.out; have := HK2.out; omega
                                case rel => exact ⟨(true), (wrap64 (x67_2 + 1)), (by first | rfl | (simp; done) | (simp [*]; done)), (by first | rfl | (simp; done) | (simp [*]; done)), H', ⟨by have := HJ10.out; have := HK2.out; omega⟩, ⟨by (with_reducible repeat (first | apply Kd.R_alloc | apply Kd.R_drewN | apply Kd.R_drew)); exact HO_9.out⟩, ⟨by (with_reducible repeat (first | apply Kd.R_alloc | apply Kd.R_drewN | apply Kd.R_drew)); exact HO_10.out⟩, ⟨by repeat (first | (with_reducible first | exact HB.out | apply below_alloc | apply pw_below_drewN | apply below_drew1) | exact HB.out)⟩⟩
                              · replace c82 := Bool.eq_false_iff.mpr c82
                                subst c82
                                have H1 : (whirligiglaw10_BitsSets.l0 k2 a0 a1 l2 t112 t115 t123 t124 t128 t129 t130 false (wrap64 (x67_2 + 1))) = some r := by rw [if_neg (show ¬ (false = true) by decide)] at H; exact H
                                clear H
                                have H := H1
                                clear H1
                                have H' := Aside0.mk H
                                clear H
                                obtain ⟨Ao85, co85, eo85⟩ := Kd.R_slice HO_9.out
                                subst eo85
                                go_wp2_with (first | ((with_reducible refine gate_callee (f := 22) rfl ?_); refine goesL_ (some 72) rfl rfl Tryd.func22 (by kernel_rfl) rfl #[.slice Ao85 t112.length co85, .int .i64 x67_2] rfl (by (try simp only [List.map_toArray, List.map_cons, List.map_nil]); first | done | rfl | (simp only [List.length_drop, List.length_take]; rfl)) ?_; (with_reducible refine (whirligigref10_Has.calls k2 _ _ t112 x67_2 false _ ?side1 ?side2 A34.out).mono ?_); (case side1 => repeat (first | exact (Kd.R_reads' HO_9.out).2.2 | (with_reducible refine Kd.C_alloc ?_ _) | (with_reducible refine Kd.C_drewN ?_ _) | (with_reducible refine Kd.C_drew ?_))); (case side2 => exact (Kd.R_reads' HO_9.out).2.1); rintro e w' ⟨rfl, ⟨nd, rfl⟩⟩; refine ⟨_, rfl, ?_⟩; obtain ⟨Ao86, co86, eo86⟩ := Kd.R_slice HO_10.out; subst eo86) | ((with_reducible refine gate_callee (f := 22) rfl ?_); refine goesL_ (some 75) rfl rfl Tryd.func22 (by kernel_rfl) rfl #[.slice Ao86 t115.length co86, .int .i64 x67_2] rfl (by (try simp only [List.map_toArray, List.map_cons, List.map_nil]); first | done | rfl | (simp only [List.length_drop, List.length_take]; rfl)) ?_; (with_reducible refine (whirligigref10_Has.calls k2 _ _ t115 x67_2 t132 _ ?side1 ?side2 A35.out).mono ?_); (case side1 => repeat (first | exact (Kd.R_reads' HO_10.out).2.2 | (with_reducible refine Kd.C_alloc ?_ _) | (with_reducible refine Kd.C_drewN ?_ _) | (with_reducible refine Kd.C_drew ?_))); (case side2 => exact (Kd.R_reads' HO_10.out).2.1); rintro e w' ⟨rfl, ⟨nd, rfl⟩⟩; refine ⟨_, rfl, ?_⟩) | ((with_reducible refine gate_callee (f := 22) rfl ?_); refine goesL_ (some 78) rfl rfl Tryd.func22 (by kernel_rfl) rfl #[.slice A2 l2.length c2, .int .i64 x67_2] rfl (by (try simp only [List.map_toArray, List.map_cons, List.map_nil]); first | done | rfl | (simp only [List.length_drop, List.length_take]; rfl)) ?_; (with_reducible refine (whirligigref10_Has.calls k2 _ _ l2 x67_2 t133 _ ?side1 ?side2 A36.out).mono ?_); (case side1 => repeat (first | exact (Kd.C_below HR2.out (by repeat (first | (with_reducible first | exact HB.out | apply below_alloc | apply pw_below_drewN | apply below_drew1) | exact HB.out))) | (with_reducible refine Kd.C_alloc ?_ _) | (with_reducible refine Kd.C_drewN ?_ _) | (with_reducible refine Kd.C_drew ?_))); (case side2 => exact HC2.out); rintro e w' ⟨rfl, ⟨nd, rfl⟩⟩; refine ⟨_, rfl, ?_⟩) | ((with_reducible refine gate_callee (f := 21) rfl ?_); refine goesL_ (some 81) rfl rfl Tryd.func21 (by kernel_rfl) rfl #[.int .u64 t123, .int .i64 x67_2] rfl (by (try simp only [List.map_toArray, List.map_cons, List.map_nil]); first | done | rfl | (simp only [List.length_drop, List.length_take]; rfl)) ?_; (with_reducible refine (bits_Set_Has.calls t123 x67_2 t134 _ A37.out).mono ?_); rintro e w' ⟨rfl, ⟨nd, rfl⟩⟩; refine ⟨_, rfl, ?_⟩) | (go_at_call 21; (with_reducible refine (bits_Set_Has.calls t124 x67_2 t139 _ A66.out).mono ?_); rintro e w' ⟨rfl, ⟨nd, rfl⟩⟩) | (go_at_call 21; (with_reducible refine (bits_Set_Has.calls t128 x67_2 t140 _ A70.out).mono ?_); rintro e w' ⟨rfl, ⟨nd, rfl⟩⟩) | (go_at_call 21; (with_reducible refine (bits_Set_Has.calls t129 x67_2 t141 _ A74.out).mono ?_); rintro e w' ⟨rfl, ⟨nd, rfl⟩⟩) | (go_at_call 21; (with_reducible refine (bits_Set_Has.calls t130 x67_2 t142 _ A78.out).mono ?_); rintro e w' ⟨rfl, ⟨nd, rfl⟩⟩))
                                go_roundg k2
                                case measure => have := HJ10.out; have := HK2.out; omega
                                case rel => exact ⟨(false), (wrap64 (x67_2 + 1)), (by first | rfl | (simp; done) | (simp [*]; done)), (by first | rfl | (simp; done) | (simp [*]; done)), H', ⟨by have := HJ10.out; have := HK2.out; omega⟩, ⟨by (with_reducible repeat (first | apply Kd.R_alloc | apply Kd.R_drewN | apply Kd.R_drew)); exact HO_9.out⟩, ⟨by (with_reducible repeat (first | apply Kd.R_alloc | apply Kd.R_drewN | apply Kd.R_drew)); exact HO_10.out⟩, ⟨by repeat (first | (with_reducible first | exact HB.out | apply below_alloc | apply pw_below_drewN | apply below_drew1) | exact HB.out)⟩⟩
                · rw [if_neg c33] at H
                  have c33b0 : decide (x67_2 < 64) = false := decide_eq_false c33
                  clear c33
                  replace H := Option.bind_eq_some_iff.mp H
                  obtain ⟨t143, A870, H⟩ := H
                  replace H : (if (t143 == x16_2) = true then ((bits_Set_Join.f k2 a0 ([] : List Int)).bind fun t144 => (if t144 = a0 then ((bits_Set_Join.f k2 a0 (([a1, a0] : List Int))).bind fun t148 => ((bits_Set_Join.f k2 a1 (([a0] : List Int))).bind fun t152 => (some (t148 == t152)))) else (some false))) else (some false)) = some r := H
                  have A87 := Aside0.mk A870
                  clear A870
                  by_cases c88 : (t143 == x16_2) = true
                  · rw [if_pos c88] at H
                    have c88b0 : (t143 == x16_2) = true := c88
                    (try (have c88b1 : decide (t143 = x16_2) = true := by simpa using c88))
                    (try (have c88b2 : (t143 == x16_2) = true := by simpa using c88))
                    clear c88
                    replace H := Option.bind_eq_some_iff.mp H
                    obtain ⟨t144, A890, H⟩ := H
                    replace H : (if t144 = a0 then ((bits_Set_Join.f k2 a0 (([a1, a0] : List Int))).bind fun t148 => ((bits_Set_Join.f k2 a1 (([a0] : List Int))).bind fun t152 => (some (t148 == t152)))) else (some false)) = some r := H
                    have A89 := Aside0.mk A890
                    clear A890
                    by_cases c90 : t144 = a0
                    · rw [if_pos c90] at H
                      have c90b0 : (t144 == a0) = true := beq_iff_eq.mpr c90
                      have c90b1 : (t144 != a0) = false := bne_eq_false_iff_eq.mpr c90
                      clear c90
                      obtain ⟨y145, hy145⟩ : ∃ y_ : List Int, y_ = (([a1, a0] : List Int)) := ⟨_, rfl⟩
                      replace H : ((bits_Set_Join.f k2 a0 y145).bind fun t148 => ((bits_Set_Join.f k2 a1 (([a0] : List Int))).bind fun t152 => (some (t148 == t152)))) = some r := by first | (rw [hy145]; with_reducible exact H) | (have H2_ := (Option.bind_some _ _).symm.trans H; rw [hy145]; with_reducible exact H2_) | (have H2_ := (Option.bind_some _ _).symm.trans H; with_reducible exact H2_) | with_reducible exact H | (rw [hy145]; exact H) | exact H
                      have Ny145 := Aside0.mk hy145
                      clear hy145
                      replace H := Option.bind_eq_some_iff.mp H
                      obtain ⟨t148, A910, H⟩ := H
                      replace H : ((bits_Set_Join.f k2 a1 (([a0] : List Int))).bind fun t152 => (some (t148 == t152))) = some r := H
                      have A91 := Aside0.mk A910
                      clear A910
                      obtain ⟨y149, hy149⟩ : ∃ y_ : List Int, y_ = (([a0] : List Int)) := ⟨_, rfl⟩
                      replace H : ((bits_Set_Join.f k2 a1 y149).bind fun t152 => (some (t148 == t152))) = some r := by first | (rw [hy149]; with_reducible exact H) | (have H2_ := (Option.bind_some _ _).symm.trans H; rw [hy149]; with_reducible exact H2_) | (have H2_ := (Option.bind_some _ _).symm.trans H; with_reducible exact H2_) | with_reducible exact H | (rw [hy149]; exact H) | exact H
                      have Ny149 := Aside0.mk hy149
                      clear hy149
                      replace H := Option.bind_eq_some_iff.mp H
                      obtain ⟨t152, A920, H⟩ := H
                      replace H : (some (t148 == t152)) = some r := H
                      have A92 := Aside0.mk A920
                      clear A920
                      obtain rfl := Option.some.inj H
                      go_wp2_with (first | ((with_reducible refine gate_callee (f := 17) rfl ?_); refine goesL_ (some 140) rfl rfl Tryd.func17 (by kernel_rfl) rfl #[.int .u64 a0, .int .u64 a1] rfl (by (try simp only [List.map_toArray, List.map_cons, List.map_nil]); first | done | rfl | (simp only [List.length_drop, List.length_take]; rfl)) ?_; (with_reducible refine (bits_Set_In.calls a0 a1 t143 _ A87.out).mono ?_); rintro e w' ⟨rfl, ⟨nd, rfl⟩⟩; refine ⟨_, rfl, ?_⟩) | ((with_reducible refine gate_dst (N := 153) rfl ?_); (try (refine gate_guard (by rfl) ?_; dsimp only)); refine Kd.R_lit (Kd.int .u64) _ 23 ?hg (N := 153) ?hd (xs := ([a1, a0] : List Int)) (inner := [.int .u64 a1, .int .u64 a0]) (ok := fun _ => True) (okp := fun _ => True) ?hr ?hp (fun _ hk => hk) trivial (Below.refl _ _) (Nat.le_refl _) (by simp) ?_; (case hd => rfl); (case hg => rfl); (case hr => first | (go_simp; done) | (go_simp; rfl)); (case hp => exact (Reps.one (show Kd.M (Kd.int .u64) _ _ _ a1 [.int .u64 a1] from rfl) (Reps.one (show Kd.M (Kd.int .u64) _ _ _ a0 [.int .u64 a0] from rfl) (Reps.none _ _)))); intro v146 w93 ho94 hb hg_ hnew_; clear hg_ hnew_; (first | rw [← Ny145.out] at ho94 | (simp only [Int.reduceToNat] at ho94; rw [← Ny145.out] at ho94)); have n0_ := Aside0.mk (Kd.R_below (by (with_reducible repeat (first | apply Kd.R_alloc | apply Kd.R_drewN | apply Kd.R_drew)); exact HO_9.out) hb); have n1_ := Aside0.mk (Kd.R_below (by (with_reducible repeat (first | apply Kd.R_alloc | apply Kd.R_drewN | apply Kd.R_drew)); exact HO_10.out) hb); have n2_ := Aside0.mk (Kd.R_lower ho94 (below_size (by repeat (first | (with_reducible first | exact HB.out | apply below_alloc | apply pw_below_drewN | apply below_drew1) | exact HB.out)))); have n3_ := Aside0.mk (below_step (by repeat (first | (with_reducible first | exact HB.out | apply below_alloc | apply pw_below_drewN | apply below_drew1) | exact HB.out)) hb); clear HO_9; clear HO_10; clear HB; have HO_9 := n0_; have HO_10 := n1_; have HO147 := n2_; have HB := n3_; clear n0_ n1_ n2_ n3_; clear hb ho94; obtain ⟨Ao95, co95, eo95⟩ := Kd.R_slice HO147.out; subst eo95) | (go_at_call 14; (with_reducible refine (bits_Set_Join.calls k2 a0 _ _ y145 t148 _ ?side1 ?side2 A91.out).mono ?_); (case side1 => repeat (first | exact (Kd.R_reads' HO147.out).2.2 | (with_reducible refine Kd.C_alloc ?_ _) | (with_reducible refine Kd.C_drewN ?_ _) | (with_reducible refine Kd.C_drew ?_))); (case side2 => exact (Kd.R_reads' HO147.out).2.1); rintro e w' ⟨rfl, ⟨nd, rfl⟩⟩) | ((with_reducible refine gate_dst (N := 157) rfl ?_); (try (refine gate_guard (by rfl) ?_; dsimp only)); refine Kd.R_lit (Kd.int .u64) _ 23 ?hg (N := 157) ?hd (xs := ([a0] : List Int)) (inner := [.int .u64 a0]) (ok := fun _ => True) (okp := fun _ => True) ?hr ?hp (fun _ hk => hk) trivial (Below.refl _ _) (Nat.le_refl _) (by simp) ?_; (case hd => rfl); (case hg => rfl); (case hr => first | (go_simp; done) | (go_simp; rfl)); (case hp => exact (Reps.one (show Kd.M (Kd.int .u64) _ _ _ a0 [.int .u64 a0] from rfl) (Reps.none _ _))); intro v150 w96 ho97 hb hg_ hnew_; clear hg_ hnew_; (first | rw [← Ny149.out] at ho97 | (simp only [Int.reduceToNat] at ho97; rw [← Ny149.out] at ho97)); have n0_ := Aside0.mk (Kd.R_below (by (with_reducible repeat (first | apply Kd.R_alloc | apply Kd.R_drewN | apply Kd.R_drew)); exact HO_9.out) hb); have n1_ := Aside0.mk (Kd.R_below (by (with_reducible repeat (first | apply Kd.R_alloc | apply Kd.R_drewN | apply Kd.R_drew)); exact HO_10.out) hb); have n2_ := Aside0.mk (Kd.R_elder' (by (with_reducible repeat (first | apply Kd.R_alloc | apply Kd.R_drewN | apply Kd.R_drew)); exact HO147.out) (Kd.R_base ho97) hb); have n3_ := Aside0.mk (Kd.R_lower (Kd.R_new' ho97 (Kd.R_lt (by (with_reducible repeat (first | apply Kd.R_alloc | apply Kd.R_drewN | apply Kd.R_drew)); exact HO147.out))) (below_size (by repeat (first | (with_reducible first | exact HB.out | apply below_alloc | apply pw_below_drewN | apply below_drew1) | exact HB.out)))); have n4_ := Aside0.mk (below_step (by repeat (first | (with_reducible first | exact HB.out | apply below_alloc | apply pw_below_drewN | apply below_drew1) | exact HB.out)) hb); clear HO_9; clear HO_10; clear HO147; clear HB; have HO_9 := n0_; have HO_10 := n1_; have HO147 := n2_; have HO151 := n3_; have HB := n4_; clear n0_ n1_ n2_ n3_ n4_; clear hb ho97; obtain ⟨Ao98, co98, eo98⟩ := Kd.R_slice HO151.out; subst eo98) | (go_at_call 14; (with_reducible refine (bits_Set_Join.calls k2 a1 _ _ y149 t152 _ ?side1 ?side2 A92.out).mono ?_); (case side1 => repeat (first | exact (Kd.R_reads' HO151.out).2.2 | (with_reducible refine Kd.C_alloc ?_ _) | (with_reducible refine Kd.C_drewN ?_ _) | (with_reducible refine Kd.C_drew ?_))); (case side2 => exact (Kd.R_reads' HO151.out).2.1); rintro e w' ⟨rfl, ⟨nd, rfl⟩⟩) | (go_at_call 14; (refine (bits_Set_Join.calls k2 a0 _ _ ([] : List Int) t144 _ ?side1 ?side2 A89.out).mono ?_); (case side1 => exact Kd.C_nil _ _); (case side2 => exact Nat.le_refl _); rintro e w' ⟨rfl, ⟨nd, rfl⟩⟩))
                      go_ret
                      exact ⟨by first | rfl | (simp [errW_none, errW_some] <;> rfl) | (simp [*, errW_none, errW_some] <;> rfl), by repeat (first | (with_reducible first | exact HB.out | apply below_alloc | apply pw_below_drewN | apply below_drew1) | exact HB.out)⟩
                    · rw [if_neg c90] at H
                      have c90b0 : (t144 == a0) = false := beq_eq_false_iff_ne.mpr c90
                      have c90b1 : (t144 != a0) = true := bne_iff_ne.mpr c90
                      obtain rfl := Option.some.inj H
                      go_wp2_with (first | ((with_reducible refine gate_callee (f := 17) rfl ?_); refine goesL_ (some 140) rfl rfl Tryd.func17 (by kernel_rfl) rfl #[.int .u64 a0, .int .u64 a1] rfl (by (try simp only [List.map_toArray, List.map_cons, List.map_nil]); first | done | rfl | (simp only [List.length_drop, List.length_take]; rfl)) ?_; (with_reducible refine (bits_Set_In.calls a0 a1 t143 _ A87.out).mono ?_); rintro e w' ⟨rfl, ⟨nd, rfl⟩⟩; refine ⟨_, rfl, ?_⟩) | (go_at_call 14; (refine (bits_Set_Join.calls k2 a0 _ _ ([] : List Int) t144 _ ?side1 ?side2 A89.out).mono ?_); (case side1 => exact Kd.C_nil _ _); (case side2 => exact Nat.le_refl _); rintro e w' ⟨rfl, ⟨nd, rfl⟩⟩))
                      go_ret
                      exact ⟨by first | rfl | (simp [errW_none, errW_some] <;> rfl) | (simp [*, errW_none, errW_some] <;> rfl), by repeat (first | (with_reducible first | exact HB.out | apply below_alloc | apply pw_below_drewN | apply below_drew1) | exact HB.out)⟩
                  · rw [if_neg c88] at H
                    have c88b0 : (t143 == x16_2) = false := by simpa using c88
                    (try (have c88b1 : decide (t143 = x16_2) = false := by simpa using c88))
                    (try (have c88b2 : (t143 == x16_2) = false := by simpa using c88))
                    (try (have c88b3 : ¬ (t143 = x16_2) := by simpa using c88))
                    clear c88
                    obtain rfl := Option.some.inj H
                    go_wp2_with (first | ((with_reducible refine gate_callee (f := 17) rfl ?_); refine goesL_ (some 140) rfl rfl Tryd.func17 (by kernel_rfl) rfl #[.int .u64 a0, .int .u64 a1] rfl (by (try simp only [List.map_toArray, List.map_cons, List.map_nil]); first | done | rfl | (simp only [List.length_drop, List.length_take]; rfl)) ?_; (with_reducible refine (bits_Set_In.calls a0 a1 t143 _ A87.out).mono ?_); rintro e w' ⟨rfl, ⟨nd, rfl⟩⟩; refine ⟨_, rfl, ?_⟩))
                    go_ret
                    exact ⟨by first | rfl | (simp [errW_none, errW_some] <;> rfl) | (simp [*, errW_none, errW_some] <;> rfl), by repeat (first | (with_reducible first | exact HB.out | apply below_alloc | apply pw_below_drewN | apply below_drew1) | exact HB.out)⟩
  · replace c6 := Bool.eq_false_iff.mpr c6
    subst c6
    have H1 : (some false) = some r := by rw [if_neg (show ¬ (false = true) by decide)] at H; exact H
    clear H
    have H := H1
    clear H1
    obtain rfl := Option.some.inj H
    go_enter Tryd.func5, Tryd.ntmps5
    go_wp2_with (first | ((with_reducible refine gate_callee (f := 6) rfl ?_); refine goesL_ (some 21) rfl rfl Tryd.func6 (by kernel_rfl) rfl #[] rfl (by (try simp only [List.map_toArray, List.map_cons, List.map_nil]); first | done | rfl | (simp only [List.length_drop, List.length_take]; rfl)) ?_; (with_reducible refine (whirligiglaw10_anchor.calls  false _ A5.out).mono ?_); rintro e w99 ⟨rfl, hb⟩; refine ⟨_, rfl, ?_⟩; have n0_ := Aside0.mk (below_step (by repeat (first | (with_reducible first | exact HB.out | apply below_alloc | apply pw_below_drewN | apply below_drew1) | exact HB.out)) hb); clear HB; have HB := n0_; clear n0_; (try clear hb); (try clear hb2); (try clear hk); (try clear hi)))
    go_ret
    exact ⟨by first | rfl | (simp [errW_none, errW_some] <;> rfl) | (simp [*, errW_none, errW_some] <;> rfl), by repeat (first | (with_reducible first | exact HB.out | apply below_alloc | apply pw_below_drewN | apply below_drew1) | exact HB.out)⟩

/-- THE ONE PURE STATEMENT of whirligiglaw10_BitsSets: yours. -/
def whirligiglaw10_BitsSets.Pure : Prop := ∀ (a0 : Int) (a1 : Int) (l2 : List Int) (a3 : Int), (Lit.int .u64 a0).wf = true → (Lit.int .u64 a1).wf = true → l2.length ≤ maxLen → l2.length * 8 ≤ 140737488351232 → (∀ x ∈ l2, (Lit.int .i64 x).wf = true) → (Lit.int .i64 a3).wf = true → ∃ k, whirligiglaw10_BitsSets.f k a0 a1 l2 a3 = some true
theorem whirligiglaw10_BitsSets.walk (P : whirligiglaw10_BitsSets.Pure) (a0 : Int) (a1 : Int) (a2 : Option Addr) (len2 cap2 : Nat) (z2 : List Int) (a3 : Int) (w : World) [TabFact w] (w0 : (Lit.int .u64 a0).wf = true) (w1 : (Lit.int .u64 a1).wf = true) (w2 : (a2 = none ∧ len2 = 0 ∧ cap2 = 0 ∧ z2 = []) ∨ ∃ x, a2 = some x ∧ len2 ≤ cap2 ∧ cap2 ≤ maxLen ∧ z2.length = cap2 ∧ (∀ i, i < z2.length → w.cell? (x.add i) = some (.int .i64 (z2.getD i 0))) ∧ ∀ n ∈ z2, (Lit.int .i64 n).wf = true) (y2 : len2 * 8 ≤ 140737488351232) (w3 : (Lit.int .i64 a3).wf = true) :
    Calls Tryd.prog 5 #[.int .u64 a0, .int .u64 a1, .slice a2 len2 cap2, .int .i64 a3] w fun e w' => e = .returned (.bool true) ∧ Below w.heap.size w w' := by
  obtain ⟨l2, rfl, hr2, hm2, hw2, hc2⟩ := ReadsInt.ofRowC w2
  obtain ⟨k, h⟩ := P a0 a1 l2 a3 w0 w1 hm2 y2 hw2 w3
  refine (whirligiglaw10_BitsSets.calls k a0 a1 _ _ l2 a3 true w (Kd.C_of_reads (d := (0 : Int)) (h1 := fun _ => rfl) hr2) hc2 h).mono ?_
  rintro e w' ⟨rfl, hd⟩
  exact ⟨rfl, hd⟩

end Go.Proofs.YtimodbkfjaknhaaDoor.MBitsSets
