/- Back of a set, falling: the iterator gives the set's numbers, the highest one first. -/
import Derived.Test.YtimodbkfjaknhaaDoorAll
import Derived.Test.YtimodbkfjaknhaaDoorBMask
import Derived.Test.YtimodbkfjaknhaaDoorShelf
namespace Go.Proofs.YtimodbkfjaknhaaDoor.Seq
open Go Go.RowKit Go.Proofs Go.Shelf BPlain Go.Proofs.YtimodbkfjaknhaaDoorW.PrintWords Go.Proofs.YtimodbkfjaknhaaDoorW.PrintMore
set_option linter.unusedVariables false
set_option linter.unusedSimpArgs false
attribute [local go_sem] Oper.semAt_some
theorem high : ∀ (f r : Nat), 0 < r → r < 2 ^ f → ∃ h r', r = 2 ^ h + r' ∧ r' < 2 ^ h ∧ h < f
  | 0, r, h0, h1 => by rw [Nat.pow_zero] at h1; omega
  | f + 1, r, h0, h1 => by
    by_cases h : r < 2 ^ f
    · obtain ⟨g, r', e, hl, hg⟩ := high f r h0 h
      exact ⟨g, r', e, hl, by omega⟩
    · exact ⟨f, r - 2 ^ f, by omega, by rw [Nat.pow_succ] at h1; omega, by omega⟩
theorem els_high : ∀ (h f n r' : Nat), h < f → r' < 2 ^ h → els f n (2 ^ h + r') = els f n r' ++ [((n + h : Nat) : Int)]
  | 0, f + 1, n, r', _, hr => by
    obtain rfl : r' = 0 := by rw [Nat.pow_zero] at hr; omega
    rw [els_zero, els, if_pos (by decide), show (2 ^ 0 + 0) / 2 = 0 by decide, els_zero]
    rfl
  | h + 1, f + 1, n, r', hf, hr => by
    rw [Nat.pow_succ] at hr
    rw [els, els, show 2 ^ (h + 1) + r' = 2 * 2 ^ h + r' by rw [Nat.pow_succ]; omega, show (2 * 2 ^ h + r') % 2 = r' % 2 by omega, show (2 * 2 ^ h + r') / 2 = 2 ^ h + r' / 2 by omega, els_high h f (n + 1) (r' / 2) (by omega) (by omega), List.append_assoc, show n + 1 + h = n + (h + 1) by omega]
theorem len_high (h r' : Nat) (hh : h < 64) (hr : r' < 2 ^ h) : Lib.bitLen (2 ^ h + r') = h + 1 := by
  have hp : 2 ^ h ≤ 2 ^ 63 := Nat.pow_le_pow_right (by decide) (by omega)
  rw [Lib.bitLen_shift h (2 ^ h + r') (by omega) (by omega), show (2 ^ h + r') / 2 ^ h = 1 by rw [Nat.add_div_left _ (Nat.pow_pos (by decide)), Nat.div_eq_of_lt hr]]
  rfl
theorem nl_high (h r' : Nat) (hh : h < 64) (hr : r' < 2 ^ h) : nl (2 ^ h + r') (MBitsSets.msk [(h : Int)]) = r' := by
  apply Nat.eq_of_testBit_eq
  intro i
  have e : 2 ^ h + r' = 2 ^ h * 1 + r' := by omega
  rw [nl_bit _ _ _ (MBitsSets.msk_lt _), MBitsSets.msk_bit, e, Nat.testBit_two_pow_mul_add _ hr]
  by_cases hi : i < h
  · have : (i : Int) ≠ (h : Int) := by omega
    rw [if_pos hi]
    simp [this, show i < 64 by omega]
  · rw [if_neg hi, Nat.testBit_lt_two_pow (Nat.lt_of_lt_of_le hr (Nat.pow_le_pow_right (by decide) (by omega)))]
    by_cases h2 : i = h
    · subst h2
      simp [hh]
    · rw [show i - h = (i - h - 1) + 1 by omega, Nat.testBit_succ]
      simp
theorem less_one (h r' : Nat) (hh : h < 64) (hr : r' < 2 ^ h) (g : Nat) (w : World) (hc : w.cell? ⟨g, 0, none⟩ = some (.int .i64 (h : Int))) : Calls Tryd.prog 24 #[.int .u64 ((2 ^ h + r' : Nat) : Int), .slice (some ⟨g, 0, none⟩) 1 1] w fun e w' => e = .returned (.int .u64 (r' : Int)) ∧ Drawn0 w w' := by
  have hp : 2 ^ h ≤ 2 ^ 63 := Nat.pow_le_pow_right (by decide) (by omega)
  have hf : MBitsSets.bits_Set_Without.f 2 ((2 ^ h + r' : Nat) : Int) [(h : Int)] = some (r' : Int) := by
    rw [MBitsSets.without_f [(h : Int)] 2 (2 ^ h + r') (by simp) (by simp) (by omega), nl_high h r' hh hr]
  have hr1 : ReadsInt w .i64 (some ⟨g, 0, none⟩) 1 [(h : Int)] := ⟨rfl, by decide, fun _ => ⟨_, rfl, fun j hj => by
    obtain rfl : j = 0 := by omega
    exact hc⟩⟩
  exact MBitsSets.bits_Set_Without.calls 2 _ (some ⟨g, 0, none⟩) 1 [(h : Int)] _ w (Kd.C_of_reads (d := (0 : Int)) (h1 := fun _ => rfl) hr1) (Nat.le_refl _) hf
theorem back_calls (s : Int) (w : World) : Calls Tryd.prog 13 #[.int .u64 s] w fun e w' => e = .returned (.func (.func 30) #[] #[.pointer (some ⟨w.heap.size, 0, none⟩)]) ∧ w' = w.alloc (.cells #[.int .u64 s] 23) := by
  go_enter Tryd.func13, Tryd.ntmps13
  go_wp2
  go_ret
  exact ⟨rfl, rfl⟩
set_option maxHeartbeats 4000000 in
set_option maxRecDepth 100000 in
theorem back_gives (n b : Nat) (hn : 1 ≤ n) (s : Nat) (hs : s < 18446744073709551616) (Z : Option Obj) : Gives n Tryd.prog 30 b (s : Int) Z (lst s).reverse := by
  intro l J Jx W hJ hY h0 hB
  refine callsIn_of_wp Tryd.func30 rfl trivial ?_ (by rfl)
  simp only [Tryd.ntmps30, List.size_toArray, List.length_cons, List.length_nil, Nat.reduceAdd, Nat.reduceSub, Array.replicate_succ, Array.replicate_zero, List.push_toArray, List.append_toArray, List.nil_append, List.cons_append]
  gi_wp2
  gi_loopw [3] (fun _ wr => ∃ (pre : List Int) (r : Nat), pre ++ (lst r).reverse = (lst s).reverse ∧ r < 18446744073709551616 ∧ J pre wr ∧ Box wr b (r : Int) Z) (fun _ wr => boxOf wr b)
  case atStart => exact ⟨[], s, rfl, hs, h0, hB⟩
  case round =>
    obtain ⟨pre, r, hpre, hr, hj, hbx⟩ := hrel
    by_cases hz : r = 0
    · subst hz
      have hc := hbx.cell
      rw [show lst 0 = [] from els_zero 64 0, List.reverse_nil, List.append_nil] at hpre
      gi_wp2
      go_end0
      exact ⟨⟨_, rfl⟩, .inl (hpre ▸ hj)⟩
    · obtain ⟨h, r', rfl, hr', hh⟩ := high 64 r (by omega) hr
      have hlst : (lst (2 ^ h + r')).reverse = (h : Int) :: (lst r').reverse := by
        unfold lst
        rw [els_high h 64 0 r' hh hr', Nat.zero_add, List.reverse_append]
        rfl
      have hnext : (pre ++ [(h : Int)]) ++ (lst r').reverse = (lst s).reverse := by rw [List.append_assoc, ← hpre, hlst]; rfl
      obtain ⟨fn, tmps, assign, body, hy, hR⟩ := hY pre (h : Int) _ wr hj ⟨_, hnext⟩ hbx
      have hc := hbx.cell
      have hlen := callsIn_wide (n := n - 1).2 (Tryd.bits_Len64 ((2 ^ h + r' : Nat) : Int) wr (by omega) (by omega))
      rw [Int.toNat_natCast, len_high h r' hh hr'] at hlen
      have e1 : wrap64 (((h + 1 : Nat) : Int) - 1) = (h : Int) := by unfold wrap64; omega
      have hnz : (((2 ^ h + r' : Nat) : Int) != 0) = true := by rw [bne_iff_ne]; omega
      have hmeas := boxOf_eq hbx
      have hless := less_one h r' hh hr'
      have hlt : r' < 2 ^ h + r' := by have := Nat.pow_pos (n := h) (show 0 < 2 by decide); omega
      have hr2 : r' < 18446744073709551616 := by omega
      clear hr hlst hz
      generalize 2 ^ h + r' = r at *
      generalize hRr : ((r : Nat) : Int) = RR at *
      gi_wp2_with (refine ⟨trivial, ?_⟩; gi_at_call 31; refine hlen.mono ?_; rintro e w' ⟨rfl, rfl⟩)
      refine hR.mono ?_
      rintro e W3 (⟨rfl, hJ3, hk3⟩ | ⟨rfl, hJx3⟩)
      · have hb3 := hbx.kept hk3
        have hc3 := hb3.cell
        have hf3 := hb3.free
        have hcall := callsIn_wide (n := n - 1).2 (hless W3.heap.size (W3.alloc (.cells #[.int .i64 (h : Int)] 3)) (Boxed.new W3 3 (.int .i64 (h : Int))).cell)
        have hb4 : ∀ nd, Box ((W3.alloc (.cells #[.int .i64 (h : Int)] 3)).drewN nd) b RR Z := fun nd => hb3.kept ⟨Below.heap_alloc W3 _ b hb3.lt, Below.heap_alloc W3 _ 0 (Nat.lt_of_le_of_lt (Nat.zero_le b) hb3.lt)⟩
        have hc4 := fun nd => (hb4 nd).cell
        have hf4 := fun nd => (hb4 nd).free
        gi_wp2_with (refine ⟨trivial, ?_⟩; refine hcall.mono ?_; rintro e w' ⟨rfl, ⟨nd, rfl⟩⟩)
        go_roundw
        case rel => exact ⟨pre ++ [(h : Int)], r', hnext, hr2, hJ.store _ _ _ (hJ.drew _ _ _ (hJ.alloc _ _ _ hJ3)), (hb4 _).store _⟩
        case measure =>
          rw [boxOf_eq ((hb4 _).store (r' : Int)), hmeas]
          exact hlt
      · gi_wp2
        refine bodyPost_ret (results_none rfl _ _ _) rfl ?_
        exact ⟨⟨_, rfl⟩, .inr ⟨pre ++ [(h : Int)], ⟨_, hnext⟩, hJx3⟩⟩
end Go.Proofs.YtimodbkfjaknhaaDoor.Seq
