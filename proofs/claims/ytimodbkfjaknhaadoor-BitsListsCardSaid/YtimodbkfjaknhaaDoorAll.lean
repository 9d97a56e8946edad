/- All of a set, rising: the iterator gives the set's numbers. -/
import Derived.Test.YtimodbkfjaknhaaDoorRange
import Derived.Test.YtimodbkfjaknhaaDoorFirst
namespace Go.Proofs.YtimodbkfjaknhaaDoor.Seq
open Go Go.RowKit Go.Proofs Go.Shelf BPlain
set_option linter.unusedVariables false
set_option linter.unusedSimpArgs false
attribute [local go_sem] Oper.semAt_some
theorem tab_of {w W : World} (h : Tab w) (e : W.heap[0]? = w.heap[0]?) : Tab W := ⟨fun i hi => (World.cell?_of_block (a := ⟨0, i, none⟩) e).trans (h.1 i hi), by
  have h0 := h.1 0 (by decide)
  exact World.block_lt_of_cell? W _ ((World.cell?_of_block (a := ⟨0, 0, none⟩) e).trans h0)⟩
def boxOf (W : World) (b : Nat) : Nat := match W.cell? ⟨b, 0, none⟩ with
  | some (.int .u64 s) => s.toNat
  | _ => 0
theorem boxOf_eq {W : World} {b : Nat} {s : Nat} {Z : Option Obj} (h : Box W b (s : Int) Z) : boxOf W b = s := by
  unfold boxOf
  rw [h.cell]
  exact Int.toNat_natCast s
set_option maxHeartbeats 4000000 in
set_option maxRecDepth 100000 in
theorem all_gives (n b : Nat) (hn : 1 ≤ n) (s : Nat) (hs : s < 18446744073709551616) (w : World) (ht : Tab w) : Gives n Tryd.prog 29 b (s : Int) w.heap[0]? (lst s) := by
  intro l J Jx W hJ hY h0 hB
  refine callsIn_of_wp Tryd.func29 rfl trivial ?_ (by rfl)
  simp only [Tryd.ntmps29, List.size_toArray, List.length_cons, List.length_nil, Nat.reduceAdd, Nat.reduceSub, Array.replicate_succ, Array.replicate_zero, List.push_toArray, List.append_toArray, List.nil_append, List.cons_append]
  gi_wp2
  gi_loopw [3] (fun _ wr => ∃ (pre : List Int) (r : Nat), pre ++ lst r = lst s ∧ r < 18446744073709551616 ∧ J pre wr ∧ Box wr b (r : Int) w.heap[0]?) (fun _ wr => boxOf wr b)
  case atStart => exact ⟨[], s, rfl, hs, h0, hB⟩
  case round =>
    obtain ⟨pre, r, hpre, hr, hj, hbx⟩ := hrel
    by_cases hz : r = 0
    · subst hz
      have hc := hbx.cell
      rw [show lst 0 = [] from els_zero 64 0, List.append_nil] at hpre
      gi_wp2
      go_end0
      exact ⟨⟨_, rfl⟩, .inl (hpre ▸ hj)⟩
    · obtain ⟨k, m, rfl⟩ := low r (by omega)
      have hk := low_lt hr
      have hlst : lst (2 ^ k * (2 * m + 1)) = (k : Int) :: lst (2 ^ k * (2 * m)) := by
        unfold lst
        rw [els_low k 64 0 m hk, Nat.zero_add]
      have hnext : (pre ++ [(k : Int)]) ++ lst (2 ^ k * (2 * m)) = lst s := by rw [List.append_assoc, ← hpre, hlst]; rfl
      obtain ⟨fn, tmps, assign, body, hy, hR⟩ := hY pre (k : Int) _ wr hj ⟨_, hnext⟩ hbx
      have hc := hbx.cell
      have hfirst := callsIn_wide (n := n - 1).2 (first_calls k m hr wr (tab_of ht hbx.tab))
      have hlt : 2 ^ k * (2 * m) < 2 ^ k * (2 * m + 1) := Nat.mul_lt_mul_of_pos_left (by omega) (Nat.pow_pos (by decide))
      have hr2 : 2 ^ k * (2 * m) < 18446744073709551616 := by omega
      have e1 : IntKind.u64.wrap (((2 ^ k * (2 * m + 1) : Nat) : Int) - 1) = ((2 ^ k * (2 * m + 1) - 1 : Nat) : Int) := by rw [IntKind.wrap_u64]; omega
      have e2 : bits .and .u64 ((2 ^ k * (2 * m + 1) : Nat) : Int) ((2 ^ k * (2 * m + 1) - 1 : Nat) : Int) = ((2 ^ k * (2 * m) : Nat) : Int) := by
        rw [u64_and_nat _ _ hr (by omega), and_pred k m]
      have hnz : (((2 ^ k * (2 * m + 1) : Nat) : Int) != 0) = true := by rw [bne_iff_ne]; omega
      have hmeas := boxOf_eq hbx
      clear hr hlst hk
      generalize 2 ^ k * (2 * m + 1) = r at *
      generalize 2 ^ k * (2 * m) = r' at *
      generalize ((r - 1 : Nat) : Int) = T at *
      generalize hRr : ((r : Nat) : Int) = RR at *
      gi_wp2_with (refine ⟨trivial, ?_⟩; gi_at_call 11; refine hfirst.mono ?_; rintro e w' ⟨rfl, rfl⟩)
      refine hR.mono ?_
      rintro e W3 (⟨rfl, hJ3, hk3⟩ | ⟨rfl, hJx3⟩)
      · have hb3 := hbx.kept hk3
        have hc3 := hb3.cell
        have hf3 := hb3.free
        gi_wp2
        go_roundw
        case rel => exact ⟨pre ++ [(k : Int)], r', hnext, hr2, hJ.store _ _ _ hJ3, hb3.store _⟩
        case measure =>
          rw [boxOf_eq (hb3.store (r' : Int)), hmeas]
          exact hlt
      · gi_wp2
        refine bodyPost_ret (results_none rfl _ _ _) rfl ?_
        exact ⟨⟨_, rfl⟩, .inr ⟨pre ++ [(k : Int)], ⟨_, hnext⟩, hJx3⟩⟩
end Go.Proofs.YtimodbkfjaknhaaDoor.Seq
