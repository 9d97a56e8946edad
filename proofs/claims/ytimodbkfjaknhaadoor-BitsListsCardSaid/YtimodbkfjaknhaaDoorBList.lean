/- List walked: a set's numbers, rising, in a slice of the call's own. -/
import Derived.Test.YtimodbkfjaknhaaDoorBShow
import Derived.OwnWalkIn
namespace Go.Proofs.YtimodbkfjaknhaaDoor.Seq
open Go Go.RowKit Go.Proofs Go.Shelf BPlain Go.Proofs.YtimodbkfjaknhaaDoorW.PrintWords Go.Proofs.YtimodbkfjaknhaaDoorW.PrintLast Go.Proofs.YtimodbkfjaknhaaDoorW.PrintMore
set_option linter.unusedVariables false
set_option linter.unusedSimpArgs false
attribute [local go_sem] Oper.semAt_some
/-- The walk halts at it. -/
structure Hold (p : Prop) : Prop where
  out : p
theorem info3 : (Tryd.prog.info? 3).map (fun i => (i.zero, i.size, i.bytes)) = some (some (.int .i64 0), 1, 8) := by kernel_rfl
set_option maxHeartbeats 4000000 in
set_option maxRecDepth 100000 in
theorem list_any (s : Nat) (hs : s < 18446744073709551616) (w : World) (ht : Tab w) : Calls Tryd.prog 8 #[.int .u64 (s : Int)] w fun e w' => ∃ v, e = .returned v ∧ w'.ownsRow w.heap.size 3 1 v (lst s).length ((lst s).map fun x => Value.int .i64 x) ∧ Below w.heap.size w w' := by
  refine (callsIn_wide (n := 9)).1 ?_
  obtain ⟨i0, hi, hz0, hz1, hz2⟩ := info_parts info3
  refine callsIn_of_wp_marks Tryd.func8 rfl trivial ?_ (by rfl)
  simp only [Tryd.ntmps8, List.size_toArray, List.length_cons, List.length_nil, Nat.reduceAdd, Nat.reduceSub, Array.replicate_succ, Array.replicate_zero, List.push_toArray, List.append_toArray, List.nil_append, List.cons_append]
  have h9 : 1 ≤ 9 := by decide
  gi_wp2_with (refine ⟨trivial, ?_⟩; gi_at_call 12; refine (callsIn_wide.2 (all_calls (s : Int) _)).mono ?_; rintro e w' ⟨rfl, rfl⟩)
  have bO := Boxed.new w 25 (.slice none 0 0)
  have bS := Boxed.new (w.alloc (.cells #[.slice none 0 0] 25)) 23 (.int .u64 (s : Int))
  rw [World.size_alloc] at bS
  have hB0 : Below w.heap.size w ((w.alloc (.cells #[.slice none 0 0] 25)).alloc (.cells #[.int .u64 (s : Int)] 23)) := ((Below.refl _ w).alloc (Nat.le_refl _) _).alloc (by simp) _
  have hz : ((w.alloc (.cells #[.slice none 0 0] 25)).alloc (.cells #[.int .u64 (s : Int)] 23)).heap.size = w.heap.size + 2 := by simp
  have hbx : Box ((w.alloc (.cells #[.slice none 0 0] 25)).alloc (.cells #[.int .u64 (s : Int)] 23)) (w.heap.size + 1) (s : Int) w.heap[0]? := ⟨bS, hB0.block 0 ht.2, by omega⟩
  have h0 : Has (Value.int .i64) (fun x => x) w w.heap.size 25 3 (w.heap.size + 1) [] ((w.alloc (.cells #[.slice none 0 0] 25)).alloc (.cells #[.int .u64 (s : Int)] 23)) :=
    ⟨⟨_, bO.alloc _, World.ownsRow_nil _ _ _ _, by simp [Value.ownBlock]⟩, hB0⟩
  generalize (w.alloc (.cells #[.slice none 0 0] 25)).alloc (.cells #[.int .u64 (s : Int)] 23) = w2 at *
  refine range_box (n := 9) (gf := 29) (b := w.heap.size + 1) (B := w2.heap.size) (s := (s : Int)) (Z := w.heap[0]?) (xs := lst s) rfl (enters_of Tryd.func29 (by kernel_rfl) rfl) (all_gives 8 _ (by decide) s hs w ht) hbx (Nat.le_refl _)
    (Has (Value.int .i64) (fun x => x) w w.heap.size 25 3 (w.heap.size + 1)) (fun _ _ _ => False) (has_own _ _ _ _ _ _ _ _ (by omega)) (fun _ _ _ _ _ hs _ _ => hs) (has_bears _ _ _ _ _ _ _ (by omega) (by omega)) h0
    (fun x => { tmps := #[.int .u64 (s : Int), undef, .slice none 0 0, .pointer (some ⟨w.heap.size, 0, none⟩), .int .i64 x, .int .u64 (s : Int), .func (.func 29) #[] #[.pointer (some ⟨w.heap.size + 1, 0, none⟩)], .int .i64 x, undef, undef, undef, undef, undef], defers := [] }) ?assign ?body ?done ?stop
  case assign =>
    intro l x W K hK
    gi_wp2
    exact hK
  case body =>
    rintro l pre x s1 W ⟨⟨v, hv, hrow, hbv⟩, hB⟩ hpx hbx1
    obtain ⟨k, rfl, hk, hlen⟩ := lst_small hpx
    have hc := hv.cell
    have hf := hv.frozen
    have hne : some w.heap.size ≠ v.ownBlock := hv.not_row (by decide) hrow
    gi_wp2_with (gi_at_builtin; refine Hold.out ?_)
    refine ⟨?_⟩
    refine wpListIn_append_own _ rfl (.tmp 8) (.tmp 10) 25 rfl w.heap.size 3 i0 (.int .i64 0) 1 8 Tryd.underlying25 hi hz0 hz1 hz2 (by rfl) (by decide) v pre.length (pre.map fun x => .int .i64 x) rfl (hrow.alloc _) ⟨W.heap.size, 0, none⟩ 1 1 [.int .i64 (k : Int)] rfl rfl (fun j u hu => ?cells) (by simp [Value.oneCell']) (Nat.le_trans (show pre.length + 1 ≤ 65 by omega) (by decide)) (by omega) (by rw [World.size_alloc]; have := hB.size; omega) ?_
    case cells =>
      obtain ⟨hj, rfl⟩ := List.getElem?_eq_some_iff.1 hu
      obtain rfl : j = 0 := by simpa using hj
      exact (Boxed.new W 3 (.int .i64 (k : Int))).cell
    intro v2 w2' hown hg2 hiff
    obtain ⟨g', cap', rfl⟩ := ownsRow_succ hown
    have hv2 := Boxed.kept (hv.alloc (.cells #[.int .i64 (k : Int)] 3)) hg2 hne
    have hc2 := hv2.cell
    have hf2 := hv2.frozen
    gi_wp2
    have h0W : W.heap[0]? = w.heap[0]? := hB.block 0 ht.2
    have hbs2 : Boxed w2' (w.heap.size + 1) 23 (.int .u64 s1) := Boxed.kept (hbx1.box.alloc _) hg2 hbv
    have hgk : ∀ j, v.ownBlock = some j → w.heap.size ≤ j := fun j ej => by
      rcases hrow.2 with ⟨rfl, _⟩ | ⟨g, cap, cur, rfl, hg, _, _⟩
      · simp [Value.ownBlock] at ej
      · obtain rfl : g = j := by simpa [Value.ownBlock] using ej
        exact hg
    have hb2 : Below w.heap.size w w2' := (hB.alloc hB.size _).grown hg2 (by rw [World.size_alloc]; have := hB.size; omega) hgk
    have hown2 := hown.kept (grownBy_setCell' w2' w.heap.size (.slice (some ⟨g', 0, none⟩) (pre.length + 1) cap')) (.inr (fun e => hv2.not_row (by decide) hown e.symm))
    refine ⟨?_, ⟨?_, ?_⟩, ⟨_, hv2.set _, ?_, hbs2.not_row (by decide) hown⟩, hb2.setCell (p := ⟨w.heap.size, 0, none⟩) (Nat.le_refl _) _⟩
    · refine KeepsOthers.trans (B := w2') ?_ (KeepsOthers.setCell _ _ _)
      refine (KeepsOthers.alloc W _).trans (KeepsOthers.of_grownBy hg2 (fun j o ej hj => ?_))
      rcases (hrow.alloc (.cells #[.int .i64 (k : Int)] 3)).2 with ⟨rfl, _⟩ | ⟨g, cap, cur, rfl, _, hgb, _⟩
      · simp [Value.ownBlock] at ej
      · obtain rfl : g = j := by simpa [Value.ownBlock] using ej
        rw [hgb] at hj
        cases hj
        rfl
    · have h1 := hg2.block _ (hbx1.box.alloc (.cells #[.int .i64 (k : Int)] 3)).lt hbv
      exact ((Below.heap_setCell w2' ⟨w.heap.size, 0, none⟩ _ (w.heap.size + 1) (fun e => by change w.heap.size + 1 = w.heap.size at e; omega)).trans h1).trans (Below.heap_alloc W _ _ hbx1.lt)
    · exact ((Below.heap_setCell w2' ⟨w.heap.size, 0, none⟩ _ 0 (fun e => by have := ht.2; change 0 = w.heap.size at e; omega)).trans (hb2.block 0 ht.2)).trans h0W.symm
    · rw [List.length_append, List.map_append]
      exact hown2
  case done =>
    rintro D W ⟨⟨v, hv, hrow, _⟩, hB⟩ hK hD
    have hc := hv.cell
    gi_wp2
    have hne : some D ≠ v.ownBlock := fun e => by
      rcases hrow.2 with ⟨rfl, _⟩ | ⟨g, cap, cur, rfl, _, hgb, _⟩
      · simp [Value.ownBlock] at e
      · obtain rfl : D = g := by simpa [Value.ownBlock] using e
        rw [hK] at hgb
        cases hgb
    refine ⟨by simp, .inl ⟨_, _, rfl, run_takeDeferred hK, ?_⟩⟩
    refine ⟨_, results_tmp rfl _ _ _, ?_⟩
    exact ⟨v, rfl, hrow.kept (grownBy_putObj' W D _) (.inr (fun e => hne e.symm)), hB.trans (belowK_b (w := w) (Nat.le_refl _) W D _ _ (by omega) hK rfl rfl)⟩
  case stop =>
    rintro D c pre W _ h _
    exact h.elim
end Go.Proofs.YtimodbkfjaknhaaDoor.Seq
