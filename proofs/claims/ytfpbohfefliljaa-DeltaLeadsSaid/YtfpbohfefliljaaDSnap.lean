/- Snapshots and deltas as values; plain, Copy and few in these words. -/
import Derived.Test.YtfpbohfefliljaaDMath
import Derived.Test.YtfpbohfefliljaaMDeltaChainsx2
import Derived.Test.YtfpbohfefliljaaMDeltaChainsx3
namespace Go.Proofs.Ytfpbohfefliljaa.MD
open Go Go.RowKit Go.Proofs Go.Proofs.YtfpbohfefliljaaW.PrintWords Go.Proofs.YtfpbohfefliljaaW.PrintLast Go.Proofs.YtfpbohfefliljaaW.PrintMore
set_option linter.unusedVariables false
/-- A value that reads as a snapshot. -/
def SnapC (w : World) (v : Value) (s : S46) : Prop := ∃ cs : List Value, v = .agg cs.toArray ∧ k46.K w s cs
theorem SnapC.below {w w' : World} {v : Value} {s : S46} (h : SnapC w v s) (hb : Below w.heap.size w w') : SnapC w' v s := by
  obtain ⟨cs, h1, h2⟩ := h
  exact ⟨cs, h1, k46.K_below hb h2⟩
/-- How many things of lists a snapshot has. -/
def tot (s : S46) : Nat := s.f5.length + s.f6.length + s.f7.length + s.f8.length + s.f9.length + s.f10.f1.length + s.f10.f3.length
def plainS (s : S46) : S46 := ⟨s.f0, s.f1, s.f2, s.f3, s.f4, [], [], [], [], [], ⟨s.f10.f0, [], s.f10.f2, []⟩⟩
theorem plain_any (w : World) (v : Value) (s : S46) (h : SnapC w v s) : Calls Try.prog 32 #[v] w fun e w' => ∃ v', e = .returned v' ∧ SnapC w' v' (plainS s) ∧ Below w.heap.size w w' := by
  obtain ⟨cs, rfl, hK⟩ := h
  obtain ⟨A5, c5, A6, c6, A7, c7, A8, c8, A9, c9, A11, c11, A13, c13, rfl, l5, g5, l6, g6, l7, g7, l8, g8, l9, g9, l11, g11, l13, g13⟩ := k46_open hK
  refine (delta_plain.calls s.f0 s.f1 s.f2 s.f3 s.f4 A5 c5 s.f5 A6 c6 s.f6 A7 c7 s.f7 A8 c8 s.f8 A9 c9 s.f9 s.f10.f0 A11 c11 s.f10.f1 s.f10.f2 A13 c13 s.f10.f3 _ _ _ _ _ _ _ _ _ _ _ _ _ _ w g5 l5 g6 l6 g7 l7 g8 l8 g9 l9 g11 l11 g13 l13 rfl).mono ?_
  rintro e w' ⟨v5, v6, v7, v8, v9, v11, v13, rfl, h5, h6, h7, h8, h9, h11, h13, hb⟩
  obtain ⟨B5, d5, rfl⟩ := Kd.R_slice h5
  obtain ⟨B6, d6, rfl⟩ := Kd.R_slice h6
  obtain ⟨B7, d7, rfl⟩ := Kd.R_slice h7
  obtain ⟨B8, d8, rfl⟩ := Kd.R_slice h8
  obtain ⟨B9, d9, rfl⟩ := Kd.R_slice h9
  obtain ⟨B11, d11, rfl⟩ := Kd.R_slice h11
  obtain ⟨B13, d13, rfl⟩ := Kd.R_slice h13
  have q5 := Kd.R_reads' h5
  have q6 := Kd.R_reads' h6
  have q7 := Kd.R_reads' h7
  have q8 := Kd.R_reads' h8
  have q9 := Kd.R_reads' h9
  have q11 := Kd.R_reads' h11
  have q13 := Kd.R_reads' h13
  exact ⟨_, rfl, ⟨_, rfl, k46_mk w' (plainS s) q5.2.1 q5.2.2 q6.2.1 q6.2.2 q7.2.1 q7.2.2 q8.2.1 q8.2.2 q9.2.1 q9.2.2 q11.2.1 q11.2.2 q13.2.1 q13.2.2⟩, hb⟩
theorem copy_any (w : World) (v : Value) (s : S46) (h : SnapC w v s) (hs : tot s ≤ 1000) : Calls Try.prog 16 #[v] w fun e w' => ∃ v', e = .returned v' ∧ SnapC w' v' s ∧ Below w.heap.size w w' := by
  obtain ⟨cs, rfl, hK⟩ := h
  obtain ⟨A5, c5, A6, c6, A7, c7, A8, c8, A9, c9, A11, c11, A13, c13, rfl, l5, g5, l6, g6, l7, g7, l8, g8, l9, g9, l11, g11, l13, g13⟩ := k46_open hK
  unfold tot at hs
  have hf : snap_Snap_Copy.f s.f0 s.f1 s.f2 s.f3 s.f4 s.f5 s.f6 s.f7 s.f8 s.f9 s.f10.f0 s.f10.f1 s.f10.f2 s.f10.f3 = some (s.f0, s.f1, s.f2, s.f3, s.f4, s.f5, s.f6, s.f7, s.f8, s.f9, s.f10.f0, s.f10.f1, s.f10.f2, s.f10.f3) := by
    unfold snap_Snap_Copy.f bits_Set_28.f val_Value_29.f slices_Clone_string_string.f queue_Timer_30.f slices_Clone_int_int.f
    rw [if_pos (by omega), if_pos (by omega), if_pos (by omega), if_pos (by omega), if_pos (by omega), if_pos (by omega), if_pos (by omega)]
    rfl
  refine (snap_Snap_Copy.calls s.f0 s.f1 s.f2 s.f3 s.f4 A5 c5 s.f5 A6 c6 s.f6 A7 c7 s.f7 A8 c8 s.f8 A9 c9 s.f9 s.f10.f0 A11 c11 s.f10.f1 s.f10.f2 A13 c13 s.f10.f3 _ _ _ _ _ _ _ _ _ _ _ _ _ _ w g5 l5 g6 l6 g7 l7 g8 l8 g9 l9 g11 l11 g13 l13 hf).mono ?_
  rintro e w' ⟨v5, v6, v7, v8, v9, v11, v13, rfl, h5, h6, h7, h8, h9, h11, h13, hb⟩
  obtain ⟨B5, d5, rfl⟩ := Kd.R_slice h5
  obtain ⟨B6, d6, rfl⟩ := Kd.R_slice h6
  obtain ⟨B7, d7, rfl⟩ := Kd.R_slice h7
  obtain ⟨B8, d8, rfl⟩ := Kd.R_slice h8
  obtain ⟨B9, d9, rfl⟩ := Kd.R_slice h9
  obtain ⟨B11, d11, rfl⟩ := Kd.R_slice h11
  obtain ⟨B13, d13, rfl⟩ := Kd.R_slice h13
  have q5 := Kd.R_reads' h5
  have q6 := Kd.R_reads' h6
  have q7 := Kd.R_reads' h7
  have q8 := Kd.R_reads' h8
  have q9 := Kd.R_reads' h9
  have q11 := Kd.R_reads' h11
  have q13 := Kd.R_reads' h13
  exact ⟨_, rfl, ⟨_, rfl, k46_mk w' s q5.2.1 q5.2.2 q6.2.1 q6.2.2 q7.2.1 q7.2.2 q8.2.1 q8.2.2 q9.2.1 q9.2.2 q11.2.1 q11.2.2 q13.2.1 q13.2.2⟩, hb⟩
theorem few_any (w : World) (v : Value) (s : S46) (h : SnapC w v s) (hs : tot s ≤ 1152921504606846975) : Calls Try.prog 15 #[v] w fun e w' => e = .returned (.bool (decide (tot s ≤ 300))) ∧ Below w.heap.size w w' := by
  obtain ⟨cs, rfl, hK⟩ := h
  obtain ⟨A5, c5, A6, c6, A7, c7, A8, c8, A9, c9, A11, c11, A13, c13, rfl, l5, g5, l6, g6, l7, g7, l8, g8, l9, g9, l11, g11, l13, g13⟩ := k46_open hK
  unfold tot at hs ⊢
  have hf : whirligiglaw19_few.f s.f0 s.f1 s.f2 s.f3 s.f4 s.f5 s.f6 s.f7 s.f8 s.f9 s.f10.f0 s.f10.f1 s.f10.f2 s.f10.f3 = some (decide (s.f5.length + s.f6.length + s.f7.length + s.f8.length + s.f9.length + s.f10.f1.length + s.f10.f3.length ≤ 300)) := by
    unfold whirligiglaw19_few.f
    have e : ∀ x : Int, 0 ≤ x → x ≤ 9223372036854775807 → wrap64 x = x := fun x h0 h1 => by unfold wrap64; omega
    rw [e ((s.f5.length : Int) + (s.f6.length : Int)) (by omega) (by omega), e ((s.f5.length : Int) + (s.f6.length : Int) + (s.f7.length : Int)) (by omega) (by omega), e ((s.f5.length : Int) + (s.f6.length : Int) + (s.f7.length : Int) + (s.f8.length : Int)) (by omega) (by omega),
      e ((s.f5.length : Int) + (s.f6.length : Int) + (s.f7.length : Int) + (s.f8.length : Int) + (s.f9.length : Int)) (by omega) (by omega), e ((s.f5.length : Int) + (s.f6.length : Int) + (s.f7.length : Int) + (s.f8.length : Int) + (s.f9.length : Int) + (s.f10.f1.length : Int)) (by omega) (by omega),
      e ((s.f5.length : Int) + (s.f6.length : Int) + (s.f7.length : Int) + (s.f8.length : Int) + (s.f9.length : Int) + (s.f10.f1.length : Int) + (s.f10.f3.length : Int)) (by omega) (by omega)]
    exact congrArg some (decide_eq_decide.2 (by omega))
  exact whirligiglaw19_few.calls s.f0 s.f1 s.f2 s.f3 s.f4 A5 c5 s.f5 A6 c6 s.f6 A7 c7 s.f7 A8 c8 s.f8 A9 c9 s.f9 s.f10.f0 A11 c11 s.f10.f1 s.f10.f2 A13 c13 s.f10.f3 _ w g5 l5 g6 l6 g7 l7 g8 l8 g9 l9 g11 l11 g13 l13 hf
/-- A value that reads as the delta from one snapshot to another one. -/
def DeltaC (w : World) (v : Value) (a b : S46) : Prop :=
  ∃ (B1 : Option Addr) (d1 : Nat) (B2 : Option Addr) (d2 : Nat) (B3 : Option Addr) (d3 : Nat) (B4 : Option Addr) (d4 : Nat) (B5 : Option Addr) (d5 : Nat) (B6 : Option Addr) (d6 : Nat) (B7 : Option Addr) (d7 : Nat) (ps : List Value),
    v = .agg (#[.int .i64 (dAt a.f5 b.f5), .int .i64 (dLess a.f5 b.f5), .slice B1 (dWith a.f5 b.f5).length d1, .int .i64 (dAt a.f6 b.f6), .int .i64 (dLess a.f6 b.f6), .slice B2 (dWith a.f6 b.f6).length d2,
      .int .i64 (dAt a.f7 b.f7), .int .i64 (dLess a.f7 b.f7), .slice B3 (dWith a.f7 b.f7).length d3, .int .i64 (dAt a.f8 b.f8), .int .i64 (dLess a.f8 b.f8), .slice B4 (dWith a.f8 b.f8).length d4,
      .int .i64 (dAt a.f9 b.f9), .int .i64 (dLess a.f9 b.f9), .slice B5 (dWith a.f9 b.f9).length d5, .int .i64 (dAt a.f10.f1 b.f10.f1), .int .i64 (dLess a.f10.f1 b.f10.f1), .slice B6 (dWith a.f10.f1 b.f10.f1).length d6,
      .int .i64 (dAt a.f10.f3 b.f10.f3), .int .i64 (dLess a.f10.f3 b.f10.f3), .slice B7 (dWith a.f10.f3 b.f10.f3).length d7] ++ ps.toArray) ∧ k46.K w (plainS b) ps ∧
    ((dWith a.f5 b.f5).length ≤ d1 ∧ (Kd.int .u64).C w B1 (dWith a.f5 b.f5).length (dWith a.f5 b.f5)) ∧ ((dWith a.f6 b.f6).length ≤ d2 ∧ k68.C w B2 (dWith a.f6 b.f6).length (dWith a.f6 b.f6)) ∧
    ((dWith a.f7 b.f7).length ≤ d3 ∧ Kd.string.C w B3 (dWith a.f7 b.f7).length (dWith a.f7 b.f7)) ∧ ((dWith a.f8 b.f8).length ≤ d4 ∧ Kd.string.C w B4 (dWith a.f8 b.f8).length (dWith a.f8 b.f8)) ∧
    ((dWith a.f9 b.f9).length ≤ d5 ∧ k71.C w B5 (dWith a.f9 b.f9).length (dWith a.f9 b.f9)) ∧ ((dWith a.f10.f1 b.f10.f1).length ≤ d6 ∧ (Kd.int .i64).C w B6 (dWith a.f10.f1 b.f10.f1).length (dWith a.f10.f1 b.f10.f1)) ∧
    ((dWith a.f10.f3 b.f10.f3).length ≤ d7 ∧ Kd.string.C w B7 (dWith a.f10.f3 b.f10.f3).length (dWith a.f10.f3 b.f10.f3))
theorem DeltaC.below {w w' : World} {v : Value} {a b : S46} (h : DeltaC w v a b) (hb : Below w.heap.size w w') : DeltaC w' v a b := by
  obtain ⟨B1, d1, B2, d2, B3, d3, B4, d4, B5, d5, B6, d6, B7, d7, ps, hv, hp, h1, h2, h3, h4, h5, h6, h7⟩ := h
  exact ⟨B1, d1, B2, d2, B3, d3, B4, d4, B5, d5, B6, d6, B7, d7, ps, hv, k46.K_below hb hp, ⟨h1.1, Kd.C_below h1.2 hb⟩, ⟨h2.1, Kd.C_below h2.2 hb⟩, ⟨h3.1, Kd.C_below h3.2 hb⟩, ⟨h4.1, Kd.C_below h4.2 hb⟩, ⟨h5.1, Kd.C_below h5.2 hb⟩, ⟨h6.1, Kd.C_below h6.2 hb⟩, ⟨h7.1, Kd.C_below h7.2 hb⟩⟩
theorem setRow_below {w W : World} {g : Nat} {cs : Array Value} (h : Below w.heap.size w W) (hg : w.heap.size ≤ g) : Below w.heap.size w (W.setRow g cs) := by
  refine ⟨h.os, h.tape, h.output, ?_, fun i hi => ?_⟩
  · have := h.size
    simpa [World.setRow] using this
  · rw [← h.block i hi]
    simp only [World.setRow, Array.getElem?_modify]
    rw [if_neg (by omega)]
end Go.Proofs.Ytfpbohfefliljaa.MD
