-- Walks made by a program (wip/givenprint.sh); Lean checks them.
import Derived.Test.YtfpbohfefliljaaMDeltaChainsx0
import Derived.Test.YtfpbohfefliljaaMDeltaChainsx2
namespace Go.Proofs.Ytfpbohfefliljaa.MD
open Go.RowKit Go.Proofs.YtfpbohfefliljaaW.PrintWords Go.Proofs.YtfpbohfefliljaaW.PrintLast Go.Proofs.YtfpbohfefliljaaW.PrintMore
attribute [local go_sem] max2_int min2_int max_two min_two max_three min_three max_four min_four   -- for this text's walks alone
set_option linter.unusedVariables false
set_option linter.unusedSimpArgs false

/-! ### snap_Snap_Copy: function 16 -/
def snap_Snap_Copy.f (a0_0 : Int) (a0_1 : Int) (a0_2 : Int) (a0_3 : Int) (a0_4 : Int) (l0_5 : List Int) (l0_6 : List (S68)) (l0_7 : List ByteArray) (l0_8 : List ByteArray) (l0_9 : List (S71)) (a0_10 : ByteArray) (l0_11 : List Int) (a0_12 : Int) (l0_13 : List ByteArray) : Option (Int × Int × Int × Int × Int × List Int × (List (S68)) × List ByteArray × List ByteArray × (List (S71)) × ByteArray × List Int × Int × List ByteArray) := (bits_Set_28.f l0_5).bind fun t143 => ((val_Value_29.f l0_6).bind fun t146 => ((slices_Clone_string_string.f l0_7).bind fun t149 => ((slices_Clone_string_string.f l0_8).bind fun t152 => ((queue_Timer_30.f l0_9).bind fun t155 => ((slices_Clone_int_int.f l0_11).bind fun t158 => ((slices_Clone_string_string.f l0_13).bind fun t161 => (some (a0_0, a0_1, a0_2, a0_3, a0_4, t143, t146, t149, t152, t155, a0_10, t158, a0_12, t161))))))))
def snap_Snap_Copy.T1 : Bool × List (List Nat × List Nat) := (true, [([], []), ([0], [0]), ([1], [1]), ([], []), ([3], [3]), ([4, 2], [4]), ([0, 1, 2, 3, 4], []), ([6, 2, 5, 0, 1, 2, 3, 4], [2, 6]), ([0, 1, 2, 3, 4, 5, 6, 7], []), ([8, 5, 7, 0, 1, 2, 3, 4, 5, 6, 7], [5, 8])])
def snap_Snap_Copy.B1 : List Nat := [0, 1, 3, 0, 8, 31, 31, 127, 255, 511]
theorem snap_Snap_Copy.tab1 : rtab .any (opsOf Try.f16 1) = snap_Snap_Copy.T1 := by kernel_rfl
theorem snap_Snap_Copy.bits1 : waitsOk snap_Snap_Copy.T1.2 snap_Snap_Copy.B1 = true := by kernel_rfl
def snap_Snap_Copy.T2 : Bool × List (List Nat × List Nat) := (true, [([], []), ([0], [0]), ([1], [1]), ([], []), ([3], [3]), ([4, 2], [4]), ([], []), ([6], [6]), ([7, 5], [7]), ([0, 1, 2, 3, 4, 6, 7], []), ([9, 2, 8, 0, 1, 2, 3, 4, 6, 7], [2, 9]), ([0, 1, 2, 3, 4, 5, 6, 7, 9, 10], []), ([11, 5, 10, 0, 1, 2, 3, 4, 5, 6, 7, 9, 10], [5, 11]), ([0, 1, 2, 3, 4, 5, 6, 7, 8, 9, 10, 11, 12], []), ([13, 8, 12, 0, 1, 2, 3, 4, 5, 6, 7, 8, 9, 10, 11, 12], [8, 13])])
def snap_Snap_Copy.B2 : List Nat := [0, 1, 3, 0, 8, 31, 0, 64, 255, 223, 1023, 2047, 4095, 8191, 16383]
theorem snap_Snap_Copy.tab2 : rtab .any (opsOf Try.f16 2) = snap_Snap_Copy.T2 := by kernel_rfl
theorem snap_Snap_Copy.bits2 : waitsOk snap_Snap_Copy.T2.2 snap_Snap_Copy.B2 = true := by kernel_rfl
def snap_Snap_Copy.T3 : Bool × List (List Nat × List Nat) := (true, [([], []), ([0], [0]), ([1], [1]), ([2], [2]), ([], []), ([4], [4]), ([5], [5]), ([6, 3], [6]), ([0, 1, 2, 3, 4, 5, 6], []), ([8, 0, 1, 2, 3, 4, 5, 6], [8]), ([9, 3, 7, 0, 1, 2, 3, 4, 5, 6], [3, 9]), ([0, 1, 2, 3, 4, 5, 6, 7, 8, 9, 10], []), ([11, 0, 1, 2, 3, 4, 5, 6, 7, 8, 9, 10], [11]), ([12, 7, 10, 0, 1, 2, 3, 4, 5, 6, 7, 8, 9, 10], [7, 12])])
def snap_Snap_Copy.B3 : List Nat := [0, 1, 3, 7, 0, 16, 48, 127, 127, 383, 1023, 2047, 4095, 8191]
theorem snap_Snap_Copy.tab3 : rtab .any (opsOf Try.f16 3) = snap_Snap_Copy.T3 := by kernel_rfl
theorem snap_Snap_Copy.bits3 : waitsOk snap_Snap_Copy.T3.2 snap_Snap_Copy.B3 = true := by kernel_rfl
set_option maxHeartbeats 8000000 in
set_option maxRecDepth 100000 in
theorem snap_Snap_Copy.calls (a0_0 : Int) (a0_1 : Int) (a0_2 : Int) (a0_3 : Int) (a0_4 : Int) (A0_5 : Option Addr) (c0_5 : Nat) (l0_5 : List Int) (A0_6 : Option Addr) (c0_6 : Nat) (l0_6 : List (S68)) (A0_7 : Option Addr) (c0_7 : Nat) (l0_7 : List ByteArray) (A0_8 : Option Addr) (c0_8 : Nat) (l0_8 : List ByteArray) (A0_9 : Option Addr) (c0_9 : Nat) (l0_9 : List (S71)) (a0_10 : ByteArray) (A0_11 : Option Addr) (c0_11 : Nat) (l0_11 : List Int) (a0_12 : Int) (A0_13 : Option Addr) (c0_13 : Nat) (l0_13 : List ByteArray) (r1 : Int) (r2 : Int) (r3 : Int) (r4 : Int) (r5 : Int) (r6 : List Int) (r7 : List (S68)) (r8 : List ByteArray) (r9 : List ByteArray) (r10 : List (S71)) (r11 : ByteArray) (r12 : List Int) (r13 : Int) (r14 : List ByteArray) (w : World) (hr0_5 : Kd.C (Kd.int .u64) w A0_5 l0_5.length l0_5) (hc0_5 : l0_5.length ≤ c0_5) (hr0_6 : Kd.C k68 w A0_6 l0_6.length l0_6) (hc0_6 : l0_6.length ≤ c0_6) (hr0_7 : Kd.C Kd.string w A0_7 l0_7.length l0_7) (hc0_7 : l0_7.length ≤ c0_7) (hr0_8 : Kd.C Kd.string w A0_8 l0_8.length l0_8) (hc0_8 : l0_8.length ≤ c0_8) (hr0_9 : Kd.C k71 w A0_9 l0_9.length l0_9) (hc0_9 : l0_9.length ≤ c0_9) (hr0_11 : Kd.C (Kd.int .i64) w A0_11 l0_11.length l0_11) (hc0_11 : l0_11.length ≤ c0_11) (hr0_13 : Kd.C Kd.string w A0_13 l0_13.length l0_13) (hc0_13 : l0_13.length ≤ c0_13) (h : snap_Snap_Copy.f a0_0 a0_1 a0_2 a0_3 a0_4 l0_5 l0_6 l0_7 l0_8 l0_9 a0_10 l0_11 a0_12 l0_13 = some (r1, r2, r3, r4, r5, r6, r7, r8, r9, r10, r11, r12, r13, r14)) :
    Calls Try.prog 16 #[.agg #[.int .i64 a0_0, .int .i64 a0_1, .int .i64 a0_2, .int .i64 a0_3, .int .u64 a0_4, .slice A0_5 l0_5.length c0_5, .slice A0_6 l0_6.length c0_6, .slice A0_7 l0_7.length c0_7, .slice A0_8 l0_8.length c0_8, .slice A0_9 l0_9.length c0_9, .string a0_10, .slice A0_11 l0_11.length c0_11, .int .u64 a0_12, .slice A0_13 l0_13.length c0_13]] w fun e w' => ∃ v5_ v6_ v7_ v8_ v9_ v11_ v13_ : Value, e = .returned (.agg #[.int .i64 r1, .int .i64 r2, .int .i64 r3, .int .i64 r4, .int .u64 r5, v5_, v6_, v7_, v8_, v9_, .string r11, v11_, .int .u64 r13, v13_]) ∧ Kd.R (Kd.int .u64) 38 w' w.heap.size (fun _ => True) v5_ r6 ∧ Kd.R k68 68 w' w.heap.size (fun _ => True) v6_ r7 ∧ Kd.R Kd.string 9 w' w.heap.size (fun k_ => some k_ ≠ (v8_ : Value).ownBlock ∧ some k_ ≠ (v13_ : Value).ownBlock) v7_ r8 ∧ Kd.R Kd.string 9 w' w.heap.size (fun k_ => some k_ ≠ (v7_ : Value).ownBlock ∧ some k_ ≠ (v13_ : Value).ownBlock) v8_ r9 ∧ Kd.R k71 71 w' w.heap.size (fun _ => True) v9_ r10 ∧ Kd.R (Kd.int .i64) 3 w' w.heap.size (fun _ => True) v11_ r12 ∧ Kd.R Kd.string 9 w' w.heap.size (fun k_ => some k_ ≠ (v7_ : Value).ownBlock ∧ some k_ ≠ (v8_ : Value).ownBlock) v13_ r14 ∧ Below w.heap.size w w' := by
  have hu46 := Try.underlying46
  have HR0_5 := Aside0.mk hr0_5
  have HC0_5 := Aside0.mk hc0_5
  clear hr0_5 hc0_5
  have HR0_6 := Aside0.mk hr0_6
  have HC0_6 := Aside0.mk hc0_6
  clear hr0_6 hc0_6
  have HR0_7 := Aside0.mk hr0_7
  have HC0_7 := Aside0.mk hc0_7
  clear hr0_7 hc0_7
  have HR0_8 := Aside0.mk hr0_8
  have HC0_8 := Aside0.mk hc0_8
  clear hr0_8 hc0_8
  have HR0_9 := Aside0.mk hr0_9
  have HC0_9 := Aside0.mk hc0_9
  clear hr0_9 hc0_9
  have HR0_11 := Aside0.mk hr0_11
  have HC0_11 := Aside0.mk hc0_11
  clear hr0_11 hc0_11
  have HR0_13 := Aside0.mk hr0_13
  have HC0_13 := Aside0.mk hc0_13
  clear hr0_13 hc0_13
  have HB := Aside0.mk (Below.refl w.heap.size w)
  have H : ((bits_Set_28.f l0_5).bind fun t143 => ((val_Value_29.f l0_6).bind fun t146 => ((slices_Clone_string_string.f l0_7).bind fun t149 => ((slices_Clone_string_string.f l0_8).bind fun t152 => ((queue_Timer_30.f l0_9).bind fun t155 => ((slices_Clone_int_int.f l0_11).bind fun t158 => ((slices_Clone_string_string.f l0_13).bind fun t161 => (some (a0_0, a0_1, a0_2, a0_3, a0_4, t143, t146, t149, t152, t155, a0_10, t158, a0_12, t161))))))))) = some (r1, r2, r3, r4, r5, r6, r7, r8, r9, r10, r11, r12, r13, r14) := h
  clear h
  replace H := Option.bind_eq_some_iff.mp H
  obtain ⟨t143, A20, H⟩ := H
  replace H : ((val_Value_29.f l0_6).bind fun t146 => ((slices_Clone_string_string.f l0_7).bind fun t149 => ((slices_Clone_string_string.f l0_8).bind fun t152 => ((queue_Timer_30.f l0_9).bind fun t155 => ((slices_Clone_int_int.f l0_11).bind fun t158 => ((slices_Clone_string_string.f l0_13).bind fun t161 => (some (a0_0, a0_1, a0_2, a0_3, a0_4, t143, t146, t149, t152, t155, a0_10, t158, a0_12, t161)))))))) = some (r1, r2, r3, r4, r5, r6, r7, r8, r9, r10, r11, r12, r13, r14) := H
  have A2 := Aside0.mk A20
  clear A20
  replace H := Option.bind_eq_some_iff.mp H
  obtain ⟨t146, A30, H⟩ := H
  replace H : ((slices_Clone_string_string.f l0_7).bind fun t149 => ((slices_Clone_string_string.f l0_8).bind fun t152 => ((queue_Timer_30.f l0_9).bind fun t155 => ((slices_Clone_int_int.f l0_11).bind fun t158 => ((slices_Clone_string_string.f l0_13).bind fun t161 => (some (a0_0, a0_1, a0_2, a0_3, a0_4, t143, t146, t149, t152, t155, a0_10, t158, a0_12, t161))))))) = some (r1, r2, r3, r4, r5, r6, r7, r8, r9, r10, r11, r12, r13, r14) := H
  have A3 := Aside0.mk A30
  clear A30
  replace H := Option.bind_eq_some_iff.mp H
  obtain ⟨t149, A40, H⟩ := H
  replace H : ((slices_Clone_string_string.f l0_8).bind fun t152 => ((queue_Timer_30.f l0_9).bind fun t155 => ((slices_Clone_int_int.f l0_11).bind fun t158 => ((slices_Clone_string_string.f l0_13).bind fun t161 => (some (a0_0, a0_1, a0_2, a0_3, a0_4, t143, t146, t149, t152, t155, a0_10, t158, a0_12, t161)))))) = some (r1, r2, r3, r4, r5, r6, r7, r8, r9, r10, r11, r12, r13, r14) := H
  have A4 := Aside0.mk A40
  clear A40
  replace H := Option.bind_eq_some_iff.mp H
  obtain ⟨t152, A50, H⟩ := H
  replace H : ((queue_Timer_30.f l0_9).bind fun t155 => ((slices_Clone_int_int.f l0_11).bind fun t158 => ((slices_Clone_string_string.f l0_13).bind fun t161 => (some (a0_0, a0_1, a0_2, a0_3, a0_4, t143, t146, t149, t152, t155, a0_10, t158, a0_12, t161))))) = some (r1, r2, r3, r4, r5, r6, r7, r8, r9, r10, r11, r12, r13, r14) := H
  have A5 := Aside0.mk A50
  clear A50
  replace H := Option.bind_eq_some_iff.mp H
  obtain ⟨t155, A60, H⟩ := H
  replace H : ((slices_Clone_int_int.f l0_11).bind fun t158 => ((slices_Clone_string_string.f l0_13).bind fun t161 => (some (a0_0, a0_1, a0_2, a0_3, a0_4, t143, t146, t149, t152, t155, a0_10, t158, a0_12, t161)))) = some (r1, r2, r3, r4, r5, r6, r7, r8, r9, r10, r11, r12, r13, r14) := H
  have A6 := Aside0.mk A60
  clear A60
  replace H := Option.bind_eq_some_iff.mp H
  obtain ⟨t158, A70, H⟩ := H
  replace H : ((slices_Clone_string_string.f l0_13).bind fun t161 => (some (a0_0, a0_1, a0_2, a0_3, a0_4, t143, t146, t149, t152, t155, a0_10, t158, a0_12, t161))) = some (r1, r2, r3, r4, r5, r6, r7, r8, r9, r10, r11, r12, r13, r14) := H
  have A7 := Aside0.mk A70
  clear A70
  replace H := Option.bind_eq_some_iff.mp H
  obtain ⟨t161, A80, H⟩ := H
  replace H : (some (a0_0, a0_1, a0_2, a0_3, a0_4, t143, t146, t149, t152, t155, a0_10, t158, a0_12, t161)) = some (r1, r2, r3, r4, r5, r6, r7, r8, r9, r10, r11, r12, r13, r14) := H
  have A8 := Aside0.mk A80
  clear A80
  simp only [Option.some.injEq, Prod.mk.injEq] at H
  obtain ⟨rfl, rfl, rfl, rfl, rfl, rfl, rfl, rfl, rfl, rfl, rfl, rfl, rfl, rfl⟩ := H
  go_enter Try.func16, Try.ntmps16
  try go_wp2_with (first | ((with_reducible refine gate_dst (N := 1) rfl ?_); refine box_event ?hg (N := 1) ?hd (cs := #[.int .i64 a0_0, .int .i64 a0_1, .int .i64 a0_2, .int .i64 a0_3, .int .u64 a0_4, .slice A0_5 l0_5.length c0_5, .slice A0_6 l0_6.length c0_6, .slice A0_7 l0_7.length c0_7, .slice A0_8 l0_8.length c0_8, .slice A0_9 l0_9.length c0_9, .string a0_10, .slice A0_11 l0_11.length c0_11, .int .u64 a0_12, .slice A0_13 l0_13.length c0_13]) (t := 46) ?hr ?_; (case hd => rfl); (case hg => rfl); (case hr => first | (go_simp; done) | (go_simp; rfl)); intro gb141 hg w9 hbox hb; have n0_ := Aside0.mk (below_step (by repeat (first | (with_reducible first | exact HB.out | apply below_alloc | apply pw_below_drewN | apply below_drew1) | exact HB.out)) hb); have n1_ := Aside0.mk (hbox); have n2_ := Aside0.mk ((by rw [hg]; exact (below_size (by repeat (first | (with_reducible first | exact HB.out | apply below_alloc | apply pw_below_drewN | apply below_drew1) | exact HB.out))) : w.heap.size ≤ gb141)); have n3_ := Aside0.mk ((by rw [hg]; exact (below_size (by repeat (first | (with_reducible first | exact HB.out | apply below_alloc | apply pw_below_drewN | apply below_drew1) | exact HB.out))) : w.heap.size ≤ gb141)); clear HB; have HB := n0_; have BK141 := n1_; have GW141 := n2_; have GE141 := n3_; clear n0_ n1_ n2_ n3_; clear hb hbox hg) | ((with_reducible refine gate_dst (N := 2) rfl ?_); refine box_event ?hg (N := 2) ?hd (cs := #[.int .i64 0, .int .i64 0, .int .i64 0, .int .i64 0, .int .u64 0, .slice none 0 0, .slice none 0 0, .slice none 0 0, .slice none 0 0, .slice none 0 0, .string (⟨#[]⟩ : ByteArray), .slice none 0 0, .int .u64 0, .slice none 0 0]) (t := 46) ?hr ?_; (case hd => rfl); (case hg => rfl); (case hr => first | (go_simp; done) | (go_simp; rfl)); intro gb142 hg w10 hbox hb; have n0_ := Aside0.mk (blk_below (g := gb141) (o := .cells #[.int .i64 a0_0, .int .i64 a0_1, .int .i64 a0_2, .int .i64 a0_3, .int .u64 a0_4, .slice A0_5 l0_5.length c0_5, .slice A0_6 l0_6.length c0_6, .slice A0_7 l0_7.length c0_7, .slice A0_8 l0_8.length c0_8, .slice A0_9 l0_9.length c0_9, .string a0_10, .slice A0_11 l0_11.length c0_11, .int .u64 a0_12, .slice A0_13 l0_13.length c0_13] 46 (0, 0)) (by (with_reducible repeat (first | refine blk_drewN ?_ _ | refine blk_drew ?_ | refine blk_alloc ?_ _)); exact BK141.out) hb); have n1_ := Aside0.mk (below_step (by repeat (first | (with_reducible first | exact HB.out | apply below_alloc | apply pw_below_drewN | apply below_drew1 | refine below_set ?_ GE141.out) | exact HB.out)) hb); have n2_ := Aside0.mk (hbox); have n3_ := Aside0.mk ((by rw [hg]; exact (below_size (by repeat (first | (with_reducible first | exact HB.out | apply below_alloc | apply pw_below_drewN | apply below_drew1 | refine below_set ?_ GE141.out) | exact HB.out))) : w.heap.size ≤ gb142)); have n4_ := Aside0.mk ((by rw [hg]; exact (below_size (by repeat (first | (with_reducible first | exact HB.out | apply below_alloc | apply pw_below_drewN | apply below_drew1 | refine below_set ?_ GE141.out) | exact HB.out))) : w.heap.size ≤ gb142)); have n5_ := Aside0.mk ((by rw [hg]; exact Nat.ne_of_lt (blk_lt (g := gb141) (o := .cells #[.int .i64 a0_0, .int .i64 a0_1, .int .i64 a0_2, .int .i64 a0_3, .int .u64 a0_4, .slice A0_5 l0_5.length c0_5, .slice A0_6 l0_6.length c0_6, .slice A0_7 l0_7.length c0_7, .slice A0_8 l0_8.length c0_8, .slice A0_9 l0_9.length c0_9, .string a0_10, .slice A0_11 l0_11.length c0_11, .int .u64 a0_12, .slice A0_13 l0_13.length c0_13] 46 (0, 0)) (by (with_reducible repeat (first | refine blk_drewN ?_ _ | refine blk_drew ?_ | refine blk_alloc ?_ _)); exact BK141.out)) : gb141 ≠ gb142)); have n6_ := Aside0.mk ((by rw [hg]; exact Nat.ne_of_gt (blk_lt (g := gb141) (o := .cells #[.int .i64 a0_0, .int .i64 a0_1, .int .i64 a0_2, .int .i64 a0_3, .int .u64 a0_4, .slice A0_5 l0_5.length c0_5, .slice A0_6 l0_6.length c0_6, .slice A0_7 l0_7.length c0_7, .slice A0_8 l0_8.length c0_8, .slice A0_9 l0_9.length c0_9, .string a0_10, .slice A0_11 l0_11.length c0_11, .int .u64 a0_12, .slice A0_13 l0_13.length c0_13] 46 (0, 0)) (by (with_reducible repeat (first | refine blk_drewN ?_ _ | refine blk_drew ?_ | refine blk_alloc ?_ _)); exact BK141.out)) : gb142 ≠ gb141)); clear BK141; clear HB; have BK141 := n0_; have HB := n1_; have BK142 := n2_; have GW142 := n3_; have GE142 := n4_; have NB141_142 := n5_; have NB142_141 := n6_; clear n0_ n1_ n2_ n3_ n4_ n5_ n6_; clear hb hbox hg))
  have n0_ := Aside0.mk (blk_drew BK141.out)
  have n1_ := Aside0.mk (blk_drew BK142.out)
  have n2_ := Aside0.mk (below_drew1 HB.out)
  clear BK141
  clear BK142
  clear HB
  have BK141 := n0_
  have BK142 := n1_
  have HB := n2_
  clear n0_ n1_ n2_
  refine start_ (n := 10) (S := fun w' => w'.cell? ⟨gb141, 0, none⟩ = some (.int .i64 a0_0) ∧ w'.cell? ⟨gb141, 1, none⟩ = some (.int .i64 a0_1) ∧ w'.cell? ⟨gb141, 2, none⟩ = some (.int .i64 a0_2) ∧ w'.cell? ⟨gb141, 3, none⟩ = some (.int .i64 a0_3) ∧ w'.cell? ⟨gb141, 4, none⟩ = some (.int .u64 a0_4) ∧ w'.cell? ⟨gb141, 5, none⟩ = some (.slice A0_5 l0_5.length c0_5) ∧ w'.cell? ⟨gb141, 6, none⟩ = some (.slice A0_6 l0_6.length c0_6) ∧ w'.cell? ⟨gb141, 7, none⟩ = some (.slice A0_7 l0_7.length c0_7) ∧ w'.cell? ⟨gb141, 8, none⟩ = some (.slice A0_8 l0_8.length c0_8) ∧ w'.cell? ⟨gb141, 9, none⟩ = some (.slice A0_9 l0_9.length c0_9) ∧ w'.cell? ⟨gb141, 10, none⟩ = some (.string a0_10) ∧ w'.cell? ⟨gb141, 11, none⟩ = some (.slice A0_11 l0_11.length c0_11) ∧ w'.cell? ⟨gb141, 12, none⟩ = some (.int .u64 a0_12) ∧ w'.cell? ⟨gb141, 13, none⟩ = some (.slice A0_13 l0_13.length c0_13)) (ds := [7, 9]) #[false, false, false, false, false, false, false, false, false, false] (by kernel_rfl) rfl rfl ⟨(blk_cell BK141.out 0).trans rfl, (blk_cell BK141.out 1).trans rfl, (blk_cell BK141.out 2).trans rfl, (blk_cell BK141.out 3).trans rfl, (blk_cell BK141.out 4).trans rfl, (blk_cell BK141.out 5).trans rfl, (blk_cell BK141.out 6).trans rfl, (blk_cell BK141.out 7).trans rfl, (blk_cell BK141.out 8).trans rfl, (blk_cell BK141.out 9).trans rfl, (blk_cell BK141.out 10).trans rfl, (blk_cell BK141.out 11).trans rfl, (blk_cell BK141.out 12).trans rfl, (blk_cell BK141.out 13).trans rfl⟩ (fun hHeld => ?_); refine with_tabW snap_Snap_Copy.tab1 snap_Snap_Copy.bits1 (fun HT_ HW_ => ?_)
  generalize w10.drew = w11 at BK141 BK142 HB hHeld ⊢
  refine pure_ (i := 0) (N := some 3) (v := ?_) (a' := ?_) #[true, false, false, false, false, false, false, false, false, false] rfl rfl (any_of HT_.out (by kernel_rfl)) (fun _ _ _ h => h) (Or.inl ⟨by rfl, ?_⟩) ?_ ?_
  rotate_left
  · intro w'
    go_simp
    with_reducible rfl
  rotate_left
  · simp only [Act.put, List.setIfInBounds_toArray, List.set_cons_zero, List.set_cons_succ, i64_w, i32_w]
    rfl
  refine pure_ (i := 3) (N := some 6) (v := ?_) (a' := ?_) #[true, false, false, true, false, false, false, false, false, false] rfl rfl (any_of HT_.out (by kernel_rfl)) (fun _ _ _ h => h) (Or.inl ⟨by rfl, ?_⟩) ?_ ?_
  rotate_left
  · intro w'
    go_simp
    with_reducible rfl
  rotate_left
  · simp only [Act.put, List.setIfInBounds_toArray, List.set_cons_zero, List.set_cons_succ, i64_w, i32_w]
    rfl
  refine take_ (i := 1) (N := some 4) (v := ?_) (a' := ?_) #[true, true, false, true, false, false, false, false, false, false] rfl rfl (take_ofW HT_.out HW_.out (by kernel_rfl)) (fun _ _ _ h => h) (Or.inl ⟨by rfl, ?_⟩) hHeld ?_ ?_
  rotate_left
  · rintro w' ⟨s0, s1, s2, s3, s4, s5, s6, s7, s8, s9, s10, s11, s12, s13⟩
    go_simp
    with_reducible rfl
  rotate_left
  · simp only [Act.put, List.setIfInBounds_toArray, List.set_cons_zero, List.set_cons_succ, i64_w, i32_w]
    rfl
  refine take_ (i := 4) (N := some 7) (v := ?_) (a' := ?_) #[true, true, false, true, true, false, false, false, false, false] rfl rfl (take_ofW HT_.out HW_.out (by kernel_rfl)) (fun _ _ _ h => h) (Or.inl ⟨by rfl, ?_⟩) hHeld ?_ ?_
  rotate_left
  · rintro w' ⟨s0, s1, s2, s3, s4, s5, s6, s7, s8, s9, s10, s11, s12, s13⟩
    go_simp
    with_reducible rfl
  rotate_left
  · simp only [Act.put, List.setIfInBounds_toArray, List.set_cons_zero, List.set_cons_succ, i64_w, i32_w]
    rfl
  refine one_ (i := 2) (N := some 5) #[true, true, true, true, true, false, false, false, false, false] rfl rfl (one_of HT_.out (by kernel_rfl)) (by decide) (fun K hK => ?_)
  refine goes_ Try.func28 (by kernel_rfl) rfl #[.slice A0_5 l0_5.length c0_5] (by rfl) rfl rfl (by (try simp only [List.map_toArray, List.map_cons, List.map_nil]); first | done | rfl | (simp only [List.length_drop, List.length_take]; rfl)) ?_
  with_reducible refine (bits_Set_28.calls _ _ l0_5 t143 _ ?side1 ?side2 A2.out).mono ?_
  (case side1 => repeat (first | exact (Kd.C_below HR0_5.out HB.out) | (with_reducible refine Kd.C_alloc ?_ _) | (with_reducible refine Kd.C_drewN ?_ _) | (with_reducible refine Kd.C_drew ?_)))
  (case side2 => exact HC0_5.out)
  rintro e w12 ⟨v144, rfl, ho0, hb⟩
  refine ⟨_, rfl, ?_⟩
  have n0_ := Aside0.mk (Kd.R_lower ho0 (below_size (by repeat (first | (with_reducible first | exact HB.out | apply below_alloc | apply pw_below_drewN | apply below_drew1 | refine below_set ?_ GE141.out | refine below_set ?_ GE142.out) | exact HB.out))))
  have n1_ := Aside0.mk (blk_below (g := gb141) (o := .cells #[.int .i64 a0_0, .int .i64 a0_1, .int .i64 a0_2, .int .i64 a0_3, .int .u64 a0_4, .slice A0_5 l0_5.length c0_5, .slice A0_6 l0_6.length c0_6, .slice A0_7 l0_7.length c0_7, .slice A0_8 l0_8.length c0_8, .slice A0_9 l0_9.length c0_9, .string a0_10, .slice A0_11 l0_11.length c0_11, .int .u64 a0_12, .slice A0_13 l0_13.length c0_13] 46 (0, 0)) (by (with_reducible repeat (first | refine blk_drewN ?_ _ | refine blk_drew ?_ | refine blk_alloc ?_ _)); exact BK141.out) hb)
  have n2_ := Aside0.mk (blk_below (g := gb142) (o := .cells #[.int .i64 0, .int .i64 0, .int .i64 0, .int .i64 0, .int .u64 0, .slice none 0 0, .slice none 0 0, .slice none 0 0, .slice none 0 0, .slice none 0 0, .string (⟨#[]⟩ : ByteArray), .slice none 0 0, .int .u64 0, .slice none 0 0] 46 (0, 0)) (by (with_reducible repeat (first | refine blk_drewN ?_ _ | refine blk_drew ?_ | refine blk_alloc ?_ _)); exact BK142.out) hb)
  have n3_ := Aside0.mk (below_step (by repeat (first | (with_reducible first | exact HB.out | apply below_alloc | apply pw_below_drewN | apply below_drew1 | refine below_set ?_ GE141.out | refine below_set ?_ GE142.out) | exact HB.out)) hb)
  clear BK141
  clear BK142
  clear HB
  have HO145 := n0_
  have BK141 := n1_
  have BK142 := n2_
  have HB := n3_
  clear n0_ n1_ n2_ n3_
  (try clear hb)
  (try clear hb2)
  (try clear hk)
  (try clear hi)
  (try clear ho0)
  refine hK.out _ _ ⟨(blk_cell BK141.out 0).trans rfl, (blk_cell BK141.out 1).trans rfl, (blk_cell BK141.out 2).trans rfl, (blk_cell BK141.out 3).trans rfl, (blk_cell BK141.out 4).trans rfl, (blk_cell BK141.out 5).trans rfl, (blk_cell BK141.out 6).trans rfl, (blk_cell BK141.out 7).trans rfl, (blk_cell BK141.out 8).trans rfl, (blk_cell BK141.out 9).trans rfl, (blk_cell BK141.out 10).trans rfl, (blk_cell BK141.out 11).trans rfl, (blk_cell BK141.out 12).trans rfl, (blk_cell BK141.out 13).trans rfl⟩ (fun hHeld => ?_)
  clear hK K
  refine norm_ (a' := ?_) ?_ ?_
  rotate_left
  · show Act.put _ (some 5) _ = _
    simp only [Act.put, List.setIfInBounds_toArray, List.set_cons_zero, List.set_cons_succ, i64_w, i32_w]
    rfl
  refine pure_ (i := 6) (N := some 9) (v := ?_) (a' := ?_) #[true, true, true, true, true, false, true, false, false, false] rfl rfl (any_of HT_.out (by kernel_rfl)) (fun _ _ _ h => h) (Or.inl ⟨by rfl, ?_⟩) ?_ ?_
  rotate_left
  · intro w'
    go_simp
    with_reducible rfl
  rotate_left
  · simp only [Act.put, List.setIfInBounds_toArray, List.set_cons_zero, List.set_cons_succ, i64_w, i32_w]
    rfl
  refine one_ (i := 5) (N := some 8) #[true, true, true, true, true, true, true, false, false, false] rfl rfl (one_of HT_.out (by kernel_rfl)) (by decide) (fun K hK => ?_)
  refine goes_ Try.func29 (by kernel_rfl) rfl #[.slice A0_6 l0_6.length c0_6] (by rfl) rfl rfl (by (try simp only [List.map_toArray, List.map_cons, List.map_nil]); first | done | rfl | (simp only [List.length_drop, List.length_take]; rfl)) ?_
  with_reducible refine (val_Value_29.calls _ _ l0_6 t146 _ ?side1 ?side2 A3.out).mono ?_
  (case side1 => repeat (first | exact (Kd.C_below HR0_6.out HB.out) | (with_reducible refine Kd.C_alloc ?_ _) | (with_reducible refine Kd.C_drewN ?_ _) | (with_reducible refine Kd.C_drew ?_)))
  (case side2 => exact HC0_6.out)
  rintro e w13 ⟨v147, rfl, ho0, hb⟩
  refine ⟨_, rfl, ?_⟩
  have n0_ := Aside0.mk (Kd.R_below (by (with_reducible repeat (first | apply Kd.R_alloc | apply Kd.R_drewN | apply Kd.R_drew)); exact HO145.out) hb)
  have n1_ := Aside0.mk (Kd.R_lower ho0 (below_size (by repeat (first | (with_reducible first | exact HB.out | apply below_alloc | apply pw_below_drewN | apply below_drew1 | refine below_set ?_ GE141.out | refine below_set ?_ GE142.out) | exact HB.out))))
  have n2_ := Aside0.mk (blk_below (g := gb141) (o := .cells #[.int .i64 a0_0, .int .i64 a0_1, .int .i64 a0_2, .int .i64 a0_3, .int .u64 a0_4, .slice A0_5 l0_5.length c0_5, .slice A0_6 l0_6.length c0_6, .slice A0_7 l0_7.length c0_7, .slice A0_8 l0_8.length c0_8, .slice A0_9 l0_9.length c0_9, .string a0_10, .slice A0_11 l0_11.length c0_11, .int .u64 a0_12, .slice A0_13 l0_13.length c0_13] 46 (0, 0)) (by (with_reducible repeat (first | refine blk_drewN ?_ _ | refine blk_drew ?_ | refine blk_alloc ?_ _)); exact BK141.out) hb)
  have n3_ := Aside0.mk (blk_below (g := gb142) (o := .cells #[.int .i64 0, .int .i64 0, .int .i64 0, .int .i64 0, .int .u64 0, .slice none 0 0, .slice none 0 0, .slice none 0 0, .slice none 0 0, .slice none 0 0, .string (⟨#[]⟩ : ByteArray), .slice none 0 0, .int .u64 0, .slice none 0 0] 46 (0, 0)) (by (with_reducible repeat (first | refine blk_drewN ?_ _ | refine blk_drew ?_ | refine blk_alloc ?_ _)); exact BK142.out) hb)
  have n4_ := Aside0.mk (below_step (by repeat (first | (with_reducible first | exact HB.out | apply below_alloc | apply pw_below_drewN | apply below_drew1 | refine below_set ?_ GE141.out | refine below_set ?_ GE142.out) | exact HB.out)) hb)
  clear HO145
  clear BK141
  clear BK142
  clear HB
  have HO145 := n0_
  have HO148 := n1_
  have BK141 := n2_
  have BK142 := n3_
  have HB := n4_
  clear n0_ n1_ n2_ n3_ n4_
  (try clear hb)
  (try clear hb2)
  (try clear hk)
  (try clear hi)
  (try clear ho0)
  obtain ⟨Ao14, co14, eo14⟩ := Kd.R_slice HO145.out
  (first | subst eo14 | (injection eo14 with f1_ f2_ f3_; have f4_ := f1_.symm; have f5_ := f3_.symm; clear f1_ f2_ f3_; subst f4_; subst f5_))
  obtain ⟨Ao16, co16, eo16⟩ := Kd.R_slice HO148.out
  (first | subst eo16 | (injection eo16 with f1_ f2_ f3_; have f4_ := f1_.symm; have f5_ := f3_.symm; clear f1_ f2_ f3_; subst f4_; subst f5_))
  refine hK.out _ _ ⟨(blk_cell BK141.out 0).trans rfl, (blk_cell BK141.out 1).trans rfl, (blk_cell BK141.out 2).trans rfl, (blk_cell BK141.out 3).trans rfl, (blk_cell BK141.out 4).trans rfl, (blk_cell BK141.out 5).trans rfl, (blk_cell BK141.out 6).trans rfl, (blk_cell BK141.out 7).trans rfl, (blk_cell BK141.out 8).trans rfl, (blk_cell BK141.out 9).trans rfl, (blk_cell BK141.out 10).trans rfl, (blk_cell BK141.out 11).trans rfl, (blk_cell BK141.out 12).trans rfl, (blk_cell BK141.out 13).trans rfl⟩ (fun hHeld => ?_)
  clear hK K
  refine norm_ (a' := ?_) ?_ ?_
  rotate_left
  · show Act.put _ (some 8) _ = _
    simp only [Act.put, List.setIfInBounds_toArray, List.set_cons_zero, List.set_cons_succ, i64_w, i32_w]
    rfl
  refine last_ (i := 7) (N := none) #[true, true, true, true, true, true, true, true, false, false] rfl rfl (one_of HT_.out (by kernel_rfl)) (by decide) (fun K hK => ?_)
  have hs15 : w13.cell? ⟨gb141, 5, none⟩ = some (.slice A0_5 l0_5.length c0_5) := (blk_cell BK141.out 5).trans rfl
  have hfs15 := blk_frozen BK141.out 5
  have hns15_1 := NB142_141.out
  have hms15_1 := NB141_142.out
  refine skip_ (w1 := ?_) (by rfl) rfl ?_ ?_
  rotate_left
  · go_simp
    rfl
  refine hK.out _ _ ?_
  clear hK K
  refine pure_ (i := 8) (N := some 10) (v := ?_) (a' := ?_) #[true, true, true, true, true, true, true, true, true, false] rfl rfl (any_of HT_.out (by kernel_rfl)) (fun _ _ _ h => h) (Or.inl ⟨by rfl, ?_⟩) ?_ ?_
  rotate_left
  · intro w'
    go_simp
    with_reducible rfl
  rotate_left
  · simp only [Act.put, List.setIfInBounds_toArray, List.set_cons_zero, List.set_cons_succ, i64_w, i32_w]
    rfl
  refine last_ (i := 9) (N := none) #[true, true, true, true, true, true, true, true, true, true] rfl rfl (one_of HT_.out (by kernel_rfl)) (by decide) (fun K hK => ?_)
  have hs17 : w13.cell? ⟨gb141, 6, none⟩ = some (.slice A0_6 l0_6.length c0_6) := (blk_cell BK141.out 6).trans rfl
  have hfs17 := blk_frozen BK141.out 6
  have hns17_1 := NB142_141.out
  have hms17_1 := NB141_142.out
  refine skip_ (w1 := ?_) (by rfl) rfl ?_ ?_
  rotate_left
  · go_simp
    rfl
  refine hK.out _ _ ?_
  clear hK K
  refine done_ (done_of HT_.out (by kernel_rfl)) ?_
  try go_wp2
  have n0_ : Aside0 (Kd.R (Kd.int .u64) 38 ((w13.setCell ⟨gb141, 5, none⟩ (.slice Ao14 t143.length co14)).setCell ⟨gb141, 6, none⟩ (.slice Ao16 t146.length co16)) w.heap.size (fun _ => True) (.slice Ao14 t143.length co14) t143) := ⟨by (with_reducible repeat (first | apply Kd.R_alloc | apply Kd.R_drewN | apply Kd.R_drew)); exact Kd.R_mono (Kd.R_far (p := ⟨gb141, 6, none⟩) (Kd.R_far (p := ⟨gb141, 5, none⟩) (Kd.R_types HO145.out BK141.out (by decide)) (fun _ hk => hk.2) (.slice Ao14 t143.length co14)) (fun _ hk => hk.2) (.slice Ao16 t146.length co16)) (fun _ hk => trivial)⟩
  have n1_ : Aside0 (Kd.R k68 68 ((w13.setCell ⟨gb141, 5, none⟩ (.slice Ao14 t143.length co14)).setCell ⟨gb141, 6, none⟩ (.slice Ao16 t146.length co16)) w.heap.size (fun _ => True) (.slice Ao16 t146.length co16) t146) := ⟨by (with_reducible repeat (first | apply Kd.R_alloc | apply Kd.R_drewN | apply Kd.R_drew)); exact Kd.R_mono (Kd.R_far (p := ⟨gb141, 6, none⟩) (Kd.R_far (p := ⟨gb141, 5, none⟩) (Kd.R_types HO148.out BK141.out (by decide)) (fun _ hk => hk.2) (.slice Ao14 t143.length co14)) (fun _ hk => hk.2) (.slice Ao16 t146.length co16)) (fun _ hk => trivial)⟩
  have n2_ : Aside0 (((w13.setCell ⟨gb141, 5, none⟩ (.slice Ao14 t143.length co14)).setCell ⟨gb141, 6, none⟩ (.slice Ao16 t146.length co16)).heap[gb141]? = some (.cells #[.int .i64 a0_0, .int .i64 a0_1, .int .i64 a0_2, .int .i64 a0_3, .int .u64 a0_4, .slice Ao14 t143.length co14, .slice Ao16 t146.length co16, .slice A0_7 l0_7.length c0_7, .slice A0_8 l0_8.length c0_8, .slice A0_9 l0_9.length c0_9, .string a0_10, .slice A0_11 l0_11.length c0_11, .int .u64 a0_12, .slice A0_13 l0_13.length c0_13] 46 (0, 0))) := ⟨by (with_reducible repeat (first | refine blk_drewN ?_ _ | refine blk_drew ?_ | refine blk_alloc ?_ _)); refine blk_put (cs := #[.int .i64 a0_0, .int .i64 a0_1, .int .i64 a0_2, .int .i64 a0_3, .int .u64 a0_4, .slice Ao14 t143.length co14, .slice A0_6 l0_6.length c0_6, .slice A0_7 l0_7.length c0_7, .slice A0_8 l0_8.length c0_8, .slice A0_9 l0_9.length c0_9, .string a0_10, .slice A0_11 l0_11.length c0_11, .int .u64 a0_12, .slice A0_13 l0_13.length c0_13]) ?_ 6 _ rfl; (with_reducible repeat (first | refine blk_drewN ?_ _ | refine blk_drew ?_ | refine blk_alloc ?_ _)); refine blk_put (cs := #[.int .i64 a0_0, .int .i64 a0_1, .int .i64 a0_2, .int .i64 a0_3, .int .u64 a0_4, .slice A0_5 l0_5.length c0_5, .slice A0_6 l0_6.length c0_6, .slice A0_7 l0_7.length c0_7, .slice A0_8 l0_8.length c0_8, .slice A0_9 l0_9.length c0_9, .string a0_10, .slice A0_11 l0_11.length c0_11, .int .u64 a0_12, .slice A0_13 l0_13.length c0_13]) ?_ 5 _ rfl; (with_reducible repeat (first | refine blk_drewN ?_ _ | refine blk_drew ?_ | refine blk_alloc ?_ _)); exact BK141.out⟩
  have n3_ : Aside0 (((w13.setCell ⟨gb141, 5, none⟩ (.slice Ao14 t143.length co14)).setCell ⟨gb141, 6, none⟩ (.slice Ao16 t146.length co16)).heap[gb142]? = some (.cells #[.int .i64 0, .int .i64 0, .int .i64 0, .int .i64 0, .int .u64 0, .slice none 0 0, .slice none 0 0, .slice none 0 0, .slice none 0 0, .slice none 0 0, .string (⟨#[]⟩ : ByteArray), .slice none 0 0, .int .u64 0, .slice none 0 0] 46 (0, 0))) := ⟨by (with_reducible repeat (first | refine blk_drewN ?_ _ | refine blk_drew ?_ | refine blk_alloc ?_ _)); refine blk_far ?_ NB142_141.out _; (with_reducible repeat (first | refine blk_drewN ?_ _ | refine blk_drew ?_ | refine blk_alloc ?_ _)); refine blk_far ?_ NB142_141.out _; (with_reducible repeat (first | refine blk_drewN ?_ _ | refine blk_drew ?_ | refine blk_alloc ?_ _)); exact BK142.out⟩
  have n4_ : Aside0 (Below w.heap.size w ((w13.setCell ⟨gb141, 5, none⟩ (.slice Ao14 t143.length co14)).setCell ⟨gb141, 6, none⟩ (.slice Ao16 t146.length co16))) := ⟨by repeat (first | (with_reducible first | exact HB.out | apply below_alloc | apply pw_below_drewN | apply below_drew1 | refine below_set ?_ GE141.out | refine below_set ?_ GE142.out) | exact HB.out)⟩
  (try clear HO145)
  (try clear HO148)
  (try clear BK141)
  (try clear BK142)
  (try clear HB)
  generalize ((w13.setCell ⟨gb141, 5, none⟩ (.slice Ao14 t143.length co14)).setCell ⟨gb141, 6, none⟩ (.slice Ao16 t146.length co16)) = w18 at n0_ n1_ n2_ n3_ n4_ ⊢
  have HO145 := n0_
  have HO148 := n1_
  have BK141 := n2_
  have BK142 := n3_
  have HB := n4_
  clear n0_ n1_ n2_ n3_ n4_
  have n0_ := Aside0.mk (Kd.R_drew HO145.out)
  have n1_ := Aside0.mk (Kd.R_drew HO148.out)
  have n2_ := Aside0.mk (blk_drew BK141.out)
  have n3_ := Aside0.mk (blk_drew BK142.out)
  have n4_ := Aside0.mk (below_drew1 HB.out)
  clear HO145
  clear HO148
  clear BK141
  clear BK142
  clear HB
  have HO145 := n0_
  have HO148 := n1_
  have BK141 := n2_
  have BK142 := n3_
  have HB := n4_
  clear n0_ n1_ n2_ n3_ n4_
  refine start_ (n := 15) (S := fun w' => w'.cell? ⟨gb141, 0, none⟩ = some (.int .i64 a0_0) ∧ w'.cell? ⟨gb141, 1, none⟩ = some (.int .i64 a0_1) ∧ w'.cell? ⟨gb141, 2, none⟩ = some (.int .i64 a0_2) ∧ w'.cell? ⟨gb141, 3, none⟩ = some (.int .i64 a0_3) ∧ w'.cell? ⟨gb141, 4, none⟩ = some (.int .u64 a0_4) ∧ w'.cell? ⟨gb141, 5, none⟩ = some (.slice Ao14 t143.length co14) ∧ w'.cell? ⟨gb141, 6, none⟩ = some (.slice Ao16 t146.length co16) ∧ w'.cell? ⟨gb141, 7, none⟩ = some (.slice A0_7 l0_7.length c0_7) ∧ w'.cell? ⟨gb141, 8, none⟩ = some (.slice A0_8 l0_8.length c0_8) ∧ w'.cell? ⟨gb141, 9, none⟩ = some (.slice A0_9 l0_9.length c0_9) ∧ w'.cell? ⟨gb141, 10, none⟩ = some (.string a0_10) ∧ w'.cell? ⟨gb141, 11, none⟩ = some (.slice A0_11 l0_11.length c0_11) ∧ w'.cell? ⟨gb141, 12, none⟩ = some (.int .u64 a0_12) ∧ w'.cell? ⟨gb141, 13, none⟩ = some (.slice A0_13 l0_13.length c0_13)) (ds := [10, 12, 14]) #[false, false, false, false, false, false, false, false, false, false, false, false, false, false, false] (by kernel_rfl) rfl rfl ⟨(blk_cell BK141.out 0).trans rfl, (blk_cell BK141.out 1).trans rfl, (blk_cell BK141.out 2).trans rfl, (blk_cell BK141.out 3).trans rfl, (blk_cell BK141.out 4).trans rfl, (blk_cell BK141.out 5).trans rfl, (blk_cell BK141.out 6).trans rfl, (blk_cell BK141.out 7).trans rfl, (blk_cell BK141.out 8).trans rfl, (blk_cell BK141.out 9).trans rfl, (blk_cell BK141.out 10).trans rfl, (blk_cell BK141.out 11).trans rfl, (blk_cell BK141.out 12).trans rfl, (blk_cell BK141.out 13).trans rfl⟩ (fun hHeld => ?_); refine with_tabW snap_Snap_Copy.tab2 snap_Snap_Copy.bits2 (fun HT_ HW_ => ?_)
  generalize w18.drew = w19 at HO145 HO148 BK141 BK142 HB hHeld ⊢
  refine pure_ (i := 0) (N := some 11) (v := ?_) (a' := ?_) #[true, false, false, false, false, false, false, false, false, false, false, false, false, false, false] rfl rfl (any_of HT_.out (by kernel_rfl)) (fun _ _ _ h => h) (Or.inl ⟨by rfl, ?_⟩) ?_ ?_
  rotate_left
  · intro w'
    go_simp
    with_reducible rfl
  rotate_left
  · simp only [Act.put, List.setIfInBounds_toArray, List.set_cons_zero, List.set_cons_succ, i64_w, i32_w]
    rfl
  refine pure_ (i := 3) (N := some 14) (v := ?_) (a' := ?_) #[true, false, false, true, false, false, false, false, false, false, false, false, false, false, false] rfl rfl (any_of HT_.out (by kernel_rfl)) (fun _ _ _ h => h) (Or.inl ⟨by rfl, ?_⟩) ?_ ?_
  rotate_left
  · intro w'
    go_simp
    with_reducible rfl
  rotate_left
  · simp only [Act.put, List.setIfInBounds_toArray, List.set_cons_zero, List.set_cons_succ, i64_w, i32_w]
    rfl
  refine pure_ (i := 6) (N := some 17) (v := ?_) (a' := ?_) #[true, false, false, true, false, false, true, false, false, false, false, false, false, false, false] rfl rfl (any_of HT_.out (by kernel_rfl)) (fun _ _ _ h => h) (Or.inl ⟨by rfl, ?_⟩) ?_ ?_
  rotate_left
  · intro w'
    go_simp
    with_reducible rfl
  rotate_left
  · simp only [Act.put, List.setIfInBounds_toArray, List.set_cons_zero, List.set_cons_succ, i64_w, i32_w]
    rfl
  refine take_ (i := 1) (N := some 12) (v := ?_) (a' := ?_) #[true, true, false, true, false, false, true, false, false, false, false, false, false, false, false] rfl rfl (take_ofW HT_.out HW_.out (by kernel_rfl)) (fun _ _ _ h => h) (Or.inl ⟨by rfl, ?_⟩) hHeld ?_ ?_
  rotate_left
  · rintro w' ⟨s0, s1, s2, s3, s4, s5, s6, s7, s8, s9, s10, s11, s12, s13⟩
    go_simp
    with_reducible rfl
  rotate_left
  · simp only [Act.put, List.setIfInBounds_toArray, List.set_cons_zero, List.set_cons_succ, i64_w, i32_w]
    rfl
  refine take_ (i := 4) (N := some 15) (v := ?_) (a' := ?_) #[true, true, false, true, true, false, true, false, false, false, false, false, false, false, false] rfl rfl (take_ofW HT_.out HW_.out (by kernel_rfl)) (fun _ _ _ h => h) (Or.inl ⟨by rfl, ?_⟩) hHeld ?_ ?_
  rotate_left
  · rintro w' ⟨s0, s1, s2, s3, s4, s5, s6, s7, s8, s9, s10, s11, s12, s13⟩
    go_simp
    with_reducible rfl
  rotate_left
  · simp only [Act.put, List.setIfInBounds_toArray, List.set_cons_zero, List.set_cons_succ, i64_w, i32_w]
    rfl
  refine take_ (i := 7) (N := some 18) (v := ?_) (a' := ?_) #[true, true, false, true, true, false, true, true, false, false, false, false, false, false, false] rfl rfl (take_ofW HT_.out HW_.out (by kernel_rfl)) (fun _ _ _ h => h) (Or.inl ⟨by rfl, ?_⟩) hHeld ?_ ?_
  rotate_left
  · rintro w' ⟨s0, s1, s2, s3, s4, s5, s6, s7, s8, s9, s10, s11, s12, s13⟩
    go_simp
    with_reducible rfl
  rotate_left
  · simp only [Act.put, List.setIfInBounds_toArray, List.set_cons_zero, List.set_cons_succ, i64_w, i32_w]
    rfl
  refine one_ (i := 2) (N := some 13) #[true, true, true, true, true, false, true, true, false, false, false, false, false, false, false] rfl rfl (one_of HT_.out (by kernel_rfl)) (by decide) (fun K hK => ?_)
  refine goes_ Try.func26 (by kernel_rfl) rfl #[.slice A0_7 l0_7.length c0_7] (by rfl) rfl rfl (by (try simp only [List.map_toArray, List.map_cons, List.map_nil]); first | done | rfl | (simp only [List.length_drop, List.length_take]; rfl)) ?_
  with_reducible refine (slices_Clone_string_string.calls _ _ l0_7 t149 _ ?side1 ?side2 A4.out).mono ?_
  (case side1 => repeat (first | exact (Kd.C_below HR0_7.out HB.out) | (with_reducible refine Kd.C_alloc ?_ _) | (with_reducible refine Kd.C_drewN ?_ _) | (with_reducible refine Kd.C_drew ?_)))
  (case side2 => exact HC0_7.out)
  rintro e w20 ⟨v150, rfl, ho0, hb⟩
  refine ⟨_, rfl, ?_⟩
  have n0_ := Aside0.mk (Kd.R_below (by (with_reducible repeat (first | apply Kd.R_alloc | apply Kd.R_drewN | apply Kd.R_drew)); exact HO145.out) hb)
  have n1_ := Aside0.mk (Kd.R_below (by (with_reducible repeat (first | apply Kd.R_alloc | apply Kd.R_drewN | apply Kd.R_drew)); exact HO148.out) hb)
  have n2_ := Aside0.mk (Kd.R_lower ho0 (below_size (by repeat (first | (with_reducible first | exact HB.out | apply below_alloc | apply pw_below_drewN | apply below_drew1 | refine below_set ?_ GE141.out | refine below_set ?_ GE142.out) | exact HB.out))))
  have n3_ := Aside0.mk (blk_below (g := gb141) (o := .cells #[.int .i64 a0_0, .int .i64 a0_1, .int .i64 a0_2, .int .i64 a0_3, .int .u64 a0_4, .slice Ao14 t143.length co14, .slice Ao16 t146.length co16, .slice A0_7 l0_7.length c0_7, .slice A0_8 l0_8.length c0_8, .slice A0_9 l0_9.length c0_9, .string a0_10, .slice A0_11 l0_11.length c0_11, .int .u64 a0_12, .slice A0_13 l0_13.length c0_13] 46 (0, 0)) (by (with_reducible repeat (first | refine blk_drewN ?_ _ | refine blk_drew ?_ | refine blk_alloc ?_ _)); exact BK141.out) hb)
  have n4_ := Aside0.mk (blk_below (g := gb142) (o := .cells #[.int .i64 0, .int .i64 0, .int .i64 0, .int .i64 0, .int .u64 0, .slice none 0 0, .slice none 0 0, .slice none 0 0, .slice none 0 0, .slice none 0 0, .string (⟨#[]⟩ : ByteArray), .slice none 0 0, .int .u64 0, .slice none 0 0] 46 (0, 0)) (by (with_reducible repeat (first | refine blk_drewN ?_ _ | refine blk_drew ?_ | refine blk_alloc ?_ _)); exact BK142.out) hb)
  have n5_ := Aside0.mk (below_step (by repeat (first | (with_reducible first | exact HB.out | apply below_alloc | apply pw_below_drewN | apply below_drew1 | refine below_set ?_ GE141.out | refine below_set ?_ GE142.out) | exact HB.out)) hb)
  clear HO145
  clear HO148
  clear BK141
  clear BK142
  clear HB
  have HO145 := n0_
  have HO148 := n1_
  have HO151 := n2_
  have BK141 := n3_
  have BK142 := n4_
  have HB := n5_
  clear n0_ n1_ n2_ n3_ n4_ n5_
  (try clear hb)
  (try clear hb2)
  (try clear hk)
  (try clear hi)
  (try clear ho0)
  refine hK.out _ _ ⟨(blk_cell BK141.out 0).trans rfl, (blk_cell BK141.out 1).trans rfl, (blk_cell BK141.out 2).trans rfl, (blk_cell BK141.out 3).trans rfl, (blk_cell BK141.out 4).trans rfl, (blk_cell BK141.out 5).trans rfl, (blk_cell BK141.out 6).trans rfl, (blk_cell BK141.out 7).trans rfl, (blk_cell BK141.out 8).trans rfl, (blk_cell BK141.out 9).trans rfl, (blk_cell BK141.out 10).trans rfl, (blk_cell BK141.out 11).trans rfl, (blk_cell BK141.out 12).trans rfl, (blk_cell BK141.out 13).trans rfl⟩ (fun hHeld => ?_)
  clear hK K
  refine norm_ (a' := ?_) ?_ ?_
  rotate_left
  · show Act.put _ (some 13) _ = _
    simp only [Act.put, List.setIfInBounds_toArray, List.set_cons_zero, List.set_cons_succ, i64_w, i32_w]
    rfl
  refine pure_ (i := 9) (N := some 20) (v := ?_) (a' := ?_) #[true, true, true, true, true, false, true, true, false, true, false, false, false, false, false] rfl rfl (any_of HT_.out (by kernel_rfl)) (fun _ _ _ h => h) (Or.inl ⟨by rfl, ?_⟩) ?_ ?_
  rotate_left
  · intro w'
    go_simp
    with_reducible rfl
  rotate_left
  · simp only [Act.put, List.setIfInBounds_toArray, List.set_cons_zero, List.set_cons_succ, i64_w, i32_w]
    rfl
  refine one_ (i := 5) (N := some 16) #[true, true, true, true, true, true, true, true, false, true, false, false, false, false, false] rfl rfl (one_of HT_.out (by kernel_rfl)) (by decide) (fun K hK => ?_)
  refine goes_ Try.func26 (by kernel_rfl) rfl #[.slice A0_8 l0_8.length c0_8] (by rfl) rfl rfl (by (try simp only [List.map_toArray, List.map_cons, List.map_nil]); first | done | rfl | (simp only [List.length_drop, List.length_take]; rfl)) ?_
  with_reducible refine (slices_Clone_string_string.calls _ _ l0_8 t152 _ ?side1 ?side2 A5.out).mono ?_
  (case side1 => repeat (first | exact (Kd.C_below HR0_8.out HB.out) | (with_reducible refine Kd.C_alloc ?_ _) | (with_reducible refine Kd.C_drewN ?_ _) | (with_reducible refine Kd.C_drew ?_)))
  (case side2 => exact HC0_8.out)
  rintro e w21 ⟨v153, rfl, ho0, hb⟩
  refine ⟨_, rfl, ?_⟩
  have n0_ := Aside0.mk (Kd.R_below (by (with_reducible repeat (first | apply Kd.R_alloc | apply Kd.R_drewN | apply Kd.R_drew)); exact HO145.out) hb)
  have n1_ := Aside0.mk (Kd.R_below (by (with_reducible repeat (first | apply Kd.R_alloc | apply Kd.R_drewN | apply Kd.R_drew)); exact HO148.out) hb)
  have n2_ := Aside0.mk (Kd.R_elder' (by (with_reducible repeat (first | apply Kd.R_alloc | apply Kd.R_drewN | apply Kd.R_drew)); exact HO151.out) (Kd.R_base ho0) hb)
  have n3_ := Aside0.mk (Kd.R_lower (Kd.R_new' ho0 (Kd.R_lt (by (with_reducible repeat (first | apply Kd.R_alloc | apply Kd.R_drewN | apply Kd.R_drew)); exact HO151.out))) (below_size (by repeat (first | (with_reducible first | exact HB.out | apply below_alloc | apply pw_below_drewN | apply below_drew1 | refine below_set ?_ GE141.out | refine below_set ?_ GE142.out) | exact HB.out))))
  have n4_ := Aside0.mk (blk_below (g := gb141) (o := .cells #[.int .i64 a0_0, .int .i64 a0_1, .int .i64 a0_2, .int .i64 a0_3, .int .u64 a0_4, .slice Ao14 t143.length co14, .slice Ao16 t146.length co16, .slice A0_7 l0_7.length c0_7, .slice A0_8 l0_8.length c0_8, .slice A0_9 l0_9.length c0_9, .string a0_10, .slice A0_11 l0_11.length c0_11, .int .u64 a0_12, .slice A0_13 l0_13.length c0_13] 46 (0, 0)) (by (with_reducible repeat (first | refine blk_drewN ?_ _ | refine blk_drew ?_ | refine blk_alloc ?_ _)); exact BK141.out) hb)
  have n5_ := Aside0.mk (blk_below (g := gb142) (o := .cells #[.int .i64 0, .int .i64 0, .int .i64 0, .int .i64 0, .int .u64 0, .slice none 0 0, .slice none 0 0, .slice none 0 0, .slice none 0 0, .slice none 0 0, .string (⟨#[]⟩ : ByteArray), .slice none 0 0, .int .u64 0, .slice none 0 0] 46 (0, 0)) (by (with_reducible repeat (first | refine blk_drewN ?_ _ | refine blk_drew ?_ | refine blk_alloc ?_ _)); exact BK142.out) hb)
  have n6_ := Aside0.mk (below_step (by repeat (first | (with_reducible first | exact HB.out | apply below_alloc | apply pw_below_drewN | apply below_drew1 | refine below_set ?_ GE141.out | refine below_set ?_ GE142.out) | exact HB.out)) hb)
  clear HO145
  clear HO148
  clear HO151
  clear BK141
  clear BK142
  clear HB
  have HO145 := n0_
  have HO148 := n1_
  have HO151 := n2_
  have HO154 := n3_
  have BK141 := n4_
  have BK142 := n5_
  have HB := n6_
  clear n0_ n1_ n2_ n3_ n4_ n5_ n6_
  (try clear hb)
  (try clear hb2)
  (try clear hk)
  (try clear hi)
  (try clear ho0)
  refine hK.out _ _ ⟨(blk_cell BK141.out 0).trans rfl, (blk_cell BK141.out 1).trans rfl, (blk_cell BK141.out 2).trans rfl, (blk_cell BK141.out 3).trans rfl, (blk_cell BK141.out 4).trans rfl, (blk_cell BK141.out 5).trans rfl, (blk_cell BK141.out 6).trans rfl, (blk_cell BK141.out 7).trans rfl, (blk_cell BK141.out 8).trans rfl, (blk_cell BK141.out 9).trans rfl, (blk_cell BK141.out 10).trans rfl, (blk_cell BK141.out 11).trans rfl, (blk_cell BK141.out 12).trans rfl, (blk_cell BK141.out 13).trans rfl⟩ (fun hHeld => ?_)
  clear hK K
  refine norm_ (a' := ?_) ?_ ?_
  rotate_left
  · show Act.put _ (some 16) _ = _
    simp only [Act.put, List.setIfInBounds_toArray, List.set_cons_zero, List.set_cons_succ, i64_w, i32_w]
    rfl
  refine one_ (i := 8) (N := some 19) #[true, true, true, true, true, true, true, true, true, true, false, false, false, false, false] rfl rfl (one_of HT_.out (by kernel_rfl)) (by decide) (fun K hK => ?_)
  refine goes_ Try.func30 (by kernel_rfl) rfl #[.slice A0_9 l0_9.length c0_9] (by rfl) rfl rfl (by (try simp only [List.map_toArray, List.map_cons, List.map_nil]); first | done | rfl | (simp only [List.length_drop, List.length_take]; rfl)) ?_
  with_reducible refine (queue_Timer_30.calls _ _ l0_9 t155 _ ?side1 ?side2 A6.out).mono ?_
  (case side1 => repeat (first | exact (Kd.C_below HR0_9.out HB.out) | (with_reducible refine Kd.C_alloc ?_ _) | (with_reducible refine Kd.C_drewN ?_ _) | (with_reducible refine Kd.C_drew ?_)))
  (case side2 => exact HC0_9.out)
  rintro e w22 ⟨v156, rfl, ho0, hb⟩
  refine ⟨_, rfl, ?_⟩
  have n0_ := Aside0.mk (Kd.R_below (by (with_reducible repeat (first | apply Kd.R_alloc | apply Kd.R_drewN | apply Kd.R_drew)); exact HO145.out) hb)
  have n1_ := Aside0.mk (Kd.R_below (by (with_reducible repeat (first | apply Kd.R_alloc | apply Kd.R_drewN | apply Kd.R_drew)); exact HO148.out) hb)
  have n2_ := Aside0.mk (Kd.R_below (by (with_reducible repeat (first | apply Kd.R_alloc | apply Kd.R_drewN | apply Kd.R_drew)); exact HO151.out) hb)
  have n3_ := Aside0.mk (Kd.R_below (by (with_reducible repeat (first | apply Kd.R_alloc | apply Kd.R_drewN | apply Kd.R_drew)); exact HO154.out) hb)
  have n4_ := Aside0.mk (Kd.R_lower ho0 (below_size (by repeat (first | (with_reducible first | exact HB.out | apply below_alloc | apply pw_below_drewN | apply below_drew1 | refine below_set ?_ GE141.out | refine below_set ?_ GE142.out) | exact HB.out))))
  have n5_ := Aside0.mk (blk_below (g := gb141) (o := .cells #[.int .i64 a0_0, .int .i64 a0_1, .int .i64 a0_2, .int .i64 a0_3, .int .u64 a0_4, .slice Ao14 t143.length co14, .slice Ao16 t146.length co16, .slice A0_7 l0_7.length c0_7, .slice A0_8 l0_8.length c0_8, .slice A0_9 l0_9.length c0_9, .string a0_10, .slice A0_11 l0_11.length c0_11, .int .u64 a0_12, .slice A0_13 l0_13.length c0_13] 46 (0, 0)) (by (with_reducible repeat (first | refine blk_drewN ?_ _ | refine blk_drew ?_ | refine blk_alloc ?_ _)); exact BK141.out) hb)
  have n6_ := Aside0.mk (blk_below (g := gb142) (o := .cells #[.int .i64 0, .int .i64 0, .int .i64 0, .int .i64 0, .int .u64 0, .slice none 0 0, .slice none 0 0, .slice none 0 0, .slice none 0 0, .slice none 0 0, .string (⟨#[]⟩ : ByteArray), .slice none 0 0, .int .u64 0, .slice none 0 0] 46 (0, 0)) (by (with_reducible repeat (first | refine blk_drewN ?_ _ | refine blk_drew ?_ | refine blk_alloc ?_ _)); exact BK142.out) hb)
  have n7_ := Aside0.mk (below_step (by repeat (first | (with_reducible first | exact HB.out | apply below_alloc | apply pw_below_drewN | apply below_drew1 | refine below_set ?_ GE141.out | refine below_set ?_ GE142.out) | exact HB.out)) hb)
  clear HO145
  clear HO148
  clear HO151
  clear HO154
  clear BK141
  clear BK142
  clear HB
  have HO145 := n0_
  have HO148 := n1_
  have HO151 := n2_
  have HO154 := n3_
  have HO157 := n4_
  have BK141 := n5_
  have BK142 := n6_
  have HB := n7_
  clear n0_ n1_ n2_ n3_ n4_ n5_ n6_ n7_
  (try clear hb)
  (try clear hb2)
  (try clear hk)
  (try clear hi)
  (try clear ho0)
  obtain ⟨Ao23, co23, eo23⟩ := Kd.R_slice HO151.out
  (first | subst eo23 | (injection eo23 with f1_ f2_ f3_; have f4_ := f1_.symm; have f5_ := f3_.symm; clear f1_ f2_ f3_; subst f4_; subst f5_))
  obtain ⟨Ao25, co25, eo25⟩ := Kd.R_slice HO154.out
  (first | subst eo25 | (injection eo25 with f1_ f2_ f3_; have f4_ := f1_.symm; have f5_ := f3_.symm; clear f1_ f2_ f3_; subst f4_; subst f5_))
  obtain ⟨Ao27, co27, eo27⟩ := Kd.R_slice HO157.out
  (first | subst eo27 | (injection eo27 with f1_ f2_ f3_; have f4_ := f1_.symm; have f5_ := f3_.symm; clear f1_ f2_ f3_; subst f4_; subst f5_))
  refine hK.out _ _ ⟨(blk_cell BK141.out 0).trans rfl, (blk_cell BK141.out 1).trans rfl, (blk_cell BK141.out 2).trans rfl, (blk_cell BK141.out 3).trans rfl, (blk_cell BK141.out 4).trans rfl, (blk_cell BK141.out 5).trans rfl, (blk_cell BK141.out 6).trans rfl, (blk_cell BK141.out 7).trans rfl, (blk_cell BK141.out 8).trans rfl, (blk_cell BK141.out 9).trans rfl, (blk_cell BK141.out 10).trans rfl, (blk_cell BK141.out 11).trans rfl, (blk_cell BK141.out 12).trans rfl, (blk_cell BK141.out 13).trans rfl⟩ (fun hHeld => ?_)
  clear hK K
  refine norm_ (a' := ?_) ?_ ?_
  rotate_left
  · show Act.put _ (some 19) _ = _
    simp only [Act.put, List.setIfInBounds_toArray, List.set_cons_zero, List.set_cons_succ, i64_w, i32_w]
    rfl
  refine last_ (i := 10) (N := none) #[true, true, true, true, true, true, true, true, true, true, true, false, false, false, false] rfl rfl (one_of HT_.out (by kernel_rfl)) (by decide) (fun K hK => ?_)
  have hs24 : w22.cell? ⟨gb141, 7, none⟩ = some (.slice A0_7 l0_7.length c0_7) := (blk_cell BK141.out 7).trans rfl
  have hfs24 := blk_frozen BK141.out 7
  have hns24_1 := NB142_141.out
  have hms24_1 := NB141_142.out
  refine skip_ (w1 := ?_) (by rfl) rfl ?_ ?_
  rotate_left
  · go_simp
    rfl
  refine hK.out _ _ ?_
  clear hK K
  refine pure_ (i := 11) (N := some 21) (v := ?_) (a' := ?_) #[true, true, true, true, true, true, true, true, true, true, true, true, false, false, false] rfl rfl (any_of HT_.out (by kernel_rfl)) (fun _ _ _ h => h) (Or.inl ⟨by rfl, ?_⟩) ?_ ?_
  rotate_left
  · intro w'
    go_simp
    with_reducible rfl
  rotate_left
  · simp only [Act.put, List.setIfInBounds_toArray, List.set_cons_zero, List.set_cons_succ, i64_w, i32_w]
    rfl
  refine last_ (i := 12) (N := none) #[true, true, true, true, true, true, true, true, true, true, true, true, true, false, false] rfl rfl (one_of HT_.out (by kernel_rfl)) (by decide) (fun K hK => ?_)
  have hs26 : w22.cell? ⟨gb141, 8, none⟩ = some (.slice A0_8 l0_8.length c0_8) := (blk_cell BK141.out 8).trans rfl
  have hfs26 := blk_frozen BK141.out 8
  have hns26_1 := NB142_141.out
  have hms26_1 := NB141_142.out
  refine skip_ (w1 := ?_) (by rfl) rfl ?_ ?_
  rotate_left
  · go_simp
    rfl
  refine hK.out _ _ ?_
  clear hK K
  refine pure_ (i := 13) (N := some 22) (v := ?_) (a' := ?_) #[true, true, true, true, true, true, true, true, true, true, true, true, true, true, false] rfl rfl (any_of HT_.out (by kernel_rfl)) (fun _ _ _ h => h) (Or.inl ⟨by rfl, ?_⟩) ?_ ?_
  rotate_left
  · intro w'
    go_simp
    with_reducible rfl
  rotate_left
  · simp only [Act.put, List.setIfInBounds_toArray, List.set_cons_zero, List.set_cons_succ, i64_w, i32_w]
    rfl
  refine last_ (i := 14) (N := none) #[true, true, true, true, true, true, true, true, true, true, true, true, true, true, true] rfl rfl (one_of HT_.out (by kernel_rfl)) (by decide) (fun K hK => ?_)
  have hs28 : w22.cell? ⟨gb141, 9, none⟩ = some (.slice A0_9 l0_9.length c0_9) := (blk_cell BK141.out 9).trans rfl
  have hfs28 := blk_frozen BK141.out 9
  have hns28_1 := NB142_141.out
  have hms28_1 := NB141_142.out
  refine skip_ (w1 := ?_) (by rfl) rfl ?_ ?_
  rotate_left
  · go_simp
    rfl
  refine hK.out _ _ ?_
  clear hK K
  refine done_ (done_of HT_.out (by kernel_rfl)) ?_
  try go_wp2
  have n0_ : Aside0 (Kd.R (Kd.int .u64) 38 (((w22.setCell ⟨gb141, 7, none⟩ (.slice Ao23 t149.length co23)).setCell ⟨gb141, 8, none⟩ (.slice Ao25 t152.length co25)).setCell ⟨gb141, 9, none⟩ (.slice Ao27 t155.length co27)) w.heap.size (fun _ => True) (.slice Ao14 t143.length co14) t143) := ⟨by (with_reducible repeat (first | apply Kd.R_alloc | apply Kd.R_drewN | apply Kd.R_drew)); exact Kd.R_mono (Kd.R_far (p := ⟨gb141, 9, none⟩) (Kd.R_far (p := ⟨gb141, 8, none⟩) (Kd.R_far (p := ⟨gb141, 7, none⟩) (Kd.R_types HO145.out BK141.out (by decide)) (fun _ hk => hk.2) (.slice Ao23 t149.length co23)) (fun _ hk => hk.2) (.slice Ao25 t152.length co25)) (fun _ hk => hk.2) (.slice Ao27 t155.length co27)) (fun _ hk => trivial)⟩
  have n1_ : Aside0 (Kd.R k68 68 (((w22.setCell ⟨gb141, 7, none⟩ (.slice Ao23 t149.length co23)).setCell ⟨gb141, 8, none⟩ (.slice Ao25 t152.length co25)).setCell ⟨gb141, 9, none⟩ (.slice Ao27 t155.length co27)) w.heap.size (fun _ => True) (.slice Ao16 t146.length co16) t146) := ⟨by (with_reducible repeat (first | apply Kd.R_alloc | apply Kd.R_drewN | apply Kd.R_drew)); exact Kd.R_mono (Kd.R_far (p := ⟨gb141, 9, none⟩) (Kd.R_far (p := ⟨gb141, 8, none⟩) (Kd.R_far (p := ⟨gb141, 7, none⟩) (Kd.R_types HO148.out BK141.out (by decide)) (fun _ hk => hk.2) (.slice Ao23 t149.length co23)) (fun _ hk => hk.2) (.slice Ao25 t152.length co25)) (fun _ hk => hk.2) (.slice Ao27 t155.length co27)) (fun _ hk => trivial)⟩
  have n2_ : Aside0 (Kd.R Kd.string 9 (((w22.setCell ⟨gb141, 7, none⟩ (.slice Ao23 t149.length co23)).setCell ⟨gb141, 8, none⟩ (.slice Ao25 t152.length co25)).setCell ⟨gb141, 9, none⟩ (.slice Ao27 t155.length co27)) w.heap.size (fun k_ => some k_ ≠ (.slice Ao25 t152.length co25 : Value).ownBlock) (.slice Ao23 t149.length co23) t149) := ⟨by (with_reducible repeat (first | apply Kd.R_alloc | apply Kd.R_drewN | apply Kd.R_drew)); exact Kd.R_mono (Kd.R_far (p := ⟨gb141, 9, none⟩) (Kd.R_far (p := ⟨gb141, 8, none⟩) (Kd.R_far (p := ⟨gb141, 7, none⟩) (Kd.R_types HO151.out BK141.out (by decide)) (fun _ hk => hk.2) (.slice Ao23 t149.length co23)) (fun _ hk => hk.2) (.slice Ao25 t152.length co25)) (fun _ hk => hk.2) (.slice Ao27 t155.length co27)) (fun _ hk => hk.1.2)⟩
  have n3_ : Aside0 (Kd.R Kd.string 9 (((w22.setCell ⟨gb141, 7, none⟩ (.slice Ao23 t149.length co23)).setCell ⟨gb141, 8, none⟩ (.slice Ao25 t152.length co25)).setCell ⟨gb141, 9, none⟩ (.slice Ao27 t155.length co27)) w.heap.size (fun k_ => some k_ ≠ (.slice Ao23 t149.length co23 : Value).ownBlock) (.slice Ao25 t152.length co25) t152) := ⟨by (with_reducible repeat (first | apply Kd.R_alloc | apply Kd.R_drewN | apply Kd.R_drew)); exact Kd.R_mono (Kd.R_far (p := ⟨gb141, 9, none⟩) (Kd.R_far (p := ⟨gb141, 8, none⟩) (Kd.R_far (p := ⟨gb141, 7, none⟩) (Kd.R_types HO154.out BK141.out (by decide)) (fun _ hk => hk.2) (.slice Ao23 t149.length co23)) (fun _ hk => hk.2) (.slice Ao25 t152.length co25)) (fun _ hk => hk.2) (.slice Ao27 t155.length co27)) (fun _ hk => hk.1.2)⟩
  have n4_ : Aside0 (Kd.R k71 71 (((w22.setCell ⟨gb141, 7, none⟩ (.slice Ao23 t149.length co23)).setCell ⟨gb141, 8, none⟩ (.slice Ao25 t152.length co25)).setCell ⟨gb141, 9, none⟩ (.slice Ao27 t155.length co27)) w.heap.size (fun _ => True) (.slice Ao27 t155.length co27) t155) := ⟨by (with_reducible repeat (first | apply Kd.R_alloc | apply Kd.R_drewN | apply Kd.R_drew)); exact Kd.R_mono (Kd.R_far (p := ⟨gb141, 9, none⟩) (Kd.R_far (p := ⟨gb141, 8, none⟩) (Kd.R_far (p := ⟨gb141, 7, none⟩) (Kd.R_types HO157.out BK141.out (by decide)) (fun _ hk => hk.2) (.slice Ao23 t149.length co23)) (fun _ hk => hk.2) (.slice Ao25 t152.length co25)) (fun _ hk => hk.2) (.slice Ao27 t155.length co27)) (fun _ hk => trivial)⟩
  have n5_ : Aside0 ((((w22.setCell ⟨gb141, 7, none⟩ (.slice Ao23 t149.length co23)).setCell ⟨gb141, 8, none⟩ (.slice Ao25 t152.length co25)).setCell ⟨gb141, 9, none⟩ (.slice Ao27 t155.length co27)).heap[gb141]? = some (.cells #[.int .i64 a0_0, .int .i64 a0_1, .int .i64 a0_2, .int .i64 a0_3, .int .u64 a0_4, .slice Ao14 t143.length co14, .slice Ao16 t146.length co16, .slice Ao23 t149.length co23, .slice Ao25 t152.length co25, .slice Ao27 t155.length co27, .string a0_10, .slice A0_11 l0_11.length c0_11, .int .u64 a0_12, .slice A0_13 l0_13.length c0_13] 46 (0, 0))) := ⟨by (with_reducible repeat (first | refine blk_drewN ?_ _ | refine blk_drew ?_ | refine blk_alloc ?_ _)); refine blk_put (cs := #[.int .i64 a0_0, .int .i64 a0_1, .int .i64 a0_2, .int .i64 a0_3, .int .u64 a0_4, .slice Ao14 t143.length co14, .slice Ao16 t146.length co16, .slice Ao23 t149.length co23, .slice Ao25 t152.length co25, .slice A0_9 l0_9.length c0_9, .string a0_10, .slice A0_11 l0_11.length c0_11, .int .u64 a0_12, .slice A0_13 l0_13.length c0_13]) ?_ 9 _ rfl; (with_reducible repeat (first | refine blk_drewN ?_ _ | refine blk_drew ?_ | refine blk_alloc ?_ _)); refine blk_put (cs := #[.int .i64 a0_0, .int .i64 a0_1, .int .i64 a0_2, .int .i64 a0_3, .int .u64 a0_4, .slice Ao14 t143.length co14, .slice Ao16 t146.length co16, .slice Ao23 t149.length co23, .slice A0_8 l0_8.length c0_8, .slice A0_9 l0_9.length c0_9, .string a0_10, .slice A0_11 l0_11.length c0_11, .int .u64 a0_12, .slice A0_13 l0_13.length c0_13]) ?_ 8 _ rfl; (with_reducible repeat (first | refine blk_drewN ?_ _ | refine blk_drew ?_ | refine blk_alloc ?_ _)); refine blk_put (cs := #[.int .i64 a0_0, .int .i64 a0_1, .int .i64 a0_2, .int .i64 a0_3, .int .u64 a0_4, .slice Ao14 t143.length co14, .slice Ao16 t146.length co16, .slice A0_7 l0_7.length c0_7, .slice A0_8 l0_8.length c0_8, .slice A0_9 l0_9.length c0_9, .string a0_10, .slice A0_11 l0_11.length c0_11, .int .u64 a0_12, .slice A0_13 l0_13.length c0_13]) ?_ 7 _ rfl; (with_reducible repeat (first | refine blk_drewN ?_ _ | refine blk_drew ?_ | refine blk_alloc ?_ _)); exact BK141.out⟩
  have n6_ : Aside0 ((((w22.setCell ⟨gb141, 7, none⟩ (.slice Ao23 t149.length co23)).setCell ⟨gb141, 8, none⟩ (.slice Ao25 t152.length co25)).setCell ⟨gb141, 9, none⟩ (.slice Ao27 t155.length co27)).heap[gb142]? = some (.cells #[.int .i64 0, .int .i64 0, .int .i64 0, .int .i64 0, .int .u64 0, .slice none 0 0, .slice none 0 0, .slice none 0 0, .slice none 0 0, .slice none 0 0, .string (⟨#[]⟩ : ByteArray), .slice none 0 0, .int .u64 0, .slice none 0 0] 46 (0, 0))) := ⟨by (with_reducible repeat (first | refine blk_drewN ?_ _ | refine blk_drew ?_ | refine blk_alloc ?_ _)); refine blk_far ?_ NB142_141.out _; (with_reducible repeat (first | refine blk_drewN ?_ _ | refine blk_drew ?_ | refine blk_alloc ?_ _)); refine blk_far ?_ NB142_141.out _; (with_reducible repeat (first | refine blk_drewN ?_ _ | refine blk_drew ?_ | refine blk_alloc ?_ _)); refine blk_far ?_ NB142_141.out _; (with_reducible repeat (first | refine blk_drewN ?_ _ | refine blk_drew ?_ | refine blk_alloc ?_ _)); exact BK142.out⟩
  have n7_ : Aside0 (Below w.heap.size w (((w22.setCell ⟨gb141, 7, none⟩ (.slice Ao23 t149.length co23)).setCell ⟨gb141, 8, none⟩ (.slice Ao25 t152.length co25)).setCell ⟨gb141, 9, none⟩ (.slice Ao27 t155.length co27))) := ⟨by repeat (first | (with_reducible first | exact HB.out | apply below_alloc | apply pw_below_drewN | apply below_drew1 | refine below_set ?_ GE141.out | refine below_set ?_ GE142.out) | exact HB.out)⟩
  (try clear HO145)
  (try clear HO148)
  (try clear HO151)
  (try clear HO154)
  (try clear HO157)
  (try clear BK141)
  (try clear BK142)
  (try clear HB)
  generalize (((w22.setCell ⟨gb141, 7, none⟩ (.slice Ao23 t149.length co23)).setCell ⟨gb141, 8, none⟩ (.slice Ao25 t152.length co25)).setCell ⟨gb141, 9, none⟩ (.slice Ao27 t155.length co27)) = w29 at n0_ n1_ n2_ n3_ n4_ n5_ n6_ n7_ ⊢
  have HO145 := n0_
  have HO148 := n1_
  have HO151 := n2_
  have HO154 := n3_
  have HO157 := n4_
  have BK141 := n5_
  have BK142 := n6_
  have HB := n7_
  clear n0_ n1_ n2_ n3_ n4_ n5_ n6_ n7_
  have n0_ := Aside0.mk (Kd.R_drew HO145.out)
  have n1_ := Aside0.mk (Kd.R_drew HO148.out)
  have n2_ := Aside0.mk (Kd.R_drew HO151.out)
  have n3_ := Aside0.mk (Kd.R_drew HO154.out)
  have n4_ := Aside0.mk (Kd.R_drew HO157.out)
  have n5_ := Aside0.mk (blk_drew BK141.out)
  have n6_ := Aside0.mk (blk_drew BK142.out)
  have n7_ := Aside0.mk (below_drew1 HB.out)
  clear HO145
  clear HO148
  clear HO151
  clear HO154
  clear HO157
  clear BK141
  clear BK142
  clear HB
  have HO145 := n0_
  have HO148 := n1_
  have HO151 := n2_
  have HO154 := n3_
  have HO157 := n4_
  have BK141 := n5_
  have BK142 := n6_
  have HB := n7_
  clear n0_ n1_ n2_ n3_ n4_ n5_ n6_ n7_
  refine start_ (n := 14) (S := fun w' => w'.cell? ⟨gb141, 0, none⟩ = some (.int .i64 a0_0) ∧ w'.cell? ⟨gb141, 1, none⟩ = some (.int .i64 a0_1) ∧ w'.cell? ⟨gb141, 2, none⟩ = some (.int .i64 a0_2) ∧ w'.cell? ⟨gb141, 3, none⟩ = some (.int .i64 a0_3) ∧ w'.cell? ⟨gb141, 4, none⟩ = some (.int .u64 a0_4) ∧ w'.cell? ⟨gb141, 5, none⟩ = some (.slice Ao14 t143.length co14) ∧ w'.cell? ⟨gb141, 6, none⟩ = some (.slice Ao16 t146.length co16) ∧ w'.cell? ⟨gb141, 7, none⟩ = some (.slice Ao23 t149.length co23) ∧ w'.cell? ⟨gb141, 8, none⟩ = some (.slice Ao25 t152.length co25) ∧ w'.cell? ⟨gb141, 9, none⟩ = some (.slice Ao27 t155.length co27) ∧ w'.cell? ⟨gb141, 10, none⟩ = some (.string a0_10) ∧ w'.cell? ⟨gb141, 11, none⟩ = some (.slice A0_11 l0_11.length c0_11) ∧ w'.cell? ⟨gb141, 12, none⟩ = some (.int .u64 a0_12) ∧ w'.cell? ⟨gb141, 13, none⟩ = some (.slice A0_13 l0_13.length c0_13)) (ds := [10, 13]) #[false, false, false, false, false, false, false, false, false, false, false, false, false, false] (by kernel_rfl) rfl rfl ⟨(blk_cell BK141.out 0).trans rfl, (blk_cell BK141.out 1).trans rfl, (blk_cell BK141.out 2).trans rfl, (blk_cell BK141.out 3).trans rfl, (blk_cell BK141.out 4).trans rfl, (blk_cell BK141.out 5).trans rfl, (blk_cell BK141.out 6).trans rfl, (blk_cell BK141.out 7).trans rfl, (blk_cell BK141.out 8).trans rfl, (blk_cell BK141.out 9).trans rfl, (blk_cell BK141.out 10).trans rfl, (blk_cell BK141.out 11).trans rfl, (blk_cell BK141.out 12).trans rfl, (blk_cell BK141.out 13).trans rfl⟩ (fun hHeld => ?_); refine with_tabW snap_Snap_Copy.tab3 snap_Snap_Copy.bits3 (fun HT_ HW_ => ?_)
  generalize w29.drew = w30 at HO145 HO148 HO151 HO154 HO157 BK141 BK142 HB hHeld ⊢
  refine pure_ (i := 0) (N := some 23) (v := ?_) (a' := ?_) #[true, false, false, false, false, false, false, false, false, false, false, false, false, false] rfl rfl (any_of HT_.out (by kernel_rfl)) (fun _ _ _ h => h) (Or.inl ⟨by rfl, ?_⟩) ?_ ?_
  rotate_left
  · intro w'
    go_simp
    with_reducible rfl
  rotate_left
  · simp only [Act.put, List.setIfInBounds_toArray, List.set_cons_zero, List.set_cons_succ, i64_w, i32_w]
    rfl
  refine pure_ (i := 1) (N := some 24) (v := ?_) (a' := ?_) #[true, true, false, false, false, false, false, false, false, false, false, false, false, false] rfl rfl (any_of HT_.out (by kernel_rfl)) (fun _ _ _ h => h) (Or.inl ⟨by rfl, ?_⟩) ?_ ?_
  rotate_left
  · intro w'
    go_simp
    with_reducible rfl
  rotate_left
  · simp only [Act.put, List.setIfInBounds_toArray, List.set_cons_zero, List.set_cons_succ, i64_w, i32_w]
    rfl
  refine pure_ (i := 4) (N := some 27) (v := ?_) (a' := ?_) #[true, true, false, false, true, false, false, false, false, false, false, false, false, false] rfl rfl (any_of HT_.out (by kernel_rfl)) (fun _ _ _ h => h) (Or.inl ⟨by rfl, ?_⟩) ?_ ?_
  rotate_left
  · intro w'
    go_simp
    with_reducible rfl
  rotate_left
  · simp only [Act.put, List.setIfInBounds_toArray, List.set_cons_zero, List.set_cons_succ, i64_w, i32_w]
    rfl
  refine pure_ (i := 5) (N := some 28) (v := ?_) (a' := ?_) #[true, true, false, false, true, true, false, false, false, false, false, false, false, false] rfl rfl (any_of HT_.out (by kernel_rfl)) (fun _ _ _ h => h) (Or.inl ⟨by rfl, ?_⟩) ?_ ?_
  rotate_left
  · intro w'
    go_simp
    with_reducible rfl
  rotate_left
  · simp only [Act.put, List.setIfInBounds_toArray, List.set_cons_zero, List.set_cons_succ, i64_w, i32_w]
    rfl
  refine take_ (i := 2) (N := some 25) (v := ?_) (a' := ?_) #[true, true, true, false, true, true, false, false, false, false, false, false, false, false] rfl rfl (take_ofW HT_.out HW_.out (by kernel_rfl)) (fun _ _ _ h => h) (Or.inl ⟨by rfl, ?_⟩) hHeld ?_ ?_
  rotate_left
  · rintro w' ⟨s0, s1, s2, s3, s4, s5, s6, s7, s8, s9, s10, s11, s12, s13⟩
    go_simp
    with_reducible rfl
  rotate_left
  · simp only [Act.put, List.setIfInBounds_toArray, List.set_cons_zero, List.set_cons_succ, i64_w, i32_w]
    rfl
  refine take_ (i := 6) (N := some 29) (v := ?_) (a' := ?_) #[true, true, true, false, true, true, true, false, false, false, false, false, false, false] rfl rfl (take_ofW HT_.out HW_.out (by kernel_rfl)) (fun _ _ _ h => h) (Or.inl ⟨by rfl, ?_⟩) hHeld ?_ ?_
  rotate_left
  · rintro w' ⟨s0, s1, s2, s3, s4, s5, s6, s7, s8, s9, s10, s11, s12, s13⟩
    go_simp
    with_reducible rfl
  rotate_left
  · simp only [Act.put, List.setIfInBounds_toArray, List.set_cons_zero, List.set_cons_succ, i64_w, i32_w]
    rfl
  refine one_ (i := 3) (N := some 26) #[true, true, true, true, true, true, true, false, false, false, false, false, false, false] rfl rfl (one_of HT_.out (by kernel_rfl)) (by decide) (fun K hK => ?_)
  refine goes_ Try.func31 (by kernel_rfl) rfl #[.slice A0_11 l0_11.length c0_11] (by rfl) rfl rfl (by (try simp only [List.map_toArray, List.map_cons, List.map_nil]); first | done | rfl | (simp only [List.length_drop, List.length_take]; rfl)) ?_
  with_reducible refine (slices_Clone_int_int.calls _ _ l0_11 t158 _ ?side1 ?side2 A7.out).mono ?_
  (case side1 => repeat (first | exact (Kd.C_below HR0_11.out HB.out) | (with_reducible refine Kd.C_alloc ?_ _) | (with_reducible refine Kd.C_drewN ?_ _) | (with_reducible refine Kd.C_drew ?_)))
  (case side2 => exact HC0_11.out)
  rintro e w31 ⟨v159, rfl, ho0, hb⟩
  refine ⟨_, rfl, ?_⟩
  have n0_ := Aside0.mk (Kd.R_below (by (with_reducible repeat (first | apply Kd.R_alloc | apply Kd.R_drewN | apply Kd.R_drew)); exact HO145.out) hb)
  have n1_ := Aside0.mk (Kd.R_below (by (with_reducible repeat (first | apply Kd.R_alloc | apply Kd.R_drewN | apply Kd.R_drew)); exact HO148.out) hb)
  have n2_ := Aside0.mk (Kd.R_below (by (with_reducible repeat (first | apply Kd.R_alloc | apply Kd.R_drewN | apply Kd.R_drew)); exact HO151.out) hb)
  have n3_ := Aside0.mk (Kd.R_below (by (with_reducible repeat (first | apply Kd.R_alloc | apply Kd.R_drewN | apply Kd.R_drew)); exact HO154.out) hb)
  have n4_ := Aside0.mk (Kd.R_below (by (with_reducible repeat (first | apply Kd.R_alloc | apply Kd.R_drewN | apply Kd.R_drew)); exact HO157.out) hb)
  have n5_ := Aside0.mk (Kd.R_lower ho0 (below_size (by repeat (first | (with_reducible first | exact HB.out | apply below_alloc | apply pw_below_drewN | apply below_drew1 | refine below_set ?_ GE141.out | refine below_set ?_ GE142.out) | exact HB.out))))
  have n6_ := Aside0.mk (blk_below (g := gb141) (o := .cells #[.int .i64 a0_0, .int .i64 a0_1, .int .i64 a0_2, .int .i64 a0_3, .int .u64 a0_4, .slice Ao14 t143.length co14, .slice Ao16 t146.length co16, .slice Ao23 t149.length co23, .slice Ao25 t152.length co25, .slice Ao27 t155.length co27, .string a0_10, .slice A0_11 l0_11.length c0_11, .int .u64 a0_12, .slice A0_13 l0_13.length c0_13] 46 (0, 0)) (by (with_reducible repeat (first | refine blk_drewN ?_ _ | refine blk_drew ?_ | refine blk_alloc ?_ _)); exact BK141.out) hb)
  have n7_ := Aside0.mk (blk_below (g := gb142) (o := .cells #[.int .i64 0, .int .i64 0, .int .i64 0, .int .i64 0, .int .u64 0, .slice none 0 0, .slice none 0 0, .slice none 0 0, .slice none 0 0, .slice none 0 0, .string (⟨#[]⟩ : ByteArray), .slice none 0 0, .int .u64 0, .slice none 0 0] 46 (0, 0)) (by (with_reducible repeat (first | refine blk_drewN ?_ _ | refine blk_drew ?_ | refine blk_alloc ?_ _)); exact BK142.out) hb)
  have n8_ := Aside0.mk (below_step (by repeat (first | (with_reducible first | exact HB.out | apply below_alloc | apply pw_below_drewN | apply below_drew1 | refine below_set ?_ GE141.out | refine below_set ?_ GE142.out) | exact HB.out)) hb)
  clear HO145
  clear HO148
  clear HO151
  clear HO154
  clear HO157
  clear BK141
  clear BK142
  clear HB
  have HO145 := n0_
  have HO148 := n1_
  have HO151 := n2_
  have HO154 := n3_
  have HO157 := n4_
  have HO160 := n5_
  have BK141 := n6_
  have BK142 := n7_
  have HB := n8_
  clear n0_ n1_ n2_ n3_ n4_ n5_ n6_ n7_ n8_
  (try clear hb)
  (try clear hb2)
  (try clear hk)
  (try clear hi)
  (try clear ho0)
  refine hK.out _ _ ⟨(blk_cell BK141.out 0).trans rfl, (blk_cell BK141.out 1).trans rfl, (blk_cell BK141.out 2).trans rfl, (blk_cell BK141.out 3).trans rfl, (blk_cell BK141.out 4).trans rfl, (blk_cell BK141.out 5).trans rfl, (blk_cell BK141.out 6).trans rfl, (blk_cell BK141.out 7).trans rfl, (blk_cell BK141.out 8).trans rfl, (blk_cell BK141.out 9).trans rfl, (blk_cell BK141.out 10).trans rfl, (blk_cell BK141.out 11).trans rfl, (blk_cell BK141.out 12).trans rfl, (blk_cell BK141.out 13).trans rfl⟩ (fun hHeld => ?_)
  clear hK K
  refine norm_ (a' := ?_) ?_ ?_
  rotate_left
  · show Act.put _ (some 26) _ = _
    simp only [Act.put, List.setIfInBounds_toArray, List.set_cons_zero, List.set_cons_succ, i64_w, i32_w]
    rfl
  refine pure_ (i := 8) (N := some 31) (v := ?_) (a' := ?_) #[true, true, true, true, true, true, true, false, true, false, false, false, false, false] rfl rfl (any_of HT_.out (by kernel_rfl)) (fun _ _ _ h => h) (Or.inl ⟨by rfl, ?_⟩) ?_ ?_
  rotate_left
  · intro w'
    go_simp
    with_reducible rfl
  rotate_left
  · simp only [Act.put, List.setIfInBounds_toArray, List.set_cons_zero, List.set_cons_succ, i64_w, i32_w]
    rfl
  refine pure_ (i := 9) (N := some 32) (v := ?_) (a' := ?_) #[true, true, true, true, true, true, true, false, true, true, false, false, false, false] rfl rfl (any_of HT_.out (by kernel_rfl)) (fun _ _ _ h => h) (Or.inl ⟨by rfl, ?_⟩) ?_ ?_
  rotate_left
  · intro w'
    go_simp
    with_reducible rfl
  rotate_left
  · simp only [Act.put, List.setIfInBounds_toArray, List.set_cons_zero, List.set_cons_succ, i64_w, i32_w]
    rfl
  refine one_ (i := 7) (N := some 30) #[true, true, true, true, true, true, true, true, true, true, false, false, false, false] rfl rfl (one_of HT_.out (by kernel_rfl)) (by decide) (fun K hK => ?_)
  refine goes_ Try.func26 (by kernel_rfl) rfl #[.slice A0_13 l0_13.length c0_13] (by rfl) rfl rfl (by (try simp only [List.map_toArray, List.map_cons, List.map_nil]); first | done | rfl | (simp only [List.length_drop, List.length_take]; rfl)) ?_
  with_reducible refine (slices_Clone_string_string.calls _ _ l0_13 t161 _ ?side1 ?side2 A8.out).mono ?_
  (case side1 => repeat (first | exact (Kd.C_below HR0_13.out HB.out) | (with_reducible refine Kd.C_alloc ?_ _) | (with_reducible refine Kd.C_drewN ?_ _) | (with_reducible refine Kd.C_drew ?_)))
  (case side2 => exact HC0_13.out)
  rintro e w32 ⟨v162, rfl, ho0, hb⟩
  refine ⟨_, rfl, ?_⟩
  have n0_ := Aside0.mk (Kd.R_below (by (with_reducible repeat (first | apply Kd.R_alloc | apply Kd.R_drewN | apply Kd.R_drew)); exact HO145.out) hb)
  have n1_ := Aside0.mk (Kd.R_below (by (with_reducible repeat (first | apply Kd.R_alloc | apply Kd.R_drewN | apply Kd.R_drew)); exact HO148.out) hb)
  have n2_ := Aside0.mk (Kd.R_elder' (by (with_reducible repeat (first | apply Kd.R_alloc | apply Kd.R_drewN | apply Kd.R_drew)); exact HO151.out) (Kd.R_base ho0) hb)
  have n3_ := Aside0.mk (Kd.R_elder' (by (with_reducible repeat (first | apply Kd.R_alloc | apply Kd.R_drewN | apply Kd.R_drew)); exact HO154.out) (Kd.R_base ho0) hb)
  have n4_ := Aside0.mk (Kd.R_below (by (with_reducible repeat (first | apply Kd.R_alloc | apply Kd.R_drewN | apply Kd.R_drew)); exact HO157.out) hb)
  have n5_ := Aside0.mk (Kd.R_below (by (with_reducible repeat (first | apply Kd.R_alloc | apply Kd.R_drewN | apply Kd.R_drew)); exact HO160.out) hb)
  have n6_ := Aside0.mk (Kd.R_lower (Kd.R_new' (Kd.R_new' ho0 (Kd.R_lt (by (with_reducible repeat (first | apply Kd.R_alloc | apply Kd.R_drewN | apply Kd.R_drew)); exact HO151.out))) (Kd.R_lt (by (with_reducible repeat (first | apply Kd.R_alloc | apply Kd.R_drewN | apply Kd.R_drew)); exact HO154.out))) (below_size (by repeat (first | (with_reducible first | exact HB.out | apply below_alloc | apply pw_below_drewN | apply below_drew1 | refine below_set ?_ GE141.out | refine below_set ?_ GE142.out) | exact HB.out))))
  have n7_ := Aside0.mk (blk_below (g := gb141) (o := .cells #[.int .i64 a0_0, .int .i64 a0_1, .int .i64 a0_2, .int .i64 a0_3, .int .u64 a0_4, .slice Ao14 t143.length co14, .slice Ao16 t146.length co16, .slice Ao23 t149.length co23, .slice Ao25 t152.length co25, .slice Ao27 t155.length co27, .string a0_10, .slice A0_11 l0_11.length c0_11, .int .u64 a0_12, .slice A0_13 l0_13.length c0_13] 46 (0, 0)) (by (with_reducible repeat (first | refine blk_drewN ?_ _ | refine blk_drew ?_ | refine blk_alloc ?_ _)); exact BK141.out) hb)
  have n8_ := Aside0.mk (blk_below (g := gb142) (o := .cells #[.int .i64 0, .int .i64 0, .int .i64 0, .int .i64 0, .int .u64 0, .slice none 0 0, .slice none 0 0, .slice none 0 0, .slice none 0 0, .slice none 0 0, .string (⟨#[]⟩ : ByteArray), .slice none 0 0, .int .u64 0, .slice none 0 0] 46 (0, 0)) (by (with_reducible repeat (first | refine blk_drewN ?_ _ | refine blk_drew ?_ | refine blk_alloc ?_ _)); exact BK142.out) hb)
  have n9_ := Aside0.mk (below_step (by repeat (first | (with_reducible first | exact HB.out | apply below_alloc | apply pw_below_drewN | apply below_drew1 | refine below_set ?_ GE141.out | refine below_set ?_ GE142.out) | exact HB.out)) hb)
  clear HO145
  clear HO148
  clear HO151
  clear HO154
  clear HO157
  clear HO160
  clear BK141
  clear BK142
  clear HB
  have HO145 := n0_
  have HO148 := n1_
  have HO151 := n2_
  have HO154 := n3_
  have HO157 := n4_
  have HO160 := n5_
  have HO163 := n6_
  have BK141 := n7_
  have BK142 := n8_
  have HB := n9_
  clear n0_ n1_ n2_ n3_ n4_ n5_ n6_ n7_ n8_ n9_
  (try clear hb)
  (try clear hb2)
  (try clear hk)
  (try clear hi)
  (try clear ho0)
  obtain ⟨Ao33, co33, eo33⟩ := Kd.R_slice HO160.out
  (first | subst eo33 | (injection eo33 with f1_ f2_ f3_; have f4_ := f1_.symm; have f5_ := f3_.symm; clear f1_ f2_ f3_; subst f4_; subst f5_))
  obtain ⟨Ao35, co35, eo35⟩ := Kd.R_slice HO163.out
  (first | subst eo35 | (injection eo35 with f1_ f2_ f3_; have f4_ := f1_.symm; have f5_ := f3_.symm; clear f1_ f2_ f3_; subst f4_; subst f5_))
  refine hK.out _ _ ⟨(blk_cell BK141.out 0).trans rfl, (blk_cell BK141.out 1).trans rfl, (blk_cell BK141.out 2).trans rfl, (blk_cell BK141.out 3).trans rfl, (blk_cell BK141.out 4).trans rfl, (blk_cell BK141.out 5).trans rfl, (blk_cell BK141.out 6).trans rfl, (blk_cell BK141.out 7).trans rfl, (blk_cell BK141.out 8).trans rfl, (blk_cell BK141.out 9).trans rfl, (blk_cell BK141.out 10).trans rfl, (blk_cell BK141.out 11).trans rfl, (blk_cell BK141.out 12).trans rfl, (blk_cell BK141.out 13).trans rfl⟩ (fun hHeld => ?_)
  clear hK K
  refine norm_ (a' := ?_) ?_ ?_
  rotate_left
  · show Act.put _ (some 30) _ = _
    simp only [Act.put, List.setIfInBounds_toArray, List.set_cons_zero, List.set_cons_succ, i64_w, i32_w]
    rfl
  refine last_ (i := 10) (N := none) #[true, true, true, true, true, true, true, true, true, true, true, false, false, false] rfl rfl (one_of HT_.out (by kernel_rfl)) (by decide) (fun K hK => ?_)
  have hs34 : w32.cell? ⟨gb141, 11, none⟩ = some (.slice A0_11 l0_11.length c0_11) := (blk_cell BK141.out 11).trans rfl
  have hfs34 := blk_frozen BK141.out 11
  have hns34_1 := NB142_141.out
  have hms34_1 := NB141_142.out
  refine skip_ (w1 := ?_) (by rfl) rfl ?_ ?_
  rotate_left
  · go_simp
    rfl
  refine hK.out _ _ ?_
  clear hK K
  refine pure_ (i := 11) (N := some 33) (v := ?_) (a' := ?_) #[true, true, true, true, true, true, true, true, true, true, true, true, false, false] rfl rfl (any_of HT_.out (by kernel_rfl)) (fun _ _ _ h => h) (Or.inl ⟨by rfl, ?_⟩) ?_ ?_
  rotate_left
  · intro w'
    go_simp
    with_reducible rfl
  rotate_left
  · simp only [Act.put, List.setIfInBounds_toArray, List.set_cons_zero, List.set_cons_succ, i64_w, i32_w]
    rfl
  refine pure_ (i := 12) (N := some 34) (v := ?_) (a' := ?_) #[true, true, true, true, true, true, true, true, true, true, true, true, true, false] rfl rfl (any_of HT_.out (by kernel_rfl)) (fun _ _ _ h => h) (Or.inl ⟨by rfl, ?_⟩) ?_ ?_
  rotate_left
  · intro w'
    go_simp
    with_reducible rfl
  rotate_left
  · simp only [Act.put, List.setIfInBounds_toArray, List.set_cons_zero, List.set_cons_succ, i64_w, i32_w]
    rfl
  refine last_ (i := 13) (N := none) #[true, true, true, true, true, true, true, true, true, true, true, true, true, true] rfl rfl (one_of HT_.out (by kernel_rfl)) (by decide) (fun K hK => ?_)
  have hs36 : w32.cell? ⟨gb141, 13, none⟩ = some (.slice A0_13 l0_13.length c0_13) := (blk_cell BK141.out 13).trans rfl
  have hfs36 := blk_frozen BK141.out 13
  have hns36_1 := NB142_141.out
  have hms36_1 := NB141_142.out
  refine skip_ (w1 := ?_) (by rfl) rfl ?_ ?_
  rotate_left
  · go_simp
    rfl
  refine hK.out _ _ ?_
  clear hK K
  refine done_ (done_of HT_.out (by kernel_rfl)) ?_
  have hnb37 := NB141_142.out
  have hnc37 := NB142_141.out
  have hcz38_0 : w32.cell? ⟨gb141, 0, none⟩ = some (.int .i64 a0_0) := (blk_cell BK141.out 0).trans rfl
  have hcz38_1 : w32.cell? ⟨gb141, 1, none⟩ = some (.int .i64 a0_1) := (blk_cell BK141.out 1).trans rfl
  have hcz38_2 : w32.cell? ⟨gb141, 2, none⟩ = some (.int .i64 a0_2) := (blk_cell BK141.out 2).trans rfl
  have hcz38_3 : w32.cell? ⟨gb141, 3, none⟩ = some (.int .i64 a0_3) := (blk_cell BK141.out 3).trans rfl
  have hcz38_4 : w32.cell? ⟨gb141, 4, none⟩ = some (.int .u64 a0_4) := (blk_cell BK141.out 4).trans rfl
  have hcz38_5 : w32.cell? ⟨gb141, 5, none⟩ = some (.slice Ao14 t143.length co14) := (blk_cell BK141.out 5).trans rfl
  have hcz38_6 : w32.cell? ⟨gb141, 6, none⟩ = some (.slice Ao16 t146.length co16) := (blk_cell BK141.out 6).trans rfl
  have hcz38_7 : w32.cell? ⟨gb141, 7, none⟩ = some (.slice Ao23 t149.length co23) := (blk_cell BK141.out 7).trans rfl
  have hcz38_8 : w32.cell? ⟨gb141, 8, none⟩ = some (.slice Ao25 t152.length co25) := (blk_cell BK141.out 8).trans rfl
  have hcz38_9 : w32.cell? ⟨gb141, 9, none⟩ = some (.slice Ao27 t155.length co27) := (blk_cell BK141.out 9).trans rfl
  have hcz38_10 : w32.cell? ⟨gb141, 10, none⟩ = some (.string a0_10) := (blk_cell BK141.out 10).trans rfl
  have hcz38_11 : w32.cell? ⟨gb141, 11, none⟩ = some (.slice A0_11 l0_11.length c0_11) := (blk_cell BK141.out 11).trans rfl
  have hcz38_12 : w32.cell? ⟨gb141, 12, none⟩ = some (.int .u64 a0_12) := (blk_cell BK141.out 12).trans rfl
  have hcz38_13 : w32.cell? ⟨gb141, 13, none⟩ = some (.slice A0_13 l0_13.length c0_13) := (blk_cell BK141.out 13).trans rfl
  have hfz38_0 := blk_frozen BK141.out 0
  have hfz38_1 := blk_frozen BK141.out 1
  have hfz38_2 := blk_frozen BK141.out 2
  have hfz38_3 := blk_frozen BK141.out 3
  have hfz38_4 := blk_frozen BK141.out 4
  have hfz38_5 := blk_frozen BK141.out 5
  have hfz38_6 := blk_frozen BK141.out 6
  have hfz38_7 := blk_frozen BK141.out 7
  have hfz38_8 := blk_frozen BK141.out 8
  have hfz38_9 := blk_frozen BK141.out 9
  have hfz38_10 := blk_frozen BK141.out 10
  have hfz38_11 := blk_frozen BK141.out 11
  have hfz38_12 := blk_frozen BK141.out 12
  have hfz38_13 := blk_frozen BK141.out 13
  have hcz39_0 : w32.cell? ⟨gb142, 0, none⟩ = some (.int .i64 0) := (blk_cell BK142.out 0).trans rfl
  have hcz39_1 : w32.cell? ⟨gb142, 1, none⟩ = some (.int .i64 0) := (blk_cell BK142.out 1).trans rfl
  have hcz39_2 : w32.cell? ⟨gb142, 2, none⟩ = some (.int .i64 0) := (blk_cell BK142.out 2).trans rfl
  have hcz39_3 : w32.cell? ⟨gb142, 3, none⟩ = some (.int .i64 0) := (blk_cell BK142.out 3).trans rfl
  have hcz39_4 : w32.cell? ⟨gb142, 4, none⟩ = some (.int .u64 0) := (blk_cell BK142.out 4).trans rfl
  have hcz39_5 : w32.cell? ⟨gb142, 5, none⟩ = some (.slice none 0 0) := (blk_cell BK142.out 5).trans rfl
  have hcz39_6 : w32.cell? ⟨gb142, 6, none⟩ = some (.slice none 0 0) := (blk_cell BK142.out 6).trans rfl
  have hcz39_7 : w32.cell? ⟨gb142, 7, none⟩ = some (.slice none 0 0) := (blk_cell BK142.out 7).trans rfl
  have hcz39_8 : w32.cell? ⟨gb142, 8, none⟩ = some (.slice none 0 0) := (blk_cell BK142.out 8).trans rfl
  have hcz39_9 : w32.cell? ⟨gb142, 9, none⟩ = some (.slice none 0 0) := (blk_cell BK142.out 9).trans rfl
  have hcz39_10 : w32.cell? ⟨gb142, 10, none⟩ = some (.string (⟨#[]⟩ : ByteArray)) := (blk_cell BK142.out 10).trans rfl
  have hcz39_11 : w32.cell? ⟨gb142, 11, none⟩ = some (.slice none 0 0) := (blk_cell BK142.out 11).trans rfl
  have hcz39_12 : w32.cell? ⟨gb142, 12, none⟩ = some (.int .u64 0) := (blk_cell BK142.out 12).trans rfl
  have hcz39_13 : w32.cell? ⟨gb142, 13, none⟩ = some (.slice none 0 0) := (blk_cell BK142.out 13).trans rfl
  have hfz39_0 := blk_frozen BK142.out 0
  have hfz39_1 := blk_frozen BK142.out 1
  have hfz39_2 := blk_frozen BK142.out 2
  have hfz39_3 := blk_frozen BK142.out 3
  have hfz39_4 := blk_frozen BK142.out 4
  have hfz39_5 := blk_frozen BK142.out 5
  have hfz39_6 := blk_frozen BK142.out 6
  have hfz39_7 := blk_frozen BK142.out 7
  have hfz39_8 := blk_frozen BK142.out 8
  have hfz39_9 := blk_frozen BK142.out 9
  have hfz39_10 := blk_frozen BK142.out 10
  have hfz39_11 := blk_frozen BK142.out 11
  have hfz39_12 := blk_frozen BK142.out 12
  have hfz39_13 := blk_frozen BK142.out 13
  try go_wp2
  refine bodyPost_ret (results_cell_row rfl _ _ gb142 46 #[.int .i64 a0_0, .int .i64 a0_1, .int .i64 a0_2, .int .i64 a0_3, .int .u64 a0_4, .slice Ao14 t143.length co14, .slice Ao16 t146.length co16, .slice Ao23 t149.length co23, .slice Ao25 t152.length co25, .slice Ao27 t155.length co27, .string a0_10, .slice Ao33 t158.length co33, .int .u64 a0_12, .slice Ao35 t161.length co35] (0, 0) _ rfl (by (with_reducible repeat (first | refine blk_drewN ?_ _ | refine blk_drew ?_ | refine blk_alloc ?_ _)); refine blk_put (cs := #[.int .i64 a0_0, .int .i64 a0_1, .int .i64 a0_2, .int .i64 a0_3, .int .u64 a0_4, .slice Ao14 t143.length co14, .slice Ao16 t146.length co16, .slice Ao23 t149.length co23, .slice Ao25 t152.length co25, .slice Ao27 t155.length co27, .string a0_10, .slice Ao33 t158.length co33, .int .u64 a0_12, .slice none 0 0]) ?_ 13 _ rfl; (with_reducible repeat (first | refine blk_drewN ?_ _ | refine blk_drew ?_ | refine blk_alloc ?_ _)); refine blk_put (cs := #[.int .i64 a0_0, .int .i64 a0_1, .int .i64 a0_2, .int .i64 a0_3, .int .u64 a0_4, .slice Ao14 t143.length co14, .slice Ao16 t146.length co16, .slice Ao23 t149.length co23, .slice Ao25 t152.length co25, .slice Ao27 t155.length co27, .string a0_10, .slice Ao33 t158.length co33, .int .u64 0, .slice none 0 0]) ?_ 12 _ rfl; (with_reducible repeat (first | refine blk_drewN ?_ _ | refine blk_drew ?_ | refine blk_alloc ?_ _)); refine blk_put (cs := #[.int .i64 a0_0, .int .i64 a0_1, .int .i64 a0_2, .int .i64 a0_3, .int .u64 a0_4, .slice Ao14 t143.length co14, .slice Ao16 t146.length co16, .slice Ao23 t149.length co23, .slice Ao25 t152.length co25, .slice Ao27 t155.length co27, .string a0_10, .slice none 0 0, .int .u64 0, .slice none 0 0]) ?_ 11 _ rfl; (with_reducible repeat (first | refine blk_drewN ?_ _ | refine blk_drew ?_ | refine blk_alloc ?_ _)); refine blk_put (cs := #[.int .i64 a0_0, .int .i64 a0_1, .int .i64 a0_2, .int .i64 a0_3, .int .u64 a0_4, .slice Ao14 t143.length co14, .slice Ao16 t146.length co16, .slice Ao23 t149.length co23, .slice Ao25 t152.length co25, .slice Ao27 t155.length co27, .string (⟨#[]⟩ : ByteArray), .slice none 0 0, .int .u64 0, .slice none 0 0]) ?_ 10 _ rfl; (with_reducible repeat (first | refine blk_drewN ?_ _ | refine blk_drew ?_ | refine blk_alloc ?_ _)); refine blk_put (cs := #[.int .i64 a0_0, .int .i64 a0_1, .int .i64 a0_2, .int .i64 a0_3, .int .u64 a0_4, .slice Ao14 t143.length co14, .slice Ao16 t146.length co16, .slice Ao23 t149.length co23, .slice Ao25 t152.length co25, .slice none 0 0, .string (⟨#[]⟩ : ByteArray), .slice none 0 0, .int .u64 0, .slice none 0 0]) ?_ 9 _ rfl; (with_reducible repeat (first | refine blk_drewN ?_ _ | refine blk_drew ?_ | refine blk_alloc ?_ _)); refine blk_put (cs := #[.int .i64 a0_0, .int .i64 a0_1, .int .i64 a0_2, .int .i64 a0_3, .int .u64 a0_4, .slice Ao14 t143.length co14, .slice Ao16 t146.length co16, .slice Ao23 t149.length co23, .slice none 0 0, .slice none 0 0, .string (⟨#[]⟩ : ByteArray), .slice none 0 0, .int .u64 0, .slice none 0 0]) ?_ 8 _ rfl; (with_reducible repeat (first | refine blk_drewN ?_ _ | refine blk_drew ?_ | refine blk_alloc ?_ _)); refine blk_put (cs := #[.int .i64 a0_0, .int .i64 a0_1, .int .i64 a0_2, .int .i64 a0_3, .int .u64 a0_4, .slice Ao14 t143.length co14, .slice Ao16 t146.length co16, .slice none 0 0, .slice none 0 0, .slice none 0 0, .string (⟨#[]⟩ : ByteArray), .slice none 0 0, .int .u64 0, .slice none 0 0]) ?_ 7 _ rfl; (with_reducible repeat (first | refine blk_drewN ?_ _ | refine blk_drew ?_ | refine blk_alloc ?_ _)); refine blk_put (cs := #[.int .i64 a0_0, .int .i64 a0_1, .int .i64 a0_2, .int .i64 a0_3, .int .u64 a0_4, .slice Ao14 t143.length co14, .slice none 0 0, .slice none 0 0, .slice none 0 0, .slice none 0 0, .string (⟨#[]⟩ : ByteArray), .slice none 0 0, .int .u64 0, .slice none 0 0]) ?_ 6 _ rfl; (with_reducible repeat (first | refine blk_drewN ?_ _ | refine blk_drew ?_ | refine blk_alloc ?_ _)); refine blk_put (cs := #[.int .i64 a0_0, .int .i64 a0_1, .int .i64 a0_2, .int .i64 a0_3, .int .u64 a0_4, .slice none 0 0, .slice none 0 0, .slice none 0 0, .slice none 0 0, .slice none 0 0, .string (⟨#[]⟩ : ByteArray), .slice none 0 0, .int .u64 0, .slice none 0 0]) ?_ 5 _ rfl; (with_reducible repeat (first | refine blk_drewN ?_ _ | refine blk_drew ?_ | refine blk_alloc ?_ _)); refine blk_put (cs := #[.int .i64 a0_0, .int .i64 a0_1, .int .i64 a0_2, .int .i64 a0_3, .int .u64 0, .slice none 0 0, .slice none 0 0, .slice none 0 0, .slice none 0 0, .slice none 0 0, .string (⟨#[]⟩ : ByteArray), .slice none 0 0, .int .u64 0, .slice none 0 0]) ?_ 4 _ rfl; (with_reducible repeat (first | refine blk_drewN ?_ _ | refine blk_drew ?_ | refine blk_alloc ?_ _)); refine blk_put (cs := #[.int .i64 a0_0, .int .i64 a0_1, .int .i64 a0_2, .int .i64 0, .int .u64 0, .slice none 0 0, .slice none 0 0, .slice none 0 0, .slice none 0 0, .slice none 0 0, .string (⟨#[]⟩ : ByteArray), .slice none 0 0, .int .u64 0, .slice none 0 0]) ?_ 3 _ rfl; (with_reducible repeat (first | refine blk_drewN ?_ _ | refine blk_drew ?_ | refine blk_alloc ?_ _)); refine blk_put (cs := #[.int .i64 a0_0, .int .i64 a0_1, .int .i64 0, .int .i64 0, .int .u64 0, .slice none 0 0, .slice none 0 0, .slice none 0 0, .slice none 0 0, .slice none 0 0, .string (⟨#[]⟩ : ByteArray), .slice none 0 0, .int .u64 0, .slice none 0 0]) ?_ 2 _ rfl; (with_reducible repeat (first | refine blk_drewN ?_ _ | refine blk_drew ?_ | refine blk_alloc ?_ _)); refine blk_put (cs := #[.int .i64 a0_0, .int .i64 0, .int .i64 0, .int .i64 0, .int .u64 0, .slice none 0 0, .slice none 0 0, .slice none 0 0, .slice none 0 0, .slice none 0 0, .string (⟨#[]⟩ : ByteArray), .slice none 0 0, .int .u64 0, .slice none 0 0]) ?_ 1 _ rfl; (with_reducible repeat (first | refine blk_drewN ?_ _ | refine blk_drew ?_ | refine blk_alloc ?_ _)); refine blk_put (cs := #[.int .i64 0, .int .i64 0, .int .i64 0, .int .i64 0, .int .u64 0, .slice none 0 0, .slice none 0 0, .slice none 0 0, .slice none 0 0, .slice none 0 0, .string (⟨#[]⟩ : ByteArray), .slice none 0 0, .int .u64 0, .slice none 0 0]) ?_ 0 _ rfl; (with_reducible repeat (first | refine blk_drewN ?_ _ | refine blk_drew ?_ | refine blk_alloc ?_ _)); refine blk_far ?_ NB142_141.out _; (with_reducible repeat (first | refine blk_drewN ?_ _ | refine blk_drew ?_ | refine blk_alloc ?_ _)); refine blk_far ?_ NB142_141.out _; (with_reducible repeat (first | refine blk_drewN ?_ _ | refine blk_drew ?_ | refine blk_alloc ?_ _)); exact BK142.out) Try.underlying46 rfl (by kernel_rfl)) rfl ?_
  exact ⟨_, _, _, _, _, _, _, by first | rfl | (simp [errW_none, errW_some] <;> rfl) | (simp [*, errW_none, errW_some] <;> rfl), by (with_reducible repeat (first | apply Kd.R_alloc | apply Kd.R_drewN | apply Kd.R_drew)); exact Kd.R_mono (Kd.R_far (p := ⟨gb142, 13, none⟩) (Kd.R_far (p := ⟨gb142, 12, none⟩) (Kd.R_far (p := ⟨gb142, 11, none⟩) (Kd.R_far (p := ⟨gb142, 10, none⟩) (Kd.R_far (p := ⟨gb142, 9, none⟩) (Kd.R_far (p := ⟨gb142, 8, none⟩) (Kd.R_far (p := ⟨gb142, 7, none⟩) (Kd.R_far (p := ⟨gb142, 6, none⟩) (Kd.R_far (p := ⟨gb142, 5, none⟩) (Kd.R_far (p := ⟨gb142, 4, none⟩) (Kd.R_far (p := ⟨gb142, 3, none⟩) (Kd.R_far (p := ⟨gb142, 2, none⟩) (Kd.R_far (p := ⟨gb142, 1, none⟩) (Kd.R_far (p := ⟨gb142, 0, none⟩) (Kd.R_far (p := ⟨gb141, 13, none⟩) (Kd.R_far (p := ⟨gb141, 11, none⟩) (Kd.R_types (Kd.R_types HO145.out BK141.out (by decide)) BK142.out (by decide)) (fun _ hk => hk.1.2) (.slice Ao33 t158.length co33)) (fun _ hk => hk.1.2) (.slice Ao35 t161.length co35)) (fun _ hk => hk.2) (.int .i64 a0_0)) (fun _ hk => hk.2) (.int .i64 a0_1)) (fun _ hk => hk.2) (.int .i64 a0_2)) (fun _ hk => hk.2) (.int .i64 a0_3)) (fun _ hk => hk.2) (.int .u64 a0_4)) (fun _ hk => hk.2) (.slice Ao14 t143.length co14)) (fun _ hk => hk.2) (.slice Ao16 t146.length co16)) (fun _ hk => hk.2) (.slice Ao23 t149.length co23)) (fun _ hk => hk.2) (.slice Ao25 t152.length co25)) (fun _ hk => hk.2) (.slice Ao27 t155.length co27)) (fun _ hk => hk.2) (.string a0_10)) (fun _ hk => hk.2) (.slice Ao33 t158.length co33)) (fun _ hk => hk.2) (.int .u64 a0_12)) (fun _ hk => hk.2) (.slice Ao35 t161.length co35)) (fun _ hk => trivial), by (with_reducible repeat (first | apply Kd.R_alloc | apply Kd.R_drewN | apply Kd.R_drew)); exact Kd.R_mono (Kd.R_far (p := ⟨gb142, 13, none⟩) (Kd.R_far (p := ⟨gb142, 12, none⟩) (Kd.R_far (p := ⟨gb142, 11, none⟩) (Kd.R_far (p := ⟨gb142, 10, none⟩) (Kd.R_far (p := ⟨gb142, 9, none⟩) (Kd.R_far (p := ⟨gb142, 8, none⟩) (Kd.R_far (p := ⟨gb142, 7, none⟩) (Kd.R_far (p := ⟨gb142, 6, none⟩) (Kd.R_far (p := ⟨gb142, 5, none⟩) (Kd.R_far (p := ⟨gb142, 4, none⟩) (Kd.R_far (p := ⟨gb142, 3, none⟩) (Kd.R_far (p := ⟨gb142, 2, none⟩) (Kd.R_far (p := ⟨gb142, 1, none⟩) (Kd.R_far (p := ⟨gb142, 0, none⟩) (Kd.R_far (p := ⟨gb141, 13, none⟩) (Kd.R_far (p := ⟨gb141, 11, none⟩) (Kd.R_types (Kd.R_types HO148.out BK141.out (by decide)) BK142.out (by decide)) (fun _ hk => hk.1.2) (.slice Ao33 t158.length co33)) (fun _ hk => hk.1.2) (.slice Ao35 t161.length co35)) (fun _ hk => hk.2) (.int .i64 a0_0)) (fun _ hk => hk.2) (.int .i64 a0_1)) (fun _ hk => hk.2) (.int .i64 a0_2)) (fun _ hk => hk.2) (.int .i64 a0_3)) (fun _ hk => hk.2) (.int .u64 a0_4)) (fun _ hk => hk.2) (.slice Ao14 t143.length co14)) (fun _ hk => hk.2) (.slice Ao16 t146.length co16)) (fun _ hk => hk.2) (.slice Ao23 t149.length co23)) (fun _ hk => hk.2) (.slice Ao25 t152.length co25)) (fun _ hk => hk.2) (.slice Ao27 t155.length co27)) (fun _ hk => hk.2) (.string a0_10)) (fun _ hk => hk.2) (.slice Ao33 t158.length co33)) (fun _ hk => hk.2) (.int .u64 a0_12)) (fun _ hk => hk.2) (.slice Ao35 t161.length co35)) (fun _ hk => trivial), by (with_reducible repeat (first | apply Kd.R_alloc | apply Kd.R_drewN | apply Kd.R_drew)); exact Kd.R_mono (Kd.R_far (p := ⟨gb142, 13, none⟩) (Kd.R_far (p := ⟨gb142, 12, none⟩) (Kd.R_far (p := ⟨gb142, 11, none⟩) (Kd.R_far (p := ⟨gb142, 10, none⟩) (Kd.R_far (p := ⟨gb142, 9, none⟩) (Kd.R_far (p := ⟨gb142, 8, none⟩) (Kd.R_far (p := ⟨gb142, 7, none⟩) (Kd.R_far (p := ⟨gb142, 6, none⟩) (Kd.R_far (p := ⟨gb142, 5, none⟩) (Kd.R_far (p := ⟨gb142, 4, none⟩) (Kd.R_far (p := ⟨gb142, 3, none⟩) (Kd.R_far (p := ⟨gb142, 2, none⟩) (Kd.R_far (p := ⟨gb142, 1, none⟩) (Kd.R_far (p := ⟨gb142, 0, none⟩) (Kd.R_far (p := ⟨gb141, 13, none⟩) (Kd.R_far (p := ⟨gb141, 11, none⟩) (Kd.R_types (Kd.R_types HO151.out BK141.out (by decide)) BK142.out (by decide)) (fun _ hk => hk.1.2) (.slice Ao33 t158.length co33)) (fun _ hk => hk.1.2) (.slice Ao35 t161.length co35)) (fun _ hk => hk.2) (.int .i64 a0_0)) (fun _ hk => hk.2) (.int .i64 a0_1)) (fun _ hk => hk.2) (.int .i64 a0_2)) (fun _ hk => hk.2) (.int .i64 a0_3)) (fun _ hk => hk.2) (.int .u64 a0_4)) (fun _ hk => hk.2) (.slice Ao14 t143.length co14)) (fun _ hk => hk.2) (.slice Ao16 t146.length co16)) (fun _ hk => hk.2) (.slice Ao23 t149.length co23)) (fun _ hk => hk.2) (.slice Ao25 t152.length co25)) (fun _ hk => hk.2) (.slice Ao27 t155.length co27)) (fun _ hk => hk.2) (.string a0_10)) (fun _ hk => hk.2) (.slice Ao33 t158.length co33)) (fun _ hk => hk.2) (.int .u64 a0_12)) (fun _ hk => hk.2) (.slice Ao35 t161.length co35)) (fun _ hk => ⟨hk.1.1.1, hk.1.1.2⟩), by (with_reducible repeat (first | apply Kd.R_alloc | apply Kd.R_drewN | apply Kd.R_drew)); exact Kd.R_mono (Kd.R_far (p := ⟨gb142, 13, none⟩) (Kd.R_far (p := ⟨gb142, 12, none⟩) (Kd.R_far (p := ⟨gb142, 11, none⟩) (Kd.R_far (p := ⟨gb142, 10, none⟩) (Kd.R_far (p := ⟨gb142, 9, none⟩) (Kd.R_far (p := ⟨gb142, 8, none⟩) (Kd.R_far (p := ⟨gb142, 7, none⟩) (Kd.R_far (p := ⟨gb142, 6, none⟩) (Kd.R_far (p := ⟨gb142, 5, none⟩) (Kd.R_far (p := ⟨gb142, 4, none⟩) (Kd.R_far (p := ⟨gb142, 3, none⟩) (Kd.R_far (p := ⟨gb142, 2, none⟩) (Kd.R_far (p := ⟨gb142, 1, none⟩) (Kd.R_far (p := ⟨gb142, 0, none⟩) (Kd.R_far (p := ⟨gb141, 13, none⟩) (Kd.R_far (p := ⟨gb141, 11, none⟩) (Kd.R_types (Kd.R_types HO154.out BK141.out (by decide)) BK142.out (by decide)) (fun _ hk => hk.1.2) (.slice Ao33 t158.length co33)) (fun _ hk => hk.1.2) (.slice Ao35 t161.length co35)) (fun _ hk => hk.2) (.int .i64 a0_0)) (fun _ hk => hk.2) (.int .i64 a0_1)) (fun _ hk => hk.2) (.int .i64 a0_2)) (fun _ hk => hk.2) (.int .i64 a0_3)) (fun _ hk => hk.2) (.int .u64 a0_4)) (fun _ hk => hk.2) (.slice Ao14 t143.length co14)) (fun _ hk => hk.2) (.slice Ao16 t146.length co16)) (fun _ hk => hk.2) (.slice Ao23 t149.length co23)) (fun _ hk => hk.2) (.slice Ao25 t152.length co25)) (fun _ hk => hk.2) (.slice Ao27 t155.length co27)) (fun _ hk => hk.2) (.string a0_10)) (fun _ hk => hk.2) (.slice Ao33 t158.length co33)) (fun _ hk => hk.2) (.int .u64 a0_12)) (fun _ hk => hk.2) (.slice Ao35 t161.length co35)) (fun _ hk => ⟨hk.1.1.1, hk.1.1.2⟩), by (with_reducible repeat (first | apply Kd.R_alloc | apply Kd.R_drewN | apply Kd.R_drew)); exact Kd.R_mono (Kd.R_far (p := ⟨gb142, 13, none⟩) (Kd.R_far (p := ⟨gb142, 12, none⟩) (Kd.R_far (p := ⟨gb142, 11, none⟩) (Kd.R_far (p := ⟨gb142, 10, none⟩) (Kd.R_far (p := ⟨gb142, 9, none⟩) (Kd.R_far (p := ⟨gb142, 8, none⟩) (Kd.R_far (p := ⟨gb142, 7, none⟩) (Kd.R_far (p := ⟨gb142, 6, none⟩) (Kd.R_far (p := ⟨gb142, 5, none⟩) (Kd.R_far (p := ⟨gb142, 4, none⟩) (Kd.R_far (p := ⟨gb142, 3, none⟩) (Kd.R_far (p := ⟨gb142, 2, none⟩) (Kd.R_far (p := ⟨gb142, 1, none⟩) (Kd.R_far (p := ⟨gb142, 0, none⟩) (Kd.R_far (p := ⟨gb141, 13, none⟩) (Kd.R_far (p := ⟨gb141, 11, none⟩) (Kd.R_types (Kd.R_types HO157.out BK141.out (by decide)) BK142.out (by decide)) (fun _ hk => hk.1.2) (.slice Ao33 t158.length co33)) (fun _ hk => hk.1.2) (.slice Ao35 t161.length co35)) (fun _ hk => hk.2) (.int .i64 a0_0)) (fun _ hk => hk.2) (.int .i64 a0_1)) (fun _ hk => hk.2) (.int .i64 a0_2)) (fun _ hk => hk.2) (.int .i64 a0_3)) (fun _ hk => hk.2) (.int .u64 a0_4)) (fun _ hk => hk.2) (.slice Ao14 t143.length co14)) (fun _ hk => hk.2) (.slice Ao16 t146.length co16)) (fun _ hk => hk.2) (.slice Ao23 t149.length co23)) (fun _ hk => hk.2) (.slice Ao25 t152.length co25)) (fun _ hk => hk.2) (.slice Ao27 t155.length co27)) (fun _ hk => hk.2) (.string a0_10)) (fun _ hk => hk.2) (.slice Ao33 t158.length co33)) (fun _ hk => hk.2) (.int .u64 a0_12)) (fun _ hk => hk.2) (.slice Ao35 t161.length co35)) (fun _ hk => trivial), by (with_reducible repeat (first | apply Kd.R_alloc | apply Kd.R_drewN | apply Kd.R_drew)); exact Kd.R_mono (Kd.R_far (p := ⟨gb142, 13, none⟩) (Kd.R_far (p := ⟨gb142, 12, none⟩) (Kd.R_far (p := ⟨gb142, 11, none⟩) (Kd.R_far (p := ⟨gb142, 10, none⟩) (Kd.R_far (p := ⟨gb142, 9, none⟩) (Kd.R_far (p := ⟨gb142, 8, none⟩) (Kd.R_far (p := ⟨gb142, 7, none⟩) (Kd.R_far (p := ⟨gb142, 6, none⟩) (Kd.R_far (p := ⟨gb142, 5, none⟩) (Kd.R_far (p := ⟨gb142, 4, none⟩) (Kd.R_far (p := ⟨gb142, 3, none⟩) (Kd.R_far (p := ⟨gb142, 2, none⟩) (Kd.R_far (p := ⟨gb142, 1, none⟩) (Kd.R_far (p := ⟨gb142, 0, none⟩) (Kd.R_far (p := ⟨gb141, 13, none⟩) (Kd.R_far (p := ⟨gb141, 11, none⟩) (Kd.R_types (Kd.R_types HO160.out BK141.out (by decide)) BK142.out (by decide)) (fun _ hk => hk.1.2) (.slice Ao33 t158.length co33)) (fun _ hk => hk.1.2) (.slice Ao35 t161.length co35)) (fun _ hk => hk.2) (.int .i64 a0_0)) (fun _ hk => hk.2) (.int .i64 a0_1)) (fun _ hk => hk.2) (.int .i64 a0_2)) (fun _ hk => hk.2) (.int .i64 a0_3)) (fun _ hk => hk.2) (.int .u64 a0_4)) (fun _ hk => hk.2) (.slice Ao14 t143.length co14)) (fun _ hk => hk.2) (.slice Ao16 t146.length co16)) (fun _ hk => hk.2) (.slice Ao23 t149.length co23)) (fun _ hk => hk.2) (.slice Ao25 t152.length co25)) (fun _ hk => hk.2) (.slice Ao27 t155.length co27)) (fun _ hk => hk.2) (.string a0_10)) (fun _ hk => hk.2) (.slice Ao33 t158.length co33)) (fun _ hk => hk.2) (.int .u64 a0_12)) (fun _ hk => hk.2) (.slice Ao35 t161.length co35)) (fun _ hk => trivial), by (with_reducible repeat (first | apply Kd.R_alloc | apply Kd.R_drewN | apply Kd.R_drew)); exact Kd.R_mono (Kd.R_far (p := ⟨gb142, 13, none⟩) (Kd.R_far (p := ⟨gb142, 12, none⟩) (Kd.R_far (p := ⟨gb142, 11, none⟩) (Kd.R_far (p := ⟨gb142, 10, none⟩) (Kd.R_far (p := ⟨gb142, 9, none⟩) (Kd.R_far (p := ⟨gb142, 8, none⟩) (Kd.R_far (p := ⟨gb142, 7, none⟩) (Kd.R_far (p := ⟨gb142, 6, none⟩) (Kd.R_far (p := ⟨gb142, 5, none⟩) (Kd.R_far (p := ⟨gb142, 4, none⟩) (Kd.R_far (p := ⟨gb142, 3, none⟩) (Kd.R_far (p := ⟨gb142, 2, none⟩) (Kd.R_far (p := ⟨gb142, 1, none⟩) (Kd.R_far (p := ⟨gb142, 0, none⟩) (Kd.R_far (p := ⟨gb141, 13, none⟩) (Kd.R_far (p := ⟨gb141, 11, none⟩) (Kd.R_types (Kd.R_types HO163.out BK141.out (by decide)) BK142.out (by decide)) (fun _ hk => hk.1.2) (.slice Ao33 t158.length co33)) (fun _ hk => hk.1.2) (.slice Ao35 t161.length co35)) (fun _ hk => hk.2) (.int .i64 a0_0)) (fun _ hk => hk.2) (.int .i64 a0_1)) (fun _ hk => hk.2) (.int .i64 a0_2)) (fun _ hk => hk.2) (.int .i64 a0_3)) (fun _ hk => hk.2) (.int .u64 a0_4)) (fun _ hk => hk.2) (.slice Ao14 t143.length co14)) (fun _ hk => hk.2) (.slice Ao16 t146.length co16)) (fun _ hk => hk.2) (.slice Ao23 t149.length co23)) (fun _ hk => hk.2) (.slice Ao25 t152.length co25)) (fun _ hk => hk.2) (.slice Ao27 t155.length co27)) (fun _ hk => hk.2) (.string a0_10)) (fun _ hk => hk.2) (.slice Ao33 t158.length co33)) (fun _ hk => hk.2) (.int .u64 a0_12)) (fun _ hk => hk.2) (.slice Ao35 t161.length co35)) (fun _ hk => ⟨hk.1.1.1.2, hk.1.1.2⟩), by repeat (first | (with_reducible first | exact HB.out | apply below_alloc | apply pw_below_drewN | apply below_drew1 | refine below_set ?_ GE141.out | refine below_set ?_ GE142.out) | exact HB.out)⟩

/-! ### delta_Diff_string: function 8 -/
def delta_Diff_string.f (l0 l1 : List (ByteArray)) : Option (Int × Int × List (ByteArray)) := if l0.length ≤ 300 ∧ l1.length ≤ 300 then some (dAt l0 l1, dLess l0 l1, dWith l0 l1) else none
theorem delta_Diff_string.calls (A0 : Option Addr) (c0 : Nat) (l0 : List (ByteArray)) (A1 : Option Addr) (c1 : Nat) (l1 : List (ByteArray)) (r1 r2 : Int) (r3 : List (ByteArray)) (w : World) (hr0 : Kd.C (Kd.string) w A0 l0.length l0) (hc0 : l0.length ≤ c0) (hr1 : Kd.C (Kd.string) w A1 l1.length l1) (hc1 : l1.length ≤ c1) (h : delta_Diff_string.f l0 l1 = some (r1, r2, r3)) :
    Calls Try.prog 8 #[.slice A0 l0.length c0, .slice A1 l1.length c1] w fun e w' => ∃ v2_ : Value, e = .returned (.agg #[.int .i64 r1, .int .i64 r2, v2_]) ∧ Kd.R (Kd.string) 9 w' w.heap.size (fun _ => True) v2_ r3 ∧ Below w.heap.size w w' := by
  unfold delta_Diff_string.f at h
  split at h
  · cases h
    exact DiS.diff_any A0 c0 l0 A1 c1 l1 w hr0 hc0 hr1 hc1 (by omega) (by omega)
  · cases h

/-! ### bits_Set_20: function 20 -/
def bits_Set_20.f (l0 l1 : List (Int)) : Option (Int × Int × List (Int)) := if l0.length ≤ 300 ∧ l1.length ≤ 300 then some (dAt l0 l1, dLess l0 l1, dWith l0 l1) else none
theorem bits_Set_20.calls (A0 : Option Addr) (c0 : Nat) (l0 : List (Int)) (A1 : Option Addr) (c1 : Nat) (l1 : List (Int)) (r1 r2 : Int) (r3 : List (Int)) (w : World) (hr0 : Kd.C ((Kd.int .u64)) w A0 l0.length l0) (hc0 : l0.length ≤ c0) (hr1 : Kd.C ((Kd.int .u64)) w A1 l1.length l1) (hc1 : l1.length ≤ c1) (h : bits_Set_20.f l0 l1 = some (r1, r2, r3)) :
    Calls Try.prog 20 #[.slice A0 l0.length c0, .slice A1 l1.length c1] w fun e w' => ∃ v2_ : Value, e = .returned (.agg #[.int .i64 r1, .int .i64 r2, v2_]) ∧ Kd.R ((Kd.int .u64)) 38 w' w.heap.size (fun _ => True) v2_ r3 ∧ Below w.heap.size w w' := by
  unfold bits_Set_20.f at h
  split at h
  · cases h
    exact DiB.diff_any A0 c0 l0 A1 c1 l1 w hr0 hc0 hr1 hc1 (by omega) (by omega)
  · cases h

/-! ### val_Value_21: function 21 -/
def val_Value_21.f (l0 l1 : List (S68)) : Option (Int × Int × List (S68)) := if l0.length ≤ 300 ∧ l1.length ≤ 300 then some (dAt l0 l1, dLess l0 l1, dWith l0 l1) else none
theorem val_Value_21.calls (A0 : Option Addr) (c0 : Nat) (l0 : List (S68)) (A1 : Option Addr) (c1 : Nat) (l1 : List (S68)) (r1 r2 : Int) (r3 : List (S68)) (w : World) (hr0 : Kd.C (k68) w A0 l0.length l0) (hc0 : l0.length ≤ c0) (hr1 : Kd.C (k68) w A1 l1.length l1) (hc1 : l1.length ≤ c1) (h : val_Value_21.f l0 l1 = some (r1, r2, r3)) :
    Calls Try.prog 21 #[.slice A0 l0.length c0, .slice A1 l1.length c1] w fun e w' => ∃ v2_ : Value, e = .returned (.agg #[.int .i64 r1, .int .i64 r2, v2_]) ∧ Kd.R (k68) 68 w' w.heap.size (fun _ => True) v2_ r3 ∧ Below w.heap.size w w' := by
  unfold val_Value_21.f at h
  split at h
  · cases h
    exact DiV.diff_any A0 c0 l0 A1 c1 l1 w hr0 hc0 hr1 hc1 (by omega) (by omega)
  · cases h

/-! ### queue_Timer_22: function 22 -/
def queue_Timer_22.f (l0 l1 : List (S71)) : Option (Int × Int × List (S71)) := if l0.length ≤ 300 ∧ l1.length ≤ 300 then some (dAt l0 l1, dLess l0 l1, dWith l0 l1) else none
theorem queue_Timer_22.calls (A0 : Option Addr) (c0 : Nat) (l0 : List (S71)) (A1 : Option Addr) (c1 : Nat) (l1 : List (S71)) (r1 r2 : Int) (r3 : List (S71)) (w : World) (hr0 : Kd.C (k71) w A0 l0.length l0) (hc0 : l0.length ≤ c0) (hr1 : Kd.C (k71) w A1 l1.length l1) (hc1 : l1.length ≤ c1) (h : queue_Timer_22.f l0 l1 = some (r1, r2, r3)) :
    Calls Try.prog 22 #[.slice A0 l0.length c0, .slice A1 l1.length c1] w fun e w' => ∃ v2_ : Value, e = .returned (.agg #[.int .i64 r1, .int .i64 r2, v2_]) ∧ Kd.R (k71) 71 w' w.heap.size (fun _ => True) v2_ r3 ∧ Below w.heap.size w w' := by
  unfold queue_Timer_22.f at h
  split at h
  · cases h
    exact DiT.diff_any A0 c0 l0 A1 c1 l1 w hr0 hc0 hr1 hc1 (by omega) (by omega)
  · cases h

/-! ### delta_plain: function 32 -/
def delta_plain.f (a0_0 : Int) (a0_1 : Int) (a0_2 : Int) (a0_3 : Int) (a0_4 : Int) (l0_5 : List Int) (l0_6 : List (S68)) (l0_7 : List ByteArray) (l0_8 : List ByteArray) (l0_9 : List (S71)) (a0_10 : ByteArray) (l0_11 : List Int) (a0_12 : Int) (l0_13 : List ByteArray) : Option (Int × Int × Int × Int × Int × List Int × (List (S68)) × List ByteArray × List ByteArray × (List (S71)) × ByteArray × List Int × Int × List ByteArray) := some (a0_0, a0_1, a0_2, a0_3, a0_4, ([] : List Int), ([] : List (S68)), ([] : List ByteArray), ([] : List ByteArray), ([] : List (S71)), a0_10, ([] : List Int), a0_12, ([] : List ByteArray))
set_option maxHeartbeats 8000000 in
set_option maxRecDepth 100000 in
theorem delta_plain.calls (a0_0 : Int) (a0_1 : Int) (a0_2 : Int) (a0_3 : Int) (a0_4 : Int) (A0_5 : Option Addr) (c0_5 : Nat) (l0_5 : List Int) (A0_6 : Option Addr) (c0_6 : Nat) (l0_6 : List (S68)) (A0_7 : Option Addr) (c0_7 : Nat) (l0_7 : List ByteArray) (A0_8 : Option Addr) (c0_8 : Nat) (l0_8 : List ByteArray) (A0_9 : Option Addr) (c0_9 : Nat) (l0_9 : List (S71)) (a0_10 : ByteArray) (A0_11 : Option Addr) (c0_11 : Nat) (l0_11 : List Int) (a0_12 : Int) (A0_13 : Option Addr) (c0_13 : Nat) (l0_13 : List ByteArray) (r1 : Int) (r2 : Int) (r3 : Int) (r4 : Int) (r5 : Int) (r6 : List Int) (r7 : List (S68)) (r8 : List ByteArray) (r9 : List ByteArray) (r10 : List (S71)) (r11 : ByteArray) (r12 : List Int) (r13 : Int) (r14 : List ByteArray) (w : World) (hr0_5 : Kd.C (Kd.int .u64) w A0_5 l0_5.length l0_5) (hc0_5 : l0_5.length ≤ c0_5) (hr0_6 : Kd.C k68 w A0_6 l0_6.length l0_6) (hc0_6 : l0_6.length ≤ c0_6) (hr0_7 : Kd.C Kd.string w A0_7 l0_7.length l0_7) (hc0_7 : l0_7.length ≤ c0_7) (hr0_8 : Kd.C Kd.string w A0_8 l0_8.length l0_8) (hc0_8 : l0_8.length ≤ c0_8) (hr0_9 : Kd.C k71 w A0_9 l0_9.length l0_9) (hc0_9 : l0_9.length ≤ c0_9) (hr0_11 : Kd.C (Kd.int .i64) w A0_11 l0_11.length l0_11) (hc0_11 : l0_11.length ≤ c0_11) (hr0_13 : Kd.C Kd.string w A0_13 l0_13.length l0_13) (hc0_13 : l0_13.length ≤ c0_13) (h : delta_plain.f a0_0 a0_1 a0_2 a0_3 a0_4 l0_5 l0_6 l0_7 l0_8 l0_9 a0_10 l0_11 a0_12 l0_13 = some (r1, r2, r3, r4, r5, r6, r7, r8, r9, r10, r11, r12, r13, r14)) :
    Calls Try.prog 32 #[.agg #[.int .i64 a0_0, .int .i64 a0_1, .int .i64 a0_2, .int .i64 a0_3, .int .u64 a0_4, .slice A0_5 l0_5.length c0_5, .slice A0_6 l0_6.length c0_6, .slice A0_7 l0_7.length c0_7, .slice A0_8 l0_8.length c0_8, .slice A0_9 l0_9.length c0_9, .string a0_10, .slice A0_11 l0_11.length c0_11, .int .u64 a0_12, .slice A0_13 l0_13.length c0_13]] w fun e w' => ∃ v5_ v6_ v7_ v8_ v9_ v11_ v13_ : Value, e = .returned (.agg #[.int .i64 r1, .int .i64 r2, .int .i64 r3, .int .i64 r4, .int .u64 r5, v5_, v6_, v7_, v8_, v9_, .string r11, v11_, .int .u64 r13, v13_]) ∧ Kd.R (Kd.int .u64) 38 w' w.heap.size (fun _ => True) v5_ r6 ∧ Kd.R k68 68 w' w.heap.size (fun _ => True) v6_ r7 ∧ Kd.R Kd.string 9 w' w.heap.size (fun k_ => some k_ ≠ (v8_ : Value).ownBlock ∧ some k_ ≠ (v13_ : Value).ownBlock) v7_ r8 ∧ Kd.R Kd.string 9 w' w.heap.size (fun k_ => some k_ ≠ (v7_ : Value).ownBlock ∧ some k_ ≠ (v13_ : Value).ownBlock) v8_ r9 ∧ Kd.R k71 71 w' w.heap.size (fun _ => True) v9_ r10 ∧ Kd.R (Kd.int .i64) 3 w' w.heap.size (fun _ => True) v11_ r12 ∧ Kd.R Kd.string 9 w' w.heap.size (fun k_ => some k_ ≠ (v7_ : Value).ownBlock ∧ some k_ ≠ (v8_ : Value).ownBlock) v13_ r14 ∧ Below w.heap.size w w' := by
  have hu46 := Try.underlying46
  have hu44 := Try.underlying44
  have HR0_5 := Aside0.mk hr0_5
  have HC0_5 := Aside0.mk hc0_5
  clear hr0_5 hc0_5
  have HR0_6 := Aside0.mk hr0_6
  have HC0_6 := Aside0.mk hc0_6
  clear hr0_6 hc0_6
  have HR0_7 := Aside0.mk hr0_7
  have HC0_7 := Aside0.mk hc0_7
  clear hr0_7 hc0_7
  have HR0_8 := Aside0.mk hr0_8
  have HC0_8 := Aside0.mk hc0_8
  clear hr0_8 hc0_8
  have HR0_9 := Aside0.mk hr0_9
  have HC0_9 := Aside0.mk hc0_9
  clear hr0_9 hc0_9
  have HR0_11 := Aside0.mk hr0_11
  have HC0_11 := Aside0.mk hc0_11
  clear hr0_11 hc0_11
  have HR0_13 := Aside0.mk hr0_13
  have HC0_13 := Aside0.mk hc0_13
  clear hr0_13 hc0_13
  have HB := Aside0.mk (Below.refl w.heap.size w)
  have H : (some (a0_0, a0_1, a0_2, a0_3, a0_4, ([] : List Int), ([] : List (S68)), ([] : List ByteArray), ([] : List ByteArray), ([] : List (S71)), a0_10, ([] : List Int), a0_12, ([] : List ByteArray))) = some (r1, r2, r3, r4, r5, r6, r7, r8, r9, r10, r11, r12, r13, r14) := h
  clear h
  simp only [Option.some.injEq, Prod.mk.injEq] at H
  obtain ⟨rfl, rfl, rfl, rfl, rfl, rfl, rfl, rfl, rfl, rfl, rfl, rfl, rfl, rfl⟩ := H
  go_enter Try.func32, Try.ntmps32
  go_wp2_with (first | ((with_reducible refine gate_dst (N := 1) rfl ?_); refine box_event ?hg (N := 1) ?hd (cs := #[.int .i64 a0_0, .int .i64 a0_1, .int .i64 a0_2, .int .i64 a0_3, .int .u64 a0_4, .slice A0_5 l0_5.length c0_5, .slice A0_6 l0_6.length c0_6, .slice A0_7 l0_7.length c0_7, .slice A0_8 l0_8.length c0_8, .slice A0_9 l0_9.length c0_9, .string a0_10, .slice A0_11 l0_11.length c0_11, .int .u64 a0_12, .slice A0_13 l0_13.length c0_13]) (t := 46) ?hr ?_; (case hd => rfl); (case hg => rfl); (case hr => first | (go_simp; done) | (go_simp; rfl)); intro gb164 hg w2 hbox hb; have n0_ := Aside0.mk (below_step (by repeat (first | (with_reducible first | exact HB.out | apply below_alloc | apply pw_below_drewN | apply below_drew1) | exact HB.out)) hb); have n1_ := Aside0.mk (hbox); have n2_ := Aside0.mk ((by rw [hg]; exact (below_size (by repeat (first | (with_reducible first | exact HB.out | apply below_alloc | apply pw_below_drewN | apply below_drew1) | exact HB.out))) : w.heap.size ≤ gb164)); have n3_ := Aside0.mk ((by rw [hg]; exact (below_size (by repeat (first | (with_reducible first | exact HB.out | apply below_alloc | apply pw_below_drewN | apply below_drew1) | exact HB.out))) : w.heap.size ≤ gb164)); clear HB; have HB := n0_; have BK164 := n1_; have GW164 := n2_; have GE164 := n3_; clear n0_ n1_ n2_ n3_; clear hb hbox hg) | ((with_reducible refine gate_dst (N := 2) rfl ?_); refine box_event ?hg (N := 2) ?hd (cs := #[.int .i64 0, .int .i64 0, .int .i64 0, .int .i64 0, .int .u64 0, .slice none 0 0, .slice none 0 0, .slice none 0 0, .slice none 0 0, .slice none 0 0, .string (⟨#[]⟩ : ByteArray), .slice none 0 0, .int .u64 0, .slice none 0 0]) (t := 46) ?hr ?_; (case hd => rfl); (case hg => rfl); (case hr => first | (go_simp; done) | (go_simp; rfl)); intro gb165 hg w3 hbox hb; have n0_ := Aside0.mk (blk_below (g := gb164) (o := .cells #[.int .i64 a0_0, .int .i64 a0_1, .int .i64 a0_2, .int .i64 a0_3, .int .u64 a0_4, .slice A0_5 l0_5.length c0_5, .slice A0_6 l0_6.length c0_6, .slice A0_7 l0_7.length c0_7, .slice A0_8 l0_8.length c0_8, .slice A0_9 l0_9.length c0_9, .string a0_10, .slice A0_11 l0_11.length c0_11, .int .u64 a0_12, .slice A0_13 l0_13.length c0_13] 46 (0, 0)) (by (with_reducible repeat (first | refine blk_drewN ?_ _ | refine blk_drew ?_ | refine blk_alloc ?_ _)); exact BK164.out) hb); have n1_ := Aside0.mk (below_step (by repeat (first | (with_reducible first | exact HB.out | apply below_alloc | apply pw_below_drewN | apply below_drew1 | refine below_set ?_ GE164.out) | exact HB.out)) hb); have n2_ := Aside0.mk (hbox); have n3_ := Aside0.mk ((by rw [hg]; exact (below_size (by repeat (first | (with_reducible first | exact HB.out | apply below_alloc | apply pw_below_drewN | apply below_drew1 | refine below_set ?_ GE164.out) | exact HB.out))) : w.heap.size ≤ gb165)); have n4_ := Aside0.mk ((by rw [hg]; exact (below_size (by repeat (first | (with_reducible first | exact HB.out | apply below_alloc | apply pw_below_drewN | apply below_drew1 | refine below_set ?_ GE164.out) | exact HB.out))) : w.heap.size ≤ gb165)); have n5_ := Aside0.mk ((by rw [hg]; exact Nat.ne_of_lt (blk_lt (g := gb164) (o := .cells #[.int .i64 a0_0, .int .i64 a0_1, .int .i64 a0_2, .int .i64 a0_3, .int .u64 a0_4, .slice A0_5 l0_5.length c0_5, .slice A0_6 l0_6.length c0_6, .slice A0_7 l0_7.length c0_7, .slice A0_8 l0_8.length c0_8, .slice A0_9 l0_9.length c0_9, .string a0_10, .slice A0_11 l0_11.length c0_11, .int .u64 a0_12, .slice A0_13 l0_13.length c0_13] 46 (0, 0)) (by (with_reducible repeat (first | refine blk_drewN ?_ _ | refine blk_drew ?_ | refine blk_alloc ?_ _)); exact BK164.out)) : gb164 ≠ gb165)); have n6_ := Aside0.mk ((by rw [hg]; exact Nat.ne_of_gt (blk_lt (g := gb164) (o := .cells #[.int .i64 a0_0, .int .i64 a0_1, .int .i64 a0_2, .int .i64 a0_3, .int .u64 a0_4, .slice A0_5 l0_5.length c0_5, .slice A0_6 l0_6.length c0_6, .slice A0_7 l0_7.length c0_7, .slice A0_8 l0_8.length c0_8, .slice A0_9 l0_9.length c0_9, .string a0_10, .slice A0_11 l0_11.length c0_11, .int .u64 a0_12, .slice A0_13 l0_13.length c0_13] 46 (0, 0)) (by (with_reducible repeat (first | refine blk_drewN ?_ _ | refine blk_drew ?_ | refine blk_alloc ?_ _)); exact BK164.out)) : gb165 ≠ gb164)); clear BK164; clear HB; have BK164 := n0_; have HB := n1_; have BK165 := n2_; have GW165 := n3_; have GE165 := n4_; have NB164_165 := n5_; have NB165_164 := n6_; clear n0_ n1_ n2_ n3_ n4_ n5_ n6_; clear hb hbox hg; have hnb4 := NB164_165.out; have hnc4 := NB165_164.out; have hcz5_0 : w3.cell? ⟨gb164, 0, none⟩ = some (.int .i64 a0_0) := (blk_cell BK164.out 0).trans rfl; have hcz5_1 : w3.cell? ⟨gb164, 1, none⟩ = some (.int .i64 a0_1) := (blk_cell BK164.out 1).trans rfl; have hcz5_2 : w3.cell? ⟨gb164, 2, none⟩ = some (.int .i64 a0_2) := (blk_cell BK164.out 2).trans rfl; have hcz5_3 : w3.cell? ⟨gb164, 3, none⟩ = some (.int .i64 a0_3) := (blk_cell BK164.out 3).trans rfl; have hcz5_4 : w3.cell? ⟨gb164, 4, none⟩ = some (.int .u64 a0_4) := (blk_cell BK164.out 4).trans rfl; have hcz5_5 : w3.cell? ⟨gb164, 5, none⟩ = some (.slice A0_5 l0_5.length c0_5) := (blk_cell BK164.out 5).trans rfl; have hcz5_6 : w3.cell? ⟨gb164, 6, none⟩ = some (.slice A0_6 l0_6.length c0_6) := (blk_cell BK164.out 6).trans rfl; have hcz5_7 : w3.cell? ⟨gb164, 7, none⟩ = some (.slice A0_7 l0_7.length c0_7) := (blk_cell BK164.out 7).trans rfl; have hcz5_8 : w3.cell? ⟨gb164, 8, none⟩ = some (.slice A0_8 l0_8.length c0_8) := (blk_cell BK164.out 8).trans rfl; have hcz5_9 : w3.cell? ⟨gb164, 9, none⟩ = some (.slice A0_9 l0_9.length c0_9) := (blk_cell BK164.out 9).trans rfl; have hcz5_10 : w3.cell? ⟨gb164, 10, none⟩ = some (.string a0_10) := (blk_cell BK164.out 10).trans rfl; have hcz5_11 : w3.cell? ⟨gb164, 11, none⟩ = some (.slice A0_11 l0_11.length c0_11) := (blk_cell BK164.out 11).trans rfl; have hcz5_12 : w3.cell? ⟨gb164, 12, none⟩ = some (.int .u64 a0_12) := (blk_cell BK164.out 12).trans rfl; have hcz5_13 : w3.cell? ⟨gb164, 13, none⟩ = some (.slice A0_13 l0_13.length c0_13) := (blk_cell BK164.out 13).trans rfl; have hfz5_0 := blk_frozen BK164.out 0; have hfz5_1 := blk_frozen BK164.out 1; have hfz5_2 := blk_frozen BK164.out 2; have hfz5_3 := blk_frozen BK164.out 3; have hfz5_4 := blk_frozen BK164.out 4; have hfz5_5 := blk_frozen BK164.out 5; have hfz5_6 := blk_frozen BK164.out 6; have hfz5_7 := blk_frozen BK164.out 7; have hfz5_8 := blk_frozen BK164.out 8; have hfz5_9 := blk_frozen BK164.out 9; have hfz5_10 := blk_frozen BK164.out 10; have hfz5_11 := blk_frozen BK164.out 11; have hfz5_12 := blk_frozen BK164.out 12; have hfz5_13 := blk_frozen BK164.out 13; have hcz6_0 : w3.cell? ⟨gb165, 0, none⟩ = some (.int .i64 0) := (blk_cell BK165.out 0).trans rfl; have hcz6_1 : w3.cell? ⟨gb165, 1, none⟩ = some (.int .i64 0) := (blk_cell BK165.out 1).trans rfl; have hcz6_2 : w3.cell? ⟨gb165, 2, none⟩ = some (.int .i64 0) := (blk_cell BK165.out 2).trans rfl; have hcz6_3 : w3.cell? ⟨gb165, 3, none⟩ = some (.int .i64 0) := (blk_cell BK165.out 3).trans rfl; have hcz6_4 : w3.cell? ⟨gb165, 4, none⟩ = some (.int .u64 0) := (blk_cell BK165.out 4).trans rfl; have hcz6_5 : w3.cell? ⟨gb165, 5, none⟩ = some (.slice none 0 0) := (blk_cell BK165.out 5).trans rfl; have hcz6_6 : w3.cell? ⟨gb165, 6, none⟩ = some (.slice none 0 0) := (blk_cell BK165.out 6).trans rfl; have hcz6_7 : w3.cell? ⟨gb165, 7, none⟩ = some (.slice none 0 0) := (blk_cell BK165.out 7).trans rfl; have hcz6_8 : w3.cell? ⟨gb165, 8, none⟩ = some (.slice none 0 0) := (blk_cell BK165.out 8).trans rfl; have hcz6_9 : w3.cell? ⟨gb165, 9, none⟩ = some (.slice none 0 0) := (blk_cell BK165.out 9).trans rfl; have hcz6_10 : w3.cell? ⟨gb165, 10, none⟩ = some (.string (⟨#[]⟩ : ByteArray)) := (blk_cell BK165.out 10).trans rfl; have hcz6_11 : w3.cell? ⟨gb165, 11, none⟩ = some (.slice none 0 0) := (blk_cell BK165.out 11).trans rfl; have hcz6_12 : w3.cell? ⟨gb165, 12, none⟩ = some (.int .u64 0) := (blk_cell BK165.out 12).trans rfl; have hcz6_13 : w3.cell? ⟨gb165, 13, none⟩ = some (.slice none 0 0) := (blk_cell BK165.out 13).trans rfl; have hfz6_0 := blk_frozen BK165.out 0; have hfz6_1 := blk_frozen BK165.out 1; have hfz6_2 := blk_frozen BK165.out 2; have hfz6_3 := blk_frozen BK165.out 3; have hfz6_4 := blk_frozen BK165.out 4; have hfz6_5 := blk_frozen BK165.out 5; have hfz6_6 := blk_frozen BK165.out 6; have hfz6_7 := blk_frozen BK165.out 7; have hfz6_8 := blk_frozen BK165.out 8; have hfz6_9 := blk_frozen BK165.out 9; have hfz6_10 := blk_frozen BK165.out 10; have hfz6_11 := blk_frozen BK165.out 11; have hfz6_12 := blk_frozen BK165.out 12; have hfz6_13 := blk_frozen BK165.out 13))
  refine bodyPost_ret (results_cell_row rfl _ _ gb165 46 #[.int .i64 a0_0, .int .i64 a0_1, .int .i64 a0_2, .int .i64 a0_3, .int .u64 a0_4, .slice none 0 0, .slice none 0 0, .slice none 0 0, .slice none 0 0, .slice none 0 0, .string a0_10, .slice none 0 0, .int .u64 a0_12, .slice none 0 0] (0, 0) _ rfl (by (with_reducible repeat (first | refine blk_drewN ?_ _ | refine blk_drew ?_ | refine blk_alloc ?_ _)); refine blk_put (cs := #[.int .i64 a0_0, .int .i64 a0_1, .int .i64 a0_2, .int .i64 a0_3, .int .u64 a0_4, .slice none 0 0, .slice none 0 0, .slice none 0 0, .slice none 0 0, .slice none 0 0, .string a0_10, .slice none 0 0, .int .u64 a0_12, .slice none 0 0]) ?_ 13 _ rfl; (with_reducible repeat (first | refine blk_drewN ?_ _ | refine blk_drew ?_ | refine blk_alloc ?_ _)); refine blk_put (cs := #[.int .i64 a0_0, .int .i64 a0_1, .int .i64 a0_2, .int .i64 a0_3, .int .u64 a0_4, .slice none 0 0, .slice none 0 0, .slice none 0 0, .slice none 0 0, .slice none 0 0, .string a0_10, .slice none 0 0, .int .u64 0, .slice none 0 0]) ?_ 12 _ rfl; (with_reducible repeat (first | refine blk_drewN ?_ _ | refine blk_drew ?_ | refine blk_alloc ?_ _)); refine blk_put (cs := #[.int .i64 a0_0, .int .i64 a0_1, .int .i64 a0_2, .int .i64 a0_3, .int .u64 a0_4, .slice none 0 0, .slice none 0 0, .slice none 0 0, .slice none 0 0, .slice none 0 0, .string a0_10, .slice none 0 0, .int .u64 0, .slice none 0 0]) ?_ 11 _ rfl; (with_reducible repeat (first | refine blk_drewN ?_ _ | refine blk_drew ?_ | refine blk_alloc ?_ _)); refine blk_put (cs := #[.int .i64 a0_0, .int .i64 a0_1, .int .i64 a0_2, .int .i64 a0_3, .int .u64 a0_4, .slice none 0 0, .slice none 0 0, .slice none 0 0, .slice none 0 0, .slice none 0 0, .string (⟨#[]⟩ : ByteArray), .slice none 0 0, .int .u64 0, .slice none 0 0]) ?_ 10 _ rfl; (with_reducible repeat (first | refine blk_drewN ?_ _ | refine blk_drew ?_ | refine blk_alloc ?_ _)); refine blk_put (cs := #[.int .i64 a0_0, .int .i64 a0_1, .int .i64 a0_2, .int .i64 a0_3, .int .u64 a0_4, .slice none 0 0, .slice none 0 0, .slice none 0 0, .slice none 0 0, .slice none 0 0, .string (⟨#[]⟩ : ByteArray), .slice none 0 0, .int .u64 0, .slice none 0 0]) ?_ 9 _ rfl; (with_reducible repeat (first | refine blk_drewN ?_ _ | refine blk_drew ?_ | refine blk_alloc ?_ _)); refine blk_put (cs := #[.int .i64 a0_0, .int .i64 a0_1, .int .i64 a0_2, .int .i64 a0_3, .int .u64 a0_4, .slice none 0 0, .slice none 0 0, .slice none 0 0, .slice none 0 0, .slice none 0 0, .string (⟨#[]⟩ : ByteArray), .slice none 0 0, .int .u64 0, .slice none 0 0]) ?_ 8 _ rfl; (with_reducible repeat (first | refine blk_drewN ?_ _ | refine blk_drew ?_ | refine blk_alloc ?_ _)); refine blk_put (cs := #[.int .i64 a0_0, .int .i64 a0_1, .int .i64 a0_2, .int .i64 a0_3, .int .u64 a0_4, .slice none 0 0, .slice none 0 0, .slice none 0 0, .slice none 0 0, .slice none 0 0, .string (⟨#[]⟩ : ByteArray), .slice none 0 0, .int .u64 0, .slice none 0 0]) ?_ 7 _ rfl; (with_reducible repeat (first | refine blk_drewN ?_ _ | refine blk_drew ?_ | refine blk_alloc ?_ _)); refine blk_put (cs := #[.int .i64 a0_0, .int .i64 a0_1, .int .i64 a0_2, .int .i64 a0_3, .int .u64 a0_4, .slice none 0 0, .slice none 0 0, .slice none 0 0, .slice none 0 0, .slice none 0 0, .string (⟨#[]⟩ : ByteArray), .slice none 0 0, .int .u64 0, .slice none 0 0]) ?_ 6 _ rfl; (with_reducible repeat (first | refine blk_drewN ?_ _ | refine blk_drew ?_ | refine blk_alloc ?_ _)); refine blk_put (cs := #[.int .i64 a0_0, .int .i64 a0_1, .int .i64 a0_2, .int .i64 a0_3, .int .u64 a0_4, .slice none 0 0, .slice none 0 0, .slice none 0 0, .slice none 0 0, .slice none 0 0, .string (⟨#[]⟩ : ByteArray), .slice none 0 0, .int .u64 0, .slice none 0 0]) ?_ 5 _ rfl; (with_reducible repeat (first | refine blk_drewN ?_ _ | refine blk_drew ?_ | refine blk_alloc ?_ _)); refine blk_put (cs := #[.int .i64 a0_0, .int .i64 a0_1, .int .i64 a0_2, .int .i64 a0_3, .int .u64 0, .slice none 0 0, .slice none 0 0, .slice none 0 0, .slice none 0 0, .slice none 0 0, .string (⟨#[]⟩ : ByteArray), .slice none 0 0, .int .u64 0, .slice none 0 0]) ?_ 4 _ rfl; (with_reducible repeat (first | refine blk_drewN ?_ _ | refine blk_drew ?_ | refine blk_alloc ?_ _)); refine blk_put (cs := #[.int .i64 a0_0, .int .i64 a0_1, .int .i64 a0_2, .int .i64 0, .int .u64 0, .slice none 0 0, .slice none 0 0, .slice none 0 0, .slice none 0 0, .slice none 0 0, .string (⟨#[]⟩ : ByteArray), .slice none 0 0, .int .u64 0, .slice none 0 0]) ?_ 3 _ rfl; (with_reducible repeat (first | refine blk_drewN ?_ _ | refine blk_drew ?_ | refine blk_alloc ?_ _)); refine blk_put (cs := #[.int .i64 a0_0, .int .i64 a0_1, .int .i64 0, .int .i64 0, .int .u64 0, .slice none 0 0, .slice none 0 0, .slice none 0 0, .slice none 0 0, .slice none 0 0, .string (⟨#[]⟩ : ByteArray), .slice none 0 0, .int .u64 0, .slice none 0 0]) ?_ 2 _ rfl; (with_reducible repeat (first | refine blk_drewN ?_ _ | refine blk_drew ?_ | refine blk_alloc ?_ _)); refine blk_put (cs := #[.int .i64 a0_0, .int .i64 0, .int .i64 0, .int .i64 0, .int .u64 0, .slice none 0 0, .slice none 0 0, .slice none 0 0, .slice none 0 0, .slice none 0 0, .string (⟨#[]⟩ : ByteArray), .slice none 0 0, .int .u64 0, .slice none 0 0]) ?_ 1 _ rfl; (with_reducible repeat (first | refine blk_drewN ?_ _ | refine blk_drew ?_ | refine blk_alloc ?_ _)); refine blk_put (cs := #[.int .i64 0, .int .i64 0, .int .i64 0, .int .i64 0, .int .u64 0, .slice none 0 0, .slice none 0 0, .slice none 0 0, .slice none 0 0, .slice none 0 0, .string (⟨#[]⟩ : ByteArray), .slice none 0 0, .int .u64 0, .slice none 0 0]) ?_ 0 _ rfl; (with_reducible repeat (first | refine blk_drewN ?_ _ | refine blk_drew ?_ | refine blk_alloc ?_ _)); exact BK165.out) Try.underlying46 rfl (by kernel_rfl)) rfl ?_
  exact ⟨_, _, _, _, _, _, _, by first | rfl | (simp [errW_none, errW_some] <;> rfl) | (simp [*, errW_none, errW_some] <;> rfl), by first | exact Kd.R_nil _ _ _ _ _ | exact Kd.N_nil _ _ _ _ _ | exact Kd.V_nil _ _ _ _ _ | exact Kd.Q_nil _ _ _ _ _ | exact Kd.S_nil _ _ _ _ _, by first | exact Kd.R_nil _ _ _ _ _ | exact Kd.N_nil _ _ _ _ _ | exact Kd.V_nil _ _ _ _ _ | exact Kd.Q_nil _ _ _ _ _ | exact Kd.S_nil _ _ _ _ _, by first | exact Kd.R_nil _ _ _ _ _ | exact Kd.N_nil _ _ _ _ _ | exact Kd.V_nil _ _ _ _ _ | exact Kd.Q_nil _ _ _ _ _ | exact Kd.S_nil _ _ _ _ _, by first | exact Kd.R_nil _ _ _ _ _ | exact Kd.N_nil _ _ _ _ _ | exact Kd.V_nil _ _ _ _ _ | exact Kd.Q_nil _ _ _ _ _ | exact Kd.S_nil _ _ _ _ _, by first | exact Kd.R_nil _ _ _ _ _ | exact Kd.N_nil _ _ _ _ _ | exact Kd.V_nil _ _ _ _ _ | exact Kd.Q_nil _ _ _ _ _ | exact Kd.S_nil _ _ _ _ _, by first | exact Kd.R_nil _ _ _ _ _ | exact Kd.N_nil _ _ _ _ _ | exact Kd.V_nil _ _ _ _ _ | exact Kd.Q_nil _ _ _ _ _ | exact Kd.S_nil _ _ _ _ _, by first | exact Kd.R_nil _ _ _ _ _ | exact Kd.N_nil _ _ _ _ _ | exact Kd.V_nil _ _ _ _ _ | exact Kd.Q_nil _ _ _ _ _ | exact Kd.S_nil _ _ _ _ _, by repeat (first | (with_reducible first | exact HB.out | apply below_alloc | apply pw_below_drewN | apply below_drew1 | refine below_set ?_ GE164.out | refine below_set ?_ GE165.out) | exact HB.out)⟩

end Go.Proofs.Ytfpbohfefliljaa.MD
