-- Walks made by a program (wip/givenprint.sh); Lean checks them.
import Derived.Test.YthadibmgahlpfaaMCkptPlaysx0
namespace Go.Proofs.Ythadibmgahlpfaa.MD
open Go.RowKit Go.Proofs.YthadibmgahlpfaaW.PrintWords Go.Proofs.YthadibmgahlpfaaW.PrintLast Go.Proofs.YthadibmgahlpfaaW.PrintMore
attribute [local go_sem] max2_int min2_int max_two min_two max_three min_three max_four min_four   -- for this text's walks alone
set_option linter.unusedVariables false
set_option linter.unusedSimpArgs false

-- NOT PRINTED: function 6 (ckpt_New)

-- NOT PRINTED: function 24 (ckpt_mark_int)

-- NOT PRINTED: function 17 (ckpt_Keeper_find)

-- NOT PRINTED: function 27 (ckpt_mark_27)

-- NOT PRINTED: function 43 (ckpt_mark_43)

-- NOT PRINTED: function 42 (ckpt_mark_42)

-- NOT PRINTED: function 28 (ckpt_mark_28)

-- NOT PRINTED: function 18 (ckpt_mark_18)

/-! ### bits_Set_29: function 29 -/
def bits_Set_29.f (l0 : List (Int)) : Option (List (Int)) := if l0.length * 8 ≤ 140737488355328 then some l0 else none
theorem bits_Set_29.calls (A0 : Option Addr) (c0 : Nat) (l0 : List (Int)) (r : List (Int)) (w : World) (hr0 : Kd.C ((Kd.int .u64)) w A0 l0.length l0) (hc0 : l0.length ≤ c0) (h : bits_Set_29.f l0 = some r) :
    Calls Try.prog 29 #[.slice A0 l0.length c0] w fun e w' => ∃ v0_ : Value, e = .returned v0_ ∧ Kd.R ((Kd.int .u64)) 29 w' w.heap.size (fun _ => True) v0_ r ∧ Below w.heap.size w w' := by
  unfold bits_Set_29.f at h
  split at h
  · cases h
    exact SlB.clone_any A0 c0 l0 w hr0 hc0 ‹_›
  · cases h
theorem bits_Set_29.callsn (A0 : Option Addr) (c0 : Nat) (l0 : List (Int)) (r : List (Int)) (w : World) (hr0 : Kd.C ((Kd.int .u64)) w A0 l0.length l0) (hc0 : l0.length ≤ c0) (h : bits_Set_29.f l0 = some r) (n : Nat) (hn : l0.length = n) :
    Calls Try.prog 29 #[.slice A0 n c0] w fun e w' => ∃ v0_ : Value, e = .returned v0_ ∧ Kd.R ((Kd.int .u64)) 29 w' w.heap.size (fun _ => True) v0_ r ∧ Below w.heap.size w w' := by
  subst hn
  exact bits_Set_29.calls A0 c0 l0 r w hr0 hc0 h

/-! ### val_Value_30: function 30 -/
def val_Value_30.f (l0 : List (MD.S78)) : Option (List (MD.S78)) := if l0.length * 32 ≤ 140737488355328 then some l0 else none
theorem val_Value_30.calls (A0 : Option Addr) (c0 : Nat) (l0 : List (MD.S78)) (r : List (MD.S78)) (w : World) (hr0 : Kd.C (MD.k78) w A0 l0.length l0) (hc0 : l0.length ≤ c0) (h : val_Value_30.f l0 = some r) :
    Calls Try.prog 30 #[.slice A0 l0.length c0] w fun e w' => ∃ v0_ : Value, e = .returned v0_ ∧ Kd.R (MD.k78) 78 w' w.heap.size (fun _ => True) v0_ r ∧ Below w.heap.size w w' := by
  unfold val_Value_30.f at h
  split at h
  · cases h
    exact SlV.clone_any A0 c0 l0 w hr0 hc0 ‹_›
  · cases h
theorem val_Value_30.callsn (A0 : Option Addr) (c0 : Nat) (l0 : List (MD.S78)) (r : List (MD.S78)) (w : World) (hr0 : Kd.C (MD.k78) w A0 l0.length l0) (hc0 : l0.length ≤ c0) (h : val_Value_30.f l0 = some r) (n : Nat) (hn : l0.length = n) :
    Calls Try.prog 30 #[.slice A0 n c0] w fun e w' => ∃ v0_ : Value, e = .returned v0_ ∧ Kd.R (MD.k78) 78 w' w.heap.size (fun _ => True) v0_ r ∧ Below w.heap.size w w' := by
  subst hn
  exact val_Value_30.calls A0 c0 l0 r w hr0 hc0 h

/-! ### slices_Clone_string_string: function 31 -/
def slices_Clone_string_string.f (l0 : List (ByteArray)) : Option (List (ByteArray)) := if l0.length * 16 ≤ 140737488355328 then some l0 else none
theorem slices_Clone_string_string.calls (A0 : Option Addr) (c0 : Nat) (l0 : List (ByteArray)) (r : List (ByteArray)) (w : World) (hr0 : Kd.C (Kd.string) w A0 l0.length l0) (hc0 : l0.length ≤ c0) (h : slices_Clone_string_string.f l0 = some r) :
    Calls Try.prog 31 #[.slice A0 l0.length c0] w fun e w' => ∃ v0_ : Value, e = .returned v0_ ∧ Kd.R (Kd.string) 9 w' w.heap.size (fun _ => True) v0_ r ∧ Below w.heap.size w w' := by
  unfold slices_Clone_string_string.f at h
  split at h
  · cases h
    exact SlS.clone_any A0 c0 l0 w hr0 hc0 ‹_›
  · cases h
theorem slices_Clone_string_string.callsn (A0 : Option Addr) (c0 : Nat) (l0 : List (ByteArray)) (r : List (ByteArray)) (w : World) (hr0 : Kd.C (Kd.string) w A0 l0.length l0) (hc0 : l0.length ≤ c0) (h : slices_Clone_string_string.f l0 = some r) (n : Nat) (hn : l0.length = n) :
    Calls Try.prog 31 #[.slice A0 n c0] w fun e w' => ∃ v0_ : Value, e = .returned v0_ ∧ Kd.R (Kd.string) 9 w' w.heap.size (fun _ => True) v0_ r ∧ Below w.heap.size w w' := by
  subst hn
  exact slices_Clone_string_string.calls A0 c0 l0 r w hr0 hc0 h

/-! ### queue_Timer_32: function 32 -/
def queue_Timer_32.f (l0 : List (MD.S82)) : Option (List (MD.S82)) := if l0.length * 32 ≤ 140737488355328 then some l0 else none
theorem queue_Timer_32.calls (A0 : Option Addr) (c0 : Nat) (l0 : List (MD.S82)) (r : List (MD.S82)) (w : World) (hr0 : Kd.C (MD.k82) w A0 l0.length l0) (hc0 : l0.length ≤ c0) (h : queue_Timer_32.f l0 = some r) :
    Calls Try.prog 32 #[.slice A0 l0.length c0] w fun e w' => ∃ v0_ : Value, e = .returned v0_ ∧ Kd.R (MD.k82) 82 w' w.heap.size (fun _ => True) v0_ r ∧ Below w.heap.size w w' := by
  unfold queue_Timer_32.f at h
  split at h
  · cases h
    exact SlT.clone_any A0 c0 l0 w hr0 hc0 ‹_›
  · cases h
theorem queue_Timer_32.callsn (A0 : Option Addr) (c0 : Nat) (l0 : List (MD.S82)) (r : List (MD.S82)) (w : World) (hr0 : Kd.C (MD.k82) w A0 l0.length l0) (hc0 : l0.length ≤ c0) (h : queue_Timer_32.f l0 = some r) (n : Nat) (hn : l0.length = n) :
    Calls Try.prog 32 #[.slice A0 n c0] w fun e w' => ∃ v0_ : Value, e = .returned v0_ ∧ Kd.R (MD.k82) 82 w' w.heap.size (fun _ => True) v0_ r ∧ Below w.heap.size w w' := by
  subst hn
  exact queue_Timer_32.calls A0 c0 l0 r w hr0 hc0 h

/-! ### slices_Clone_int_int: function 33 -/
def slices_Clone_int_int.f (l0 : List (Int)) : Option (List (Int)) := if l0.length * 8 ≤ 140737488355328 then some l0 else none
theorem slices_Clone_int_int.calls (A0 : Option Addr) (c0 : Nat) (l0 : List (Int)) (r : List (Int)) (w : World) (hr0 : Kd.C ((Kd.int .i64)) w A0 l0.length l0) (hc0 : l0.length ≤ c0) (h : slices_Clone_int_int.f l0 = some r) :
    Calls Try.prog 33 #[.slice A0 l0.length c0] w fun e w' => ∃ v0_ : Value, e = .returned v0_ ∧ Kd.R ((Kd.int .i64)) 3 w' w.heap.size (fun _ => True) v0_ r ∧ Below w.heap.size w w' := by
  unfold slices_Clone_int_int.f at h
  split at h
  · cases h
    exact SlI.clone_any A0 c0 l0 w hr0 hc0 ‹_›
  · cases h
theorem slices_Clone_int_int.callsn (A0 : Option Addr) (c0 : Nat) (l0 : List (Int)) (r : List (Int)) (w : World) (hr0 : Kd.C ((Kd.int .i64)) w A0 l0.length l0) (hc0 : l0.length ≤ c0) (h : slices_Clone_int_int.f l0 = some r) (n : Nat) (hn : l0.length = n) :
    Calls Try.prog 33 #[.slice A0 n c0] w fun e w' => ∃ v0_ : Value, e = .returned v0_ ∧ Kd.R ((Kd.int .i64)) 3 w' w.heap.size (fun _ => True) v0_ r ∧ Below w.heap.size w w' := by
  subst hn
  exact slices_Clone_int_int.calls A0 c0 l0 r w hr0 hc0 h

/-! ### snap_Snap_Copy: function 19 -/
def snap_Snap_Copy.f (a0_0 : Int) (a0_1 : Int) (a0_2 : Int) (a0_3 : Int) (a0_4 : Int) (l0_5 : List Int) (l0_6 : List (S78)) (l0_7 : List ByteArray) (l0_8 : List ByteArray) (l0_9 : List (S82)) (a0_10 : ByteArray) (l0_11 : List Int) (a0_12 : Int) (l0_13 : List ByteArray) : Option (Int × Int × Int × Int × Int × List Int × (List (S78)) × List ByteArray × List ByteArray × (List (S82)) × ByteArray × List Int × Int × List ByteArray) := (bits_Set_29.f l0_5).bind fun t103 => ((val_Value_30.f l0_6).bind fun t106 => ((slices_Clone_string_string.f l0_7).bind fun t109 => ((slices_Clone_string_string.f l0_8).bind fun t112 => ((queue_Timer_32.f l0_9).bind fun t115 => ((slices_Clone_int_int.f l0_11).bind fun t118 => ((slices_Clone_string_string.f l0_13).bind fun t121 => (some (a0_0, a0_1, a0_2, a0_3, a0_4, t103, t106, t109, t112, t115, a0_10, t118, a0_12, t121))))))))
def snap_Snap_Copy.T1 : Bool × List (List Nat × List Nat) := (true, [([], []), ([0], [0]), ([1], [1]), ([], []), ([3], [3]), ([4, 2], [4]), ([0, 1, 2, 3, 4], []), ([6, 2, 5, 0, 1, 2, 3, 4], [2, 6]), ([0, 1, 2, 3, 4, 5, 6, 7], []), ([8, 5, 7, 0, 1, 2, 3, 4, 5, 6, 7], [5, 8])])
def snap_Snap_Copy.B1 : List Nat := [0, 1, 3, 0, 8, 31, 31, 127, 255, 511]
theorem snap_Snap_Copy.tab1 : rtab .any (opsOf Try.f19 1) = snap_Snap_Copy.T1 := by kernel_rfl
theorem snap_Snap_Copy.bits1 : waitsOk snap_Snap_Copy.T1.2 snap_Snap_Copy.B1 = true := by kernel_rfl
def snap_Snap_Copy.T2 : Bool × List (List Nat × List Nat) := (true, [([], []), ([0], [0]), ([1], [1]), ([], []), ([3], [3]), ([4, 2], [4]), ([], []), ([6], [6]), ([7, 5], [7]), ([0, 1, 2, 3, 4, 6, 7], []), ([9, 2, 8, 0, 1, 2, 3, 4, 6, 7], [2, 9]), ([0, 1, 2, 3, 4, 5, 6, 7, 9, 10], []), ([11, 5, 10, 0, 1, 2, 3, 4, 5, 6, 7, 9, 10], [5, 11]), ([0, 1, 2, 3, 4, 5, 6, 7, 8, 9, 10, 11, 12], []), ([13, 8, 12, 0, 1, 2, 3, 4, 5, 6, 7, 8, 9, 10, 11, 12], [8, 13])])
def snap_Snap_Copy.B2 : List Nat := [0, 1, 3, 0, 8, 31, 0, 64, 255, 223, 1023, 2047, 4095, 8191, 16383]
theorem snap_Snap_Copy.tab2 : rtab .any (opsOf Try.f19 2) = snap_Snap_Copy.T2 := by kernel_rfl
theorem snap_Snap_Copy.bits2 : waitsOk snap_Snap_Copy.T2.2 snap_Snap_Copy.B2 = true := by kernel_rfl
def snap_Snap_Copy.T3 : Bool × List (List Nat × List Nat) := (true, [([], []), ([0], [0]), ([1], [1]), ([2], [2]), ([], []), ([4], [4]), ([5], [5]), ([6, 3], [6]), ([0, 1, 2, 3, 4, 5, 6], []), ([8, 0, 1, 2, 3, 4, 5, 6], [8]), ([9, 3, 7, 0, 1, 2, 3, 4, 5, 6], [3, 9]), ([0, 1, 2, 3, 4, 5, 6, 7, 8, 9, 10], []), ([11, 0, 1, 2, 3, 4, 5, 6, 7, 8, 9, 10], [11]), ([12, 7, 10, 0, 1, 2, 3, 4, 5, 6, 7, 8, 9, 10], [7, 12])])
def snap_Snap_Copy.B3 : List Nat := [0, 1, 3, 7, 0, 16, 48, 127, 127, 383, 1023, 2047, 4095, 8191]
theorem snap_Snap_Copy.tab3 : rtab .any (opsOf Try.f19 3) = snap_Snap_Copy.T3 := by kernel_rfl
theorem snap_Snap_Copy.bits3 : waitsOk snap_Snap_Copy.T3.2 snap_Snap_Copy.B3 = true := by kernel_rfl
set_option maxHeartbeats 8000000 in
set_option maxRecDepth 100000 in
theorem snap_Snap_Copy.calls (a0_0 : Int) (a0_1 : Int) (a0_2 : Int) (a0_3 : Int) (a0_4 : Int) (A0_5 : Option Addr) (c0_5 : Nat) (l0_5 : List Int) (A0_6 : Option Addr) (c0_6 : Nat) (l0_6 : List (S78)) (A0_7 : Option Addr) (c0_7 : Nat) (l0_7 : List ByteArray) (A0_8 : Option Addr) (c0_8 : Nat) (l0_8 : List ByteArray) (A0_9 : Option Addr) (c0_9 : Nat) (l0_9 : List (S82)) (a0_10 : ByteArray) (A0_11 : Option Addr) (c0_11 : Nat) (l0_11 : List Int) (a0_12 : Int) (A0_13 : Option Addr) (c0_13 : Nat) (l0_13 : List ByteArray) (r1 : Int) (r2 : Int) (r3 : Int) (r4 : Int) (r5 : Int) (r6 : List Int) (r7 : List (S78)) (r8 : List ByteArray) (r9 : List ByteArray) (r10 : List (S82)) (r11 : ByteArray) (r12 : List Int) (r13 : Int) (r14 : List ByteArray) (w : World) (hr0_5 : Kd.C (Kd.int .u64) w A0_5 l0_5.length l0_5) (hc0_5 : l0_5.length ≤ c0_5) (hr0_6 : Kd.C k78 w A0_6 l0_6.length l0_6) (hc0_6 : l0_6.length ≤ c0_6) (hr0_7 : Kd.C Kd.string w A0_7 l0_7.length l0_7) (hc0_7 : l0_7.length ≤ c0_7) (hr0_8 : Kd.C Kd.string w A0_8 l0_8.length l0_8) (hc0_8 : l0_8.length ≤ c0_8) (hr0_9 : Kd.C k82 w A0_9 l0_9.length l0_9) (hc0_9 : l0_9.length ≤ c0_9) (hr0_11 : Kd.C (Kd.int .i64) w A0_11 l0_11.length l0_11) (hc0_11 : l0_11.length ≤ c0_11) (hr0_13 : Kd.C Kd.string w A0_13 l0_13.length l0_13) (hc0_13 : l0_13.length ≤ c0_13) (h : snap_Snap_Copy.f a0_0 a0_1 a0_2 a0_3 a0_4 l0_5 l0_6 l0_7 l0_8 l0_9 a0_10 l0_11 a0_12 l0_13 = some (r1, r2, r3, r4, r5, r6, r7, r8, r9, r10, r11, r12, r13, r14)) :
    Calls Try.prog 19 #[.agg #[.int .i64 a0_0, .int .i64 a0_1, .int .i64 a0_2, .int .i64 a0_3, .int .u64 a0_4, .slice A0_5 l0_5.length c0_5, .slice A0_6 l0_6.length c0_6, .slice A0_7 l0_7.length c0_7, .slice A0_8 l0_8.length c0_8, .slice A0_9 l0_9.length c0_9, .string a0_10, .slice A0_11 l0_11.length c0_11, .int .u64 a0_12, .slice A0_13 l0_13.length c0_13]] w fun e w' => ∃ v5_ v6_ v7_ v8_ v9_ v11_ v13_ : Value, e = .returned (.agg #[.int .i64 r1, .int .i64 r2, .int .i64 r3, .int .i64 r4, .int .u64 r5, v5_, v6_, v7_, v8_, v9_, .string r11, v11_, .int .u64 r13, v13_]) ∧ Kd.R (Kd.int .u64) 29 w' w.heap.size (fun _ => True) v5_ r6 ∧ Kd.R k78 78 w' w.heap.size (fun _ => True) v6_ r7 ∧ Kd.R Kd.string 9 w' w.heap.size (fun k_ => some k_ ≠ (v8_ : Value).ownBlock ∧ some k_ ≠ (v13_ : Value).ownBlock) v7_ r8 ∧ Kd.R Kd.string 9 w' w.heap.size (fun k_ => some k_ ≠ (v7_ : Value).ownBlock ∧ some k_ ≠ (v13_ : Value).ownBlock) v8_ r9 ∧ Kd.R k82 82 w' w.heap.size (fun _ => True) v9_ r10 ∧ Kd.R (Kd.int .i64) 3 w' w.heap.size (fun _ => True) v11_ r12 ∧ Kd.R Kd.string 9 w' w.heap.size (fun k_ => some k_ ≠ (v7_ : Value).ownBlock ∧ some k_ ≠ (v8_ : Value).ownBlock) v13_ r14 ∧ Below w.heap.size w w' := by
  have hu38 := Try.underlying38
  have HR0_5 := Aside0.mk hr0_5
  have HC0_5 := Aside0.mk hc0_5
  clear hr0_5 hc0_5
  have HR0_6 := Aside0.mk hr0_6
  have HC0_6 := Aside0.mk hc0_6
  clear hr0_6 hc0_6
  have HR0_7 := Aside0.mk hr0_7
  have HC0_7 := Aside0.mk hc0_7
  clear hr0_7 hc0_7
  have HR0_8 := Aside0.mk hr0_8
  have HC0_8 := Aside0.mk hc0_8
  clear hr0_8 hc0_8
  have HR0_9 := Aside0.mk hr0_9
  have HC0_9 := Aside0.mk hc0_9
  clear hr0_9 hc0_9
  have HR0_11 := Aside0.mk hr0_11
  have HC0_11 := Aside0.mk hc0_11
  clear hr0_11 hc0_11
  have HR0_13 := Aside0.mk hr0_13
  have HC0_13 := Aside0.mk hc0_13
  clear hr0_13 hc0_13
  have HB := Aside0.mk (Below.refl w.heap.size w)
  have H : ((bits_Set_29.f l0_5).bind fun t103 => ((val_Value_30.f l0_6).bind fun t106 => ((slices_Clone_string_string.f l0_7).bind fun t109 => ((slices_Clone_string_string.f l0_8).bind fun t112 => ((queue_Timer_32.f l0_9).bind fun t115 => ((slices_Clone_int_int.f l0_11).bind fun t118 => ((slices_Clone_string_string.f l0_13).bind fun t121 => (some (a0_0, a0_1, a0_2, a0_3, a0_4, t103, t106, t109, t112, t115, a0_10, t118, a0_12, t121))))))))) = some (r1, r2, r3, r4, r5, r6, r7, r8, r9, r10, r11, r12, r13, r14) := h
  clear h
  replace H := Option.bind_eq_some_iff.mp H
  obtain ⟨t103, A20, H⟩ := H
  replace H : ((val_Value_30.f l0_6).bind fun t106 => ((slices_Clone_string_string.f l0_7).bind fun t109 => ((slices_Clone_string_string.f l0_8).bind fun t112 => ((queue_Timer_32.f l0_9).bind fun t115 => ((slices_Clone_int_int.f l0_11).bind fun t118 => ((slices_Clone_string_string.f l0_13).bind fun t121 => (some (a0_0, a0_1, a0_2, a0_3, a0_4, t103, t106, t109, t112, t115, a0_10, t118, a0_12, t121)))))))) = some (r1, r2, r3, r4, r5, r6, r7, r8, r9, r10, r11, r12, r13, r14) := H
  have A2 := Aside0.mk A20
  clear A20
  replace H := Option.bind_eq_some_iff.mp H
  obtain ⟨t106, A30, H⟩ := H
  replace H : ((slices_Clone_string_string.f l0_7).bind fun t109 => ((slices_Clone_string_string.f l0_8).bind fun t112 => ((queue_Timer_32.f l0_9).bind fun t115 => ((slices_Clone_int_int.f l0_11).bind fun t118 => ((slices_Clone_string_string.f l0_13).bind fun t121 => (some (a0_0, a0_1, a0_2, a0_3, a0_4, t103, t106, t109, t112, t115, a0_10, t118, a0_12, t121))))))) = some (r1, r2, r3, r4, r5, r6, r7, r8, r9, r10, r11, r12, r13, r14) := H
  have A3 := Aside0.mk A30
  clear A30
  replace H := Option.bind_eq_some_iff.mp H
  obtain ⟨t109, A40, H⟩ := H
  replace H : ((slices_Clone_string_string.f l0_8).bind fun t112 => ((queue_Timer_32.f l0_9).bind fun t115 => ((slices_Clone_int_int.f l0_11).bind fun t118 => ((slices_Clone_string_string.f l0_13).bind fun t121 => (some (a0_0, a0_1, a0_2, a0_3, a0_4, t103, t106, t109, t112, t115, a0_10, t118, a0_12, t121)))))) = some (r1, r2, r3, r4, r5, r6, r7, r8, r9, r10, r11, r12, r13, r14) := H
  have A4 := Aside0.mk A40
  clear A40
  replace H := Option.bind_eq_some_iff.mp H
  obtain ⟨t112, A50, H⟩ := H
  replace H : ((queue_Timer_32.f l0_9).bind fun t115 => ((slices_Clone_int_int.f l0_11).bind fun t118 => ((slices_Clone_string_string.f l0_13).bind fun t121 => (some (a0_0, a0_1, a0_2, a0_3, a0_4, t103, t106, t109, t112, t115, a0_10, t118, a0_12, t121))))) = some (r1, r2, r3, r4, r5, r6, r7, r8, r9, r10, r11, r12, r13, r14) := H
  have A5 := Aside0.mk A50
  clear A50
  replace H := Option.bind_eq_some_iff.mp H
  obtain ⟨t115, A60, H⟩ := H
  replace H : ((slices_Clone_int_int.f l0_11).bind fun t118 => ((slices_Clone_string_string.f l0_13).bind fun t121 => (some (a0_0, a0_1, a0_2, a0_3, a0_4, t103, t106, t109, t112, t115, a0_10, t118, a0_12, t121)))) = some (r1, r2, r3, r4, r5, r6, r7, r8, r9, r10, r11, r12, r13, r14) := H
  have A6 := Aside0.mk A60
  clear A60
  replace H := Option.bind_eq_some_iff.mp H
  obtain ⟨t118, A70, H⟩ := H
  replace H : ((slices_Clone_string_string.f l0_13).bind fun t121 => (some (a0_0, a0_1, a0_2, a0_3, a0_4, t103, t106, t109, t112, t115, a0_10, t118, a0_12, t121))) = some (r1, r2, r3, r4, r5, r6, r7, r8, r9, r10, r11, r12, r13, r14) := H
  have A7 := Aside0.mk A70
  clear A70
  replace H := Option.bind_eq_some_iff.mp H
  obtain ⟨t121, A80, H⟩ := H
  replace H : (some (a0_0, a0_1, a0_2, a0_3, a0_4, t103, t106, t109, t112, t115, a0_10, t118, a0_12, t121)) = some (r1, r2, r3, r4, r5, r6, r7, r8, r9, r10, r11, r12, r13, r14) := H
  have A8 := Aside0.mk A80
  clear A80
  simp only [Option.some.injEq, Prod.mk.injEq] at H
  obtain ⟨rfl, rfl, rfl, rfl, rfl, rfl, rfl, rfl, rfl, rfl, rfl, rfl, rfl, rfl⟩ := H
  go_enter Try.func19, Try.ntmps19
  try go_wp2_with (first | ((with_reducible refine gate_dst (N := 1) rfl ?_); refine box_event ?hg (N := 1) ?hd (cs := #[.int .i64 a0_0, .int .i64 a0_1, .int .i64 a0_2, .int .i64 a0_3, .int .u64 a0_4, .slice A0_5 l0_5.length c0_5, .slice A0_6 l0_6.length c0_6, .slice A0_7 l0_7.length c0_7, .slice A0_8 l0_8.length c0_8, .slice A0_9 l0_9.length c0_9, .string a0_10, .slice A0_11 l0_11.length c0_11, .int .u64 a0_12, .slice A0_13 l0_13.length c0_13]) (t := 38) ?hr ?_; (case hd => rfl); (case hg => rfl); (case hr => first | (go_simp; done) | (go_simp; rfl)); intro gb101 hg w9 hbox hb; have n0_ := Aside0.mk (below_step (by repeat (first | (with_reducible first | exact HB.out | apply below_alloc | apply pw_below_drewN | apply below_drew1) | exact HB.out)) hb); have n1_ := Aside0.mk (hbox); have n2_ := Aside0.mk ((by rw [hg]; exact (below_size (by repeat (first | (with_reducible first | exact HB.out | apply below_alloc | apply pw_below_drewN | apply below_drew1) | exact HB.out))) : w.heap.size ≤ gb101)); have n3_ := Aside0.mk ((by rw [hg]; exact (below_size (by repeat (first | (with_reducible first | exact HB.out | apply below_alloc | apply pw_below_drewN | apply below_drew1) | exact HB.out))) : w.heap.size ≤ gb101)); clear HB; have HB := n0_; have BK101 := n1_; have GW101 := n2_; have GE101 := n3_; clear n0_ n1_ n2_ n3_; clear hb hbox hg) | ((with_reducible refine gate_dst (N := 2) rfl ?_); refine box_event ?hg (N := 2) ?hd (cs := #[.int .i64 0, .int .i64 0, .int .i64 0, .int .i64 0, .int .u64 0, .slice none 0 0, .slice none 0 0, .slice none 0 0, .slice none 0 0, .slice none 0 0, .string (⟨#[]⟩ : ByteArray), .slice none 0 0, .int .u64 0, .slice none 0 0]) (t := 38) ?hr ?_; (case hd => rfl); (case hg => rfl); (case hr => first | (go_simp; done) | (go_simp; rfl)); intro gb102 hg w10 hbox hb; have n0_ := Aside0.mk (blk_below (g := gb101) (o := .cells #[.int .i64 a0_0, .int .i64 a0_1, .int .i64 a0_2, .int .i64 a0_3, .int .u64 a0_4, .slice A0_5 l0_5.length c0_5, .slice A0_6 l0_6.length c0_6, .slice A0_7 l0_7.length c0_7, .slice A0_8 l0_8.length c0_8, .slice A0_9 l0_9.length c0_9, .string a0_10, .slice A0_11 l0_11.length c0_11, .int .u64 a0_12, .slice A0_13 l0_13.length c0_13] 38 (0, 0)) (by (with_reducible repeat (first | refine blk_drewN ?_ _ | refine blk_drew ?_ | refine blk_alloc ?_ _)); exact BK101.out) hb); have n1_ := Aside0.mk (below_step (by repeat (first | (with_reducible first | exact HB.out | apply below_alloc | apply pw_below_drewN | apply below_drew1 | refine below_set ?_ GE101.out) | exact HB.out)) hb); have n2_ := Aside0.mk (hbox); have n3_ := Aside0.mk ((by rw [hg]; exact (below_size (by repeat (first | (with_reducible first | exact HB.out | apply below_alloc | apply pw_below_drewN | apply below_drew1 | refine below_set ?_ GE101.out) | exact HB.out))) : w.heap.size ≤ gb102)); have n4_ := Aside0.mk ((by rw [hg]; exact (below_size (by repeat (first | (with_reducible first | exact HB.out | apply below_alloc | apply pw_below_drewN | apply below_drew1 | refine below_set ?_ GE101.out) | exact HB.out))) : w.heap.size ≤ gb102)); have n5_ := Aside0.mk ((by rw [hg]; exact Nat.ne_of_lt (blk_lt (g := gb101) (o := .cells #[.int .i64 a0_0, .int .i64 a0_1, .int .i64 a0_2, .int .i64 a0_3, .int .u64 a0_4, .slice A0_5 l0_5.length c0_5, .slice A0_6 l0_6.length c0_6, .slice A0_7 l0_7.length c0_7, .slice A0_8 l0_8.length c0_8, .slice A0_9 l0_9.length c0_9, .string a0_10, .slice A0_11 l0_11.length c0_11, .int .u64 a0_12, .slice A0_13 l0_13.length c0_13] 38 (0, 0)) (by (with_reducible repeat (first | refine blk_drewN ?_ _ | refine blk_drew ?_ | refine blk_alloc ?_ _)); exact BK101.out)) : gb101 ≠ gb102)); have n6_ := Aside0.mk ((by rw [hg]; exact Nat.ne_of_gt (blk_lt (g := gb101) (o := .cells #[.int .i64 a0_0, .int .i64 a0_1, .int .i64 a0_2, .int .i64 a0_3, .int .u64 a0_4, .slice A0_5 l0_5.length c0_5, .slice A0_6 l0_6.length c0_6, .slice A0_7 l0_7.length c0_7, .slice A0_8 l0_8.length c0_8, .slice A0_9 l0_9.length c0_9, .string a0_10, .slice A0_11 l0_11.length c0_11, .int .u64 a0_12, .slice A0_13 l0_13.length c0_13] 38 (0, 0)) (by (with_reducible repeat (first | refine blk_drewN ?_ _ | refine blk_drew ?_ | refine blk_alloc ?_ _)); exact BK101.out)) : gb102 ≠ gb101)); clear BK101; clear HB; have BK101 := n0_; have HB := n1_; have BK102 := n2_; have GW102 := n3_; have GE102 := n4_; have NB101_102 := n5_; have NB102_101 := n6_; clear n0_ n1_ n2_ n3_ n4_ n5_ n6_; clear hb hbox hg))
  have n0_ := Aside0.mk (blk_drew BK101.out)
  have n1_ := Aside0.mk (blk_drew BK102.out)
  have n2_ := Aside0.mk (below_drew1 HB.out)
  clear BK101
  clear BK102
  clear HB
  have BK101 := n0_
  have BK102 := n1_
  have HB := n2_
  clear n0_ n1_ n2_
  refine start_ (n := 10) (S := fun w' => w'.cell? ⟨gb101, 0, none⟩ = some (.int .i64 a0_0) ∧ w'.cell? ⟨gb101, 1, none⟩ = some (.int .i64 a0_1) ∧ w'.cell? ⟨gb101, 2, none⟩ = some (.int .i64 a0_2) ∧ w'.cell? ⟨gb101, 3, none⟩ = some (.int .i64 a0_3) ∧ w'.cell? ⟨gb101, 4, none⟩ = some (.int .u64 a0_4) ∧ w'.cell? ⟨gb101, 5, none⟩ = some (.slice A0_5 l0_5.length c0_5) ∧ w'.cell? ⟨gb101, 6, none⟩ = some (.slice A0_6 l0_6.length c0_6) ∧ w'.cell? ⟨gb101, 7, none⟩ = some (.slice A0_7 l0_7.length c0_7) ∧ w'.cell? ⟨gb101, 8, none⟩ = some (.slice A0_8 l0_8.length c0_8) ∧ w'.cell? ⟨gb101, 9, none⟩ = some (.slice A0_9 l0_9.length c0_9) ∧ w'.cell? ⟨gb101, 10, none⟩ = some (.string a0_10) ∧ w'.cell? ⟨gb101, 11, none⟩ = some (.slice A0_11 l0_11.length c0_11) ∧ w'.cell? ⟨gb101, 12, none⟩ = some (.int .u64 a0_12) ∧ w'.cell? ⟨gb101, 13, none⟩ = some (.slice A0_13 l0_13.length c0_13)) (ds := [7, 9]) #[false, false, false, false, false, false, false, false, false, false] (by kernel_rfl) rfl rfl ⟨(blk_cell BK101.out 0).trans rfl, (blk_cell BK101.out 1).trans rfl, (blk_cell BK101.out 2).trans rfl, (blk_cell BK101.out 3).trans rfl, (blk_cell BK101.out 4).trans rfl, (blk_cell BK101.out 5).trans rfl, (blk_cell BK101.out 6).trans rfl, (blk_cell BK101.out 7).trans rfl, (blk_cell BK101.out 8).trans rfl, (blk_cell BK101.out 9).trans rfl, (blk_cell BK101.out 10).trans rfl, (blk_cell BK101.out 11).trans rfl, (blk_cell BK101.out 12).trans rfl, (blk_cell BK101.out 13).trans rfl⟩ (fun hHeld => ?_); refine with_tabW snap_Snap_Copy.tab1 snap_Snap_Copy.bits1 (fun HT_ HW_ => ?_)
  generalize w10.drew = w11 at BK101 BK102 HB hHeld ⊢
  refine pure_ (i := 0) (N := some 3) (v := ?_) (a' := ?_) #[true, false, false, false, false, false, false, false, false, false] rfl rfl (any_of HT_.out (by kernel_rfl)) (fun _ _ _ h => h) (Or.inl ⟨by rfl, ?_⟩) ?_ ?_
  rotate_left
  · intro w'
    go_simp
    with_reducible rfl
  rotate_left
  · simp only [Act.put, List.setIfInBounds_toArray, List.set_cons_zero, List.set_cons_succ, i64_w, i32_w]
    rfl
  refine pure_ (i := 3) (N := some 6) (v := ?_) (a' := ?_) #[true, false, false, true, false, false, false, false, false, false] rfl rfl (any_of HT_.out (by kernel_rfl)) (fun _ _ _ h => h) (Or.inl ⟨by rfl, ?_⟩) ?_ ?_
  rotate_left
  · intro w'
    go_simp
    with_reducible rfl
  rotate_left
  · simp only [Act.put, List.setIfInBounds_toArray, List.set_cons_zero, List.set_cons_succ, i64_w, i32_w]
    rfl
  refine take_ (i := 1) (N := some 4) (v := ?_) (a' := ?_) #[true, true, false, true, false, false, false, false, false, false] rfl rfl (take_ofW HT_.out HW_.out (by kernel_rfl)) (fun _ _ _ h => h) (Or.inl ⟨by rfl, ?_⟩) hHeld ?_ ?_
  rotate_left
  · rintro w' ⟨s0, s1, s2, s3, s4, s5, s6, s7, s8, s9, s10, s11, s12, s13⟩
    go_simp
    with_reducible rfl
  rotate_left
  · simp only [Act.put, List.setIfInBounds_toArray, List.set_cons_zero, List.set_cons_succ, i64_w, i32_w]
    rfl
  refine take_ (i := 4) (N := some 7) (v := ?_) (a' := ?_) #[true, true, false, true, true, false, false, false, false, false] rfl rfl (take_ofW HT_.out HW_.out (by kernel_rfl)) (fun _ _ _ h => h) (Or.inl ⟨by rfl, ?_⟩) hHeld ?_ ?_
  rotate_left
  · rintro w' ⟨s0, s1, s2, s3, s4, s5, s6, s7, s8, s9, s10, s11, s12, s13⟩
    go_simp
    with_reducible rfl
  rotate_left
  · simp only [Act.put, List.setIfInBounds_toArray, List.set_cons_zero, List.set_cons_succ, i64_w, i32_w]
    rfl
  refine one_ (i := 2) (N := some 5) #[true, true, true, true, true, false, false, false, false, false] rfl rfl (one_of HT_.out (by kernel_rfl)) (by decide) (fun K hK => ?_)
  refine goes_ Try.func29 (by kernel_rfl) rfl #[.slice A0_5 l0_5.length c0_5] (by rfl) rfl rfl (by (try simp only [List.map_toArray, List.map_cons, List.map_nil]); first | done | rfl | (simp only [List.length_drop, List.length_take]; rfl)) ?_
  with_reducible refine (bits_Set_29.calls _ _ l0_5 t103 _ ?side1 ?side2 A2.out).mono ?_
  (case side1 => repeat (first | exact (Kd.C_below HR0_5.out HB.out) | (with_reducible refine Kd.C_alloc ?_ _) | (with_reducible refine Kd.C_drewN ?_ _) | (with_reducible refine Kd.C_drew ?_)))
  (case side2 => exact HC0_5.out)
  rintro e w12 ⟨v104, rfl, ho0, hb⟩
  refine ⟨_, rfl, ?_⟩
  have n0_ := Aside0.mk (Kd.R_lower ho0 (below_size (by repeat (first | (with_reducible first | exact HB.out | apply below_alloc | apply pw_below_drewN | apply below_drew1 | refine below_set ?_ GE101.out | refine below_set ?_ GE102.out) | exact HB.out))))
  have n1_ := Aside0.mk (blk_below (g := gb101) (o := .cells #[.int .i64 a0_0, .int .i64 a0_1, .int .i64 a0_2, .int .i64 a0_3, .int .u64 a0_4, .slice A0_5 l0_5.length c0_5, .slice A0_6 l0_6.length c0_6, .slice A0_7 l0_7.length c0_7, .slice A0_8 l0_8.length c0_8, .slice A0_9 l0_9.length c0_9, .string a0_10, .slice A0_11 l0_11.length c0_11, .int .u64 a0_12, .slice A0_13 l0_13.length c0_13] 38 (0, 0)) (by (with_reducible repeat (first | refine blk_drewN ?_ _ | refine blk_drew ?_ | refine blk_alloc ?_ _)); exact BK101.out) hb)
  have n2_ := Aside0.mk (blk_below (g := gb102) (o := .cells #[.int .i64 0, .int .i64 0, .int .i64 0, .int .i64 0, .int .u64 0, .slice none 0 0, .slice none 0 0, .slice none 0 0, .slice none 0 0, .slice none 0 0, .string (⟨#[]⟩ : ByteArray), .slice none 0 0, .int .u64 0, .slice none 0 0] 38 (0, 0)) (by (with_reducible repeat (first | refine blk_drewN ?_ _ | refine blk_drew ?_ | refine blk_alloc ?_ _)); exact BK102.out) hb)
  have n3_ := Aside0.mk (below_step (by repeat (first | (with_reducible first | exact HB.out | apply below_alloc | apply pw_below_drewN | apply below_drew1 | refine below_set ?_ GE101.out | refine below_set ?_ GE102.out) | exact HB.out)) hb)
  clear BK101
  clear BK102
  clear HB
  have HO105 := n0_
  have BK101 := n1_
  have BK102 := n2_
  have HB := n3_
  clear n0_ n1_ n2_ n3_
  (try clear hb)
  (try clear hb2)
  (try clear hk)
  (try clear hi)
  (try clear ho0)
  refine hK.out _ _ ⟨(blk_cell BK101.out 0).trans rfl, (blk_cell BK101.out 1).trans rfl, (blk_cell BK101.out 2).trans rfl, (blk_cell BK101.out 3).trans rfl, (blk_cell BK101.out 4).trans rfl, (blk_cell BK101.out 5).trans rfl, (blk_cell BK101.out 6).trans rfl, (blk_cell BK101.out 7).trans rfl, (blk_cell BK101.out 8).trans rfl, (blk_cell BK101.out 9).trans rfl, (blk_cell BK101.out 10).trans rfl, (blk_cell BK101.out 11).trans rfl, (blk_cell BK101.out 12).trans rfl, (blk_cell BK101.out 13).trans rfl⟩ (fun hHeld => ?_)
  clear hK K
  refine norm_ (a' := ?_) ?_ ?_
  rotate_left
  · show Act.put _ (some 5) _ = _
    simp only [Act.put, List.setIfInBounds_toArray, List.set_cons_zero, List.set_cons_succ, i64_w, i32_w]
    rfl
  refine pure_ (i := 6) (N := some 9) (v := ?_) (a' := ?_) #[true, true, true, true, true, false, true, false, false, false] rfl rfl (any_of HT_.out (by kernel_rfl)) (fun _ _ _ h => h) (Or.inl ⟨by rfl, ?_⟩) ?_ ?_
  rotate_left
  · intro w'
    go_simp
    with_reducible rfl
  rotate_left
  · simp only [Act.put, List.setIfInBounds_toArray, List.set_cons_zero, List.set_cons_succ, i64_w, i32_w]
    rfl
  refine one_ (i := 5) (N := some 8) #[true, true, true, true, true, true, true, false, false, false] rfl rfl (one_of HT_.out (by kernel_rfl)) (by decide) (fun K hK => ?_)
  refine goes_ Try.func30 (by kernel_rfl) rfl #[.slice A0_6 l0_6.length c0_6] (by rfl) rfl rfl (by (try simp only [List.map_toArray, List.map_cons, List.map_nil]); first | done | rfl | (simp only [List.length_drop, List.length_take]; rfl)) ?_
  with_reducible refine (val_Value_30.calls _ _ l0_6 t106 _ ?side1 ?side2 A3.out).mono ?_
  (case side1 => repeat (first | exact (Kd.C_below HR0_6.out HB.out) | (with_reducible refine Kd.C_alloc ?_ _) | (with_reducible refine Kd.C_drewN ?_ _) | (with_reducible refine Kd.C_drew ?_)))
  (case side2 => exact HC0_6.out)
  rintro e w13 ⟨v107, rfl, ho0, hb⟩
  refine ⟨_, rfl, ?_⟩
  have n0_ := Aside0.mk (Kd.R_below (by (with_reducible repeat (first | apply Kd.R_alloc | apply Kd.R_drewN | apply Kd.R_drew)); exact HO105.out) hb)
  have n1_ := Aside0.mk (Kd.R_lower ho0 (below_size (by repeat (first | (with_reducible first | exact HB.out | apply below_alloc | apply pw_below_drewN | apply below_drew1 | refine below_set ?_ GE101.out | refine below_set ?_ GE102.out) | exact HB.out))))
  have n2_ := Aside0.mk (blk_below (g := gb101) (o := .cells #[.int .i64 a0_0, .int .i64 a0_1, .int .i64 a0_2, .int .i64 a0_3, .int .u64 a0_4, .slice A0_5 l0_5.length c0_5, .slice A0_6 l0_6.length c0_6, .slice A0_7 l0_7.length c0_7, .slice A0_8 l0_8.length c0_8, .slice A0_9 l0_9.length c0_9, .string a0_10, .slice A0_11 l0_11.length c0_11, .int .u64 a0_12, .slice A0_13 l0_13.length c0_13] 38 (0, 0)) (by (with_reducible repeat (first | refine blk_drewN ?_ _ | refine blk_drew ?_ | refine blk_alloc ?_ _)); exact BK101.out) hb)
  have n3_ := Aside0.mk (blk_below (g := gb102) (o := .cells #[.int .i64 0, .int .i64 0, .int .i64 0, .int .i64 0, .int .u64 0, .slice none 0 0, .slice none 0 0, .slice none 0 0, .slice none 0 0, .slice none 0 0, .string (⟨#[]⟩ : ByteArray), .slice none 0 0, .int .u64 0, .slice none 0 0] 38 (0, 0)) (by (with_reducible repeat (first | refine blk_drewN ?_ _ | refine blk_drew ?_ | refine blk_alloc ?_ _)); exact BK102.out) hb)
  have n4_ := Aside0.mk (below_step (by repeat (first | (with_reducible first | exact HB.out | apply below_alloc | apply pw_below_drewN | apply below_drew1 | refine below_set ?_ GE101.out | refine below_set ?_ GE102.out) | exact HB.out)) hb)
  clear HO105
  clear BK101
  clear BK102
  clear HB
  have HO105 := n0_
  have HO108 := n1_
  have BK101 := n2_
  have BK102 := n3_
  have HB := n4_
  clear n0_ n1_ n2_ n3_ n4_
  (try clear hb)
  (try clear hb2)
  (try clear hk)
  (try clear hi)
  (try clear ho0)
  obtain ⟨Ao14, co14, eo14⟩ := Kd.R_slice HO105.out
  (first | subst eo14 | (injection eo14 with f1_ f2_ f3_; have f4_ := f1_.symm; have f5_ := f3_.symm; clear f1_ f2_ f3_; subst f4_; subst f5_))
  obtain ⟨Ao16, co16, eo16⟩ := Kd.R_slice HO108.out
  (first | subst eo16 | (injection eo16 with f1_ f2_ f3_; have f4_ := f1_.symm; have f5_ := f3_.symm; clear f1_ f2_ f3_; subst f4_; subst f5_))
  refine hK.out _ _ ⟨(blk_cell BK101.out 0).trans rfl, (blk_cell BK101.out 1).trans rfl, (blk_cell BK101.out 2).trans rfl, (blk_cell BK101.out 3).trans rfl, (blk_cell BK101.out 4).trans rfl, (blk_cell BK101.out 5).trans rfl, (blk_cell BK101.out 6).trans rfl, (blk_cell BK101.out 7).trans rfl, (blk_cell BK101.out 8).trans rfl, (blk_cell BK101.out 9).trans rfl, (blk_cell BK101.out 10).trans rfl, (blk_cell BK101.out 11).trans rfl, (blk_cell BK101.out 12).trans rfl, (blk_cell BK101.out 13).trans rfl⟩ (fun hHeld => ?_)
  clear hK K
  refine norm_ (a' := ?_) ?_ ?_
  rotate_left
  · show Act.put _ (some 8) _ = _
    simp only [Act.put, List.setIfInBounds_toArray, List.set_cons_zero, List.set_cons_succ, i64_w, i32_w]
    rfl
  refine last_ (i := 7) (N := none) #[true, true, true, true, true, true, true, true, false, false] rfl rfl (one_of HT_.out (by kernel_rfl)) (by decide) (fun K hK => ?_)
  have hs15 : w13.cell? ⟨gb101, 5, none⟩ = some (.slice A0_5 l0_5.length c0_5) := (blk_cell BK101.out 5).trans rfl
  have hfs15 := blk_frozen BK101.out 5
  have hns15_1 := NB102_101.out
  have hms15_1 := NB101_102.out
  refine skip_ (w1 := ?_) (by rfl) rfl ?_ ?_
  rotate_left
  · go_simp
    rfl
  refine hK.out _ _ ?_
  clear hK K
  refine pure_ (i := 8) (N := some 10) (v := ?_) (a' := ?_) #[true, true, true, true, true, true, true, true, true, false] rfl rfl (any_of HT_.out (by kernel_rfl)) (fun _ _ _ h => h) (Or.inl ⟨by rfl, ?_⟩) ?_ ?_
  rotate_left
  · intro w'
    go_simp
    with_reducible rfl
  rotate_left
  · simp only [Act.put, List.setIfInBounds_toArray, List.set_cons_zero, List.set_cons_succ, i64_w, i32_w]
    rfl
  refine last_ (i := 9) (N := none) #[true, true, true, true, true, true, true, true, true, true] rfl rfl (one_of HT_.out (by kernel_rfl)) (by decide) (fun K hK => ?_)
  have hs17 : w13.cell? ⟨gb101, 6, none⟩ = some (.slice A0_6 l0_6.length c0_6) := (blk_cell BK101.out 6).trans rfl
  have hfs17 := blk_frozen BK101.out 6
  have hns17_1 := NB102_101.out
  have hms17_1 := NB101_102.out
  refine skip_ (w1 := ?_) (by rfl) rfl ?_ ?_
  rotate_left
  · go_simp
    rfl
  refine hK.out _ _ ?_
  clear hK K
  refine done_ (done_of HT_.out (by kernel_rfl)) ?_
  try go_wp2
  have n0_ : Aside0 (Kd.R (Kd.int .u64) 29 ((w13.setCell ⟨gb101, 5, none⟩ (.slice Ao14 t103.length co14)).setCell ⟨gb101, 6, none⟩ (.slice Ao16 t106.length co16)) w.heap.size (fun _ => True) (.slice Ao14 t103.length co14) t103) := ⟨by (with_reducible repeat (first | apply Kd.R_alloc | apply Kd.R_drewN | apply Kd.R_drew)); exact Kd.R_mono (Kd.R_far (p := ⟨gb101, 6, none⟩) (Kd.R_far (p := ⟨gb101, 5, none⟩) (Kd.R_types HO105.out BK101.out (by decide)) (fun _ hk => hk.2) (.slice Ao14 t103.length co14)) (fun _ hk => hk.2) (.slice Ao16 t106.length co16)) (fun _ hk => trivial)⟩
  have n1_ : Aside0 (Kd.R k78 78 ((w13.setCell ⟨gb101, 5, none⟩ (.slice Ao14 t103.length co14)).setCell ⟨gb101, 6, none⟩ (.slice Ao16 t106.length co16)) w.heap.size (fun _ => True) (.slice Ao16 t106.length co16) t106) := ⟨by (with_reducible repeat (first | apply Kd.R_alloc | apply Kd.R_drewN | apply Kd.R_drew)); exact Kd.R_mono (Kd.R_far (p := ⟨gb101, 6, none⟩) (Kd.R_far (p := ⟨gb101, 5, none⟩) (Kd.R_types HO108.out BK101.out (by decide)) (fun _ hk => hk.2) (.slice Ao14 t103.length co14)) (fun _ hk => hk.2) (.slice Ao16 t106.length co16)) (fun _ hk => trivial)⟩
  have n2_ : Aside0 (((w13.setCell ⟨gb101, 5, none⟩ (.slice Ao14 t103.length co14)).setCell ⟨gb101, 6, none⟩ (.slice Ao16 t106.length co16)).heap[gb101]? = some (.cells #[.int .i64 a0_0, .int .i64 a0_1, .int .i64 a0_2, .int .i64 a0_3, .int .u64 a0_4, .slice Ao14 t103.length co14, .slice Ao16 t106.length co16, .slice A0_7 l0_7.length c0_7, .slice A0_8 l0_8.length c0_8, .slice A0_9 l0_9.length c0_9, .string a0_10, .slice A0_11 l0_11.length c0_11, .int .u64 a0_12, .slice A0_13 l0_13.length c0_13] 38 (0, 0))) := ⟨by (with_reducible repeat (first | refine blk_drewN ?_ _ | refine blk_drew ?_ | refine blk_alloc ?_ _)); refine blk_put (cs := #[.int .i64 a0_0, .int .i64 a0_1, .int .i64 a0_2, .int .i64 a0_3, .int .u64 a0_4, .slice Ao14 t103.length co14, .slice A0_6 l0_6.length c0_6, .slice A0_7 l0_7.length c0_7, .slice A0_8 l0_8.length c0_8, .slice A0_9 l0_9.length c0_9, .string a0_10, .slice A0_11 l0_11.length c0_11, .int .u64 a0_12, .slice A0_13 l0_13.length c0_13]) ?_ 6 _ rfl; (with_reducible repeat (first | refine blk_drewN ?_ _ | refine blk_drew ?_ | refine blk_alloc ?_ _)); refine blk_put (cs := #[.int .i64 a0_0, .int .i64 a0_1, .int .i64 a0_2, .int .i64 a0_3, .int .u64 a0_4, .slice A0_5 l0_5.length c0_5, .slice A0_6 l0_6.length c0_6, .slice A0_7 l0_7.length c0_7, .slice A0_8 l0_8.length c0_8, .slice A0_9 l0_9.length c0_9, .string a0_10, .slice A0_11 l0_11.length c0_11, .int .u64 a0_12, .slice A0_13 l0_13.length c0_13]) ?_ 5 _ rfl; (with_reducible repeat (first | refine blk_drewN ?_ _ | refine blk_drew ?_ | refine blk_alloc ?_ _)); exact BK101.out⟩
  have n3_ : Aside0 (((w13.setCell ⟨gb101, 5, none⟩ (.slice Ao14 t103.length co14)).setCell ⟨gb101, 6, none⟩ (.slice Ao16 t106.length co16)).heap[gb102]? = some (.cells #[.int .i64 0, .int .i64 0, .int .i64 0, .int .i64 0, .int .u64 0, .slice none 0 0, .slice none 0 0, .slice none 0 0, .slice none 0 0, .slice none 0 0, .string (⟨#[]⟩ : ByteArray), .slice none 0 0, .int .u64 0, .slice none 0 0] 38 (0, 0))) := ⟨by (with_reducible repeat (first | refine blk_drewN ?_ _ | refine blk_drew ?_ | refine blk_alloc ?_ _)); refine blk_far ?_ NB102_101.out _; (with_reducible repeat (first | refine blk_drewN ?_ _ | refine blk_drew ?_ | refine blk_alloc ?_ _)); refine blk_far ?_ NB102_101.out _; (with_reducible repeat (first | refine blk_drewN ?_ _ | refine blk_drew ?_ | refine blk_alloc ?_ _)); exact BK102.out⟩
  have n4_ : Aside0 (Below w.heap.size w ((w13.setCell ⟨gb101, 5, none⟩ (.slice Ao14 t103.length co14)).setCell ⟨gb101, 6, none⟩ (.slice Ao16 t106.length co16))) := ⟨by repeat (first | (with_reducible first | exact HB.out | apply below_alloc | apply pw_below_drewN | apply below_drew1 | refine below_set ?_ GE101.out | refine below_set ?_ GE102.out) | exact HB.out)⟩
  (try clear HO105)
  (try clear HO108)
  (try clear BK101)
  (try clear BK102)
  (try clear HB)
  generalize ((w13.setCell ⟨gb101, 5, none⟩ (.slice Ao14 t103.length co14)).setCell ⟨gb101, 6, none⟩ (.slice Ao16 t106.length co16)) = w18 at n0_ n1_ n2_ n3_ n4_ ⊢
  have HO105 := n0_
  have HO108 := n1_
  have BK101 := n2_
  have BK102 := n3_
  have HB := n4_
  clear n0_ n1_ n2_ n3_ n4_
  have n0_ := Aside0.mk (Kd.R_drew HO105.out)
  have n1_ := Aside0.mk (Kd.R_drew HO108.out)
  have n2_ := Aside0.mk (blk_drew BK101.out)
  have n3_ := Aside0.mk (blk_drew BK102.out)
  have n4_ := Aside0.mk (below_drew1 HB.out)
  clear HO105
  clear HO108
  clear BK101
  clear BK102
  clear HB
  have HO105 := n0_
  have HO108 := n1_
  have BK101 := n2_
  have BK102 := n3_
  have HB := n4_
  clear n0_ n1_ n2_ n3_ n4_
  refine start_ (n := 15) (S := fun w' => w'.cell? ⟨gb101, 0, none⟩ = some (.int .i64 a0_0) ∧ w'.cell? ⟨gb101, 1, none⟩ = some (.int .i64 a0_1) ∧ w'.cell? ⟨gb101, 2, none⟩ = some (.int .i64 a0_2) ∧ w'.cell? ⟨gb101, 3, none⟩ = some (.int .i64 a0_3) ∧ w'.cell? ⟨gb101, 4, none⟩ = some (.int .u64 a0_4) ∧ w'.cell? ⟨gb101, 5, none⟩ = some (.slice Ao14 t103.length co14) ∧ w'.cell? ⟨gb101, 6, none⟩ = some (.slice Ao16 t106.length co16) ∧ w'.cell? ⟨gb101, 7, none⟩ = some (.slice A0_7 l0_7.length c0_7) ∧ w'.cell? ⟨gb101, 8, none⟩ = some (.slice A0_8 l0_8.length c0_8) ∧ w'.cell? ⟨gb101, 9, none⟩ = some (.slice A0_9 l0_9.length c0_9) ∧ w'.cell? ⟨gb101, 10, none⟩ = some (.string a0_10) ∧ w'.cell? ⟨gb101, 11, none⟩ = some (.slice A0_11 l0_11.length c0_11) ∧ w'.cell? ⟨gb101, 12, none⟩ = some (.int .u64 a0_12) ∧ w'.cell? ⟨gb101, 13, none⟩ = some (.slice A0_13 l0_13.length c0_13)) (ds := [10, 12, 14]) #[false, false, false, false, false, false, false, false, false, false, false, false, false, false, false] (by kernel_rfl) rfl rfl ⟨(blk_cell BK101.out 0).trans rfl, (blk_cell BK101.out 1).trans rfl, (blk_cell BK101.out 2).trans rfl, (blk_cell BK101.out 3).trans rfl, (blk_cell BK101.out 4).trans rfl, (blk_cell BK101.out 5).trans rfl, (blk_cell BK101.out 6).trans rfl, (blk_cell BK101.out 7).trans rfl, (blk_cell BK101.out 8).trans rfl, (blk_cell BK101.out 9).trans rfl, (blk_cell BK101.out 10).trans rfl, (blk_cell BK101.out 11).trans rfl, (blk_cell BK101.out 12).trans rfl, (blk_cell BK101.out 13).trans rfl⟩ (fun hHeld => ?_); refine with_tabW snap_Snap_Copy.tab2 snap_Snap_Copy.bits2 (fun HT_ HW_ => ?_)
  generalize w18.drew = w19 at HO105 HO108 BK101 BK102 HB hHeld ⊢
  refine pure_ (i := 0) (N := some 11) (v := ?_) (a' := ?_) #[true, false, false, false, false, false, false, false, false, false, false, false, false, false, false] rfl rfl (any_of HT_.out (by kernel_rfl)) (fun _ _ _ h => h) (Or.inl ⟨by rfl, ?_⟩) ?_ ?_
  rotate_left
  · intro w'
    go_simp
    with_reducible rfl
  rotate_left
  · simp only [Act.put, List.setIfInBounds_toArray, List.set_cons_zero, List.set_cons_succ, i64_w, i32_w]
    rfl
  refine pure_ (i := 3) (N := some 14) (v := ?_) (a' := ?_) #[true, false, false, true, false, false, false, false, false, false, false, false, false, false, false] rfl rfl (any_of HT_.out (by kernel_rfl)) (fun _ _ _ h => h) (Or.inl ⟨by rfl, ?_⟩) ?_ ?_
  rotate_left
  · intro w'
    go_simp
    with_reducible rfl
  rotate_left
  · simp only [Act.put, List.setIfInBounds_toArray, List.set_cons_zero, List.set_cons_succ, i64_w, i32_w]
    rfl
  refine pure_ (i := 6) (N := some 17) (v := ?_) (a' := ?_) #[true, false, false, true, false, false, true, false, false, false, false, false, false, false, false] rfl rfl (any_of HT_.out (by kernel_rfl)) (fun _ _ _ h => h) (Or.inl ⟨by rfl, ?_⟩) ?_ ?_
  rotate_left
  · intro w'
    go_simp
    with_reducible rfl
  rotate_left
  · simp only [Act.put, List.setIfInBounds_toArray, List.set_cons_zero, List.set_cons_succ, i64_w, i32_w]
    rfl
  refine take_ (i := 1) (N := some 12) (v := ?_) (a' := ?_) #[true, true, false, true, false, false, true, false, false, false, false, false, false, false, false] rfl rfl (take_ofW HT_.out HW_.out (by kernel_rfl)) (fun _ _ _ h => h) (Or.inl ⟨by rfl, ?_⟩) hHeld ?_ ?_
  rotate_left
  · rintro w' ⟨s0, s1, s2, s3, s4, s5, s6, s7, s8, s9, s10, s11, s12, s13⟩
    go_simp
    with_reducible rfl
  rotate_left
  · simp only [Act.put, List.setIfInBounds_toArray, List.set_cons_zero, List.set_cons_succ, i64_w, i32_w]
    rfl
  refine take_ (i := 4) (N := some 15) (v := ?_) (a' := ?_) #[true, true, false, true, true, false, true, false, false, false, false, false, false, false, false] rfl rfl (take_ofW HT_.out HW_.out (by kernel_rfl)) (fun _ _ _ h => h) (Or.inl ⟨by rfl, ?_⟩) hHeld ?_ ?_
  rotate_left
  · rintro w' ⟨s0, s1, s2, s3, s4, s5, s6, s7, s8, s9, s10, s11, s12, s13⟩
    go_simp
    with_reducible rfl
  rotate_left
  · simp only [Act.put, List.setIfInBounds_toArray, List.set_cons_zero, List.set_cons_succ, i64_w, i32_w]
    rfl
  refine take_ (i := 7) (N := some 18) (v := ?_) (a' := ?_) #[true, true, false, true, true, false, true, true, false, false, false, false, false, false, false] rfl rfl (take_ofW HT_.out HW_.out (by kernel_rfl)) (fun _ _ _ h => h) (Or.inl ⟨by rfl, ?_⟩) hHeld ?_ ?_
  rotate_left
  · rintro w' ⟨s0, s1, s2, s3, s4, s5, s6, s7, s8, s9, s10, s11, s12, s13⟩
    go_simp
    with_reducible rfl
  rotate_left
  · simp only [Act.put, List.setIfInBounds_toArray, List.set_cons_zero, List.set_cons_succ, i64_w, i32_w]
    rfl
  refine one_ (i := 2) (N := some 13) #[true, true, true, true, true, false, true, true, false, false, false, false, false, false, false] rfl rfl (one_of HT_.out (by kernel_rfl)) (by decide) (fun K hK => ?_)
  refine goes_ Try.func31 (by kernel_rfl) rfl #[.slice A0_7 l0_7.length c0_7] (by rfl) rfl rfl (by (try simp only [List.map_toArray, List.map_cons, List.map_nil]); first | done | rfl | (simp only [List.length_drop, List.length_take]; rfl)) ?_
  with_reducible refine (slices_Clone_string_string.calls _ _ l0_7 t109 _ ?side1 ?side2 A4.out).mono ?_
  (case side1 => repeat (first | exact (Kd.C_below HR0_7.out HB.out) | (with_reducible refine Kd.C_alloc ?_ _) | (with_reducible refine Kd.C_drewN ?_ _) | (with_reducible refine Kd.C_drew ?_)))
  (case side2 => exact HC0_7.out)
  rintro e w20 ⟨v110, rfl, ho0, hb⟩
  refine ⟨_, rfl, ?_⟩
  have n0_ := Aside0.mk (Kd.R_below (by (with_reducible repeat (first | apply Kd.R_alloc | apply Kd.R_drewN | apply Kd.R_drew)); exact HO105.out) hb)
  have n1_ := Aside0.mk (Kd.R_below (by (with_reducible repeat (first | apply Kd.R_alloc | apply Kd.R_drewN | apply Kd.R_drew)); exact HO108.out) hb)
  have n2_ := Aside0.mk (Kd.R_lower ho0 (below_size (by repeat (first | (with_reducible first | exact HB.out | apply below_alloc | apply pw_below_drewN | apply below_drew1 | refine below_set ?_ GE101.out | refine below_set ?_ GE102.out) | exact HB.out))))
  have n3_ := Aside0.mk (blk_below (g := gb101) (o := .cells #[.int .i64 a0_0, .int .i64 a0_1, .int .i64 a0_2, .int .i64 a0_3, .int .u64 a0_4, .slice Ao14 t103.length co14, .slice Ao16 t106.length co16, .slice A0_7 l0_7.length c0_7, .slice A0_8 l0_8.length c0_8, .slice A0_9 l0_9.length c0_9, .string a0_10, .slice A0_11 l0_11.length c0_11, .int .u64 a0_12, .slice A0_13 l0_13.length c0_13] 38 (0, 0)) (by (with_reducible repeat (first | refine blk_drewN ?_ _ | refine blk_drew ?_ | refine blk_alloc ?_ _)); exact BK101.out) hb)
  have n4_ := Aside0.mk (blk_below (g := gb102) (o := .cells #[.int .i64 0, .int .i64 0, .int .i64 0, .int .i64 0, .int .u64 0, .slice none 0 0, .slice none 0 0, .slice none 0 0, .slice none 0 0, .slice none 0 0, .string (⟨#[]⟩ : ByteArray), .slice none 0 0, .int .u64 0, .slice none 0 0] 38 (0, 0)) (by (with_reducible repeat (first | refine blk_drewN ?_ _ | refine blk_drew ?_ | refine blk_alloc ?_ _)); exact BK102.out) hb)
  have n5_ := Aside0.mk (below_step (by repeat (first | (with_reducible first | exact HB.out | apply below_alloc | apply pw_below_drewN | apply below_drew1 | refine below_set ?_ GE101.out | refine below_set ?_ GE102.out) | exact HB.out)) hb)
  clear HO105
  clear HO108
  clear BK101
  clear BK102
  clear HB
  have HO105 := n0_
  have HO108 := n1_
  have HO111 := n2_
  have BK101 := n3_
  have BK102 := n4_
  have HB := n5_
  clear n0_ n1_ n2_ n3_ n4_ n5_
  (try clear hb)
  (try clear hb2)
  (try clear hk)
  (try clear hi)
  (try clear ho0)
  refine hK.out _ _ ⟨(blk_cell BK101.out 0).trans rfl, (blk_cell BK101.out 1).trans rfl, (blk_cell BK101.out 2).trans rfl, (blk_cell BK101.out 3).trans rfl, (blk_cell BK101.out 4).trans rfl, (blk_cell BK101.out 5).trans rfl, (blk_cell BK101.out 6).trans rfl, (blk_cell BK101.out 7).trans rfl, (blk_cell BK101.out 8).trans rfl, (blk_cell BK101.out 9).trans rfl, (blk_cell BK101.out 10).trans rfl, (blk_cell BK101.out 11).trans rfl, (blk_cell BK101.out 12).trans rfl, (blk_cell BK101.out 13).trans rfl⟩ (fun hHeld => ?_)
  clear hK K
  refine norm_ (a' := ?_) ?_ ?_
  rotate_left
  · show Act.put _ (some 13) _ = _
    simp only [Act.put, List.setIfInBounds_toArray, List.set_cons_zero, List.set_cons_succ, i64_w, i32_w]
    rfl
  refine pure_ (i := 9) (N := some 20) (v := ?_) (a' := ?_) #[true, true, true, true, true, false, true, true, false, true, false, false, false, false, false] rfl rfl (any_of HT_.out (by kernel_rfl)) (fun _ _ _ h => h) (Or.inl ⟨by rfl, ?_⟩) ?_ ?_
  rotate_left
  · intro w'
    go_simp
    with_reducible rfl
  rotate_left
  · simp only [Act.put, List.setIfInBounds_toArray, List.set_cons_zero, List.set_cons_succ, i64_w, i32_w]
    rfl
  refine one_ (i := 5) (N := some 16) #[true, true, true, true, true, true, true, true, false, true, false, false, false, false, false] rfl rfl (one_of HT_.out (by kernel_rfl)) (by decide) (fun K hK => ?_)
  refine goes_ Try.func31 (by kernel_rfl) rfl #[.slice A0_8 l0_8.length c0_8] (by rfl) rfl rfl (by (try simp only [List.map_toArray, List.map_cons, List.map_nil]); first | done | rfl | (simp only [List.length_drop, List.length_take]; rfl)) ?_
  with_reducible refine (slices_Clone_string_string.calls _ _ l0_8 t112 _ ?side1 ?side2 A5.out).mono ?_
  (case side1 => repeat (first | exact (Kd.C_below HR0_8.out HB.out) | (with_reducible refine Kd.C_alloc ?_ _) | (with_reducible refine Kd.C_drewN ?_ _) | (with_reducible refine Kd.C_drew ?_)))
  (case side2 => exact HC0_8.out)
  rintro e w21 ⟨v113, rfl, ho0, hb⟩
  refine ⟨_, rfl, ?_⟩
  have n0_ := Aside0.mk (Kd.R_below (by (with_reducible repeat (first | apply Kd.R_alloc | apply Kd.R_drewN | apply Kd.R_drew)); exact HO105.out) hb)
  have n1_ := Aside0.mk (Kd.R_below (by (with_reducible repeat (first | apply Kd.R_alloc | apply Kd.R_drewN | apply Kd.R_drew)); exact HO108.out) hb)
  have n2_ := Aside0.mk (Kd.R_elder' (by (with_reducible repeat (first | apply Kd.R_alloc | apply Kd.R_drewN | apply Kd.R_drew)); exact HO111.out) (Kd.R_base ho0) hb)
  have n3_ := Aside0.mk (Kd.R_lower (Kd.R_new' ho0 (Kd.R_lt (by (with_reducible repeat (first | apply Kd.R_alloc | apply Kd.R_drewN | apply Kd.R_drew)); exact HO111.out))) (below_size (by repeat (first | (with_reducible first | exact HB.out | apply below_alloc | apply pw_below_drewN | apply below_drew1 | refine below_set ?_ GE101.out | refine below_set ?_ GE102.out) | exact HB.out))))
  have n4_ := Aside0.mk (blk_below (g := gb101) (o := .cells #[.int .i64 a0_0, .int .i64 a0_1, .int .i64 a0_2, .int .i64 a0_3, .int .u64 a0_4, .slice Ao14 t103.length co14, .slice Ao16 t106.length co16, .slice A0_7 l0_7.length c0_7, .slice A0_8 l0_8.length c0_8, .slice A0_9 l0_9.length c0_9, .string a0_10, .slice A0_11 l0_11.length c0_11, .int .u64 a0_12, .slice A0_13 l0_13.length c0_13] 38 (0, 0)) (by (with_reducible repeat (first | refine blk_drewN ?_ _ | refine blk_drew ?_ | refine blk_alloc ?_ _)); exact BK101.out) hb)
  have n5_ := Aside0.mk (blk_below (g := gb102) (o := .cells #[.int .i64 0, .int .i64 0, .int .i64 0, .int .i64 0, .int .u64 0, .slice none 0 0, .slice none 0 0, .slice none 0 0, .slice none 0 0, .slice none 0 0, .string (⟨#[]⟩ : ByteArray), .slice none 0 0, .int .u64 0, .slice none 0 0] 38 (0, 0)) (by (with_reducible repeat (first | refine blk_drewN ?_ _ | refine blk_drew ?_ | refine blk_alloc ?_ _)); exact BK102.out) hb)
  have n6_ := Aside0.mk (below_step (by repeat (first | (with_reducible first | exact HB.out | apply below_alloc | apply pw_below_drewN | apply below_drew1 | refine below_set ?_ GE101.out | refine below_set ?_ GE102.out) | exact HB.out)) hb)
  clear HO105
  clear HO108
  clear HO111
  clear BK101
  clear BK102
  clear HB
  have HO105 := n0_
  have HO108 := n1_
  have HO111 := n2_
  have HO114 := n3_
  have BK101 := n4_
  have BK102 := n5_
  have HB := n6_
  clear n0_ n1_ n2_ n3_ n4_ n5_ n6_
  (try clear hb)
  (try clear hb2)
  (try clear hk)
  (try clear hi)
  (try clear ho0)
  refine hK.out _ _ ⟨(blk_cell BK101.out 0).trans rfl, (blk_cell BK101.out 1).trans rfl, (blk_cell BK101.out 2).trans rfl, (blk_cell BK101.out 3).trans rfl, (blk_cell BK101.out 4).trans rfl, (blk_cell BK101.out 5).trans rfl, (blk_cell BK101.out 6).trans rfl, (blk_cell BK101.out 7).trans rfl, (blk_cell BK101.out 8).trans rfl, (blk_cell BK101.out 9).trans rfl, (blk_cell BK101.out 10).trans rfl, (blk_cell BK101.out 11).trans rfl, (blk_cell BK101.out 12).trans rfl, (blk_cell BK101.out 13).trans rfl⟩ (fun hHeld => ?_)
  clear hK K
  refine norm_ (a' := ?_) ?_ ?_
  rotate_left
  · show Act.put _ (some 16) _ = _
    simp only [Act.put, List.setIfInBounds_toArray, List.set_cons_zero, List.set_cons_succ, i64_w, i32_w]
    rfl
  refine one_ (i := 8) (N := some 19) #[true, true, true, true, true, true, true, true, true, true, false, false, false, false, false] rfl rfl (one_of HT_.out (by kernel_rfl)) (by decide) (fun K hK => ?_)
  refine goes_ Try.func32 (by kernel_rfl) rfl #[.slice A0_9 l0_9.length c0_9] (by rfl) rfl rfl (by (try simp only [List.map_toArray, List.map_cons, List.map_nil]); first | done | rfl | (simp only [List.length_drop, List.length_take]; rfl)) ?_
  with_reducible refine (queue_Timer_32.calls _ _ l0_9 t115 _ ?side1 ?side2 A6.out).mono ?_
  (case side1 => repeat (first | exact (Kd.C_below HR0_9.out HB.out) | (with_reducible refine Kd.C_alloc ?_ _) | (with_reducible refine Kd.C_drewN ?_ _) | (with_reducible refine Kd.C_drew ?_)))
  (case side2 => exact HC0_9.out)
  rintro e w22 ⟨v116, rfl, ho0, hb⟩
  refine ⟨_, rfl, ?_⟩
  have n0_ := Aside0.mk (Kd.R_below (by (with_reducible repeat (first | apply Kd.R_alloc | apply Kd.R_drewN | apply Kd.R_drew)); exact HO105.out) hb)
  have n1_ := Aside0.mk (Kd.R_below (by (with_reducible repeat (first | apply Kd.R_alloc | apply Kd.R_drewN | apply Kd.R_drew)); exact HO108.out) hb)
  have n2_ := Aside0.mk (Kd.R_below (by (with_reducible repeat (first | apply Kd.R_alloc | apply Kd.R_drewN | apply Kd.R_drew)); exact HO111.out) hb)
  have n3_ := Aside0.mk (Kd.R_below (by (with_reducible repeat (first | apply Kd.R_alloc | apply Kd.R_drewN | apply Kd.R_drew)); exact HO114.out) hb)
  have n4_ := Aside0.mk (Kd.R_lower ho0 (below_size (by repeat (first | (with_reducible first | exact HB.out | apply below_alloc | apply pw_below_drewN | apply below_drew1 | refine below_set ?_ GE101.out | refine below_set ?_ GE102.out) | exact HB.out))))
  have n5_ := Aside0.mk (blk_below (g := gb101) (o := .cells #[.int .i64 a0_0, .int .i64 a0_1, .int .i64 a0_2, .int .i64 a0_3, .int .u64 a0_4, .slice Ao14 t103.length co14, .slice Ao16 t106.length co16, .slice A0_7 l0_7.length c0_7, .slice A0_8 l0_8.length c0_8, .slice A0_9 l0_9.length c0_9, .string a0_10, .slice A0_11 l0_11.length c0_11, .int .u64 a0_12, .slice A0_13 l0_13.length c0_13] 38 (0, 0)) (by (with_reducible repeat (first | refine blk_drewN ?_ _ | refine blk_drew ?_ | refine blk_alloc ?_ _)); exact BK101.out) hb)
  have n6_ := Aside0.mk (blk_below (g := gb102) (o := .cells #[.int .i64 0, .int .i64 0, .int .i64 0, .int .i64 0, .int .u64 0, .slice none 0 0, .slice none 0 0, .slice none 0 0, .slice none 0 0, .slice none 0 0, .string (⟨#[]⟩ : ByteArray), .slice none 0 0, .int .u64 0, .slice none 0 0] 38 (0, 0)) (by (with_reducible repeat (first | refine blk_drewN ?_ _ | refine blk_drew ?_ | refine blk_alloc ?_ _)); exact BK102.out) hb)
  have n7_ := Aside0.mk (below_step (by repeat (first | (with_reducible first | exact HB.out | apply below_alloc | apply pw_below_drewN | apply below_drew1 | refine below_set ?_ GE101.out | refine below_set ?_ GE102.out) | exact HB.out)) hb)
  clear HO105
  clear HO108
  clear HO111
  clear HO114
  clear BK101
  clear BK102
  clear HB
  have HO105 := n0_
  have HO108 := n1_
  have HO111 := n2_
  have HO114 := n3_
  have HO117 := n4_
  have BK101 := n5_
  have BK102 := n6_
  have HB := n7_
  clear n0_ n1_ n2_ n3_ n4_ n5_ n6_ n7_
  (try clear hb)
  (try clear hb2)
  (try clear hk)
  (try clear hi)
  (try clear ho0)
  obtain ⟨Ao23, co23, eo23⟩ := Kd.R_slice HO111.out
  (first | subst eo23 | (injection eo23 with f1_ f2_ f3_; have f4_ := f1_.symm; have f5_ := f3_.symm; clear f1_ f2_ f3_; subst f4_; subst f5_))
  obtain ⟨Ao25, co25, eo25⟩ := Kd.R_slice HO114.out
  (first | subst eo25 | (injection eo25 with f1_ f2_ f3_; have f4_ := f1_.symm; have f5_ := f3_.symm; clear f1_ f2_ f3_; subst f4_; subst f5_))
  obtain ⟨Ao27, co27, eo27⟩ := Kd.R_slice HO117.out
  (first | subst eo27 | (injection eo27 with f1_ f2_ f3_; have f4_ := f1_.symm; have f5_ := f3_.symm; clear f1_ f2_ f3_; subst f4_; subst f5_))
  refine hK.out _ _ ⟨(blk_cell BK101.out 0).trans rfl, (blk_cell BK101.out 1).trans rfl, (blk_cell BK101.out 2).trans rfl, (blk_cell BK101.out 3).trans rfl, (blk_cell BK101.out 4).trans rfl, (blk_cell BK101.out 5).trans rfl, (blk_cell BK101.out 6).trans rfl, (blk_cell BK101.out 7).trans rfl, (blk_cell BK101.out 8).trans rfl, (blk_cell BK101.out 9).trans rfl, (blk_cell BK101.out 10).trans rfl, (blk_cell BK101.out 11).trans rfl, (blk_cell BK101.out 12).trans rfl, (blk_cell BK101.out 13).trans rfl⟩ (fun hHeld => ?_)
  clear hK K
  refine norm_ (a' := ?_) ?_ ?_
  rotate_left
  · show Act.put _ (some 19) _ = _
    simp only [Act.put, List.setIfInBounds_toArray, List.set_cons_zero, List.set_cons_succ, i64_w, i32_w]
    rfl
  refine last_ (i := 10) (N := none) #[true, true, true, true, true, true, true, true, true, true, true, false, false, false, false] rfl rfl (one_of HT_.out (by kernel_rfl)) (by decide) (fun K hK => ?_)
  have hs24 : w22.cell? ⟨gb101, 7, none⟩ = some (.slice A0_7 l0_7.length c0_7) := (blk_cell BK101.out 7).trans rfl
  have hfs24 := blk_frozen BK101.out 7
  have hns24_1 := NB102_101.out
  have hms24_1 := NB101_102.out
  refine skip_ (w1 := ?_) (by rfl) rfl ?_ ?_
  rotate_left
  · go_simp
    rfl
  refine hK.out _ _ ?_
  clear hK K
  refine pure_ (i := 11) (N := some 21) (v := ?_) (a' := ?_) #[true, true, true, true, true, true, true, true, true, true, true, true, false, false, false] rfl rfl (any_of HT_.out (by kernel_rfl)) (fun _ _ _ h => h) (Or.inl ⟨by rfl, ?_⟩) ?_ ?_
  rotate_left
  · intro w'
    go_simp
    with_reducible rfl
  rotate_left
  · simp only [Act.put, List.setIfInBounds_toArray, List.set_cons_zero, List.set_cons_succ, i64_w, i32_w]
    rfl
  refine last_ (i := 12) (N := none) #[true, true, true, true, true, true, true, true, true, true, true, true, true, false, false] rfl rfl (one_of HT_.out (by kernel_rfl)) (by decide) (fun K hK => ?_)
  have hs26 : w22.cell? ⟨gb101, 8, none⟩ = some (.slice A0_8 l0_8.length c0_8) := (blk_cell BK101.out 8).trans rfl
  have hfs26 := blk_frozen BK101.out 8
  have hns26_1 := NB102_101.out
  have hms26_1 := NB101_102.out
  refine skip_ (w1 := ?_) (by rfl) rfl ?_ ?_
  rotate_left
  · go_simp
    rfl
  refine hK.out _ _ ?_
  clear hK K
  refine pure_ (i := 13) (N := some 22) (v := ?_) (a' := ?_) #[true, true, true, true, true, true, true, true, true, true, true, true, true, true, false] rfl rfl (any_of HT_.out (by kernel_rfl)) (fun _ _ _ h => h) (Or.inl ⟨by rfl, ?_⟩) ?_ ?_
  rotate_left
  · intro w'
    go_simp
    with_reducible rfl
  rotate_left
  · simp only [Act.put, List.setIfInBounds_toArray, List.set_cons_zero, List.set_cons_succ, i64_w, i32_w]
    rfl
  refine last_ (i := 14) (N := none) #[true, true, true, true, true, true, true, true, true, true, true, true, true, true, true] rfl rfl (one_of HT_.out (by kernel_rfl)) (by decide) (fun K hK => ?_)
  have hs28 : w22.cell? ⟨gb101, 9, none⟩ = some (.slice A0_9 l0_9.length c0_9) := (blk_cell BK101.out 9).trans rfl
  have hfs28 := blk_frozen BK101.out 9
  have hns28_1 := NB102_101.out
  have hms28_1 := NB101_102.out
  refine skip_ (w1 := ?_) (by rfl) rfl ?_ ?_
  rotate_left
  · go_simp
    rfl
  refine hK.out _ _ ?_
  clear hK K
  refine done_ (done_of HT_.out (by kernel_rfl)) ?_
  try go_wp2
  have n0_ : Aside0 (Kd.R (Kd.int .u64) 29 (((w22.setCell ⟨gb101, 7, none⟩ (.slice Ao23 t109.length co23)).setCell ⟨gb101, 8, none⟩ (.slice Ao25 t112.length co25)).setCell ⟨gb101, 9, none⟩ (.slice Ao27 t115.length co27)) w.heap.size (fun _ => True) (.slice Ao14 t103.length co14) t103) := ⟨by (with_reducible repeat (first | apply Kd.R_alloc | apply Kd.R_drewN | apply Kd.R_drew)); exact Kd.R_mono (Kd.R_far (p := ⟨gb101, 9, none⟩) (Kd.R_far (p := ⟨gb101, 8, none⟩) (Kd.R_far (p := ⟨gb101, 7, none⟩) (Kd.R_types HO105.out BK101.out (by decide)) (fun _ hk => hk.2) (.slice Ao23 t109.length co23)) (fun _ hk => hk.2) (.slice Ao25 t112.length co25)) (fun _ hk => hk.2) (.slice Ao27 t115.length co27)) (fun _ hk => trivial)⟩
  have n1_ : Aside0 (Kd.R k78 78 (((w22.setCell ⟨gb101, 7, none⟩ (.slice Ao23 t109.length co23)).setCell ⟨gb101, 8, none⟩ (.slice Ao25 t112.length co25)).setCell ⟨gb101, 9, none⟩ (.slice Ao27 t115.length co27)) w.heap.size (fun _ => True) (.slice Ao16 t106.length co16) t106) := ⟨by (with_reducible repeat (first | apply Kd.R_alloc | apply Kd.R_drewN | apply Kd.R_drew)); exact Kd.R_mono (Kd.R_far (p := ⟨gb101, 9, none⟩) (Kd.R_far (p := ⟨gb101, 8, none⟩) (Kd.R_far (p := ⟨gb101, 7, none⟩) (Kd.R_types HO108.out BK101.out (by decide)) (fun _ hk => hk.2) (.slice Ao23 t109.length co23)) (fun _ hk => hk.2) (.slice Ao25 t112.length co25)) (fun _ hk => hk.2) (.slice Ao27 t115.length co27)) (fun _ hk => trivial)⟩
  have n2_ : Aside0 (Kd.R Kd.string 9 (((w22.setCell ⟨gb101, 7, none⟩ (.slice Ao23 t109.length co23)).setCell ⟨gb101, 8, none⟩ (.slice Ao25 t112.length co25)).setCell ⟨gb101, 9, none⟩ (.slice Ao27 t115.length co27)) w.heap.size (fun k_ => some k_ ≠ (.slice Ao25 t112.length co25 : Value).ownBlock) (.slice Ao23 t109.length co23) t109) := ⟨by (with_reducible repeat (first | apply Kd.R_alloc | apply Kd.R_drewN | apply Kd.R_drew)); exact Kd.R_mono (Kd.R_far (p := ⟨gb101, 9, none⟩) (Kd.R_far (p := ⟨gb101, 8, none⟩) (Kd.R_far (p := ⟨gb101, 7, none⟩) (Kd.R_types HO111.out BK101.out (by decide)) (fun _ hk => hk.2) (.slice Ao23 t109.length co23)) (fun _ hk => hk.2) (.slice Ao25 t112.length co25)) (fun _ hk => hk.2) (.slice Ao27 t115.length co27)) (fun _ hk => hk.1.2)⟩
  have n3_ : Aside0 (Kd.R Kd.string 9 (((w22.setCell ⟨gb101, 7, none⟩ (.slice Ao23 t109.length co23)).setCell ⟨gb101, 8, none⟩ (.slice Ao25 t112.length co25)).setCell ⟨gb101, 9, none⟩ (.slice Ao27 t115.length co27)) w.heap.size (fun k_ => some k_ ≠ (.slice Ao23 t109.length co23 : Value).ownBlock) (.slice Ao25 t112.length co25) t112) := ⟨by (with_reducible repeat (first | apply Kd.R_alloc | apply Kd.R_drewN | apply Kd.R_drew)); exact Kd.R_mono (Kd.R_far (p := ⟨gb101, 9, none⟩) (Kd.R_far (p := ⟨gb101, 8, none⟩) (Kd.R_far (p := ⟨gb101, 7, none⟩) (Kd.R_types HO114.out BK101.out (by decide)) (fun _ hk => hk.2) (.slice Ao23 t109.length co23)) (fun _ hk => hk.2) (.slice Ao25 t112.length co25)) (fun _ hk => hk.2) (.slice Ao27 t115.length co27)) (fun _ hk => hk.1.2)⟩
  have n4_ : Aside0 (Kd.R k82 82 (((w22.setCell ⟨gb101, 7, none⟩ (.slice Ao23 t109.length co23)).setCell ⟨gb101, 8, none⟩ (.slice Ao25 t112.length co25)).setCell ⟨gb101, 9, none⟩ (.slice Ao27 t115.length co27)) w.heap.size (fun _ => True) (.slice Ao27 t115.length co27) t115) := ⟨by (with_reducible repeat (first | apply Kd.R_alloc | apply Kd.R_drewN | apply Kd.R_drew)); exact Kd.R_mono (Kd.R_far (p := ⟨gb101, 9, none⟩) (Kd.R_far (p := ⟨gb101, 8, none⟩) (Kd.R_far (p := ⟨gb101, 7, none⟩) (Kd.R_types HO117.out BK101.out (by decide)) (fun _ hk => hk.2) (.slice Ao23 t109.length co23)) (fun _ hk => hk.2) (.slice Ao25 t112.length co25)) (fun _ hk => hk.2) (.slice Ao27 t115.length co27)) (fun _ hk => trivial)⟩
  have n5_ : Aside0 ((((w22.setCell ⟨gb101, 7, none⟩ (.slice Ao23 t109.length co23)).setCell ⟨gb101, 8, none⟩ (.slice Ao25 t112.length co25)).setCell ⟨gb101, 9, none⟩ (.slice Ao27 t115.length co27)).heap[gb101]? = some (.cells #[.int .i64 a0_0, .int .i64 a0_1, .int .i64 a0_2, .int .i64 a0_3, .int .u64 a0_4, .slice Ao14 t103.length co14, .slice Ao16 t106.length co16, .slice Ao23 t109.length co23, .slice Ao25 t112.length co25, .slice Ao27 t115.length co27, .string a0_10, .slice A0_11 l0_11.length c0_11, .int .u64 a0_12, .slice A0_13 l0_13.length c0_13] 38 (0, 0))) := ⟨by (with_reducible repeat (first | refine blk_drewN ?_ _ | refine blk_drew ?_ | refine blk_alloc ?_ _)); refine blk_put (cs := #[.int .i64 a0_0, .int .i64 a0_1, .int .i64 a0_2, .int .i64 a0_3, .int .u64 a0_4, .slice Ao14 t103.length co14, .slice Ao16 t106.length co16, .slice Ao23 t109.length co23, .slice Ao25 t112.length co25, .slice A0_9 l0_9.length c0_9, .string a0_10, .slice A0_11 l0_11.length c0_11, .int .u64 a0_12, .slice A0_13 l0_13.length c0_13]) ?_ 9 _ rfl; (with_reducible repeat (first | refine blk_drewN ?_ _ | refine blk_drew ?_ | refine blk_alloc ?_ _)); refine blk_put (cs := #[.int .i64 a0_0, .int .i64 a0_1, .int .i64 a0_2, .int .i64 a0_3, .int .u64 a0_4, .slice Ao14 t103.length co14, .slice Ao16 t106.length co16, .slice Ao23 t109.length co23, .slice A0_8 l0_8.length c0_8, .slice A0_9 l0_9.length c0_9, .string a0_10, .slice A0_11 l0_11.length c0_11, .int .u64 a0_12, .slice A0_13 l0_13.length c0_13]) ?_ 8 _ rfl; (with_reducible repeat (first | refine blk_drewN ?_ _ | refine blk_drew ?_ | refine blk_alloc ?_ _)); refine blk_put (cs := #[.int .i64 a0_0, .int .i64 a0_1, .int .i64 a0_2, .int .i64 a0_3, .int .u64 a0_4, .slice Ao14 t103.length co14, .slice Ao16 t106.length co16, .slice A0_7 l0_7.length c0_7, .slice A0_8 l0_8.length c0_8, .slice A0_9 l0_9.length c0_9, .string a0_10, .slice A0_11 l0_11.length c0_11, .int .u64 a0_12, .slice A0_13 l0_13.length c0_13]) ?_ 7 _ rfl; (with_reducible repeat (first | refine blk_drewN ?_ _ | refine blk_drew ?_ | refine blk_alloc ?_ _)); exact BK101.out⟩
  have n6_ : Aside0 ((((w22.setCell ⟨gb101, 7, none⟩ (.slice Ao23 t109.length co23)).setCell ⟨gb101, 8, none⟩ (.slice Ao25 t112.length co25)).setCell ⟨gb101, 9, none⟩ (.slice Ao27 t115.length co27)).heap[gb102]? = some (.cells #[.int .i64 0, .int .i64 0, .int .i64 0, .int .i64 0, .int .u64 0, .slice none 0 0, .slice none 0 0, .slice none 0 0, .slice none 0 0, .slice none 0 0, .string (⟨#[]⟩ : ByteArray), .slice none 0 0, .int .u64 0, .slice none 0 0] 38 (0, 0))) := ⟨by (with_reducible repeat (first | refine blk_drewN ?_ _ | refine blk_drew ?_ | refine blk_alloc ?_ _)); refine blk_far ?_ NB102_101.out _; (with_reducible repeat (first | refine blk_drewN ?_ _ | refine blk_drew ?_ | refine blk_alloc ?_ _)); refine blk_far ?_ NB102_101.out _; (with_reducible repeat (first | refine blk_drewN ?_ _ | refine blk_drew ?_ | refine blk_alloc ?_ _)); refine blk_far ?_ NB102_101.out _; (with_reducible repeat (first | refine blk_drewN ?_ _ | refine blk_drew ?_ | refine blk_alloc ?_ _)); exact BK102.out⟩
  have n7_ : Aside0 (Below w.heap.size w (((w22.setCell ⟨gb101, 7, none⟩ (.slice Ao23 t109.length co23)).setCell ⟨gb101, 8, none⟩ (.slice Ao25 t112.length co25)).setCell ⟨gb101, 9, none⟩ (.slice Ao27 t115.length co27))) := ⟨by repeat (first | (with_reducible first | exact HB.out | apply below_alloc | apply pw_below_drewN | apply below_drew1 | refine below_set ?_ GE101.out | refine below_set ?_ GE102.out) | exact HB.out)⟩
  (try clear HO105)
  (try clear HO108)
  (try clear HO111)
  (try clear HO114)
  (try clear HO117)
  (try clear BK101)
  (try clear BK102)
  (try clear HB)
  generalize (((w22.setCell ⟨gb101, 7, none⟩ (.slice Ao23 t109.length co23)).setCell ⟨gb101, 8, none⟩ (.slice Ao25 t112.length co25)).setCell ⟨gb101, 9, none⟩ (.slice Ao27 t115.length co27)) = w29 at n0_ n1_ n2_ n3_ n4_ n5_ n6_ n7_ ⊢
  have HO105 := n0_
  have HO108 := n1_
  have HO111 := n2_
  have HO114 := n3_
  have HO117 := n4_
  have BK101 := n5_
  have BK102 := n6_
  have HB := n7_
  clear n0_ n1_ n2_ n3_ n4_ n5_ n6_ n7_
  have n0_ := Aside0.mk (Kd.R_drew HO105.out)
  have n1_ := Aside0.mk (Kd.R_drew HO108.out)
  have n2_ := Aside0.mk (Kd.R_drew HO111.out)
  have n3_ := Aside0.mk (Kd.R_drew HO114.out)
  have n4_ := Aside0.mk (Kd.R_drew HO117.out)
  have n5_ := Aside0.mk (blk_drew BK101.out)
  have n6_ := Aside0.mk (blk_drew BK102.out)
  have n7_ := Aside0.mk (below_drew1 HB.out)
  clear HO105
  clear HO108
  clear HO111
  clear HO114
  clear HO117
  clear BK101
  clear BK102
  clear HB
  have HO105 := n0_
  have HO108 := n1_
  have HO111 := n2_
  have HO114 := n3_
  have HO117 := n4_
  have BK101 := n5_
  have BK102 := n6_
  have HB := n7_
  clear n0_ n1_ n2_ n3_ n4_ n5_ n6_ n7_
  refine start_ (n := 14) (S := fun w' => w'.cell? ⟨gb101, 0, none⟩ = some (.int .i64 a0_0) ∧ w'.cell? ⟨gb101, 1, none⟩ = some (.int .i64 a0_1) ∧ w'.cell? ⟨gb101, 2, none⟩ = some (.int .i64 a0_2) ∧ w'.cell? ⟨gb101, 3, none⟩ = some (.int .i64 a0_3) ∧ w'.cell? ⟨gb101, 4, none⟩ = some (.int .u64 a0_4) ∧ w'.cell? ⟨gb101, 5, none⟩ = some (.slice Ao14 t103.length co14) ∧ w'.cell? ⟨gb101, 6, none⟩ = some (.slice Ao16 t106.length co16) ∧ w'.cell? ⟨gb101, 7, none⟩ = some (.slice Ao23 t109.length co23) ∧ w'.cell? ⟨gb101, 8, none⟩ = some (.slice Ao25 t112.length co25) ∧ w'.cell? ⟨gb101, 9, none⟩ = some (.slice Ao27 t115.length co27) ∧ w'.cell? ⟨gb101, 10, none⟩ = some (.string a0_10) ∧ w'.cell? ⟨gb101, 11, none⟩ = some (.slice A0_11 l0_11.length c0_11) ∧ w'.cell? ⟨gb101, 12, none⟩ = some (.int .u64 a0_12) ∧ w'.cell? ⟨gb101, 13, none⟩ = some (.slice A0_13 l0_13.length c0_13)) (ds := [10, 13]) #[false, false, false, false, false, false, false, false, false, false, false, false, false, false] (by kernel_rfl) rfl rfl ⟨(blk_cell BK101.out 0).trans rfl, (blk_cell BK101.out 1).trans rfl, (blk_cell BK101.out 2).trans rfl, (blk_cell BK101.out 3).trans rfl, (blk_cell BK101.out 4).trans rfl, (blk_cell BK101.out 5).trans rfl, (blk_cell BK101.out 6).trans rfl, (blk_cell BK101.out 7).trans rfl, (blk_cell BK101.out 8).trans rfl, (blk_cell BK101.out 9).trans rfl, (blk_cell BK101.out 10).trans rfl, (blk_cell BK101.out 11).trans rfl, (blk_cell BK101.out 12).trans rfl, (blk_cell BK101.out 13).trans rfl⟩ (fun hHeld => ?_); refine with_tabW snap_Snap_Copy.tab3 snap_Snap_Copy.bits3 (fun HT_ HW_ => ?_)
  generalize w29.drew = w30 at HO105 HO108 HO111 HO114 HO117 BK101 BK102 HB hHeld ⊢
  refine pure_ (i := 0) (N := some 23) (v := ?_) (a' := ?_) #[true, false, false, false, false, false, false, false, false, false, false, false, false, false] rfl rfl (any_of HT_.out (by kernel_rfl)) (fun _ _ _ h => h) (Or.inl ⟨by rfl, ?_⟩) ?_ ?_
  rotate_left
  · intro w'
    go_simp
    with_reducible rfl
  rotate_left
  · simp only [Act.put, List.setIfInBounds_toArray, List.set_cons_zero, List.set_cons_succ, i64_w, i32_w]
    rfl
  refine pure_ (i := 1) (N := some 24) (v := ?_) (a' := ?_) #[true, true, false, false, false, false, false, false, false, false, false, false, false, false] rfl rfl (any_of HT_.out (by kernel_rfl)) (fun _ _ _ h => h) (Or.inl ⟨by rfl, ?_⟩) ?_ ?_
  rotate_left
  · intro w'
    go_simp
    with_reducible rfl
  rotate_left
  · simp only [Act.put, List.setIfInBounds_toArray, List.set_cons_zero, List.set_cons_succ, i64_w, i32_w]
    rfl
  refine pure_ (i := 4) (N := some 27) (v := ?_) (a' := ?_) #[true, true, false, false, true, false, false, false, false, false, false, false, false, false] rfl rfl (any_of HT_.out (by kernel_rfl)) (fun _ _ _ h => h) (Or.inl ⟨by rfl, ?_⟩) ?_ ?_
  rotate_left
  · intro w'
    go_simp
    with_reducible rfl
  rotate_left
  · simp only [Act.put, List.setIfInBounds_toArray, List.set_cons_zero, List.set_cons_succ, i64_w, i32_w]
    rfl
  refine pure_ (i := 5) (N := some 28) (v := ?_) (a' := ?_) #[true, true, false, false, true, true, false, false, false, false, false, false, false, false] rfl rfl (any_of HT_.out (by kernel_rfl)) (fun _ _ _ h => h) (Or.inl ⟨by rfl, ?_⟩) ?_ ?_
  rotate_left
  · intro w'
    go_simp
    with_reducible rfl
  rotate_left
  · simp only [Act.put, List.setIfInBounds_toArray, List.set_cons_zero, List.set_cons_succ, i64_w, i32_w]
    rfl
  refine take_ (i := 2) (N := some 25) (v := ?_) (a' := ?_) #[true, true, true, false, true, true, false, false, false, false, false, false, false, false] rfl rfl (take_ofW HT_.out HW_.out (by kernel_rfl)) (fun _ _ _ h => h) (Or.inl ⟨by rfl, ?_⟩) hHeld ?_ ?_
  rotate_left
  · rintro w' ⟨s0, s1, s2, s3, s4, s5, s6, s7, s8, s9, s10, s11, s12, s13⟩
    go_simp
    with_reducible rfl
  rotate_left
  · simp only [Act.put, List.setIfInBounds_toArray, List.set_cons_zero, List.set_cons_succ, i64_w, i32_w]
    rfl
  refine take_ (i := 6) (N := some 29) (v := ?_) (a' := ?_) #[true, true, true, false, true, true, true, false, false, false, false, false, false, false] rfl rfl (take_ofW HT_.out HW_.out (by kernel_rfl)) (fun _ _ _ h => h) (Or.inl ⟨by rfl, ?_⟩) hHeld ?_ ?_
  rotate_left
  · rintro w' ⟨s0, s1, s2, s3, s4, s5, s6, s7, s8, s9, s10, s11, s12, s13⟩
    go_simp
    with_reducible rfl
  rotate_left
  · simp only [Act.put, List.setIfInBounds_toArray, List.set_cons_zero, List.set_cons_succ, i64_w, i32_w]
    rfl
  refine one_ (i := 3) (N := some 26) #[true, true, true, true, true, true, true, false, false, false, false, false, false, false] rfl rfl (one_of HT_.out (by kernel_rfl)) (by decide) (fun K hK => ?_)
  refine goes_ Try.func33 (by kernel_rfl) rfl #[.slice A0_11 l0_11.length c0_11] (by rfl) rfl rfl (by (try simp only [List.map_toArray, List.map_cons, List.map_nil]); first | done | rfl | (simp only [List.length_drop, List.length_take]; rfl)) ?_
  with_reducible refine (slices_Clone_int_int.calls _ _ l0_11 t118 _ ?side1 ?side2 A7.out).mono ?_
  (case side1 => repeat (first | exact (Kd.C_below HR0_11.out HB.out) | (with_reducible refine Kd.C_alloc ?_ _) | (with_reducible refine Kd.C_drewN ?_ _) | (with_reducible refine Kd.C_drew ?_)))
  (case side2 => exact HC0_11.out)
  rintro e w31 ⟨v119, rfl, ho0, hb⟩
  refine ⟨_, rfl, ?_⟩
  have n0_ := Aside0.mk (Kd.R_below (by (with_reducible repeat (first | apply Kd.R_alloc | apply Kd.R_drewN | apply Kd.R_drew)); exact HO105.out) hb)
  have n1_ := Aside0.mk (Kd.R_below (by (with_reducible repeat (first | apply Kd.R_alloc | apply Kd.R_drewN | apply Kd.R_drew)); exact HO108.out) hb)
  have n2_ := Aside0.mk (Kd.R_below (by (with_reducible repeat (first | apply Kd.R_alloc | apply Kd.R_drewN | apply Kd.R_drew)); exact HO111.out) hb)
  have n3_ := Aside0.mk (Kd.R_below (by (with_reducible repeat (first | apply Kd.R_alloc | apply Kd.R_drewN | apply Kd.R_drew)); exact HO114.out) hb)
  have n4_ := Aside0.mk (Kd.R_below (by (with_reducible repeat (first | apply Kd.R_alloc | apply Kd.R_drewN | apply Kd.R_drew)); exact HO117.out) hb)
  have n5_ := Aside0.mk (Kd.R_lower ho0 (below_size (by repeat (first | (with_reducible first | exact HB.out | apply below_alloc | apply pw_below_drewN | apply below_drew1 | refine below_set ?_ GE101.out | refine below_set ?_ GE102.out) | exact HB.out))))
  have n6_ := Aside0.mk (blk_below (g := gb101) (o := .cells #[.int .i64 a0_0, .int .i64 a0_1, .int .i64 a0_2, .int .i64 a0_3, .int .u64 a0_4, .slice Ao14 t103.length co14, .slice Ao16 t106.length co16, .slice Ao23 t109.length co23, .slice Ao25 t112.length co25, .slice Ao27 t115.length co27, .string a0_10, .slice A0_11 l0_11.length c0_11, .int .u64 a0_12, .slice A0_13 l0_13.length c0_13] 38 (0, 0)) (by (with_reducible repeat (first | refine blk_drewN ?_ _ | refine blk_drew ?_ | refine blk_alloc ?_ _)); exact BK101.out) hb)
  have n7_ := Aside0.mk (blk_below (g := gb102) (o := .cells #[.int .i64 0, .int .i64 0, .int .i64 0, .int .i64 0, .int .u64 0, .slice none 0 0, .slice none 0 0, .slice none 0 0, .slice none 0 0, .slice none 0 0, .string (⟨#[]⟩ : ByteArray), .slice none 0 0, .int .u64 0, .slice none 0 0] 38 (0, 0)) (by (with_reducible repeat (first | refine blk_drewN ?_ _ | refine blk_drew ?_ | refine blk_alloc ?_ _)); exact BK102.out) hb)
  have n8_ := Aside0.mk (below_step (by repeat (first | (with_reducible first | exact HB.out | apply below_alloc | apply pw_below_drewN | apply below_drew1 | refine below_set ?_ GE101.out | refine below_set ?_ GE102.out) | exact HB.out)) hb)
  clear HO105
  clear HO108
  clear HO111
  clear HO114
  clear HO117
  clear BK101
  clear BK102
  clear HB
  have HO105 := n0_
  have HO108 := n1_
  have HO111 := n2_
  have HO114 := n3_
  have HO117 := n4_
  have HO120 := n5_
  have BK101 := n6_
  have BK102 := n7_
  have HB := n8_
  clear n0_ n1_ n2_ n3_ n4_ n5_ n6_ n7_ n8_
  (try clear hb)
  (try clear hb2)
  (try clear hk)
  (try clear hi)
  (try clear ho0)
  refine hK.out _ _ ⟨(blk_cell BK101.out 0).trans rfl, (blk_cell BK101.out 1).trans rfl, (blk_cell BK101.out 2).trans rfl, (blk_cell BK101.out 3).trans rfl, (blk_cell BK101.out 4).trans rfl, (blk_cell BK101.out 5).trans rfl, (blk_cell BK101.out 6).trans rfl, (blk_cell BK101.out 7).trans rfl, (blk_cell BK101.out 8).trans rfl, (blk_cell BK101.out 9).trans rfl, (blk_cell BK101.out 10).trans rfl, (blk_cell BK101.out 11).trans rfl, (blk_cell BK101.out 12).trans rfl, (blk_cell BK101.out 13).trans rfl⟩ (fun hHeld => ?_)
  clear hK K
  refine norm_ (a' := ?_) ?_ ?_
  rotate_left
  · show Act.put _ (some 26) _ = _
    simp only [Act.put, List.setIfInBounds_toArray, List.set_cons_zero, List.set_cons_succ, i64_w, i32_w]
    rfl
  refine pure_ (i := 8) (N := some 31) (v := ?_) (a' := ?_) #[true, true, true, true, true, true, true, false, true, false, false, false, false, false] rfl rfl (any_of HT_.out (by kernel_rfl)) (fun _ _ _ h => h) (Or.inl ⟨by rfl, ?_⟩) ?_ ?_
  rotate_left
  · intro w'
    go_simp
    with_reducible rfl
  rotate_left
  · simp only [Act.put, List.setIfInBounds_toArray, List.set_cons_zero, List.set_cons_succ, i64_w, i32_w]
    rfl
  refine pure_ (i := 9) (N := some 32) (v := ?_) (a' := ?_) #[true, true, true, true, true, true, true, false, true, true, false, false, false, false] rfl rfl (any_of HT_.out (by kernel_rfl)) (fun _ _ _ h => h) (Or.inl ⟨by rfl, ?_⟩) ?_ ?_
  rotate_left
  · intro w'
    go_simp
    with_reducible rfl
  rotate_left
  · simp only [Act.put, List.setIfInBounds_toArray, List.set_cons_zero, List.set_cons_succ, i64_w, i32_w]
    rfl
  refine one_ (i := 7) (N := some 30) #[true, true, true, true, true, true, true, true, true, true, false, false, false, false] rfl rfl (one_of HT_.out (by kernel_rfl)) (by decide) (fun K hK => ?_)
  refine goes_ Try.func31 (by kernel_rfl) rfl #[.slice A0_13 l0_13.length c0_13] (by rfl) rfl rfl (by (try simp only [List.map_toArray, List.map_cons, List.map_nil]); first | done | rfl | (simp only [List.length_drop, List.length_take]; rfl)) ?_
  with_reducible refine (slices_Clone_string_string.calls _ _ l0_13 t121 _ ?side1 ?side2 A8.out).mono ?_
  (case side1 => repeat (first | exact (Kd.C_below HR0_13.out HB.out) | (with_reducible refine Kd.C_alloc ?_ _) | (with_reducible refine Kd.C_drewN ?_ _) | (with_reducible refine Kd.C_drew ?_)))
  (case side2 => exact HC0_13.out)
  rintro e w32 ⟨v122, rfl, ho0, hb⟩
  refine ⟨_, rfl, ?_⟩
  have n0_ := Aside0.mk (Kd.R_below (by (with_reducible repeat (first | apply Kd.R_alloc | apply Kd.R_drewN | apply Kd.R_drew)); exact HO105.out) hb)
  have n1_ := Aside0.mk (Kd.R_below (by (with_reducible repeat (first | apply Kd.R_alloc | apply Kd.R_drewN | apply Kd.R_drew)); exact HO108.out) hb)
  have n2_ := Aside0.mk (Kd.R_elder' (by (with_reducible repeat (first | apply Kd.R_alloc | apply Kd.R_drewN | apply Kd.R_drew)); exact HO111.out) (Kd.R_base ho0) hb)
  have n3_ := Aside0.mk (Kd.R_elder' (by (with_reducible repeat (first | apply Kd.R_alloc | apply Kd.R_drewN | apply Kd.R_drew)); exact HO114.out) (Kd.R_base ho0) hb)
  have n4_ := Aside0.mk (Kd.R_below (by (with_reducible repeat (first | apply Kd.R_alloc | apply Kd.R_drewN | apply Kd.R_drew)); exact HO117.out) hb)
  have n5_ := Aside0.mk (Kd.R_below (by (with_reducible repeat (first | apply Kd.R_alloc | apply Kd.R_drewN | apply Kd.R_drew)); exact HO120.out) hb)
  have n6_ := Aside0.mk (Kd.R_lower (Kd.R_new' (Kd.R_new' ho0 (Kd.R_lt (by (with_reducible repeat (first | apply Kd.R_alloc | apply Kd.R_drewN | apply Kd.R_drew)); exact HO111.out))) (Kd.R_lt (by (with_reducible repeat (first | apply Kd.R_alloc | apply Kd.R_drewN | apply Kd.R_drew)); exact HO114.out))) (below_size (by repeat (first | (with_reducible first | exact HB.out | apply below_alloc | apply pw_below_drewN | apply below_drew1 | refine below_set ?_ GE101.out | refine below_set ?_ GE102.out) | exact HB.out))))
  have n7_ := Aside0.mk (blk_below (g := gb101) (o := .cells #[.int .i64 a0_0, .int .i64 a0_1, .int .i64 a0_2, .int .i64 a0_3, .int .u64 a0_4, .slice Ao14 t103.length co14, .slice Ao16 t106.length co16, .slice Ao23 t109.length co23, .slice Ao25 t112.length co25, .slice Ao27 t115.length co27, .string a0_10, .slice A0_11 l0_11.length c0_11, .int .u64 a0_12, .slice A0_13 l0_13.length c0_13] 38 (0, 0)) (by (with_reducible repeat (first | refine blk_drewN ?_ _ | refine blk_drew ?_ | refine blk_alloc ?_ _)); exact BK101.out) hb)
  have n8_ := Aside0.mk (blk_below (g := gb102) (o := .cells #[.int .i64 0, .int .i64 0, .int .i64 0, .int .i64 0, .int .u64 0, .slice none 0 0, .slice none 0 0, .slice none 0 0, .slice none 0 0, .slice none 0 0, .string (⟨#[]⟩ : ByteArray), .slice none 0 0, .int .u64 0, .slice none 0 0] 38 (0, 0)) (by (with_reducible repeat (first | refine blk_drewN ?_ _ | refine blk_drew ?_ | refine blk_alloc ?_ _)); exact BK102.out) hb)
  have n9_ := Aside0.mk (below_step (by repeat (first | (with_reducible first | exact HB.out | apply below_alloc | apply pw_below_drewN | apply below_drew1 | refine below_set ?_ GE101.out | refine below_set ?_ GE102.out) | exact HB.out)) hb)
  clear HO105
  clear HO108
  clear HO111
  clear HO114
  clear HO117
  clear HO120
  clear BK101
  clear BK102
  clear HB
  have HO105 := n0_
  have HO108 := n1_
  have HO111 := n2_
  have HO114 := n3_
  have HO117 := n4_
  have HO120 := n5_
  have HO123 := n6_
  have BK101 := n7_
  have BK102 := n8_
  have HB := n9_
  clear n0_ n1_ n2_ n3_ n4_ n5_ n6_ n7_ n8_ n9_
  (try clear hb)
  (try clear hb2)
  (try clear hk)
  (try clear hi)
  (try clear ho0)
  obtain ⟨Ao33, co33, eo33⟩ := Kd.R_slice HO120.out
  (first | subst eo33 | (injection eo33 with f1_ f2_ f3_; have f4_ := f1_.symm; have f5_ := f3_.symm; clear f1_ f2_ f3_; subst f4_; subst f5_))
  obtain ⟨Ao35, co35, eo35⟩ := Kd.R_slice HO123.out
  (first | subst eo35 | (injection eo35 with f1_ f2_ f3_; have f4_ := f1_.symm; have f5_ := f3_.symm; clear f1_ f2_ f3_; subst f4_; subst f5_))
  refine hK.out _ _ ⟨(blk_cell BK101.out 0).trans rfl, (blk_cell BK101.out 1).trans rfl, (blk_cell BK101.out 2).trans rfl, (blk_cell BK101.out 3).trans rfl, (blk_cell BK101.out 4).trans rfl, (blk_cell BK101.out 5).trans rfl, (blk_cell BK101.out 6).trans rfl, (blk_cell BK101.out 7).trans rfl, (blk_cell BK101.out 8).trans rfl, (blk_cell BK101.out 9).trans rfl, (blk_cell BK101.out 10).trans rfl, (blk_cell BK101.out 11).trans rfl, (blk_cell BK101.out 12).trans rfl, (blk_cell BK101.out 13).trans rfl⟩ (fun hHeld => ?_)
  clear hK K
  refine norm_ (a' := ?_) ?_ ?_
  rotate_left
  · show Act.put _ (some 30) _ = _
    simp only [Act.put, List.setIfInBounds_toArray, List.set_cons_zero, List.set_cons_succ, i64_w, i32_w]
    rfl
  refine last_ (i := 10) (N := none) #[true, true, true, true, true, true, true, true, true, true, true, false, false, false] rfl rfl (one_of HT_.out (by kernel_rfl)) (by decide) (fun K hK => ?_)
  have hs34 : w32.cell? ⟨gb101, 11, none⟩ = some (.slice A0_11 l0_11.length c0_11) := (blk_cell BK101.out 11).trans rfl
  have hfs34 := blk_frozen BK101.out 11
  have hns34_1 := NB102_101.out
  have hms34_1 := NB101_102.out
  refine skip_ (w1 := ?_) (by rfl) rfl ?_ ?_
  rotate_left
  · go_simp
    rfl
  refine hK.out _ _ ?_
  clear hK K
  refine pure_ (i := 11) (N := some 33) (v := ?_) (a' := ?_) #[true, true, true, true, true, true, true, true, true, true, true, true, false, false] rfl rfl (any_of HT_.out (by kernel_rfl)) (fun _ _ _ h => h) (Or.inl ⟨by rfl, ?_⟩) ?_ ?_
  rotate_left
  · intro w'
    go_simp
    with_reducible rfl
  rotate_left
  · simp only [Act.put, List.setIfInBounds_toArray, List.set_cons_zero, List.set_cons_succ, i64_w, i32_w]
    rfl
  refine pure_ (i := 12) (N := some 34) (v := ?_) (a' := ?_) #[true, true, true, true, true, true, true, true, true, true, true, true, true, false] rfl rfl (any_of HT_.out (by kernel_rfl)) (fun _ _ _ h => h) (Or.inl ⟨by rfl, ?_⟩) ?_ ?_
  rotate_left
  · intro w'
    go_simp
    with_reducible rfl
  rotate_left
  · simp only [Act.put, List.setIfInBounds_toArray, List.set_cons_zero, List.set_cons_succ, i64_w, i32_w]
    rfl
  refine last_ (i := 13) (N := none) #[true, true, true, true, true, true, true, true, true, true, true, true, true, true] rfl rfl (one_of HT_.out (by kernel_rfl)) (by decide) (fun K hK => ?_)
  have hs36 : w32.cell? ⟨gb101, 13, none⟩ = some (.slice A0_13 l0_13.length c0_13) := (blk_cell BK101.out 13).trans rfl
  have hfs36 := blk_frozen BK101.out 13
  have hns36_1 := NB102_101.out
  have hms36_1 := NB101_102.out
  refine skip_ (w1 := ?_) (by rfl) rfl ?_ ?_
  rotate_left
  · go_simp
    rfl
  refine hK.out _ _ ?_
  clear hK K
  refine done_ (done_of HT_.out (by kernel_rfl)) ?_
  have hnb37 := NB101_102.out
  have hnc37 := NB102_101.out
  have hcz38_0 : w32.cell? ⟨gb101, 0, none⟩ = some (.int .i64 a0_0) := (blk_cell BK101.out 0).trans rfl
  have hcz38_1 : w32.cell? ⟨gb101, 1, none⟩ = some (.int .i64 a0_1) := (blk_cell BK101.out 1).trans rfl
  have hcz38_2 : w32.cell? ⟨gb101, 2, none⟩ = some (.int .i64 a0_2) := (blk_cell BK101.out 2).trans rfl
  have hcz38_3 : w32.cell? ⟨gb101, 3, none⟩ = some (.int .i64 a0_3) := (blk_cell BK101.out 3).trans rfl
  have hcz38_4 : w32.cell? ⟨gb101, 4, none⟩ = some (.int .u64 a0_4) := (blk_cell BK101.out 4).trans rfl
  have hcz38_5 : w32.cell? ⟨gb101, 5, none⟩ = some (.slice Ao14 t103.length co14) := (blk_cell BK101.out 5).trans rfl
  have hcz38_6 : w32.cell? ⟨gb101, 6, none⟩ = some (.slice Ao16 t106.length co16) := (blk_cell BK101.out 6).trans rfl
  have hcz38_7 : w32.cell? ⟨gb101, 7, none⟩ = some (.slice Ao23 t109.length co23) := (blk_cell BK101.out 7).trans rfl
  have hcz38_8 : w32.cell? ⟨gb101, 8, none⟩ = some (.slice Ao25 t112.length co25) := (blk_cell BK101.out 8).trans rfl
  have hcz38_9 : w32.cell? ⟨gb101, 9, none⟩ = some (.slice Ao27 t115.length co27) := (blk_cell BK101.out 9).trans rfl
  have hcz38_10 : w32.cell? ⟨gb101, 10, none⟩ = some (.string a0_10) := (blk_cell BK101.out 10).trans rfl
  have hcz38_11 : w32.cell? ⟨gb101, 11, none⟩ = some (.slice A0_11 l0_11.length c0_11) := (blk_cell BK101.out 11).trans rfl
  have hcz38_12 : w32.cell? ⟨gb101, 12, none⟩ = some (.int .u64 a0_12) := (blk_cell BK101.out 12).trans rfl
  have hcz38_13 : w32.cell? ⟨gb101, 13, none⟩ = some (.slice A0_13 l0_13.length c0_13) := (blk_cell BK101.out 13).trans rfl
  have hfz38_0 := blk_frozen BK101.out 0
  have hfz38_1 := blk_frozen BK101.out 1
  have hfz38_2 := blk_frozen BK101.out 2
  have hfz38_3 := blk_frozen BK101.out 3
  have hfz38_4 := blk_frozen BK101.out 4
  have hfz38_5 := blk_frozen BK101.out 5
  have hfz38_6 := blk_frozen BK101.out 6
  have hfz38_7 := blk_frozen BK101.out 7
  have hfz38_8 := blk_frozen BK101.out 8
  have hfz38_9 := blk_frozen BK101.out 9
  have hfz38_10 := blk_frozen BK101.out 10
  have hfz38_11 := blk_frozen BK101.out 11
  have hfz38_12 := blk_frozen BK101.out 12
  have hfz38_13 := blk_frozen BK101.out 13
  have hcz39_0 : w32.cell? ⟨gb102, 0, none⟩ = some (.int .i64 0) := (blk_cell BK102.out 0).trans rfl
  have hcz39_1 : w32.cell? ⟨gb102, 1, none⟩ = some (.int .i64 0) := (blk_cell BK102.out 1).trans rfl
  have hcz39_2 : w32.cell? ⟨gb102, 2, none⟩ = some (.int .i64 0) := (blk_cell BK102.out 2).trans rfl
  have hcz39_3 : w32.cell? ⟨gb102, 3, none⟩ = some (.int .i64 0) := (blk_cell BK102.out 3).trans rfl
  have hcz39_4 : w32.cell? ⟨gb102, 4, none⟩ = some (.int .u64 0) := (blk_cell BK102.out 4).trans rfl
  have hcz39_5 : w32.cell? ⟨gb102, 5, none⟩ = some (.slice none 0 0) := (blk_cell BK102.out 5).trans rfl
  have hcz39_6 : w32.cell? ⟨gb102, 6, none⟩ = some (.slice none 0 0) := (blk_cell BK102.out 6).trans rfl
  have hcz39_7 : w32.cell? ⟨gb102, 7, none⟩ = some (.slice none 0 0) := (blk_cell BK102.out 7).trans rfl
  have hcz39_8 : w32.cell? ⟨gb102, 8, none⟩ = some (.slice none 0 0) := (blk_cell BK102.out 8).trans rfl
  have hcz39_9 : w32.cell? ⟨gb102, 9, none⟩ = some (.slice none 0 0) := (blk_cell BK102.out 9).trans rfl
  have hcz39_10 : w32.cell? ⟨gb102, 10, none⟩ = some (.string (⟨#[]⟩ : ByteArray)) := (blk_cell BK102.out 10).trans rfl
  have hcz39_11 : w32.cell? ⟨gb102, 11, none⟩ = some (.slice none 0 0) := (blk_cell BK102.out 11).trans rfl
  have hcz39_12 : w32.cell? ⟨gb102, 12, none⟩ = some (.int .u64 0) := (blk_cell BK102.out 12).trans rfl
  have hcz39_13 : w32.cell? ⟨gb102, 13, none⟩ = some (.slice none 0 0) := (blk_cell BK102.out 13).trans rfl
  have hfz39_0 := blk_frozen BK102.out 0
  have hfz39_1 := blk_frozen BK102.out 1
  have hfz39_2 := blk_frozen BK102.out 2
  have hfz39_3 := blk_frozen BK102.out 3
  have hfz39_4 := blk_frozen BK102.out 4
  have hfz39_5 := blk_frozen BK102.out 5
  have hfz39_6 := blk_frozen BK102.out 6
  have hfz39_7 := blk_frozen BK102.out 7
  have hfz39_8 := blk_frozen BK102.out 8
  have hfz39_9 := blk_frozen BK102.out 9
  have hfz39_10 := blk_frozen BK102.out 10
  have hfz39_11 := blk_frozen BK102.out 11
  have hfz39_12 := blk_frozen BK102.out 12
  have hfz39_13 := blk_frozen BK102.out 13
  try go_wp2
  refine bodyPost_ret (results_cell_row rfl _ _ gb102 38 #[.int .i64 a0_0, .int .i64 a0_1, .int .i64 a0_2, .int .i64 a0_3, .int .u64 a0_4, .slice Ao14 t103.length co14, .slice Ao16 t106.length co16, .slice Ao23 t109.length co23, .slice Ao25 t112.length co25, .slice Ao27 t115.length co27, .string a0_10, .slice Ao33 t118.length co33, .int .u64 a0_12, .slice Ao35 t121.length co35] (0, 0) _ rfl (by (with_reducible repeat (first | refine blk_drewN ?_ _ | refine blk_drew ?_ | refine blk_alloc ?_ _)); refine blk_put (cs := #[.int .i64 a0_0, .int .i64 a0_1, .int .i64 a0_2, .int .i64 a0_3, .int .u64 a0_4, .slice Ao14 t103.length co14, .slice Ao16 t106.length co16, .slice Ao23 t109.length co23, .slice Ao25 t112.length co25, .slice Ao27 t115.length co27, .string a0_10, .slice Ao33 t118.length co33, .int .u64 a0_12, .slice none 0 0]) ?_ 13 _ rfl; (with_reducible repeat (first | refine blk_drewN ?_ _ | refine blk_drew ?_ | refine blk_alloc ?_ _)); refine blk_put (cs := #[.int .i64 a0_0, .int .i64 a0_1, .int .i64 a0_2, .int .i64 a0_3, .int .u64 a0_4, .slice Ao14 t103.length co14, .slice Ao16 t106.length co16, .slice Ao23 t109.length co23, .slice Ao25 t112.length co25, .slice Ao27 t115.length co27, .string a0_10, .slice Ao33 t118.length co33, .int .u64 0, .slice none 0 0]) ?_ 12 _ rfl; (with_reducible repeat (first | refine blk_drewN ?_ _ | refine blk_drew ?_ | refine blk_alloc ?_ _)); refine blk_put (cs := #[.int .i64 a0_0, .int .i64 a0_1, .int .i64 a0_2, .int .i64 a0_3, .int .u64 a0_4, .slice Ao14 t103.length co14, .slice Ao16 t106.length co16, .slice Ao23 t109.length co23, .slice Ao25 t112.length co25, .slice Ao27 t115.length co27, .string a0_10, .slice none 0 0, .int .u64 0, .slice none 0 0]) ?_ 11 _ rfl; (with_reducible repeat (first | refine blk_drewN ?_ _ | refine blk_drew ?_ | refine blk_alloc ?_ _)); refine blk_put (cs := #[.int .i64 a0_0, .int .i64 a0_1, .int .i64 a0_2, .int .i64 a0_3, .int .u64 a0_4, .slice Ao14 t103.length co14, .slice Ao16 t106.length co16, .slice Ao23 t109.length co23, .slice Ao25 t112.length co25, .slice Ao27 t115.length co27, .string (⟨#[]⟩ : ByteArray), .slice none 0 0, .int .u64 0, .slice none 0 0]) ?_ 10 _ rfl; (with_reducible repeat (first | refine blk_drewN ?_ _ | refine blk_drew ?_ | refine blk_alloc ?_ _)); refine blk_put (cs := #[.int .i64 a0_0, .int .i64 a0_1, .int .i64 a0_2, .int .i64 a0_3, .int .u64 a0_4, .slice Ao14 t103.length co14, .slice Ao16 t106.length co16, .slice Ao23 t109.length co23, .slice Ao25 t112.length co25, .slice none 0 0, .string (⟨#[]⟩ : ByteArray), .slice none 0 0, .int .u64 0, .slice none 0 0]) ?_ 9 _ rfl; (with_reducible repeat (first | refine blk_drewN ?_ _ | refine blk_drew ?_ | refine blk_alloc ?_ _)); refine blk_put (cs := #[.int .i64 a0_0, .int .i64 a0_1, .int .i64 a0_2, .int .i64 a0_3, .int .u64 a0_4, .slice Ao14 t103.length co14, .slice Ao16 t106.length co16, .slice Ao23 t109.length co23, .slice none 0 0, .slice none 0 0, .string (⟨#[]⟩ : ByteArray), .slice none 0 0, .int .u64 0, .slice none 0 0]) ?_ 8 _ rfl; (with_reducible repeat (first | refine blk_drewN ?_ _ | refine blk_drew ?_ | refine blk_alloc ?_ _)); refine blk_put (cs := #[.int .i64 a0_0, .int .i64 a0_1, .int .i64 a0_2, .int .i64 a0_3, .int .u64 a0_4, .slice Ao14 t103.length co14, .slice Ao16 t106.length co16, .slice none 0 0, .slice none 0 0, .slice none 0 0, .string (⟨#[]⟩ : ByteArray), .slice none 0 0, .int .u64 0, .slice none 0 0]) ?_ 7 _ rfl; (with_reducible repeat (first | refine blk_drewN ?_ _ | refine blk_drew ?_ | refine blk_alloc ?_ _)); refine blk_put (cs := #[.int .i64 a0_0, .int .i64 a0_1, .int .i64 a0_2, .int .i64 a0_3, .int .u64 a0_4, .slice Ao14 t103.length co14, .slice none 0 0, .slice none 0 0, .slice none 0 0, .slice none 0 0, .string (⟨#[]⟩ : ByteArray), .slice none 0 0, .int .u64 0, .slice none 0 0]) ?_ 6 _ rfl; (with_reducible repeat (first | refine blk_drewN ?_ _ | refine blk_drew ?_ | refine blk_alloc ?_ _)); refine blk_put (cs := #[.int .i64 a0_0, .int .i64 a0_1, .int .i64 a0_2, .int .i64 a0_3, .int .u64 a0_4, .slice none 0 0, .slice none 0 0, .slice none 0 0, .slice none 0 0, .slice none 0 0, .string (⟨#[]⟩ : ByteArray), .slice none 0 0, .int .u64 0, .slice none 0 0]) ?_ 5 _ rfl; (with_reducible repeat (first | refine blk_drewN ?_ _ | refine blk_drew ?_ | refine blk_alloc ?_ _)); refine blk_put (cs := #[.int .i64 a0_0, .int .i64 a0_1, .int .i64 a0_2, .int .i64 a0_3, .int .u64 0, .slice none 0 0, .slice none 0 0, .slice none 0 0, .slice none 0 0, .slice none 0 0, .string (⟨#[]⟩ : ByteArray), .slice none 0 0, .int .u64 0, .slice none 0 0]) ?_ 4 _ rfl; (with_reducible repeat (first | refine blk_drewN ?_ _ | refine blk_drew ?_ | refine blk_alloc ?_ _)); refine blk_put (cs := #[.int .i64 a0_0, .int .i64 a0_1, .int .i64 a0_2, .int .i64 0, .int .u64 0, .slice none 0 0, .slice none 0 0, .slice none 0 0, .slice none 0 0, .slice none 0 0, .string (⟨#[]⟩ : ByteArray), .slice none 0 0, .int .u64 0, .slice none 0 0]) ?_ 3 _ rfl; (with_reducible repeat (first | refine blk_drewN ?_ _ | refine blk_drew ?_ | refine blk_alloc ?_ _)); refine blk_put (cs := #[.int .i64 a0_0, .int .i64 a0_1, .int .i64 0, .int .i64 0, .int .u64 0, .slice none 0 0, .slice none 0 0, .slice none 0 0, .slice none 0 0, .slice none 0 0, .string (⟨#[]⟩ : ByteArray), .slice none 0 0, .int .u64 0, .slice none 0 0]) ?_ 2 _ rfl; (with_reducible repeat (first | refine blk_drewN ?_ _ | refine blk_drew ?_ | refine blk_alloc ?_ _)); refine blk_put (cs := #[.int .i64 a0_0, .int .i64 0, .int .i64 0, .int .i64 0, .int .u64 0, .slice none 0 0, .slice none 0 0, .slice none 0 0, .slice none 0 0, .slice none 0 0, .string (⟨#[]⟩ : ByteArray), .slice none 0 0, .int .u64 0, .slice none 0 0]) ?_ 1 _ rfl; (with_reducible repeat (first | refine blk_drewN ?_ _ | refine blk_drew ?_ | refine blk_alloc ?_ _)); refine blk_put (cs := #[.int .i64 0, .int .i64 0, .int .i64 0, .int .i64 0, .int .u64 0, .slice none 0 0, .slice none 0 0, .slice none 0 0, .slice none 0 0, .slice none 0 0, .string (⟨#[]⟩ : ByteArray), .slice none 0 0, .int .u64 0, .slice none 0 0]) ?_ 0 _ rfl; (with_reducible repeat (first | refine blk_drewN ?_ _ | refine blk_drew ?_ | refine blk_alloc ?_ _)); refine blk_far ?_ NB102_101.out _; (with_reducible repeat (first | refine blk_drewN ?_ _ | refine blk_drew ?_ | refine blk_alloc ?_ _)); refine blk_far ?_ NB102_101.out _; (with_reducible repeat (first | refine blk_drewN ?_ _ | refine blk_drew ?_ | refine blk_alloc ?_ _)); exact BK102.out) Try.underlying38 rfl (by kernel_rfl)) rfl ?_
  exact ⟨_, _, _, _, _, _, _, by first | rfl | (simp [errW_none, errW_some] <;> rfl) | (simp [*, errW_none, errW_some] <;> rfl), by (with_reducible repeat (first | apply Kd.R_alloc | apply Kd.R_drewN | apply Kd.R_drew)); exact Kd.R_mono (Kd.R_far (p := ⟨gb102, 13, none⟩) (Kd.R_far (p := ⟨gb102, 12, none⟩) (Kd.R_far (p := ⟨gb102, 11, none⟩) (Kd.R_far (p := ⟨gb102, 10, none⟩) (Kd.R_far (p := ⟨gb102, 9, none⟩) (Kd.R_far (p := ⟨gb102, 8, none⟩) (Kd.R_far (p := ⟨gb102, 7, none⟩) (Kd.R_far (p := ⟨gb102, 6, none⟩) (Kd.R_far (p := ⟨gb102, 5, none⟩) (Kd.R_far (p := ⟨gb102, 4, none⟩) (Kd.R_far (p := ⟨gb102, 3, none⟩) (Kd.R_far (p := ⟨gb102, 2, none⟩) (Kd.R_far (p := ⟨gb102, 1, none⟩) (Kd.R_far (p := ⟨gb102, 0, none⟩) (Kd.R_far (p := ⟨gb101, 13, none⟩) (Kd.R_far (p := ⟨gb101, 11, none⟩) (Kd.R_types (Kd.R_types HO105.out BK101.out (by decide)) BK102.out (by decide)) (fun _ hk => hk.1.2) (.slice Ao33 t118.length co33)) (fun _ hk => hk.1.2) (.slice Ao35 t121.length co35)) (fun _ hk => hk.2) (.int .i64 a0_0)) (fun _ hk => hk.2) (.int .i64 a0_1)) (fun _ hk => hk.2) (.int .i64 a0_2)) (fun _ hk => hk.2) (.int .i64 a0_3)) (fun _ hk => hk.2) (.int .u64 a0_4)) (fun _ hk => hk.2) (.slice Ao14 t103.length co14)) (fun _ hk => hk.2) (.slice Ao16 t106.length co16)) (fun _ hk => hk.2) (.slice Ao23 t109.length co23)) (fun _ hk => hk.2) (.slice Ao25 t112.length co25)) (fun _ hk => hk.2) (.slice Ao27 t115.length co27)) (fun _ hk => hk.2) (.string a0_10)) (fun _ hk => hk.2) (.slice Ao33 t118.length co33)) (fun _ hk => hk.2) (.int .u64 a0_12)) (fun _ hk => hk.2) (.slice Ao35 t121.length co35)) (fun _ hk => trivial), by (with_reducible repeat (first | apply Kd.R_alloc | apply Kd.R_drewN | apply Kd.R_drew)); exact Kd.R_mono (Kd.R_far (p := ⟨gb102, 13, none⟩) (Kd.R_far (p := ⟨gb102, 12, none⟩) (Kd.R_far (p := ⟨gb102, 11, none⟩) (Kd.R_far (p := ⟨gb102, 10, none⟩) (Kd.R_far (p := ⟨gb102, 9, none⟩) (Kd.R_far (p := ⟨gb102, 8, none⟩) (Kd.R_far (p := ⟨gb102, 7, none⟩) (Kd.R_far (p := ⟨gb102, 6, none⟩) (Kd.R_far (p := ⟨gb102, 5, none⟩) (Kd.R_far (p := ⟨gb102, 4, none⟩) (Kd.R_far (p := ⟨gb102, 3, none⟩) (Kd.R_far (p := ⟨gb102, 2, none⟩) (Kd.R_far (p := ⟨gb102, 1, none⟩) (Kd.R_far (p := ⟨gb102, 0, none⟩) (Kd.R_far (p := ⟨gb101, 13, none⟩) (Kd.R_far (p := ⟨gb101, 11, none⟩) (Kd.R_types (Kd.R_types HO108.out BK101.out (by decide)) BK102.out (by decide)) (fun _ hk => hk.1.2) (.slice Ao33 t118.length co33)) (fun _ hk => hk.1.2) (.slice Ao35 t121.length co35)) (fun _ hk => hk.2) (.int .i64 a0_0)) (fun _ hk => hk.2) (.int .i64 a0_1)) (fun _ hk => hk.2) (.int .i64 a0_2)) (fun _ hk => hk.2) (.int .i64 a0_3)) (fun _ hk => hk.2) (.int .u64 a0_4)) (fun _ hk => hk.2) (.slice Ao14 t103.length co14)) (fun _ hk => hk.2) (.slice Ao16 t106.length co16)) (fun _ hk => hk.2) (.slice Ao23 t109.length co23)) (fun _ hk => hk.2) (.slice Ao25 t112.length co25)) (fun _ hk => hk.2) (.slice Ao27 t115.length co27)) (fun _ hk => hk.2) (.string a0_10)) (fun _ hk => hk.2) (.slice Ao33 t118.length co33)) (fun _ hk => hk.2) (.int .u64 a0_12)) (fun _ hk => hk.2) (.slice Ao35 t121.length co35)) (fun _ hk => trivial), by (with_reducible repeat (first | apply Kd.R_alloc | apply Kd.R_drewN | apply Kd.R_drew)); exact Kd.R_mono (Kd.R_far (p := ⟨gb102, 13, none⟩) (Kd.R_far (p := ⟨gb102, 12, none⟩) (Kd.R_far (p := ⟨gb102, 11, none⟩) (Kd.R_far (p := ⟨gb102, 10, none⟩) (Kd.R_far (p := ⟨gb102, 9, none⟩) (Kd.R_far (p := ⟨gb102, 8, none⟩) (Kd.R_far (p := ⟨gb102, 7, none⟩) (Kd.R_far (p := ⟨gb102, 6, none⟩) (Kd.R_far (p := ⟨gb102, 5, none⟩) (Kd.R_far (p := ⟨gb102, 4, none⟩) (Kd.R_far (p := ⟨gb102, 3, none⟩) (Kd.R_far (p := ⟨gb102, 2, none⟩) (Kd.R_far (p := ⟨gb102, 1, none⟩) (Kd.R_far (p := ⟨gb102, 0, none⟩) (Kd.R_far (p := ⟨gb101, 13, none⟩) (Kd.R_far (p := ⟨gb101, 11, none⟩) (Kd.R_types (Kd.R_types HO111.out BK101.out (by decide)) BK102.out (by decide)) (fun _ hk => hk.1.2) (.slice Ao33 t118.length co33)) (fun _ hk => hk.1.2) (.slice Ao35 t121.length co35)) (fun _ hk => hk.2) (.int .i64 a0_0)) (fun _ hk => hk.2) (.int .i64 a0_1)) (fun _ hk => hk.2) (.int .i64 a0_2)) (fun _ hk => hk.2) (.int .i64 a0_3)) (fun _ hk => hk.2) (.int .u64 a0_4)) (fun _ hk => hk.2) (.slice Ao14 t103.length co14)) (fun _ hk => hk.2) (.slice Ao16 t106.length co16)) (fun _ hk => hk.2) (.slice Ao23 t109.length co23)) (fun _ hk => hk.2) (.slice Ao25 t112.length co25)) (fun _ hk => hk.2) (.slice Ao27 t115.length co27)) (fun _ hk => hk.2) (.string a0_10)) (fun _ hk => hk.2) (.slice Ao33 t118.length co33)) (fun _ hk => hk.2) (.int .u64 a0_12)) (fun _ hk => hk.2) (.slice Ao35 t121.length co35)) (fun _ hk => ⟨hk.1.1.1, hk.1.1.2⟩), by (with_reducible repeat (first | apply Kd.R_alloc | apply Kd.R_drewN | apply Kd.R_drew)); exact Kd.R_mono (Kd.R_far (p := ⟨gb102, 13, none⟩) (Kd.R_far (p := ⟨gb102, 12, none⟩) (Kd.R_far (p := ⟨gb102, 11, none⟩) (Kd.R_far (p := ⟨gb102, 10, none⟩) (Kd.R_far (p := ⟨gb102, 9, none⟩) (Kd.R_far (p := ⟨gb102, 8, none⟩) (Kd.R_far (p := ⟨gb102, 7, none⟩) (Kd.R_far (p := ⟨gb102, 6, none⟩) (Kd.R_far (p := ⟨gb102, 5, none⟩) (Kd.R_far (p := ⟨gb102, 4, none⟩) (Kd.R_far (p := ⟨gb102, 3, none⟩) (Kd.R_far (p := ⟨gb102, 2, none⟩) (Kd.R_far (p := ⟨gb102, 1, none⟩) (Kd.R_far (p := ⟨gb102, 0, none⟩) (Kd.R_far (p := ⟨gb101, 13, none⟩) (Kd.R_far (p := ⟨gb101, 11, none⟩) (Kd.R_types (Kd.R_types HO114.out BK101.out (by decide)) BK102.out (by decide)) (fun _ hk => hk.1.2) (.slice Ao33 t118.length co33)) (fun _ hk => hk.1.2) (.slice Ao35 t121.length co35)) (fun _ hk => hk.2) (.int .i64 a0_0)) (fun _ hk => hk.2) (.int .i64 a0_1)) (fun _ hk => hk.2) (.int .i64 a0_2)) (fun _ hk => hk.2) (.int .i64 a0_3)) (fun _ hk => hk.2) (.int .u64 a0_4)) (fun _ hk => hk.2) (.slice Ao14 t103.length co14)) (fun _ hk => hk.2) (.slice Ao16 t106.length co16)) (fun _ hk => hk.2) (.slice Ao23 t109.length co23)) (fun _ hk => hk.2) (.slice Ao25 t112.length co25)) (fun _ hk => hk.2) (.slice Ao27 t115.length co27)) (fun _ hk => hk.2) (.string a0_10)) (fun _ hk => hk.2) (.slice Ao33 t118.length co33)) (fun _ hk => hk.2) (.int .u64 a0_12)) (fun _ hk => hk.2) (.slice Ao35 t121.length co35)) (fun _ hk => ⟨hk.1.1.1, hk.1.1.2⟩), by (with_reducible repeat (first | apply Kd.R_alloc | apply Kd.R_drewN | apply Kd.R_drew)); exact Kd.R_mono (Kd.R_far (p := ⟨gb102, 13, none⟩) (Kd.R_far (p := ⟨gb102, 12, none⟩) (Kd.R_far (p := ⟨gb102, 11, none⟩) (Kd.R_far (p := ⟨gb102, 10, none⟩) (Kd.R_far (p := ⟨gb102, 9, none⟩) (Kd.R_far (p := ⟨gb102, 8, none⟩) (Kd.R_far (p := ⟨gb102, 7, none⟩) (Kd.R_far (p := ⟨gb102, 6, none⟩) (Kd.R_far (p := ⟨gb102, 5, none⟩) (Kd.R_far (p := ⟨gb102, 4, none⟩) (Kd.R_far (p := ⟨gb102, 3, none⟩) (Kd.R_far (p := ⟨gb102, 2, none⟩) (Kd.R_far (p := ⟨gb102, 1, none⟩) (Kd.R_far (p := ⟨gb102, 0, none⟩) (Kd.R_far (p := ⟨gb101, 13, none⟩) (Kd.R_far (p := ⟨gb101, 11, none⟩) (Kd.R_types (Kd.R_types HO117.out BK101.out (by decide)) BK102.out (by decide)) (fun _ hk => hk.1.2) (.slice Ao33 t118.length co33)) (fun _ hk => hk.1.2) (.slice Ao35 t121.length co35)) (fun _ hk => hk.2) (.int .i64 a0_0)) (fun _ hk => hk.2) (.int .i64 a0_1)) (fun _ hk => hk.2) (.int .i64 a0_2)) (fun _ hk => hk.2) (.int .i64 a0_3)) (fun _ hk => hk.2) (.int .u64 a0_4)) (fun _ hk => hk.2) (.slice Ao14 t103.length co14)) (fun _ hk => hk.2) (.slice Ao16 t106.length co16)) (fun _ hk => hk.2) (.slice Ao23 t109.length co23)) (fun _ hk => hk.2) (.slice Ao25 t112.length co25)) (fun _ hk => hk.2) (.slice Ao27 t115.length co27)) (fun _ hk => hk.2) (.string a0_10)) (fun _ hk => hk.2) (.slice Ao33 t118.length co33)) (fun _ hk => hk.2) (.int .u64 a0_12)) (fun _ hk => hk.2) (.slice Ao35 t121.length co35)) (fun _ hk => trivial), by (with_reducible repeat (first | apply Kd.R_alloc | apply Kd.R_drewN | apply Kd.R_drew)); exact Kd.R_mono (Kd.R_far (p := ⟨gb102, 13, none⟩) (Kd.R_far (p := ⟨gb102, 12, none⟩) (Kd.R_far (p := ⟨gb102, 11, none⟩) (Kd.R_far (p := ⟨gb102, 10, none⟩) (Kd.R_far (p := ⟨gb102, 9, none⟩) (Kd.R_far (p := ⟨gb102, 8, none⟩) (Kd.R_far (p := ⟨gb102, 7, none⟩) (Kd.R_far (p := ⟨gb102, 6, none⟩) (Kd.R_far (p := ⟨gb102, 5, none⟩) (Kd.R_far (p := ⟨gb102, 4, none⟩) (Kd.R_far (p := ⟨gb102, 3, none⟩) (Kd.R_far (p := ⟨gb102, 2, none⟩) (Kd.R_far (p := ⟨gb102, 1, none⟩) (Kd.R_far (p := ⟨gb102, 0, none⟩) (Kd.R_far (p := ⟨gb101, 13, none⟩) (Kd.R_far (p := ⟨gb101, 11, none⟩) (Kd.R_types (Kd.R_types HO120.out BK101.out (by decide)) BK102.out (by decide)) (fun _ hk => hk.1.2) (.slice Ao33 t118.length co33)) (fun _ hk => hk.1.2) (.slice Ao35 t121.length co35)) (fun _ hk => hk.2) (.int .i64 a0_0)) (fun _ hk => hk.2) (.int .i64 a0_1)) (fun _ hk => hk.2) (.int .i64 a0_2)) (fun _ hk => hk.2) (.int .i64 a0_3)) (fun _ hk => hk.2) (.int .u64 a0_4)) (fun _ hk => hk.2) (.slice Ao14 t103.length co14)) (fun _ hk => hk.2) (.slice Ao16 t106.length co16)) (fun _ hk => hk.2) (.slice Ao23 t109.length co23)) (fun _ hk => hk.2) (.slice Ao25 t112.length co25)) (fun _ hk => hk.2) (.slice Ao27 t115.length co27)) (fun _ hk => hk.2) (.string a0_10)) (fun _ hk => hk.2) (.slice Ao33 t118.length co33)) (fun _ hk => hk.2) (.int .u64 a0_12)) (fun _ hk => hk.2) (.slice Ao35 t121.length co35)) (fun _ hk => trivial), by (with_reducible repeat (first | apply Kd.R_alloc | apply Kd.R_drewN | apply Kd.R_drew)); exact Kd.R_mono (Kd.R_far (p := ⟨gb102, 13, none⟩) (Kd.R_far (p := ⟨gb102, 12, none⟩) (Kd.R_far (p := ⟨gb102, 11, none⟩) (Kd.R_far (p := ⟨gb102, 10, none⟩) (Kd.R_far (p := ⟨gb102, 9, none⟩) (Kd.R_far (p := ⟨gb102, 8, none⟩) (Kd.R_far (p := ⟨gb102, 7, none⟩) (Kd.R_far (p := ⟨gb102, 6, none⟩) (Kd.R_far (p := ⟨gb102, 5, none⟩) (Kd.R_far (p := ⟨gb102, 4, none⟩) (Kd.R_far (p := ⟨gb102, 3, none⟩) (Kd.R_far (p := ⟨gb102, 2, none⟩) (Kd.R_far (p := ⟨gb102, 1, none⟩) (Kd.R_far (p := ⟨gb102, 0, none⟩) (Kd.R_far (p := ⟨gb101, 13, none⟩) (Kd.R_far (p := ⟨gb101, 11, none⟩) (Kd.R_types (Kd.R_types HO123.out BK101.out (by decide)) BK102.out (by decide)) (fun _ hk => hk.1.2) (.slice Ao33 t118.length co33)) (fun _ hk => hk.1.2) (.slice Ao35 t121.length co35)) (fun _ hk => hk.2) (.int .i64 a0_0)) (fun _ hk => hk.2) (.int .i64 a0_1)) (fun _ hk => hk.2) (.int .i64 a0_2)) (fun _ hk => hk.2) (.int .i64 a0_3)) (fun _ hk => hk.2) (.int .u64 a0_4)) (fun _ hk => hk.2) (.slice Ao14 t103.length co14)) (fun _ hk => hk.2) (.slice Ao16 t106.length co16)) (fun _ hk => hk.2) (.slice Ao23 t109.length co23)) (fun _ hk => hk.2) (.slice Ao25 t112.length co25)) (fun _ hk => hk.2) (.slice Ao27 t115.length co27)) (fun _ hk => hk.2) (.string a0_10)) (fun _ hk => hk.2) (.slice Ao33 t118.length co33)) (fun _ hk => hk.2) (.int .u64 a0_12)) (fun _ hk => hk.2) (.slice Ao35 t121.length co35)) (fun _ hk => ⟨hk.1.1.1.2, hk.1.1.2⟩), by repeat (first | (with_reducible first | exact HB.out | apply below_alloc | apply pw_below_drewN | apply below_drew1 | refine below_set ?_ GE101.out | refine below_set ?_ GE102.out) | exact HB.out)⟩

-- NOT PRINTED: function 20 (ckpt_mark_20)

-- NOT PRINTED: function 7 (ckpt_Keeper_Note)

-- NOT PRINTED: function 8 (ckpt_Keeper_Ats)

-- NOT PRINTED: function 5 (whirligiglaw21_anchor)

-- NOT PRINTED: function 10 (whirligigref21_Note)

end Go.Proofs.Ythadibmgahlpfaa.MD
