/- slices.Equal of two slices that hold the same, walked, at five element types (made by a program; Lean checks it). -/
import Derived.Test.YtfpbohfefliljaaDSnap
import Derived.Test.YtfpbohfefliljaaDEq
namespace Go.Proofs.Ytfpbohfefliljaa.MD
open Go Go.RowKit Go.Proofs Go.Proofs.YtfpbohfefliljaaW.PrintWords Go.Proofs.YtfpbohfefliljaaW.PrintLast Go.Proofs.YtfpbohfefliljaaW.PrintMore
set_option linter.unusedVariables false
set_option linter.unusedSimpArgs false
namespace EqB

set_option maxHeartbeats 8000000 in
set_option maxRecDepth 100000 in
theorem eq_any (A0 : Option Addr) (c0 : Nat) (A1 : Option Addr) (c1 : Nat) (a : List (Int)) (w : World) (hr0 : Kd.C (Kd.int .u64) w A0 a.length a) (hr1 : Kd.C (Kd.int .u64) w A1 a.length a) (ha : a.length ≤ 1000) :
    Calls Try.prog 39 #[.slice A0 a.length c0, .slice A1 a.length c1] w fun e w' => e = .returned (.bool true) ∧ Drawn0 w w' := by
  have HR0 := Aside0.mk hr0
  have HR1 := Aside0.mk hr1
  have HA := Aside0.mk ha
  have HW := Aside0.mk (Below.refl w.heap.size w)
  have d0 : ((a.length : Int) != (a.length : Int)) = false := bne_eq_false_iff_eq.2 rfl
  clear hr0 hr1 ha
  go_enter Try.func39, Try.ntmps39
  go_wp2
  clear d0
  go_loopw [13] (fun v13 wc => ∃ k : Nat, v13 = .int .i64 (k : Int) ∧ k ≤ a.length ∧ Drawn0 w wc) (fun v13 _ => a.length - (intOf v13).toNat)
  case atStart => exact ⟨0, rfl, Nat.zero_le _, Drawn0.refl _⟩
  case round =>
    obtain ⟨k, rfl, hk1, ⟨m1, rfl⟩⟩ := hrel
    have HK1 := Aside0.mk hk1
    clear hk1
    have hla := HA.out
    have q2 : (0 ≤ (k : Int)) = True := eq_true (Int.natCast_nonneg _)
    by_cases h1 : k < a.length
    · have d1 : decide ((k : Int) < (a.length : Int)) = true := decide_eq_true (by omega)
      have n1 : (k < a.length) = True := eq_true h1
      obtain ⟨ada, eada, hcada⟩ := Kd.at_int (HR0.out) ((k : Nat) : Int) (Int.natCast_nonneg _) (by omega)
      have hrada : rd a ((k : Nat) : Int) = a[k]'h1 := by unfold rd; rw [Int.toNat_natCast, List.getD_eq_getElem?_getD, List.getElem?_eq_getElem h1]; rfl
      rw [hrada, Int.toNat_natCast] at hcada
      obtain ⟨x, hx⟩ : ∃ z, z = a[k]'h1 := ⟨_, rfl⟩
      rw [← hx] at hcada
      replace hcada := pw_cell_below HW.out hcada
      cases eada
      clear hrada
      obtain ⟨adb, eadb, hcadb⟩ := Kd.at_int (HR1.out) ((k : Nat) : Int) (Int.natCast_nonneg _) (by omega)
      have hradb : rd a ((k : Nat) : Int) = a[k]'h1 := by unfold rd; rw [Int.toNat_natCast, List.getD_eq_getElem?_getD, List.getElem?_eq_getElem h1]; rfl
      rw [hradb, Int.toNat_natCast] at hcadb
      obtain ⟨y, hy⟩ : ∃ z, z = a[k]'h1 := ⟨_, rfl⟩
      rw [← hy] at hcadb
      replace hcadb := pw_cell_below HW.out hcadb
      cases eadb
      clear hradb
      obtain rfl : x = y := hx.trans hy.symm
      have qe : (x != x) = false := bne_eq_false_iff_eq.2 rfl
      have t1 : ((k : Int) < (a.length : Int)) = True := eq_true (by omega)
      have H1 := Aside0.mk h1
      have hk9 : k < 1000 := by omega
      clear hx hy h1
      go_wp2
      repeat (go_quiet (fail); try go_wp2)
      go_roundw
      case rel => exact ⟨k + 1, by go_num, H1.out, by repeat (first | (with_reducible exact Drawn0.refl _) | apply Drawn0.step)⟩
      case measure => have := H1.out; simp [intOf]; omega
    · have d1 : decide ((k : Int) < (a.length : Int)) = false := decide_eq_false (by omega)
      have n1 : (k < a.length) = False := eq_false (by omega)
      have n3 : (a.length ≤ k) = True := eq_true (by omega)
      clear h1
      go_wp2
      go_ret
      exact ⟨rfl, by repeat (first | (with_reducible exact Drawn0.refl _) | apply Drawn0.step)⟩
end EqB
namespace EqV
attribute [local go_sem high] eqB68
set_option maxHeartbeats 8000000 in
set_option maxRecDepth 100000 in
theorem eq_any (A0 : Option Addr) (c0 : Nat) (A1 : Option Addr) (c1 : Nat) (a : List (S68)) (w : World) (hr0 : Kd.C (k68) w A0 a.length a) (hr1 : Kd.C (k68) w A1 a.length a) (ha : a.length ≤ 1000) :
    Calls Try.prog 40 #[.slice A0 a.length c0, .slice A1 a.length c1] w fun e w' => e = .returned (.bool true) ∧ Drawn0 w w' := by
  have HR0 := Aside0.mk hr0
  have HR1 := Aside0.mk hr1
  have HA := Aside0.mk ha
  have HW := Aside0.mk (Below.refl w.heap.size w)
  have d0 : ((a.length : Int) != (a.length : Int)) = false := bne_eq_false_iff_eq.2 rfl
  clear hr0 hr1 ha
  go_enter Try.func40, Try.ntmps40
  go_wp2
  clear d0
  go_loopw [13] (fun v13 wc => ∃ k : Nat, v13 = .int .i64 (k : Int) ∧ k ≤ a.length ∧ Drawn0 w wc) (fun v13 _ => a.length - (intOf v13).toNat)
  case atStart => exact ⟨0, rfl, Nat.zero_le _, Drawn0.refl _⟩
  case round =>
    obtain ⟨k, rfl, hk1, ⟨m1, rfl⟩⟩ := hrel
    have HK1 := Aside0.mk hk1
    clear hk1
    have hla := HA.out
    have q2 : (0 ≤ (k : Int)) = True := eq_true (Int.natCast_nonneg _)
    by_cases h1 : k < a.length
    · have d1 : decide ((k : Int) < (a.length : Int)) = true := decide_eq_true (by omega)
      have n1 : (k < a.length) = True := eq_true h1
      obtain ⟨ada, eada, hcada0, hcada1, hcada2⟩ := at_T68 (HR0.out) ((k : Nat) : Int) (Int.natCast_nonneg _) (by omega)
      have hrada : rd_T68 a ((k : Nat) : Int) = a[k]'h1 := by unfold rd_T68; rw [Int.toNat_natCast, List.getD_eq_getElem?_getD, List.getElem?_eq_getElem h1]; rfl
      rw [hrada, Int.toNat_natCast] at hcada0 hcada1 hcada2
      obtain ⟨x, hx⟩ : ∃ z, z = a[k]'h1 := ⟨_, rfl⟩
      rw [← hx] at hcada0 hcada1 hcada2
      replace hcada0 := pw_cell_below HW.out hcada0
      replace hcada1 := pw_cell_below HW.out hcada1
      replace hcada2 := pw_cell_below HW.out hcada2
      cases eada
      clear hrada
      obtain ⟨adb, eadb, hcadb0, hcadb1, hcadb2⟩ := at_T68 (HR1.out) ((k : Nat) : Int) (Int.natCast_nonneg _) (by omega)
      have hradb : rd_T68 a ((k : Nat) : Int) = a[k]'h1 := by unfold rd_T68; rw [Int.toNat_natCast, List.getD_eq_getElem?_getD, List.getElem?_eq_getElem h1]; rfl
      rw [hradb, Int.toNat_natCast] at hcadb0 hcadb1 hcadb2
      obtain ⟨y, hy⟩ : ∃ z, z = a[k]'h1 := ⟨_, rfl⟩
      rw [← hy] at hcadb0 hcadb1 hcadb2
      replace hcadb0 := pw_cell_below HW.out hcadb0
      replace hcadb1 := pw_cell_below HW.out hcadb1
      replace hcadb2 := pw_cell_below HW.out hcadb2
      cases eadb
      clear hradb
      obtain rfl : x = y := hx.trans hy.symm
      have qe := seq68_t x x rfl
      have t1 : ((k : Int) < (a.length : Int)) = True := eq_true (by omega)
      have H1 := Aside0.mk h1
      have hk9 : k < 1000 := by omega
      clear hx hy h1
      go_wp2
      repeat (go_quiet (fail); try go_wp2)
      go_roundw
      case rel => exact ⟨k + 1, by go_num, H1.out, by repeat (first | (with_reducible exact Drawn0.refl _) | apply Drawn0.step)⟩
      case measure => have := H1.out; simp [intOf]; omega
    · have d1 : decide ((k : Int) < (a.length : Int)) = false := decide_eq_false (by omega)
      have n1 : (k < a.length) = False := eq_false (by omega)
      have n3 : (a.length ≤ k) = True := eq_true (by omega)
      clear h1
      go_wp2
      go_ret
      exact ⟨rfl, by repeat (first | (with_reducible exact Drawn0.refl _) | apply Drawn0.step)⟩
end EqV
namespace EqS

set_option maxHeartbeats 8000000 in
set_option maxRecDepth 100000 in
theorem eq_any (A0 : Option Addr) (c0 : Nat) (A1 : Option Addr) (c1 : Nat) (a : List (ByteArray)) (w : World) (hr0 : Kd.C (Kd.string) w A0 a.length a) (hr1 : Kd.C (Kd.string) w A1 a.length a) (ha : a.length ≤ 1000) :
    Calls Try.prog 41 #[.slice A0 a.length c0, .slice A1 a.length c1] w fun e w' => e = .returned (.bool true) ∧ Drawn0 w w' := by
  have HR0 := Aside0.mk hr0
  have HR1 := Aside0.mk hr1
  have HA := Aside0.mk ha
  have HW := Aside0.mk (Below.refl w.heap.size w)
  have d0 : ((a.length : Int) != (a.length : Int)) = false := bne_eq_false_iff_eq.2 rfl
  clear hr0 hr1 ha
  go_enter Try.func41, Try.ntmps41
  go_wp2
  clear d0
  go_loopw [13] (fun v13 wc => ∃ k : Nat, v13 = .int .i64 (k : Int) ∧ k ≤ a.length ∧ Drawn0 w wc) (fun v13 _ => a.length - (intOf v13).toNat)
  case atStart => exact ⟨0, rfl, Nat.zero_le _, Drawn0.refl _⟩
  case round =>
    obtain ⟨k, rfl, hk1, ⟨m1, rfl⟩⟩ := hrel
    have HK1 := Aside0.mk hk1
    clear hk1
    have hla := HA.out
    have q2 : (0 ≤ (k : Int)) = True := eq_true (Int.natCast_nonneg _)
    by_cases h1 : k < a.length
    · have d1 : decide ((k : Int) < (a.length : Int)) = true := decide_eq_true (by omega)
      have n1 : (k < a.length) = True := eq_true h1
      obtain ⟨ada, eada, hcada⟩ := Kd.at_string (HR0.out) ((k : Nat) : Int) (Int.natCast_nonneg _) (by omega)
      have hrada : rdOf ByteArray.empty a ((k : Nat) : Int) = a[k]'h1 := by unfold rdOf; rw [Int.toNat_natCast, List.getD_eq_getElem?_getD, List.getElem?_eq_getElem h1]; rfl
      rw [hrada, Int.toNat_natCast] at hcada
      obtain ⟨x, hx⟩ : ∃ z, z = a[k]'h1 := ⟨_, rfl⟩
      rw [← hx] at hcada
      replace hcada := pw_cell_below HW.out hcada
      cases eada
      clear hrada
      obtain ⟨adb, eadb, hcadb⟩ := Kd.at_string (HR1.out) ((k : Nat) : Int) (Int.natCast_nonneg _) (by omega)
      have hradb : rdOf ByteArray.empty a ((k : Nat) : Int) = a[k]'h1 := by unfold rdOf; rw [Int.toNat_natCast, List.getD_eq_getElem?_getD, List.getElem?_eq_getElem h1]; rfl
      rw [hradb, Int.toNat_natCast] at hcadb
      obtain ⟨y, hy⟩ : ∃ z, z = a[k]'h1 := ⟨_, rfl⟩
      rw [← hy] at hcadb
      replace hcadb := pw_cell_below HW.out hcadb
      cases eadb
      clear hradb
      obtain rfl : x = y := hx.trans hy.symm
      have qe : (x.toList != x.toList) = false := bne_eq_false_iff_eq.2 rfl
      have t1 : ((k : Int) < (a.length : Int)) = True := eq_true (by omega)
      have H1 := Aside0.mk h1
      have hk9 : k < 1000 := by omega
      clear hx hy h1
      go_wp2
      repeat (go_quiet (fail); try go_wp2)
      go_roundw
      case rel => exact ⟨k + 1, by go_num, H1.out, by repeat (first | (with_reducible exact Drawn0.refl _) | apply Drawn0.step)⟩
      case measure => have := H1.out; simp [intOf]; omega
    · have d1 : decide ((k : Int) < (a.length : Int)) = false := decide_eq_false (by omega)
      have n1 : (k < a.length) = False := eq_false (by omega)
      have n3 : (a.length ≤ k) = True := eq_true (by omega)
      clear h1
      go_wp2
      go_ret
      exact ⟨rfl, by repeat (first | (with_reducible exact Drawn0.refl _) | apply Drawn0.step)⟩
end EqS
namespace EqT
attribute [local go_sem high] eqB71
set_option maxHeartbeats 8000000 in
set_option maxRecDepth 100000 in
theorem eq_any (A0 : Option Addr) (c0 : Nat) (A1 : Option Addr) (c1 : Nat) (a : List (S71)) (w : World) (hr0 : Kd.C (k71) w A0 a.length a) (hr1 : Kd.C (k71) w A1 a.length a) (ha : a.length ≤ 1000) :
    Calls Try.prog 42 #[.slice A0 a.length c0, .slice A1 a.length c1] w fun e w' => e = .returned (.bool true) ∧ Drawn0 w w' := by
  have HR0 := Aside0.mk hr0
  have HR1 := Aside0.mk hr1
  have HA := Aside0.mk ha
  have HW := Aside0.mk (Below.refl w.heap.size w)
  have d0 : ((a.length : Int) != (a.length : Int)) = false := bne_eq_false_iff_eq.2 rfl
  clear hr0 hr1 ha
  go_enter Try.func42, Try.ntmps42
  go_wp2
  clear d0
  go_loopw [13] (fun v13 wc => ∃ k : Nat, v13 = .int .i64 (k : Int) ∧ k ≤ a.length ∧ Drawn0 w wc) (fun v13 _ => a.length - (intOf v13).toNat)
  case atStart => exact ⟨0, rfl, Nat.zero_le _, Drawn0.refl _⟩
  case round =>
    obtain ⟨k, rfl, hk1, ⟨m1, rfl⟩⟩ := hrel
    have HK1 := Aside0.mk hk1
    clear hk1
    have hla := HA.out
    have q2 : (0 ≤ (k : Int)) = True := eq_true (Int.natCast_nonneg _)
    by_cases h1 : k < a.length
    · have d1 : decide ((k : Int) < (a.length : Int)) = true := decide_eq_true (by omega)
      have n1 : (k < a.length) = True := eq_true h1
      obtain ⟨ada, eada, hcada0, hcada1, hcada2⟩ := at_T71 (HR0.out) ((k : Nat) : Int) (Int.natCast_nonneg _) (by omega)
      have hrada : rd_T71 a ((k : Nat) : Int) = a[k]'h1 := by unfold rd_T71; rw [Int.toNat_natCast, List.getD_eq_getElem?_getD, List.getElem?_eq_getElem h1]; rfl
      rw [hrada, Int.toNat_natCast] at hcada0 hcada1 hcada2
      obtain ⟨x, hx⟩ : ∃ z, z = a[k]'h1 := ⟨_, rfl⟩
      rw [← hx] at hcada0 hcada1 hcada2
      replace hcada0 := pw_cell_below HW.out hcada0
      replace hcada1 := pw_cell_below HW.out hcada1
      replace hcada2 := pw_cell_below HW.out hcada2
      cases eada
      clear hrada
      obtain ⟨adb, eadb, hcadb0, hcadb1, hcadb2⟩ := at_T71 (HR1.out) ((k : Nat) : Int) (Int.natCast_nonneg _) (by omega)
      have hradb : rd_T71 a ((k : Nat) : Int) = a[k]'h1 := by unfold rd_T71; rw [Int.toNat_natCast, List.getD_eq_getElem?_getD, List.getElem?_eq_getElem h1]; rfl
      rw [hradb, Int.toNat_natCast] at hcadb0 hcadb1 hcadb2
      obtain ⟨y, hy⟩ : ∃ z, z = a[k]'h1 := ⟨_, rfl⟩
      rw [← hy] at hcadb0 hcadb1 hcadb2
      replace hcadb0 := pw_cell_below HW.out hcadb0
      replace hcadb1 := pw_cell_below HW.out hcadb1
      replace hcadb2 := pw_cell_below HW.out hcadb2
      cases eadb
      clear hradb
      obtain rfl : x = y := hx.trans hy.symm
      have qe := seq71_t x x rfl
      have t1 : ((k : Int) < (a.length : Int)) = True := eq_true (by omega)
      have H1 := Aside0.mk h1
      have hk9 : k < 1000 := by omega
      clear hx hy h1
      go_wp2
      repeat (go_quiet (fail); try go_wp2)
      go_roundw
      case rel => exact ⟨k + 1, by go_num, H1.out, by repeat (first | (with_reducible exact Drawn0.refl _) | apply Drawn0.step)⟩
      case measure => have := H1.out; simp [intOf]; omega
    · have d1 : decide ((k : Int) < (a.length : Int)) = false := decide_eq_false (by omega)
      have n1 : (k < a.length) = False := eq_false (by omega)
      have n3 : (a.length ≤ k) = True := eq_true (by omega)
      clear h1
      go_wp2
      go_ret
      exact ⟨rfl, by repeat (first | (with_reducible exact Drawn0.refl _) | apply Drawn0.step)⟩
end EqT
namespace EqI

set_option maxHeartbeats 8000000 in
set_option maxRecDepth 100000 in
theorem eq_any (A0 : Option Addr) (c0 : Nat) (A1 : Option Addr) (c1 : Nat) (a : List (Int)) (w : World) (hr0 : Kd.C (Kd.int .i64) w A0 a.length a) (hr1 : Kd.C (Kd.int .i64) w A1 a.length a) (ha : a.length ≤ 1000) :
    Calls Try.prog 43 #[.slice A0 a.length c0, .slice A1 a.length c1] w fun e w' => e = .returned (.bool true) ∧ Drawn0 w w' := by
  have HR0 := Aside0.mk hr0
  have HR1 := Aside0.mk hr1
  have HA := Aside0.mk ha
  have HW := Aside0.mk (Below.refl w.heap.size w)
  have d0 : ((a.length : Int) != (a.length : Int)) = false := bne_eq_false_iff_eq.2 rfl
  clear hr0 hr1 ha
  go_enter Try.func43, Try.ntmps43
  go_wp2
  clear d0
  go_loopw [13] (fun v13 wc => ∃ k : Nat, v13 = .int .i64 (k : Int) ∧ k ≤ a.length ∧ Drawn0 w wc) (fun v13 _ => a.length - (intOf v13).toNat)
  case atStart => exact ⟨0, rfl, Nat.zero_le _, Drawn0.refl _⟩
  case round =>
    obtain ⟨k, rfl, hk1, ⟨m1, rfl⟩⟩ := hrel
    have HK1 := Aside0.mk hk1
    clear hk1
    have hla := HA.out
    have q2 : (0 ≤ (k : Int)) = True := eq_true (Int.natCast_nonneg _)
    by_cases h1 : k < a.length
    · have d1 : decide ((k : Int) < (a.length : Int)) = true := decide_eq_true (by omega)
      have n1 : (k < a.length) = True := eq_true h1
      obtain ⟨ada, eada, hcada⟩ := Kd.at_int (HR0.out) ((k : Nat) : Int) (Int.natCast_nonneg _) (by omega)
      have hrada : rd a ((k : Nat) : Int) = a[k]'h1 := by unfold rd; rw [Int.toNat_natCast, List.getD_eq_getElem?_getD, List.getElem?_eq_getElem h1]; rfl
      rw [hrada, Int.toNat_natCast] at hcada
      obtain ⟨x, hx⟩ : ∃ z, z = a[k]'h1 := ⟨_, rfl⟩
      rw [← hx] at hcada
      replace hcada := pw_cell_below HW.out hcada
      cases eada
      clear hrada
      obtain ⟨adb, eadb, hcadb⟩ := Kd.at_int (HR1.out) ((k : Nat) : Int) (Int.natCast_nonneg _) (by omega)
      have hradb : rd a ((k : Nat) : Int) = a[k]'h1 := by unfold rd; rw [Int.toNat_natCast, List.getD_eq_getElem?_getD, List.getElem?_eq_getElem h1]; rfl
      rw [hradb, Int.toNat_natCast] at hcadb
      obtain ⟨y, hy⟩ : ∃ z, z = a[k]'h1 := ⟨_, rfl⟩
      rw [← hy] at hcadb
      replace hcadb := pw_cell_below HW.out hcadb
      cases eadb
      clear hradb
      obtain rfl : x = y := hx.trans hy.symm
      have qe : (x != x) = false := bne_eq_false_iff_eq.2 rfl
      have t1 : ((k : Int) < (a.length : Int)) = True := eq_true (by omega)
      have H1 := Aside0.mk h1
      have hk9 : k < 1000 := by omega
      clear hx hy h1
      go_wp2
      repeat (go_quiet (fail); try go_wp2)
      go_roundw
      case rel => exact ⟨k + 1, by go_num, H1.out, by repeat (first | (with_reducible exact Drawn0.refl _) | apply Drawn0.step)⟩
      case measure => have := H1.out; simp [intOf]; omega
    · have d1 : decide ((k : Int) < (a.length : Int)) = false := decide_eq_false (by omega)
      have n1 : (k < a.length) = False := eq_false (by omega)
      have n3 : (a.length ≤ k) = True := eq_true (by omega)
      clear h1
      go_wp2
      go_ret
      exact ⟨rfl, by repeat (first | (with_reducible exact Drawn0.refl _) | apply Drawn0.step)⟩
end EqI
end Go.Proofs.Ytfpbohfefliljaa.MD
