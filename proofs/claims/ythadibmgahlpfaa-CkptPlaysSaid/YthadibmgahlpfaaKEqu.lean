/- slices.Equal of two lists that hold the same. -/
import Derived.Test.YthadibmgahlpfaaKKeep
import Derived.Test.YthadibmgahlpfaaMCkptPlaysx2
import Derived.LoopN
namespace Go.Proofs.Ythadibmgahlpfaa.MD
open Go Go.RowKit Go.Proofs Go.Proofs.YthadibmgahlpfaaW.PrintWords Go.Proofs.YthadibmgahlpfaaW.PrintLast Go.Proofs.YthadibmgahlpfaaW.PrintMore
set_option linter.unusedVariables false
set_option linter.unusedSimpArgs false
namespace EqB
theorem eq_nil (A0 : Option Addr) (c0 : Nat) (A1 : Option Addr) (c1 : Nat) (w : World) : Calls Try.prog 36 #[.slice A0 0 c0, .slice A1 0 c1] w fun e w' => e = .returned (.bool true) ∧ Drawn0 w w' := by
  go_enter Try.func36, Try.ntmps36
  go_wp2
  refine wp_loop_rounds 1 ?_
  rw [rounds_succ]
  go_wp2
  go_ret
  exact ⟨rfl, by repeat (first | (with_reducible exact Drawn0.refl _) | apply Drawn0.step)⟩
theorem eq_any {α : Type} (A0 : Option Addr) (c0 : Nat) (A1 : Option Addr) (c1 : Nat) (a : List α) (w : World) (ha : a = []) : Calls Try.prog 36 #[.slice A0 a.length c0, .slice A1 a.length c1] w fun e w' => e = .returned (.bool true) ∧ Drawn0 w w' := by
  subst ha
  exact eq_nil A0 c0 A1 c1 w
end EqB
namespace EqV
theorem eq_nil (A0 : Option Addr) (c0 : Nat) (A1 : Option Addr) (c1 : Nat) (w : World) : Calls Try.prog 37 #[.slice A0 0 c0, .slice A1 0 c1] w fun e w' => e = .returned (.bool true) ∧ Drawn0 w w' := by
  go_enter Try.func37, Try.ntmps37
  go_wp2
  refine wp_loop_rounds 1 ?_
  rw [rounds_succ]
  go_wp2
  go_ret
  exact ⟨rfl, by repeat (first | (with_reducible exact Drawn0.refl _) | apply Drawn0.step)⟩
theorem eq_any {α : Type} (A0 : Option Addr) (c0 : Nat) (A1 : Option Addr) (c1 : Nat) (a : List α) (w : World) (ha : a = []) : Calls Try.prog 37 #[.slice A0 a.length c0, .slice A1 a.length c1] w fun e w' => e = .returned (.bool true) ∧ Drawn0 w w' := by
  subst ha
  exact eq_nil A0 c0 A1 c1 w
end EqV
namespace EqS

set_option maxHeartbeats 8000000 in
set_option maxRecDepth 100000 in
theorem eq_any (A0 : Option Addr) (c0 : Nat) (A1 : Option Addr) (c1 : Nat) (a : List (ByteArray)) (w : World) (hr0 : Kd.C (Kd.string) w A0 a.length a) (hr1 : Kd.C (Kd.string) w A1 a.length a) (ha : a.length ≤ 1000) :
    Calls Try.prog 38 #[.slice A0 a.length c0, .slice A1 a.length c1] w fun e w' => e = .returned (.bool true) ∧ Drawn0 w w' := by
  have HR0 := Aside0.mk hr0
  have HR1 := Aside0.mk hr1
  have HA := Aside0.mk ha
  have HW := Aside0.mk (Below.refl w.heap.size w)
  have d0 : ((a.length : Int) != (a.length : Int)) = false := bne_eq_false_iff_eq.2 rfl
  clear hr0 hr1 ha
  go_enter Try.func38, Try.ntmps38
  go_wp2
  clear d0
  go_loopw [13] (fun v13 wc => ∃ k : Nat, v13 = .int .i64 (k : Int) ∧ k ≤ a.length ∧ Drawn0 w wc) (fun v13 _ => a.length - (intOf v13).toNat)
  case atStart => exact ⟨0, rfl, Nat.zero_le _, Drawn0.refl _⟩
  case round =>
    obtain ⟨k, rfl, hk1, ⟨m1, rfl⟩⟩ := hrel
    have HK1 := Aside0.mk hk1
    clear hk1
    have hla := HA.out
    have q2 : (0 ≤ (k : Int)) = True := eq_true (Int.natCast_nonneg _)
    by_cases h1 : k < a.length
    · have d1 : decide ((k : Int) < (a.length : Int)) = true := decide_eq_true (by omega)
      have n1 : (k < a.length) = True := eq_true h1
      obtain ⟨ada, eada, hcada⟩ := Kd.at_string (HR0.out) ((k : Nat) : Int) (Int.natCast_nonneg _) (by omega)
      have hrada : rdOf ByteArray.empty a ((k : Nat) : Int) = a[k]'h1 := by unfold rdOf; rw [Int.toNat_natCast, List.getD_eq_getElem?_getD, List.getElem?_eq_getElem h1]; rfl
      rw [hrada, Int.toNat_natCast] at hcada
      obtain ⟨x, hx⟩ : ∃ z, z = a[k]'h1 := ⟨_, rfl⟩
      rw [← hx] at hcada
      replace hcada := pw_cell_below HW.out hcada
      cases eada
      clear hrada
      obtain ⟨adb, eadb, hcadb⟩ := Kd.at_string (HR1.out) ((k : Nat) : Int) (Int.natCast_nonneg _) (by omega)
      have hradb : rdOf ByteArray.empty a ((k : Nat) : Int) = a[k]'h1 := by unfold rdOf; rw [Int.toNat_natCast, List.getD_eq_getElem?_getD, List.getElem?_eq_getElem h1]; rfl
      rw [hradb, Int.toNat_natCast] at hcadb
      obtain ⟨y, hy⟩ : ∃ z, z = a[k]'h1 := ⟨_, rfl⟩
      rw [← hy] at hcadb
      replace hcadb := pw_cell_below HW.out hcadb
      cases eadb
      clear hradb
      obtain rfl : x = y := hx.trans hy.symm
      have qe : (x.toList != x.toList) = false := bne_eq_false_iff_eq.2 rfl
      have t1 : ((k : Int) < (a.length : Int)) = True := eq_true (by omega)
      have H1 := Aside0.mk h1
      have hk9 : k < 1000 := by omega
      clear hx hy h1
      go_wp2
      repeat (go_quiet (fail); try go_wp2)
      go_roundw
      case rel => exact ⟨k + 1, by go_num, H1.out, by repeat (first | (with_reducible exact Drawn0.refl _) | apply Drawn0.step)⟩
      case measure => have := H1.out; simp [intOf]; omega
    · have d1 : decide ((k : Int) < (a.length : Int)) = false := decide_eq_false (by omega)
      have n1 : (k < a.length) = False := eq_false (by omega)
      have n3 : (a.length ≤ k) = True := eq_true (by omega)
      clear h1
      go_wp2
      go_ret
      exact ⟨rfl, by repeat (first | (with_reducible exact Drawn0.refl _) | apply Drawn0.step)⟩
end EqS
namespace EqT
theorem eq_nil (A0 : Option Addr) (c0 : Nat) (A1 : Option Addr) (c1 : Nat) (w : World) : Calls Try.prog 39 #[.slice A0 0 c0, .slice A1 0 c1] w fun e w' => e = .returned (.bool true) ∧ Drawn0 w w' := by
  go_enter Try.func39, Try.ntmps39
  go_wp2
  refine wp_loop_rounds 1 ?_
  rw [rounds_succ]
  go_wp2
  go_ret
  exact ⟨rfl, by repeat (first | (with_reducible exact Drawn0.refl _) | apply Drawn0.step)⟩
theorem eq_any {α : Type} (A0 : Option Addr) (c0 : Nat) (A1 : Option Addr) (c1 : Nat) (a : List α) (w : World) (ha : a = []) : Calls Try.prog 39 #[.slice A0 a.length c0, .slice A1 a.length c1] w fun e w' => e = .returned (.bool true) ∧ Drawn0 w w' := by
  subst ha
  exact eq_nil A0 c0 A1 c1 w
end EqT
namespace EqI
theorem eq_nil (A0 : Option Addr) (c0 : Nat) (A1 : Option Addr) (c1 : Nat) (w : World) : Calls Try.prog 40 #[.slice A0 0 c0, .slice A1 0 c1] w fun e w' => e = .returned (.bool true) ∧ Drawn0 w w' := by
  go_enter Try.func40, Try.ntmps40
  go_wp2
  refine wp_loop_rounds 1 ?_
  rw [rounds_succ]
  go_wp2
  go_ret
  exact ⟨rfl, by repeat (first | (with_reducible exact Drawn0.refl _) | apply Drawn0.step)⟩
theorem eq_any {α : Type} (A0 : Option Addr) (c0 : Nat) (A1 : Option Addr) (c1 : Nat) (a : List α) (w : World) (ha : a = []) : Calls Try.prog 40 #[.slice A0 a.length c0, .slice A1 a.length c1] w fun e w' => e = .returned (.bool true) ∧ Drawn0 w w' := by
  subst ha
  exact eq_nil A0 c0 A1 c1 w
end EqI
theorem eqA86 (d : Nat) (w : World) (x0 y0 : Int) (x1 y1 : Int) (x2 y2 : Int) (x3 y3 : Int) (x4 y4 : Int) (x5 y5 : Int) (x6 y6 : ByteArray) :
    (Op.equalIn (d + 2) 86 (.agg #[.int .i64 x0, .int .i64 x1, .int .i64 x2, .int .i64 x3, .int .u64 x4, .int .u64 x5, .string x6]) (.agg #[.int .i64 y0, .int .i64 y1, .int .i64 y2, .int .i64 y3, .int .u64 y4, .int .u64 y5, .string y6])).run Try.prog w = .ok (x0 == y0 && (x1 == y1 && (x2 == y2 && (x3 == y3 && (x4 == y4 && (x5 == y5 && (x6.toList == y6.toList))))))) w := by
  refine eqA_of Try.underlying86 (by kernel_rfl) ?_
  refine eqf_cons (by rfl) (by go_simp; rfl) (by go_simp; rfl) (by go_simp) ?_
  refine eqf_cons (by rfl) (by go_simp; rfl) (by go_simp; rfl) (by go_simp) ?_
  refine eqf_cons (by rfl) (by go_simp; rfl) (by go_simp; rfl) (by go_simp) ?_
  refine eqf_cons (by rfl) (by go_simp; rfl) (by go_simp; rfl) (by go_simp) ?_
  refine eqf_cons (by rfl) (by go_simp; rfl) (by go_simp; rfl) (by go_simp) ?_
  refine eqf_cons (by rfl) (by go_simp; rfl) (by go_simp; rfl) (by go_simp) ?_
  exact eqf_last (by rfl) (by go_simp; rfl) (by go_simp; rfl) (by go_simp)
end Go.Proofs.Ythadibmgahlpfaa.MD
