/- The lowest number of a set, walked. -/
import Derived.Test.YtimodbkfjaknhaaDoorBPlain
import Derived.Test.YtimodbkfjaknhaaDoorMBitsListsx0
import Derived.ProofKit
namespace Go.Proofs.YtimodbkfjaknhaaDoor.BPlain
open Go.RowKit Go.Proofs Go.Proofs.YtimodbkfjaknhaaDoorW.PrintWords Go.Proofs.YtimodbkfjaknhaaDoorW.PrintLast Go.Proofs.YtimodbkfjaknhaaDoorW.PrintMore
set_option linter.unusedVariables false
set_option linter.unusedSimpArgs false
/-- The library's table of places. -/
def Tab (w : World) : Prop := (∀ i < 64, w.cell? ⟨0, i, none⟩ = some (.int .u8 ((tz.getD i 0 : Nat) : Int))) ∧ 0 < w.heap.size
theorem Tab.below {w w' : World} (h : Tab w) (hb : Below w.heap.size w w') : Tab w' := ⟨fun i hi => (hb.cell (p := ⟨0, i, none⟩) h.2).trans (h.1 i hi), Nat.lt_of_lt_of_le h.2 hb.size⟩
theorem wrap_neg (s : Nat) (h0 : 0 < s) (h : s < 18446744073709551616) : IntKind.u64.wrap (-(s : Int)) = ((18446744073709551616 - s : Nat) : Int) := by
  rw [IntKind.wrap_u64]
  omega
theorem wrap_mul (k : Nat) : IntKind.u64.wrap (((2 ^ k : Nat) : Int) * 285870213051353865) = ((2 ^ k * 285870213051353865 % 18446744073709551616 : Nat) : Int) := by
  rw [IntKind.wrap_u64]
  omega
set_option maxHeartbeats 2000000 in
theorem tz_calls (k m : Nat) (h : 2 ^ k * (2 * m + 1) < 18446744073709551616) (w : World) (ht : Tab w) : Calls Tryd.prog 28 #[.int .u64 ((2 ^ k * (2 * m + 1) : Nat) : Int)] w fun e w' => e = .returned (.int .i64 (k : Int)) ∧ w = w' := by
  have hp : 0 < 2 ^ k * (2 * m + 1) := Nat.mul_pos (Nat.pow_pos (by decide)) (by omega)
  have hk := low_lt h
  obtain ⟨h1, h2⟩ := tz_at k hk
  have hc := ht.1 _ h1
  rw [h2] at hc
  have e1 := wrap_neg _ hp h
  have e2 : bits .and .u64 ((2 ^ k * (2 * m + 1) : Nat) : Int) ((18446744073709551616 - 2 ^ k * (2 * m + 1) : Nat) : Int) = ((2 ^ k : Nat) : Int) := by
    rw [u64_and_nat _ _ h (by omega), and_neg k m h]
  have e3 := wrap_mul k
  have e4 : ((2 ^ k * 285870213051353865 % 18446744073709551616 : Nat) : Int) / 288230376151711744 = ((at_ k : Nat) : Int) := (Int.natCast_ediv _ _).symm
  have hA : ((at_ k : Nat) : Int).toNat = at_ k := Int.toNat_natCast _
  have hA0 : (0 : Int) ≤ ((at_ k : Nat) : Int) := Int.natCast_nonneg _
  have hA1 : ((at_ k : Nat) : Int) < 64 := Int.ofNat_lt.2 h1
  rw [← hA] at hc
  generalize ((2 ^ k * 285870213051353865 % 18446744073709551616 : Nat) : Int) = E at e3 e4
  generalize ((at_ k : Nat) : Int) = X at *
  have hz : (((2 ^ k * (2 * m + 1) : Nat) : Int) == 0) = false := by rw [beq_eq_false_iff_ne]; omega
  generalize 2 ^ k * (2 * m + 1) = s at *
  generalize ((18446744073709551616 - s : Nat) : Int) = s' at *
  generalize ((s : Nat) : Int) = S at *
  generalize ((2 ^ k : Nat) : Int) = q at *
  go_enter Tryd.func28, Tryd.ntmps28
  clear h1 h2 hA
  go_wp2
  go_ret
  exact ⟨rfl, rfl⟩
theorem first_calls (k m : Nat) (h : 2 ^ k * (2 * m + 1) < 18446744073709551616) (w : World) (ht : Tab w) : Calls Tryd.prog 11 #[.int .u64 ((2 ^ k * (2 * m + 1) : Nat) : Int)] w fun e w' => e = .returned (.int .i64 (k : Int)) ∧ w = w' := by
  have hp : 0 < 2 ^ k * (2 * m + 1) := Nat.mul_pos (Nat.pow_pos (by decide)) (by omega)
  have hz : (((2 ^ k * (2 * m + 1) : Nat) : Int) == 0) = false := by rw [beq_eq_false_iff_ne]; omega
  have hc := tz_calls k m h w ht
  generalize ((2 ^ k * (2 * m + 1) : Nat) : Int) = S at *
  go_enter Tryd.func11, Tryd.ntmps11
  go_wp2_with (go_at_call 28; refine hc.mono ?_; rintro e w' ⟨rfl, rfl⟩)
  go_ret
  exact ⟨rfl, rfl⟩
theorem first_none (w : World) : Calls Tryd.prog 11 #[.int .u64 0] w fun e w' => e = .returned (.int .i64 (-1)) ∧ w = w' := by
  go_enter Tryd.func11, Tryd.ntmps11
  go_wp2
  go_ret
  exact ⟨rfl, rfl⟩
end Go.Proofs.YtimodbkfjaknhaaDoor.BPlain
