/- Two values, two timers: when they are equal. -/
import Derived.Test.YtfpbohfefliljaaDBase
import Derived.Lib.Strings
import Derived.Lib.IndexBytes
namespace Go.Proofs.Ytfpbohfefliljaa.MD
open Go Go.RowKit Go.Proofs Go.Proofs.YtfpbohfefliljaaW.PrintWords Go.Proofs.YtfpbohfefliljaaW.PrintLast Go.Proofs.YtfpbohfefliljaaW.PrintMore
set_option linter.unusedVariables false
set_option linter.unusedSimpArgs false
theorem str_inj {x y : ByteArray} (h : x.toList = y.toList) : x = y := by
  rw [Lib.toList_data, Lib.toList_data] at h
  exact ByteArray.ext (Array.toList_inj.1 h)
instance decStr : DecidableEq ByteArray := fun x y => decidable_of_iff (x.data = y.data) ⟨ByteArray.ext, fun h => congrArg _ h⟩
theorem ext68 {x y : S68} (h0 : x.f0 = y.f0) (h1 : x.f1 = y.f1) (h2 : x.f2 = y.f2) : x = y := by
  cases x; cases y; cases h0; cases h1; cases h2; rfl
theorem ext71 {x y : S71} (h0 : x.f0 = y.f0) (h1 : x.f1 = y.f1) (h2 : x.f2 = y.f2) : x = y := by
  cases x; cases y; cases h0; cases h1; cases h2; rfl
instance dec68 : DecidableEq S68 := fun x y => decidable_of_iff (x.f0 = y.f0 ∧ x.f1 = y.f1 ∧ x.f2 = y.f2) ⟨fun h => ext68 h.1 h.2.1 h.2.2, fun h => by rw [h]; exact ⟨rfl, rfl, rfl⟩⟩
instance dec71 : DecidableEq S71 := fun x y => decidable_of_iff (x.f0 = y.f0 ∧ x.f1 = y.f1 ∧ x.f2 = y.f2) ⟨fun h => ext71 h.1 h.2.1 h.2.2, fun h => by rw [h]; exact ⟨rfl, rfl, rfl⟩⟩
def seq68 (x y : S68) : Bool := x.f0 == y.f0 && (x.f1 == y.f1 && (x.f2.toList == y.f2.toList))
def seq71 (x y : S71) : Bool := x.f0 == y.f0 && (x.f1 == y.f1 && (x.f2.toList == y.f2.toList))
theorem eqB68 (d : Nat) (w : World) (x y : S68) :
    (Op.equalIn (d + 2) 68 (.agg #[.int .i64 x.f0, .int .i64 x.f1, .string x.f2]) (.agg #[.int .i64 y.f0, .int .i64 y.f1, .string y.f2])).run Try.prog w = .ok (seq68 x y) w := by
  refine eqA_of Try.underlying68 (by kernel_rfl) ?_
  refine eqf_cons (by rfl) (by go_simp; rfl) (by go_simp; rfl) (by go_simp) ?_
  refine eqf_cons (by rfl) (by go_simp; rfl) (by go_simp; rfl) (by go_simp) ?_
  exact eqf_last (by rfl) (by go_simp; rfl) (by go_simp; rfl) (by go_simp)
theorem eqB71 (d : Nat) (w : World) (x y : S71) :
    (Op.equalIn (d + 2) 71 (.agg #[.int .i64 x.f0, .int .i64 x.f1, .string x.f2]) (.agg #[.int .i64 y.f0, .int .i64 y.f1, .string y.f2])).run Try.prog w = .ok (seq71 x y) w := by
  refine eqA_of Try.underlying71 (by kernel_rfl) ?_
  refine eqf_cons (by rfl) (by go_simp; rfl) (by go_simp; rfl) (by go_simp) ?_
  refine eqf_cons (by rfl) (by go_simp; rfl) (by go_simp; rfl) (by go_simp) ?_
  exact eqf_last (by rfl) (by go_simp; rfl) (by go_simp; rfl) (by go_simp)
theorem seq68_t (x y : S68) (h : x = y) : seq68 x y = true := by subst h; simp [seq68]
theorem seq71_t (x y : S71) (h : x = y) : seq71 x y = true := by subst h; simp [seq71]
theorem seq68_f (x y : S68) (h : ¬ x = y) : seq68 x y = false := by
  apply Bool.eq_false_iff.2
  intro hc
  simp only [seq68, Bool.and_eq_true, beq_iff_eq] at hc
  exact h (ext68 hc.1 hc.2.1 (str_inj hc.2.2))
theorem seq71_f (x y : S71) (h : ¬ x = y) : seq71 x y = false := by
  apply Bool.eq_false_iff.2
  intro hc
  simp only [seq71, Bool.and_eq_true, beq_iff_eq] at hc
  exact h (ext71 hc.1 hc.2.1 (str_inj hc.2.2))
end Go.Proofs.Ytfpbohfefliljaa.MD
