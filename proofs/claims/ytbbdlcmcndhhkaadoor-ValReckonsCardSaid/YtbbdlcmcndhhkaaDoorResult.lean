/- The two functions Result agree. -/
import Derived.Test.YtbbdlcmcndhhkaaDoorReck
namespace Go.Proofs.YtbbdlcmcndhhkaaDoor.MValReckons
open Go Go.RowKit Go.Proofs.YtbbdlcmcndhhkaaDoorW.PrintWords Go.Proofs.YtbbdlcmcndhhkaaDoorW.PrintLast Go.Proofs.YtbbdlcmcndhhkaaDoorW.PrintMore
set_option linter.unusedVariables false
set_option linter.unusedSimpArgs false
def Op15 (op : Int) : Prop := op = 1 ∨ op = 2 ∨ op = 3 ∨ op = 4 ∨ op = 5 ∨ op = 6 ∨ op = 7 ∨ op = 8 ∨ op = 9 ∨ op = 10 ∨ op = 11 ∨ op = 12 ∨ op = 13 ∨ op = 14 ∨ op = 15
theorem op15_or (op : Int) : Op15 op ∨ (op ≤ 0 ∨ 16 ≤ op) := by unfold Op15; omega
theorem result_none {op : Int} (h : op ≤ 0 ∨ 16 ≤ op) (k1 k2 : Int) : val_Result.f 20 op k1 k2 = some (0, false) ∧ whirligigref01_Result.f 20 op k1 k2 = some 0 := by
  have e : ∀ i : Int, 1 ≤ i → i ≤ 15 → ¬ op = i := fun i h1 h2 => by omega
  have e1 := e 1 (by decide) (by decide)
  have e2 := e 2 (by decide) (by decide)
  have e3 := e 3 (by decide) (by decide)
  have e4 := e 4 (by decide) (by decide)
  have e5 := e 5 (by decide) (by decide)
  have e6 := e 6 (by decide) (by decide)
  have e7 := e 7 (by decide) (by decide)
  have e8 := e 8 (by decide) (by decide)
  have e9 := e 9 (by decide) (by decide)
  have e10 := e 10 (by decide) (by decide)
  have e11 := e 11 (by decide) (by decide)
  have e12 := e 12 (by decide) (by decide)
  have e13 := e 13 (by decide) (by decide)
  have e14 := e 14 (by decide) (by decide)
  have e15 := e 15 (by decide) (by decide)
  clear e
  constructor
  · simp [val_Result.f, val_Result.j0, val_Result.j1, val_Result.j2, *]
  · rcases h with h | h
    · have g : op < 3 := by omega
      simp [whirligigref01_Result.f, whirligigref01_Result.j0, whirligigref01_Result.j1, whirligigref01_Result.j2, *]
    · have g : ¬ op < 3 := by omega
      have g' : op > 15 := by omega
      simp [whirligigref01_Result.f, whirligigref01_Result.j0, whirligigref01_Result.j1, whirligigref01_Result.j2, *]
theorem result_some {op : Int} (h : Op15 op) {k1 k2 : Int} (h1 : k1 = 1 ∨ k1 = 2 ∨ k1 = 3) (h2 : k2 = 1 ∨ k2 = 2 ∨ k2 = 3) :
    ∃ kd ok, val_Result.f 20 op k1 k2 = some (kd, ok) ∧ whirligigref01_Result.f 20 op k1 k2 = some (if ok = true then kd else 0) ∧ (ok = true → kd ≠ 0) := by
  unfold Op15 at h
  rcases h1 with rfl | rfl | rfl <;> rcases h2 with rfl | rfl | rfl <;> rcases h with rfl | rfl | rfl | rfl | rfl | rfl | rfl | rfl | rfl | rfl | rfl | rfl | rfl | rfl | rfl <;>
    exact ⟨_, _, rfl, rfl, by decide⟩
end Go.Proofs.YtbbdlcmcndhhkaaDoor.MValReckons
