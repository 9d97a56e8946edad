-- Walks made by a program (wip/givenprint.sh); Lean checks them.
import Derived.Test.YtfpbohfefliljaaMDeltaPatchesx0
namespace Go.Proofs.Ytfpbohfefliljaa.MDeltaPatches
open Go.RowKit Go.Proofs.YtfpbohfefliljaaW.PrintWords Go.Proofs.YtfpbohfefliljaaW.PrintLast Go.Proofs.YtfpbohfefliljaaW.PrintMore
attribute [local go_sem] max2_int min2_int max_two min_two max_three min_three max_four min_four   -- for this text's walks alone
set_option linter.unusedVariables false
set_option linter.unusedSimpArgs false

/-! ### whirligigref19_Diff: function 9 -/
mutual
def whirligigref19_Diff.j1 : Nat → List ByteArray → List ByteArray → Int → Option (Int × Int × List ByteArray)
  | 0, _, _, _ => none
  | k + 1, x0, x1, x5 => if 0 ≤ x5 then (if x5 ≤ (x0.length : Int) then (if x5 ≤ (x1.length : Int) then (whirligigref19_Diff.l1 k x5 (x0.drop (x5 : Int).toNat) (x1.drop (x5 : Int).toNat) 0) else (none)) else (none)) else (none)
def whirligigref19_Diff.l1 : Nat → Int → List ByteArray → List ByteArray → Int → Option (Int × Int × List ByteArray)
  | 0, _, _, _, _ => none
  | k + 1, x5, x6, x7, x8 => if x8 < (x6.length : Int) then (if x8 < (x7.length : Int) then (if 0 ≤ (wrap64 ((wrap64 ((x6.length : Int) - 1)) - x8)) then (if (wrap64 ((wrap64 ((x6.length : Int) - 1)) - x8)) < (x6.length : Int) then (if 0 ≤ (wrap64 ((wrap64 ((x7.length : Int) - 1)) - x8)) then (if (wrap64 ((wrap64 ((x7.length : Int) - 1)) - x8)) < (x7.length : Int) then (if (rdOf ByteArray.empty x6 (wrap64 ((wrap64 ((x6.length : Int) - 1)) - x8))).toList = (rdOf ByteArray.empty x7 (wrap64 ((wrap64 ((x7.length : Int) - 1)) - x8))).toList then (whirligigref19_Diff.l1 k x5 x6 x7 (wrap64 (x8 + 1))) else (if (x6.length : Int) = 0 then (if (x7.length : Int) = 0 then (some (0, 0, ([] : List ByteArray))) else (if 0 ≤ (wrap64 ((x7.length : Int) - x8)) then (if (wrap64 ((x7.length : Int) - x8)) ≤ (x7.length : Int) then (some (x5, wrap64 ((x6.length : Int) - x8), (x7.take ((wrap64 ((x7.length : Int) - x8)) : Int).toNat))) else (none)) else (none))) else (if 0 ≤ (wrap64 ((x7.length : Int) - x8)) then (if (wrap64 ((x7.length : Int) - x8)) ≤ (x7.length : Int) then (some (x5, wrap64 ((x6.length : Int) - x8), (x7.take ((wrap64 ((x7.length : Int) - x8)) : Int).toNat))) else (none)) else (none)))) else (none)) else (none)) else (none)) else (none)) else (if (x6.length : Int) = 0 then (if (x7.length : Int) = 0 then (some (0, 0, ([] : List ByteArray))) else (if 0 ≤ (wrap64 ((x7.length : Int) - x8)) then (if (wrap64 ((x7.length : Int) - x8)) ≤ (x7.length : Int) then (some (x5, wrap64 ((x6.length : Int) - x8), (x7.take ((wrap64 ((x7.length : Int) - x8)) : Int).toNat))) else (none)) else (none))) else (if 0 ≤ (wrap64 ((x7.length : Int) - x8)) then (if (wrap64 ((x7.length : Int) - x8)) ≤ (x7.length : Int) then (some (x5, wrap64 ((x6.length : Int) - x8), (x7.take ((wrap64 ((x7.length : Int) - x8)) : Int).toNat))) else (none)) else (none)))) else (if (x6.length : Int) = 0 then (if (x7.length : Int) = 0 then (some (0, 0, ([] : List ByteArray))) else (if 0 ≤ (wrap64 ((x7.length : Int) - x8)) then (if (wrap64 ((x7.length : Int) - x8)) ≤ (x7.length : Int) then (some (x5, wrap64 ((x6.length : Int) - x8), (x7.take ((wrap64 ((x7.length : Int) - x8)) : Int).toNat))) else (none)) else (none))) else (if 0 ≤ (wrap64 ((x7.length : Int) - x8)) then (if (wrap64 ((x7.length : Int) - x8)) ≤ (x7.length : Int) then (some (x5, wrap64 ((x6.length : Int) - x8), (x7.take ((wrap64 ((x7.length : Int) - x8)) : Int).toNat))) else (none)) else (none)))
def whirligigref19_Diff.l0 : Nat → List ByteArray → List ByteArray → Int → Option (Int × Int × List ByteArray)
  | 0, _, _, _ => none
  | k + 1, x0, x1, x5 => if x5 < (x0.length : Int) then (if x5 < (x1.length : Int) then (if 0 ≤ x5 then (if (rdOf ByteArray.empty x0 x5).toList = (rdOf ByteArray.empty x1 x5).toList then (whirligigref19_Diff.l0 k x0 x1 (wrap64 (x5 + 1))) else (whirligigref19_Diff.j1 k x0 x1 x5)) else (none)) else (whirligigref19_Diff.j1 k x0 x1 x5)) else (whirligigref19_Diff.j1 k x0 x1 x5)
end
def whirligigref19_Diff.f (k : Nat) (l0 : List ByteArray) (l1 : List ByteArray) : Option (Int × Int × List ByteArray) := whirligigref19_Diff.l0 k l0 l1 0
theorem whirligigref19_Diff.mono_l : ∀ k, (∀ y0 y1 y2, LeO (whirligigref19_Diff.j1 k y0 y1 y2) (whirligigref19_Diff.j1 (k + 1) y0 y1 y2)) ∧ (∀ y0 y1 y2 y3, LeO (whirligigref19_Diff.l1 k y0 y1 y2 y3) (whirligigref19_Diff.l1 (k + 1) y0 y1 y2 y3)) ∧ (∀ y0 y1 y2, LeO (whirligigref19_Diff.l0 k y0 y1 y2) (whirligigref19_Diff.l0 (k + 1) y0 y1 y2))
  | 0 => ⟨fun _ _ _ r h => by simp [whirligigref19_Diff.j1] at h, fun _ _ _ _ r h => by simp [whirligigref19_Diff.l1] at h, fun _ _ _ r h => by simp [whirligigref19_Diff.l0] at h⟩
  | k + 1 => by
    obtain ⟨ih0, ih1, ih2⟩ := whirligigref19_Diff.mono_l k
    refine ⟨?_, ?_, ?_⟩
    · intro y0 y1 y2
      unfold whirligigref19_Diff.j1
      repeat' first
      | (with_reducible exact ih0 _ _ _)
      | (with_reducible exact ih1 _ _ _ _)
      | (with_reducible exact ih2 _ _ _)
      | (with_reducible exact LeO.refl _)
      | (with_reducible exact LeO.none _)
      | (with_reducible refine LeO.ite ?_ ?_)
      | (with_reducible refine LeO.bind ?_ (fun _ => ?_))
      | exact ih0 _ _ _
      | exact ih1 _ _ _ _
      | exact ih2 _ _ _
      | exact LeO.none _
      | refine LeO.ite ?_ ?_
      | refine LeO.bind ?_ (fun _ => ?_)
    · intro y0 y1 y2 y3
      unfold whirligigref19_Diff.l1
      repeat' first
      | (with_reducible exact ih0 _ _ _)
      | (with_reducible exact ih1 _ _ _ _)
      | (with_reducible exact ih2 _ _ _)
      | (with_reducible exact LeO.refl _)
      | (with_reducible exact LeO.none _)
      | (with_reducible refine LeO.ite ?_ ?_)
      | (with_reducible refine LeO.bind ?_ (fun _ => ?_))
      | exact ih0 _ _ _
      | exact ih1 _ _ _ _
      | exact ih2 _ _ _
      | exact LeO.none _
      | refine LeO.ite ?_ ?_
      | refine LeO.bind ?_ (fun _ => ?_)
    · intro y0 y1 y2
      unfold whirligigref19_Diff.l0
      repeat' first
      | (with_reducible exact ih0 _ _ _)
      | (with_reducible exact ih1 _ _ _ _)
      | (with_reducible exact ih2 _ _ _)
      | (with_reducible exact LeO.refl _)
      | (with_reducible exact LeO.none _)
      | (with_reducible refine LeO.ite ?_ ?_)
      | (with_reducible refine LeO.bind ?_ (fun _ => ?_))
      | exact ih0 _ _ _
      | exact ih1 _ _ _ _
      | exact ih2 _ _ _
      | exact LeO.none _
      | refine LeO.ite ?_ ?_
      | refine LeO.bind ?_ (fun _ => ?_)
theorem whirligigref19_Diff.mono : ∀ a0 a1 k, LeO (whirligigref19_Diff.f k a0 a1) (whirligigref19_Diff.f (k + 1) a0 a1) := by
  intro a0 a1 k
  obtain ⟨ih0, ih1, ih2⟩ := whirligigref19_Diff.mono_l k
  unfold whirligigref19_Diff.f
  repeat' first
      | (with_reducible exact ih0 _ _ _)
      | (with_reducible exact ih1 _ _ _ _)
      | (with_reducible exact ih2 _ _ _)
      | (with_reducible exact LeO.refl _)
      | (with_reducible exact LeO.none _)
      | (with_reducible refine LeO.ite ?_ ?_)
      | (with_reducible refine LeO.bind ?_ (fun _ => ?_))
      | exact ih0 _ _ _
      | exact ih1 _ _ _ _
      | exact ih2 _ _ _
      | exact LeO.none _
      | refine LeO.ite ?_ ?_
      | refine LeO.bind ?_ (fun _ => ?_)

end Go.Proofs.Ytfpbohfefliljaa.MDeltaPatches
