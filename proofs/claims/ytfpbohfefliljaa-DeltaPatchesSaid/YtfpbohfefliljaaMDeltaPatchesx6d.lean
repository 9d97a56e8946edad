-- Walks made by a program (wip/givenprint.sh); Lean checks them.
import Derived.Test.YtfpbohfefliljaaMDeltaPatchesx0
import Derived.Test.YtfpbohfefliljaaMDeltaPatchesx2
import Derived.Test.YtfpbohfefliljaaMDeltaPatchesx3
import Derived.Test.YtfpbohfefliljaaMDeltaPatchesx4d
import Derived.Test.YtfpbohfefliljaaMDeltaPatchesx4f
import Derived.Test.YtfpbohfefliljaaMDeltaPatchesx5
namespace Go.Proofs.Ytfpbohfefliljaa.MDeltaPatches
open Go.RowKit Go.Proofs.YtfpbohfefliljaaW.PrintWords Go.Proofs.YtfpbohfefliljaaW.PrintLast Go.Proofs.YtfpbohfefliljaaW.PrintMore
attribute [local go_sem] max2_int min2_int max_two min_two max_three min_three max_four min_four   -- for this text's walks alone
set_option linter.unusedVariables false
set_option linter.unusedSimpArgs false

/-! ### whirligiglaw19_DeltaPatches: function 3 -/
def whirligiglaw19_DeltaPatches.j0 : Nat → List ByteArray → List ByteArray → Bool → Option (Bool)
  | 0, _, _, _ => none
  | k + 1, x0, x1, x18 => if x18 = true then (some true) else ((delta_Diff_string.f k x0 x1).bind fun bt262 => ((whirligigref19_Diff.f k x0 x1).bind fun bt267 => ((delta_Patch_string_Put.f bt262.1 bt262.2.1 bt262.2.2 x0).bind fun bt274 => (if bt262.1 = bt267.1 then (if bt262.2.1 = bt267.2.1 then ((whirligiglaw19_texts.f k bt262.2.2 bt267.2.2).bind fun t278 => (if t278 = true then ((delta_Patch_string_Size.f bt262.1 bt262.2.1 bt262.2.2).bind fun t279 => (if t279 = (bt267.2.2.length : Int) then (if bt274.2 = true then ((whirligiglaw19_texts.f k bt274.1 x1).bind fun t280 => (if t280 = true then ((delta_Patch_string_Fits.f bt262.1 bt262.2.1 bt262.2.2 (x0.length : Int)).bind fun t281 => (some t281)) else (some false))) else (some false)) else (some false))) else (some false))) else (some false)) else (some false)))))
def whirligiglaw19_DeltaPatches.f (k : Nat) (l0 : List ByteArray) (l1 : List ByteArray) : Option (Bool) := (whirligiglaw19_anchor.f k).bind fun t261 => (if t261 = true then (if (l0.length : Int) > 200 then (whirligiglaw19_DeltaPatches.j0 k l0 l1 true) else (whirligiglaw19_DeltaPatches.j0 k l0 l1 (decide ((l1.length : Int) > 200)))) else (some false))
theorem whirligiglaw19_DeltaPatches.mono_l : ∀ k, (∀ y0 y1 y2, LeO (whirligiglaw19_DeltaPatches.j0 k y0 y1 y2) (whirligiglaw19_DeltaPatches.j0 (k + 1) y0 y1 y2))
  | 0 => fun _ _ _ r h => by simp [whirligiglaw19_DeltaPatches.j0] at h
  | k + 1 => by
    have ih0 := whirligiglaw19_DeltaPatches.mono_l k
    · intro y0 y1 y2
      unfold whirligiglaw19_DeltaPatches.j0
      repeat' first
      | (with_reducible exact ih0 _ _ _)
      | (with_reducible exact delta_Diff_string.mono _ _ _)
      | (with_reducible exact whirligiglaw19_anchor.mono _)
      | (with_reducible exact whirligiglaw19_texts.mono _ _ _)
      | (with_reducible exact whirligigref19_Diff.mono _ _ _)
      | (with_reducible exact LeO.refl _)
      | (with_reducible exact LeO.none _)
      | (with_reducible refine LeO.ite ?_ ?_)
      | (with_reducible refine LeO.bind ?_ (fun _ => ?_))
      | exact ih0 _ _ _
      | exact delta_Diff_string.mono _ _ _
      | exact whirligiglaw19_anchor.mono _
      | exact whirligiglaw19_texts.mono _ _ _
      | exact whirligigref19_Diff.mono _ _ _
      | exact LeO.none _
      | refine LeO.ite ?_ ?_
      | refine LeO.bind ?_ (fun _ => ?_)
theorem whirligiglaw19_DeltaPatches.mono : ∀ a0 a1 k, LeO (whirligiglaw19_DeltaPatches.f k a0 a1) (whirligiglaw19_DeltaPatches.f (k + 1) a0 a1) := by
  intro a0 a1 k
  have ih0 := whirligiglaw19_DeltaPatches.mono_l k
  unfold whirligiglaw19_DeltaPatches.f
  repeat' first
      | (with_reducible exact ih0 _ _ _)
      | (with_reducible exact delta_Diff_string.mono _ _ _)
      | (with_reducible exact whirligiglaw19_anchor.mono _)
      | (with_reducible exact whirligiglaw19_texts.mono _ _ _)
      | (with_reducible exact whirligigref19_Diff.mono _ _ _)
      | (with_reducible exact LeO.refl _)
      | (with_reducible exact LeO.none _)
      | (with_reducible refine LeO.ite ?_ ?_)
      | (with_reducible refine LeO.bind ?_ (fun _ => ?_))
      | exact ih0 _ _ _
      | exact delta_Diff_string.mono _ _ _
      | exact whirligiglaw19_anchor.mono _
      | exact whirligiglaw19_texts.mono _ _ _
      | exact whirligigref19_Diff.mono _ _ _
      | exact LeO.none _
      | refine LeO.ite ?_ ?_
      | refine LeO.bind ?_ (fun _ => ?_)
def whirligiglaw19_DeltaPatches.T7 : Bool × List (List Nat × List Nat) := (true, [([], []), ([0], [0]), ([], []), ([2], [2]), ([1, 3], [1, 3]), ([4], [4]), ([5], [5]), ([6, 5], [5, 6]), ([5], [5]), ([8, 5], [5, 8]), ([7, 9, 5], [5, 7, 9]), ([5, 10], [5, 10]), ([11, 5], [11]), ([12], [12]), ([13, 12], [12, 13]), ([12], [12]), ([15, 12], [12, 15]), ([14, 16, 12, 12], [12, 14, 16]), ([12, 17], [12, 17]), ([18, 17], [18]), ([19], [19]), ([20, 19, 19], [19, 20]), ([19], [19]), ([22, 19], [19, 22]), ([23, 19], [19, 23]), ([21, 24, 19], [19, 21, 24]), ([19, 25], [19, 25]), ([26, 21], [26]), ([27], [27]), ([27, 28], [27, 28]), ([29, 27], [29]), ([30], [30]), ([30], [30]), ([31, 32, 30, 30], [30, 31, 32]), ([30, 33], [30, 33]), ([34, 33], [34]), ([35], [35]), ([35], [35]), ([37, 35], [35, 37]), ([36, 38, 35, 35], [35, 36, 38]), ([35, 39], [35, 39]), ([40, 39, 0, 1, 2, 3, 4, 5, 6, 7, 8, 9, 10, 11, 12, 13, 14, 15, 16, 17, 18, 19, 20, 21, 22, 23, 24, 25, 26, 27, 28, 29, 30, 31, 32, 33, 34, 35, 36, 37, 38, 39, 40], [40])])
def whirligiglaw19_DeltaPatches.B7 : List Nat := [0, 1, 0, 4, 15, 31, 63, 127, 63, 319, 1023, 2047, 4095, 8191, 16383, 8191, 40959, 131071, 262143, 524287, 1048575, 2097151, 1048575, 5242879, 13631487, 33554431, 67108863, 134217727, 268435455, 536870911, 1073741823, 2147483647, 2147483647, 8589934591, 17179869183, 34359738367, 68719476735, 68719476735, 206158430207, 549755813887, 1099511627775, 2199023255551]
theorem whirligiglaw19_DeltaPatches.tab7 : rtab .any (opsOf Try.f3 7) = whirligiglaw19_DeltaPatches.T7 := by kernel_rfl
theorem whirligiglaw19_DeltaPatches.bits7 : waitsOk whirligiglaw19_DeltaPatches.T7.2 whirligiglaw19_DeltaPatches.B7 = true := by kernel_rfl

end Go.Proofs.Ytfpbohfefliljaa.MDeltaPatches
