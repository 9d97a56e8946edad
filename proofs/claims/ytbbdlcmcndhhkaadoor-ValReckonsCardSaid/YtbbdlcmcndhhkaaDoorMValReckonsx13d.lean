-- Walks made by a program (wip/givenprint.sh); Lean checks them.
import Derived.Test.YtbbdlcmcndhhkaaDoorMValReckonsx0
import Derived.Test.YtbbdlcmcndhhkaaDoorMValReckonsx1
import Derived.Test.YtbbdlcmcndhhkaaDoorMValReckonsx2
import Derived.Test.YtbbdlcmcndhhkaaDoorMValReckonsx3
import Derived.Test.YtbbdlcmcndhhkaaDoorMValReckonsx6
import Derived.Test.YtbbdlcmcndhhkaaDoorAnchor
import Derived.Test.YtbbdlcmcndhhkaaDoorRightAll
import Derived.Test.YtbbdlcmcndhhkaaDoorMValReckonsx9
import Derived.Test.YtbbdlcmcndhhkaaDoorMValReckonsx12
namespace Go.Proofs.YtbbdlcmcndhhkaaDoor.MValReckons
open Go.RowKit Go.Proofs.YtbbdlcmcndhhkaaDoorW.PrintWords Go.Proofs.YtbbdlcmcndhhkaaDoorW.PrintLast Go.Proofs.YtbbdlcmcndhhkaaDoorW.PrintMore
attribute [local go_sem] max2_int min2_int max_two min_two max_three min_three max_four min_four   -- for this text's walks alone
set_option linter.unusedVariables false
set_option linter.unusedSimpArgs false

attribute [local go_sem high] eqA24 eqA28
/-! ### whirligiglaw01_ValReckons: function 7 -/
mutual
def whirligiglaw01_ValReckons.j0 : Nat → Int → Bool → Int → Int → ByteArray → Int → Int → ByteArray → Option (Bool)
  | 0, _, _, _, _, _, _, _, _ => none
  | k + 1, x0, x29, x426000, x426001, x426002, x427000, x427001, x427002 => if x29 = true then (some true) else ((val_Reckon.f k x0 x426000 x426001 x426002 (([(⟨x427000, x427001, x427002⟩ : S24)] : List (S24)))).bind fun bt439 => (if x0 = 1 then (whirligiglaw01_ValReckons.j1 k x0 bt439.2.2.2 true x426000 x426001 x426002 x427000 x427001 x427002 bt439.1 bt439.2.1 bt439.2.2.1) else (whirligiglaw01_ValReckons.j1 k x0 bt439.2.2.2 (x0 == 2) x426000 x426001 x426002 x427000 x427001 x427002 bt439.1 bt439.2.1 bt439.2.2.1)))
def whirligiglaw01_ValReckons.j1 : Nat → Int → Int → Bool → Int → Int → ByteArray → Int → Int → ByteArray → Int → Int → ByteArray → Option (Bool)
  | 0, _, _, _, _, _, _, _, _, _, _, _, _ => none
  | k + 1, x0, x8, x43, x426000, x426001, x426002, x427000, x427001, x427002, x444000, x444001, x444002 => if x43 = true then (if x8 = 20 then ((val_Reckon.f k x0 x426000 x426001 x426002 ([] : List (S24))).bind fun bt444 => (whirligiglaw01_ValReckons.j2 k x0 bt444.2.2.2 x426000 x426001 x426002 x427000 x427001 x427002 bt444.1 bt444.2.1 bt444.2.2.1)) else (some false)) else ((val_Reckon.f k x0 x426000 x426001 x426002 ([] : List (S24))).bind fun bt448 => (if bt448.2.2.2 = 20 then (whirligiglaw01_ValReckons.j2 k x0 x8 x426000 x426001 x426002 x427000 x427001 x427002 x444000 x444001 x444002) else (some false)))
def whirligiglaw01_ValReckons.j2 : Nat → Int → Int → Int → Int → ByteArray → Int → Int → ByteArray → Int → Int → ByteArray → Option (Bool)
  | 0, _, _, _, _, _, _, _, _, _, _, _ => none
  | k + 1, x0, x8, x426000, x426001, x426002, x427000, x427001, x427002, x444000, x444001, x444002 => (whirligigref01_Result.f k x0 x426000 x427000).bind fun t453 => (if t453 = 0 then ((val_Result.f k x0 x426000 x427000).bind fun bt454 => (if x8 = 20 then (if (x444000 == 0 && (x444001 == 0 && (x444002.toList == ([] : List UInt8)))) = true then (some (!bt454.2)) else (some false)) else (some false))) else ((whirligiglaw01_ref.f x426000 x426001 x426002).bind fun bt456 => ((whirligiglaw01_ref.f x427000 x427001 x427002).bind fun bt459 => ((whirligigref01_Reckon.f k x0 bt456.1 bt456.2.1 bt456.2.2 bt459.1 bt459.2.1 bt459.2.2).bind fun bt462 => ((val_Result.f k x0 x426000 x427000).bind fun bt467 => (if x8 = bt462.2.2.2 then ((whirligiglaw01_ref.f x444000 x444001 x444002).bind fun bt469 => (if (!(bt469.1 == bt462.1) || (!(bt469.2.1 == bt462.2.1) || (!(bt469.2.2.toList == bt462.2.2.1.toList)))) = true then (some false) else (if bt467.2 = true then ((whirligigref01_Result.f k x0 x426000 x427000).bind fun t472 => (if bt467.1 = t472 then (if bt462.2.2.2 = 0 then ((val_Right_all.f x444000 x444001 x444002).bind fun t473 => (if t473 = true then (some (x444000 == bt467.1)) else (some false))) else (some true)) else (some false))) else (some false)))) else (some false)))))))
end
def whirligiglaw01_ValReckons.f (k : Nat) (a0 : Int) (a1_0 : Int) (a1_1 : Int) (a1_2 : ByteArray) (a2_0 : Int) (a2_1 : Int) (a2_2 : ByteArray) : Option (Bool) := (whirligiglaw01_anchor.f k).bind fun t427 => (if t427 = true then ((whirligiglaw01_ref.f a1_0 a1_1 a1_2).bind fun bt428 => ((whirligigref01_Right.f k bt428.1 bt428.2.1 bt428.2.2).bind fun t431 => (if t431 = true then ((whirligiglaw01_ref.f a2_0 a2_1 a2_2).bind fun bt432 => ((whirligigref01_Right.f k bt432.1 bt432.2.1 bt432.2.2).bind fun t435 => (whirligiglaw01_ValReckons.j0 k a0 (!t435) a1_0 a1_1 a1_2 a2_0 a2_1 a2_2))) else (whirligiglaw01_ValReckons.j0 k a0 true a1_0 a1_1 a1_2 a2_0 a2_1 a2_2)))) else (some false))
theorem whirligiglaw01_ValReckons.mono_l : ∀ k, (∀ y0 y1 y2 y3 y4 y5 y6 y7, LeO (whirligiglaw01_ValReckons.j0 k y0 y1 y2 y3 y4 y5 y6 y7) (whirligiglaw01_ValReckons.j0 (k + 1) y0 y1 y2 y3 y4 y5 y6 y7)) ∧ (∀ y0 y1 y2 y3 y4 y5 y6 y7 y8 y9 y10 y11, LeO (whirligiglaw01_ValReckons.j1 k y0 y1 y2 y3 y4 y5 y6 y7 y8 y9 y10 y11) (whirligiglaw01_ValReckons.j1 (k + 1) y0 y1 y2 y3 y4 y5 y6 y7 y8 y9 y10 y11)) ∧ (∀ y0 y1 y2 y3 y4 y5 y6 y7 y8 y9 y10, LeO (whirligiglaw01_ValReckons.j2 k y0 y1 y2 y3 y4 y5 y6 y7 y8 y9 y10) (whirligiglaw01_ValReckons.j2 (k + 1) y0 y1 y2 y3 y4 y5 y6 y7 y8 y9 y10))
  | 0 => ⟨fun _ _ _ _ _ _ _ _ r h => by simp [whirligiglaw01_ValReckons.j0] at h, fun _ _ _ _ _ _ _ _ _ _ _ _ r h => by simp [whirligiglaw01_ValReckons.j1] at h, fun _ _ _ _ _ _ _ _ _ _ _ r h => by simp [whirligiglaw01_ValReckons.j2] at h⟩
  | k + 1 => by
    obtain ⟨ih0, ih1, ih2⟩ := whirligiglaw01_ValReckons.mono_l k
    refine ⟨?_, ?_, ?_⟩
    · intro y0 y1 y2 y3 y4 y5 y6 y7
      unfold whirligiglaw01_ValReckons.j0
      repeat' first
      | (with_reducible exact ih0 _ _ _ _ _ _ _ _)
      | (with_reducible exact ih1 _ _ _ _ _ _ _ _ _ _ _ _)
      | (with_reducible exact ih2 _ _ _ _ _ _ _ _ _ _ _)
      | (with_reducible exact val_Reckon.mono _ _ _ _ _ _)
      | (with_reducible exact val_Result.mono _ _ _ _)
      | (with_reducible exact whirligiglaw01_anchor.mono _)
      | (with_reducible exact whirligigref01_Reckon.mono _ _ _ _ _ _ _ _)
      | (with_reducible exact whirligigref01_Result.mono _ _ _ _)
      | (with_reducible exact whirligigref01_Right.mono _ _ _ _)
      | (with_reducible exact LeO.refl _)
      | (with_reducible exact LeO.none _)
      | (with_reducible refine LeO.ite ?_ ?_)
      | (with_reducible refine LeO.bind ?_ (fun _ => ?_))
      | exact ih0 _ _ _ _ _ _ _ _
      | exact ih1 _ _ _ _ _ _ _ _ _ _ _ _
      | exact ih2 _ _ _ _ _ _ _ _ _ _ _
      | exact val_Reckon.mono _ _ _ _ _ _
      | exact val_Result.mono _ _ _ _
      | exact whirligiglaw01_anchor.mono _
      | exact whirligigref01_Reckon.mono _ _ _ _ _ _ _ _
      | exact whirligigref01_Result.mono _ _ _ _
      | exact whirligigref01_Right.mono _ _ _ _
      | exact LeO.none _
      | refine LeO.ite ?_ ?_
      | refine LeO.bind ?_ (fun _ => ?_)
    · intro y0 y1 y2 y3 y4 y5 y6 y7 y8 y9 y10 y11
      unfold whirligiglaw01_ValReckons.j1
      repeat' first
      | (with_reducible exact ih0 _ _ _ _ _ _ _ _)
      | (with_reducible exact ih1 _ _ _ _ _ _ _ _ _ _ _ _)
      | (with_reducible exact ih2 _ _ _ _ _ _ _ _ _ _ _)
      | (with_reducible exact val_Reckon.mono _ _ _ _ _ _)
      | (with_reducible exact val_Result.mono _ _ _ _)
      | (with_reducible exact whirligiglaw01_anchor.mono _)
      | (with_reducible exact whirligigref01_Reckon.mono _ _ _ _ _ _ _ _)
      | (with_reducible exact whirligigref01_Result.mono _ _ _ _)
      | (with_reducible exact whirligigref01_Right.mono _ _ _ _)
      | (with_reducible exact LeO.refl _)
      | (with_reducible exact LeO.none _)
      | (with_reducible refine LeO.ite ?_ ?_)
      | (with_reducible refine LeO.bind ?_ (fun _ => ?_))
      | exact ih0 _ _ _ _ _ _ _ _
      | exact ih1 _ _ _ _ _ _ _ _ _ _ _ _
      | exact ih2 _ _ _ _ _ _ _ _ _ _ _
      | exact val_Reckon.mono _ _ _ _ _ _
      | exact val_Result.mono _ _ _ _
      | exact whirligiglaw01_anchor.mono _
      | exact whirligigref01_Reckon.mono _ _ _ _ _ _ _ _
      | exact whirligigref01_Result.mono _ _ _ _
      | exact whirligigref01_Right.mono _ _ _ _
      | exact LeO.none _
      | refine LeO.ite ?_ ?_
      | refine LeO.bind ?_ (fun _ => ?_)
    · intro y0 y1 y2 y3 y4 y5 y6 y7 y8 y9 y10
      unfold whirligiglaw01_ValReckons.j2
      repeat' first
      | (with_reducible exact ih0 _ _ _ _ _ _ _ _)
      | (with_reducible exact ih1 _ _ _ _ _ _ _ _ _ _ _ _)
      | (with_reducible exact ih2 _ _ _ _ _ _ _ _ _ _ _)
      | (with_reducible exact val_Reckon.mono _ _ _ _ _ _)
      | (with_reducible exact val_Result.mono _ _ _ _)
      | (with_reducible exact whirligiglaw01_anchor.mono _)
      | (with_reducible exact whirligigref01_Reckon.mono _ _ _ _ _ _ _ _)
      | (with_reducible exact whirligigref01_Result.mono _ _ _ _)
      | (with_reducible exact whirligigref01_Right.mono _ _ _ _)
      | (with_reducible exact LeO.refl _)
      | (with_reducible exact LeO.none _)
      | (with_reducible refine LeO.ite ?_ ?_)
      | (with_reducible refine LeO.bind ?_ (fun _ => ?_))
      | exact ih0 _ _ _ _ _ _ _ _
      | exact ih1 _ _ _ _ _ _ _ _ _ _ _ _
      | exact ih2 _ _ _ _ _ _ _ _ _ _ _
      | exact val_Reckon.mono _ _ _ _ _ _
      | exact val_Result.mono _ _ _ _
      | exact whirligiglaw01_anchor.mono _
      | exact whirligigref01_Reckon.mono _ _ _ _ _ _ _ _
      | exact whirligigref01_Result.mono _ _ _ _
      | exact whirligigref01_Right.mono _ _ _ _
      | exact LeO.none _
      | refine LeO.ite ?_ ?_
      | refine LeO.bind ?_ (fun _ => ?_)
theorem whirligiglaw01_ValReckons.mono : ∀ a0 a1 a2 a3 a4 a5 a6 k, LeO (whirligiglaw01_ValReckons.f k a0 a1 a2 a3 a4 a5 a6) (whirligiglaw01_ValReckons.f (k + 1) a0 a1 a2 a3 a4 a5 a6) := by
  intro a0 a1 a2 a3 a4 a5 a6 k
  obtain ⟨ih0, ih1, ih2⟩ := whirligiglaw01_ValReckons.mono_l k
  unfold whirligiglaw01_ValReckons.f
  repeat' first
      | (with_reducible exact ih0 _ _ _ _ _ _ _ _)
      | (with_reducible exact ih1 _ _ _ _ _ _ _ _ _ _ _ _)
      | (with_reducible exact ih2 _ _ _ _ _ _ _ _ _ _ _)
      | (with_reducible exact val_Reckon.mono _ _ _ _ _ _)
      | (with_reducible exact val_Result.mono _ _ _ _)
      | (with_reducible exact whirligiglaw01_anchor.mono _)
      | (with_reducible exact whirligigref01_Reckon.mono _ _ _ _ _ _ _ _)
      | (with_reducible exact whirligigref01_Result.mono _ _ _ _)
      | (with_reducible exact whirligigref01_Right.mono _ _ _ _)
      | (with_reducible exact LeO.refl _)
      | (with_reducible exact LeO.none _)
      | (with_reducible refine LeO.ite ?_ ?_)
      | (with_reducible refine LeO.bind ?_ (fun _ => ?_))
      | exact ih0 _ _ _ _ _ _ _ _
      | exact ih1 _ _ _ _ _ _ _ _ _ _ _ _
      | exact ih2 _ _ _ _ _ _ _ _ _ _ _
      | exact val_Reckon.mono _ _ _ _ _ _
      | exact val_Result.mono _ _ _ _
      | exact whirligiglaw01_anchor.mono _
      | exact whirligigref01_Reckon.mono _ _ _ _ _ _ _ _
      | exact whirligigref01_Result.mono _ _ _ _
      | exact whirligigref01_Right.mono _ _ _ _
      | exact LeO.none _
      | refine LeO.ite ?_ ?_
      | refine LeO.bind ?_ (fun _ => ?_)
def whirligiglaw01_ValReckons.T17 : Bool × List (List Nat × List Nat) := (true, [([], []), ([], []), ([1], [1]), ([], []), ([3, 2], [3]), ([0, 2, 4, 4], [0, 2, 4]), ([5], [5]), ([6], [6]), ([6], [6]), ([], []), ([9, 7, 5, 0, 1, 2, 3, 4, 5, 6, 7, 9], [7, 9]), ([8, 10, 0, 1, 2, 3, 4, 5, 6, 7, 8, 9, 10], [8])])
def whirligiglaw01_ValReckons.B17 : List Nat := [0, 0, 2, 0, 14, 31, 63, 127, 127, 0, 767, 2047]
theorem whirligiglaw01_ValReckons.tab17 : rtab .any (opsOf Tryd.f7 17) = whirligiglaw01_ValReckons.T17 := by kernel_rfl
theorem whirligiglaw01_ValReckons.bits17 : waitsOk whirligiglaw01_ValReckons.T17.2 whirligiglaw01_ValReckons.B17 = true := by kernel_rfl
def whirligiglaw01_ValReckons.T19 : Bool × List (List Nat × List Nat) := (true, [([], []), ([], []), ([0, 1], [0, 1]), ([2], [2]), ([3], [3]), ([4, 3, 3], [3, 4]), ([3], [3]), ([5, 6, 3], [3, 5, 6]), ([3, 7], [3, 7]), ([8, 5], [8]), ([9], [9]), ([10, 9], [9, 10]), ([9, 11], [9, 11]), ([12, 9], [12]), ([13], [13]), ([13], [13]), ([13], [13]), ([16, 13], [13, 16]), ([13], [13]), ([18, 13], [13, 18]), ([15, 17, 19, 13, 13], [13, 15, 17, 19]), ([14, 20, 13], [13, 14, 20]), ([13, 21], [13, 21])])
def whirligiglaw01_ValReckons.B19 : List Nat := [0, 0, 3, 7, 15, 31, 15, 127, 255, 511, 1023, 2047, 4095, 8191, 16383, 16383, 16383, 81919, 16383, 278527, 1032191, 2097151, 4194303]
theorem whirligiglaw01_ValReckons.tab19 : rtab .any (opsOf Tryd.f7 19) = whirligiglaw01_ValReckons.T19 := by kernel_rfl
theorem whirligiglaw01_ValReckons.bits19 : waitsOk whirligiglaw01_ValReckons.T19.2 whirligiglaw01_ValReckons.B19 = true := by kernel_rfl

end Go.Proofs.YtbbdlcmcndhhkaaDoor.MValReckons
