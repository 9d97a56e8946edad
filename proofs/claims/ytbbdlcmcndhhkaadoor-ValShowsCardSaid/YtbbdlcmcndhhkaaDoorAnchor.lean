/- The walk of the anchor of the laws of values: the document's examples. (It began as a printed text; the ways that the examples do not take are closed by their values.) -/
import Derived.Test.YtbbdlcmcndhhkaaDoorMValReckonsx0
import Derived.Test.YtbbdlcmcndhhkaaDoorMValReckonsx1
import Derived.Test.YtbbdlcmcndhhkaaDoorMValReckonsx3
import Derived.Test.YtbbdlcmcndhhkaaDoorMValReckonsx4
import Derived.Test.YtbbdlcmcndhhkaaDoorMValReckonsx6
namespace Go.Proofs.YtbbdlcmcndhhkaaDoor.MValReckons
open Go.RowKit Go.Proofs.YtbbdlcmcndhhkaaDoorW.PrintWords Go.Proofs.YtbbdlcmcndhhkaaDoorW.PrintLast Go.Proofs.YtbbdlcmcndhhkaaDoorW.PrintMore
attribute [local go_sem] max2_int min2_int max_two min_two max_three min_three max_four min_four   -- for this text's walks alone
set_option linter.unusedVariables false
set_option linter.unusedSimpArgs false

attribute [local go_sem high] eqA24
/-! ### whirligiglaw01_anchor: function 9 -/
def whirligiglaw01_anchor.f (k : Nat)  : Option (Bool) := (val_Of.f (-7)).bind fun bt284 => ((val_Of.f 2).bind fun bt287 => ((val_Reckon.f k 4 bt284.1 bt284.2.1 bt284.2.2 (([(⟨bt287.1, bt287.2.1, bt287.2.2⟩ : S24)] : List (S24)))).bind fun bt293 => ((val_Of.f (-7)).bind fun bt298 => ((val_Of.f 2).bind fun bt301 => ((val_Reckon.f k 5 bt298.1 bt298.2.1 bt298.2.2 (([(⟨bt301.1, bt301.2.1, bt301.2.2⟩ : S24)] : List (S24)))).bind fun bt307 => ((val_Word.f (⟨#[97, 98]⟩ : ByteArray)).bind fun bt312 => ((val_Word.f (⟨#[99]⟩ : ByteArray)).bind fun bt315 => ((val_Reckon.f k 6 bt312.1 bt312.2.1 bt312.2.2 (([(⟨bt315.1, bt315.2.1, bt315.2.2⟩ : S24)] : List (S24)))).bind fun bt321 => (if bt293.2.2.2 = 0 then (if bt307.2.2.2 = 0 then (if bt321.2.2.2 = 0 then ((val_Of.f (-3)).bind fun bt326 => (if (bt293.1 == bt326.1 && (bt293.2.1 == bt326.2.1 && (bt293.2.2.1.toList == bt326.2.2.toList))) = true then ((val_Of.f (-1)).bind fun bt329 => (if (bt307.1 == bt329.1 && (bt307.2.1 == bt329.2.1 && (bt307.2.2.1.toList == bt329.2.2.toList))) = true then ((val_Value_Show.f bt321.1 bt321.2.1 bt321.2.2.1).bind fun t332 => (some (t332.toList == ([39, 97, 98, 99, 39] : List UInt8)))) else (some false))) else (some false))) else (some false)) else (some false)) else (some false))))))))))
theorem whirligiglaw01_anchor.mono : ∀ k, LeO (whirligiglaw01_anchor.f k ) (whirligiglaw01_anchor.f (k + 1) ) := by
  intro  k
  unfold whirligiglaw01_anchor.f
  repeat' first
      | (with_reducible exact val_Reckon.mono _ _ _ _ _ _)
      | (with_reducible exact LeO.refl _)
      | (with_reducible exact LeO.none _)
      | (with_reducible refine LeO.ite ?_ ?_)
      | (with_reducible refine LeO.bind ?_ (fun _ => ?_))
      | exact val_Reckon.mono _ _ _ _ _ _
      | exact LeO.none _
      | refine LeO.ite ?_ ?_
      | refine LeO.bind ?_ (fun _ => ?_)
def whirligiglaw01_anchor.T4 : Bool × List (List Nat × List Nat) := (true, [([], []), ([0], [0]), ([1], [1]), ([2], [2]), ([3, 2], [2, 3]), ([2, 4], [2, 4]), ([5, 2], [5]), ([6], [6]), ([7, 6], [6, 7]), ([6, 8], [6, 8]), ([9, 6], [9]), ([10], [10]), ([10, 10], [10]), ([11, 12, 10], [10, 11, 12]), ([10, 13], [10, 13]), ([14, 12], [14]), ([15], [15]), ([15, 15], [15]), ([16, 17, 15], [15, 16, 17]), ([15, 18], [15, 18]), ([19, 17], [19]), ([20], [20]), ([21, 20, 20], [20, 21]), ([22, 20], [20, 22]), ([20, 23], [20, 23]), ([24, 22, 0, 1, 2, 3, 4, 5, 6, 7, 8, 9, 10, 11, 12, 13, 14, 15, 16, 17, 18, 19, 20, 21, 22, 23, 24], [24])])
def whirligiglaw01_anchor.B4 : List Nat := [0, 1, 3, 7, 15, 31, 63, 127, 255, 511, 1023, 2047, 2047, 8191, 16383, 32767, 65535, 65535, 262143, 524287, 1048575, 2097151, 4194303, 8388607, 16777215, 33554431]
theorem whirligiglaw01_anchor.tab4 : rtab .any (opsOf Tryd.f9 4) = whirligiglaw01_anchor.T4 := by kernel_rfl
theorem whirligiglaw01_anchor.bits4 : waitsOk whirligiglaw01_anchor.T4.2 whirligiglaw01_anchor.B4 = true := by kernel_rfl
/-- Two answers of one function with rounds are one. -/
theorem uniq {α : Type} {g : Nat → Option α} (hg : ∀ k, LeO (g k) (g (k + 1))) {k k' : Nat} {a b : α} (h : g k = some a) (h' : g k' = some b) : a = b :=
  Option.some.inj ((at_rounds hg (Nat.le_max_left k k') h).symm.trans (at_rounds hg (Nat.le_max_right k k') h'))
theorem quad {α β γ δ : Type} {a a' : α} {b b' : β} {c c' : γ} {d d' : δ} (h : (a, b, c, d) = (a', b', c', d')) : a = a' ∧ b = b' ∧ c = c' ∧ d = d' := by
  simp only [Prod.mk.injEq] at h; exact h
theorem trip {n : Int} {a b : Int} {c : ByteArray} (h : val_Of.f n = some (a, b, c)) : a = 1 ∧ b = n ∧ c = ⟨#[]⟩ := by
  unfold val_Of.f at h
  simp only [Option.some.injEq, Prod.mk.injEq] at h
  exact ⟨h.1.symm, h.2.1.symm, h.2.2.symm⟩
theorem trip3 {s : ByteArray} {a b : Int} {c : ByteArray} (h : val_Word.f s = some (a, b, c)) : a = 3 ∧ b = 0 ∧ c = s := by
  unfold val_Word.f at h
  simp only [Option.some.injEq, Prod.mk.injEq] at h
  exact ⟨h.1.symm, h.2.1.symm, h.2.2.symm⟩
theorem val_q {k : Nat} {a1 a2 : Int} {a3 : ByteArray} {b1 b2 : Int} {b3 : ByteArray} {y : List S24} {r : Int × Int × ByteArray × Int} (h1 : val_Of.f (-7) = some (a1, a2, a3)) (h2 : val_Of.f 2 = some (b1, b2, b3)) (h3 : y = [⟨b1, b2, b3⟩])
    (h4 : val_Reckon.f k 4 a1 a2 a3 y = some r) : r = (1, -3, ⟨#[]⟩, 0) := by
  obtain ⟨rfl, rfl, rfl⟩ := trip h1
  obtain ⟨rfl, rfl, rfl⟩ := trip h2
  subst h3
  exact uniq (val_Reckon.mono _ _ _ _ _) h4 (show val_Reckon.f 30 4 1 (-7) ⟨#[]⟩ [⟨1, 2, ⟨#[]⟩⟩] = some (1, -3, ⟨#[]⟩, 0) by decide +kernel)
theorem val_r {k : Nat} {a1 a2 : Int} {a3 : ByteArray} {b1 b2 : Int} {b3 : ByteArray} {y : List S24} {r : Int × Int × ByteArray × Int} (h1 : val_Of.f (-7) = some (a1, a2, a3)) (h2 : val_Of.f 2 = some (b1, b2, b3)) (h3 : y = [⟨b1, b2, b3⟩])
    (h4 : val_Reckon.f k 5 a1 a2 a3 y = some r) : r = (1, -1, ⟨#[]⟩, 0) := by
  obtain ⟨rfl, rfl, rfl⟩ := trip h1
  obtain ⟨rfl, rfl, rfl⟩ := trip h2
  subst h3
  exact uniq (val_Reckon.mono _ _ _ _ _) h4 (show val_Reckon.f 30 5 1 (-7) ⟨#[]⟩ [⟨1, 2, ⟨#[]⟩⟩] = some (1, -1, ⟨#[]⟩, 0) by decide +kernel)
theorem val_s {k : Nat} {a1 a2 : Int} {a3 : ByteArray} {b1 b2 : Int} {b3 : ByteArray} {y : List S24} {r : Int × Int × ByteArray × Int} (h1 : val_Word.f (⟨#[97, 98]⟩ : ByteArray) = some (a1, a2, a3)) (h2 : val_Word.f (⟨#[99]⟩ : ByteArray) = some (b1, b2, b3)) (h3 : y = [⟨b1, b2, b3⟩])
    (h4 : val_Reckon.f k 6 a1 a2 a3 y = some r) : r = (3, 0, ⟨#[97, 98, 99]⟩, 0) := by
  obtain ⟨rfl, rfl, rfl⟩ := trip3 h1
  obtain ⟨rfl, rfl, rfl⟩ := trip3 h2
  subst h3
  exact uniq (val_Reckon.mono _ _ _ _ _) h4 (show val_Reckon.f 30 6 3 0 ⟨#[97, 98]⟩ [⟨3, 0, ⟨#[99]⟩⟩] = some (3, 0, ⟨#[97, 98, 99]⟩, 0) by decide +kernel)
/-- The anchor, told: it answers true. -/
theorem anchor_f : whirligiglaw01_anchor.f 30 = some true := by decide +kernel
set_option maxHeartbeats 8000000 in
set_option maxRecDepth 100000 in
theorem whirligiglaw01_anchor.calls (k : Nat)  (r : Bool) (w : World) (h : whirligiglaw01_anchor.f k  = some r) :
    Calls Tryd.prog 9 #[] w fun e w' => e = .returned (.bool r) ∧ Below w.heap.size w w' := by
  have hu24 := Tryd.underlying24
  have HB := Aside0.mk (Below.refl w.heap.size w)
  have H : ((val_Of.f (-7)).bind fun bt284 => ((val_Of.f 2).bind fun bt287 => ((val_Reckon.f k 4 bt284.1 bt284.2.1 bt284.2.2 (([(⟨bt287.1, bt287.2.1, bt287.2.2⟩ : S24)] : List (S24)))).bind fun bt293 => ((val_Of.f (-7)).bind fun bt298 => ((val_Of.f 2).bind fun bt301 => ((val_Reckon.f k 5 bt298.1 bt298.2.1 bt298.2.2 (([(⟨bt301.1, bt301.2.1, bt301.2.2⟩ : S24)] : List (S24)))).bind fun bt307 => ((val_Word.f (⟨#[97, 98]⟩ : ByteArray)).bind fun bt312 => ((val_Word.f (⟨#[99]⟩ : ByteArray)).bind fun bt315 => ((val_Reckon.f k 6 bt312.1 bt312.2.1 bt312.2.2 (([(⟨bt315.1, bt315.2.1, bt315.2.2⟩ : S24)] : List (S24)))).bind fun bt321 => (if bt293.2.2.2 = 0 then (if bt307.2.2.2 = 0 then (if bt321.2.2.2 = 0 then ((val_Of.f (-3)).bind fun bt326 => (if (bt293.1 == bt326.1 && (bt293.2.1 == bt326.2.1 && (bt293.2.2.1.toList == bt326.2.2.toList))) = true then ((val_Of.f (-1)).bind fun bt329 => (if (bt307.1 == bt329.1 && (bt307.2.1 == bt329.2.1 && (bt307.2.2.1.toList == bt329.2.2.toList))) = true then ((val_Value_Show.f bt321.1 bt321.2.1 bt321.2.2.1).bind fun t332 => (some (t332.toList == ([39, 97, 98, 99, 39] : List UInt8)))) else (some false))) else (some false))) else (some false)) else (some false)) else (some false))))))))))) = some r := h
  clear h
  replace H := Option.bind_eq_some_iff.mp H
  obtain ⟨⟨t284, t285, t286⟩, A10, H⟩ := H
  replace H : ((val_Of.f 2).bind fun bt287 => ((val_Reckon.f k 4 t284 t285 t286 (([(⟨bt287.1, bt287.2.1, bt287.2.2⟩ : S24)] : List (S24)))).bind fun bt293 => ((val_Of.f (-7)).bind fun bt298 => ((val_Of.f 2).bind fun bt301 => ((val_Reckon.f k 5 bt298.1 bt298.2.1 bt298.2.2 (([(⟨bt301.1, bt301.2.1, bt301.2.2⟩ : S24)] : List (S24)))).bind fun bt307 => ((val_Word.f (⟨#[97, 98]⟩ : ByteArray)).bind fun bt312 => ((val_Word.f (⟨#[99]⟩ : ByteArray)).bind fun bt315 => ((val_Reckon.f k 6 bt312.1 bt312.2.1 bt312.2.2 (([(⟨bt315.1, bt315.2.1, bt315.2.2⟩ : S24)] : List (S24)))).bind fun bt321 => (if bt293.2.2.2 = 0 then (if bt307.2.2.2 = 0 then (if bt321.2.2.2 = 0 then ((val_Of.f (-3)).bind fun bt326 => (if (bt293.1 == bt326.1 && (bt293.2.1 == bt326.2.1 && (bt293.2.2.1.toList == bt326.2.2.toList))) = true then ((val_Of.f (-1)).bind fun bt329 => (if (bt307.1 == bt329.1 && (bt307.2.1 == bt329.2.1 && (bt307.2.2.1.toList == bt329.2.2.toList))) = true then ((val_Value_Show.f bt321.1 bt321.2.1 bt321.2.2.1).bind fun t332 => (some (t332.toList == ([39, 97, 98, 99, 39] : List UInt8)))) else (some false))) else (some false))) else (some false)) else (some false)) else (some false)))))))))) = some r := H
  have A1 := Aside0.mk A10
  clear A10
  replace H := Option.bind_eq_some_iff.mp H
  obtain ⟨⟨t287, t288, t289⟩, A20, H⟩ := H
  replace H : ((val_Reckon.f k 4 t284 t285 t286 (([(⟨t287, t288, t289⟩ : S24)] : List (S24)))).bind fun bt293 => ((val_Of.f (-7)).bind fun bt298 => ((val_Of.f 2).bind fun bt301 => ((val_Reckon.f k 5 bt298.1 bt298.2.1 bt298.2.2 (([(⟨bt301.1, bt301.2.1, bt301.2.2⟩ : S24)] : List (S24)))).bind fun bt307 => ((val_Word.f (⟨#[97, 98]⟩ : ByteArray)).bind fun bt312 => ((val_Word.f (⟨#[99]⟩ : ByteArray)).bind fun bt315 => ((val_Reckon.f k 6 bt312.1 bt312.2.1 bt312.2.2 (([(⟨bt315.1, bt315.2.1, bt315.2.2⟩ : S24)] : List (S24)))).bind fun bt321 => (if bt293.2.2.2 = 0 then (if bt307.2.2.2 = 0 then (if bt321.2.2.2 = 0 then ((val_Of.f (-3)).bind fun bt326 => (if (bt293.1 == bt326.1 && (bt293.2.1 == bt326.2.1 && (bt293.2.2.1.toList == bt326.2.2.toList))) = true then ((val_Of.f (-1)).bind fun bt329 => (if (bt307.1 == bt329.1 && (bt307.2.1 == bt329.2.1 && (bt307.2.2.1.toList == bt329.2.2.toList))) = true then ((val_Value_Show.f bt321.1 bt321.2.1 bt321.2.2.1).bind fun t332 => (some (t332.toList == ([39, 97, 98, 99, 39] : List UInt8)))) else (some false))) else (some false))) else (some false)) else (some false)) else (some false))))))))) = some r := H
  have A2 := Aside0.mk A20
  clear A20
  obtain ⟨y290, hy290⟩ : ∃ y_ : List (S24), y_ = (([(⟨t287, t288, t289⟩ : S24)] : List (S24))) := ⟨_, rfl⟩
  replace H : ((val_Reckon.f k 4 t284 t285 t286 y290).bind fun bt293 => ((val_Of.f (-7)).bind fun bt298 => ((val_Of.f 2).bind fun bt301 => ((val_Reckon.f k 5 bt298.1 bt298.2.1 bt298.2.2 (([(⟨bt301.1, bt301.2.1, bt301.2.2⟩ : S24)] : List (S24)))).bind fun bt307 => ((val_Word.f (⟨#[97, 98]⟩ : ByteArray)).bind fun bt312 => ((val_Word.f (⟨#[99]⟩ : ByteArray)).bind fun bt315 => ((val_Reckon.f k 6 bt312.1 bt312.2.1 bt312.2.2 (([(⟨bt315.1, bt315.2.1, bt315.2.2⟩ : S24)] : List (S24)))).bind fun bt321 => (if bt293.2.2.2 = 0 then (if bt307.2.2.2 = 0 then (if bt321.2.2.2 = 0 then ((val_Of.f (-3)).bind fun bt326 => (if (bt293.1 == bt326.1 && (bt293.2.1 == bt326.2.1 && (bt293.2.2.1.toList == bt326.2.2.toList))) = true then ((val_Of.f (-1)).bind fun bt329 => (if (bt307.1 == bt329.1 && (bt307.2.1 == bt329.2.1 && (bt307.2.2.1.toList == bt329.2.2.toList))) = true then ((val_Value_Show.f bt321.1 bt321.2.1 bt321.2.2.1).bind fun t332 => (some (t332.toList == ([39, 97, 98, 99, 39] : List UInt8)))) else (some false))) else (some false))) else (some false)) else (some false)) else (some false))))))))) = some r := by first | (rw [hy290]; with_reducible exact H) | (have H2_ := (Option.bind_some _ _).symm.trans H; rw [hy290]; with_reducible exact H2_) | (have H2_ := (Option.bind_some _ _).symm.trans H; with_reducible exact H2_) | with_reducible exact H | (rw [hy290]; exact H) | exact H
  have Ny290 := Aside0.mk hy290
  clear hy290
  replace H := Option.bind_eq_some_iff.mp H
  obtain ⟨⟨t293, t294, t295, t296⟩, A30, H⟩ := H
  replace H : ((val_Of.f (-7)).bind fun bt298 => ((val_Of.f 2).bind fun bt301 => ((val_Reckon.f k 5 bt298.1 bt298.2.1 bt298.2.2 (([(⟨bt301.1, bt301.2.1, bt301.2.2⟩ : S24)] : List (S24)))).bind fun bt307 => ((val_Word.f (⟨#[97, 98]⟩ : ByteArray)).bind fun bt312 => ((val_Word.f (⟨#[99]⟩ : ByteArray)).bind fun bt315 => ((val_Reckon.f k 6 bt312.1 bt312.2.1 bt312.2.2 (([(⟨bt315.1, bt315.2.1, bt315.2.2⟩ : S24)] : List (S24)))).bind fun bt321 => (if t296 = 0 then (if bt307.2.2.2 = 0 then (if bt321.2.2.2 = 0 then ((val_Of.f (-3)).bind fun bt326 => (if (t293 == bt326.1 && (t294 == bt326.2.1 && (t295.toList == bt326.2.2.toList))) = true then ((val_Of.f (-1)).bind fun bt329 => (if (bt307.1 == bt329.1 && (bt307.2.1 == bt329.2.1 && (bt307.2.2.1.toList == bt329.2.2.toList))) = true then ((val_Value_Show.f bt321.1 bt321.2.1 bt321.2.2.1).bind fun t332 => (some (t332.toList == ([39, 97, 98, 99, 39] : List UInt8)))) else (some false))) else (some false))) else (some false)) else (some false)) else (some false)))))))) = some r := H
  have A3 := Aside0.mk A30
  clear A30
  replace H := Option.bind_eq_some_iff.mp H
  obtain ⟨⟨t298, t299, t300⟩, A40, H⟩ := H
  replace H : ((val_Of.f 2).bind fun bt301 => ((val_Reckon.f k 5 t298 t299 t300 (([(⟨bt301.1, bt301.2.1, bt301.2.2⟩ : S24)] : List (S24)))).bind fun bt307 => ((val_Word.f (⟨#[97, 98]⟩ : ByteArray)).bind fun bt312 => ((val_Word.f (⟨#[99]⟩ : ByteArray)).bind fun bt315 => ((val_Reckon.f k 6 bt312.1 bt312.2.1 bt312.2.2 (([(⟨bt315.1, bt315.2.1, bt315.2.2⟩ : S24)] : List (S24)))).bind fun bt321 => (if t296 = 0 then (if bt307.2.2.2 = 0 then (if bt321.2.2.2 = 0 then ((val_Of.f (-3)).bind fun bt326 => (if (t293 == bt326.1 && (t294 == bt326.2.1 && (t295.toList == bt326.2.2.toList))) = true then ((val_Of.f (-1)).bind fun bt329 => (if (bt307.1 == bt329.1 && (bt307.2.1 == bt329.2.1 && (bt307.2.2.1.toList == bt329.2.2.toList))) = true then ((val_Value_Show.f bt321.1 bt321.2.1 bt321.2.2.1).bind fun t332 => (some (t332.toList == ([39, 97, 98, 99, 39] : List UInt8)))) else (some false))) else (some false))) else (some false)) else (some false)) else (some false))))))) = some r := H
  have A4 := Aside0.mk A40
  clear A40
  replace H := Option.bind_eq_some_iff.mp H
  obtain ⟨⟨t301, t302, t303⟩, A50, H⟩ := H
  replace H : ((val_Reckon.f k 5 t298 t299 t300 (([(⟨t301, t302, t303⟩ : S24)] : List (S24)))).bind fun bt307 => ((val_Word.f (⟨#[97, 98]⟩ : ByteArray)).bind fun bt312 => ((val_Word.f (⟨#[99]⟩ : ByteArray)).bind fun bt315 => ((val_Reckon.f k 6 bt312.1 bt312.2.1 bt312.2.2 (([(⟨bt315.1, bt315.2.1, bt315.2.2⟩ : S24)] : List (S24)))).bind fun bt321 => (if t296 = 0 then (if bt307.2.2.2 = 0 then (if bt321.2.2.2 = 0 then ((val_Of.f (-3)).bind fun bt326 => (if (t293 == bt326.1 && (t294 == bt326.2.1 && (t295.toList == bt326.2.2.toList))) = true then ((val_Of.f (-1)).bind fun bt329 => (if (bt307.1 == bt329.1 && (bt307.2.1 == bt329.2.1 && (bt307.2.2.1.toList == bt329.2.2.toList))) = true then ((val_Value_Show.f bt321.1 bt321.2.1 bt321.2.2.1).bind fun t332 => (some (t332.toList == ([39, 97, 98, 99, 39] : List UInt8)))) else (some false))) else (some false))) else (some false)) else (some false)) else (some false)))))) = some r := H
  have A5 := Aside0.mk A50
  clear A50
  obtain ⟨y304, hy304⟩ : ∃ y_ : List (S24), y_ = (([(⟨t301, t302, t303⟩ : S24)] : List (S24))) := ⟨_, rfl⟩
  replace H : ((val_Reckon.f k 5 t298 t299 t300 y304).bind fun bt307 => ((val_Word.f (⟨#[97, 98]⟩ : ByteArray)).bind fun bt312 => ((val_Word.f (⟨#[99]⟩ : ByteArray)).bind fun bt315 => ((val_Reckon.f k 6 bt312.1 bt312.2.1 bt312.2.2 (([(⟨bt315.1, bt315.2.1, bt315.2.2⟩ : S24)] : List (S24)))).bind fun bt321 => (if t296 = 0 then (if bt307.2.2.2 = 0 then (if bt321.2.2.2 = 0 then ((val_Of.f (-3)).bind fun bt326 => (if (t293 == bt326.1 && (t294 == bt326.2.1 && (t295.toList == bt326.2.2.toList))) = true then ((val_Of.f (-1)).bind fun bt329 => (if (bt307.1 == bt329.1 && (bt307.2.1 == bt329.2.1 && (bt307.2.2.1.toList == bt329.2.2.toList))) = true then ((val_Value_Show.f bt321.1 bt321.2.1 bt321.2.2.1).bind fun t332 => (some (t332.toList == ([39, 97, 98, 99, 39] : List UInt8)))) else (some false))) else (some false))) else (some false)) else (some false)) else (some false)))))) = some r := by first | (rw [hy304]; with_reducible exact H) | (have H2_ := (Option.bind_some _ _).symm.trans H; rw [hy304]; with_reducible exact H2_) | (have H2_ := (Option.bind_some _ _).symm.trans H; with_reducible exact H2_) | with_reducible exact H | (rw [hy304]; exact H) | exact H
  have Ny304 := Aside0.mk hy304
  clear hy304
  replace H := Option.bind_eq_some_iff.mp H
  obtain ⟨⟨t307, t308, t309, t310⟩, A60, H⟩ := H
  replace H : ((val_Word.f (⟨#[97, 98]⟩ : ByteArray)).bind fun bt312 => ((val_Word.f (⟨#[99]⟩ : ByteArray)).bind fun bt315 => ((val_Reckon.f k 6 bt312.1 bt312.2.1 bt312.2.2 (([(⟨bt315.1, bt315.2.1, bt315.2.2⟩ : S24)] : List (S24)))).bind fun bt321 => (if t296 = 0 then (if t310 = 0 then (if bt321.2.2.2 = 0 then ((val_Of.f (-3)).bind fun bt326 => (if (t293 == bt326.1 && (t294 == bt326.2.1 && (t295.toList == bt326.2.2.toList))) = true then ((val_Of.f (-1)).bind fun bt329 => (if (t307 == bt329.1 && (t308 == bt329.2.1 && (t309.toList == bt329.2.2.toList))) = true then ((val_Value_Show.f bt321.1 bt321.2.1 bt321.2.2.1).bind fun t332 => (some (t332.toList == ([39, 97, 98, 99, 39] : List UInt8)))) else (some false))) else (some false))) else (some false)) else (some false)) else (some false))))) = some r := H
  have A6 := Aside0.mk A60
  clear A60
  replace H := Option.bind_eq_some_iff.mp H
  obtain ⟨⟨t312, t313, t314⟩, A70, H⟩ := H
  replace H : ((val_Word.f (⟨#[99]⟩ : ByteArray)).bind fun bt315 => ((val_Reckon.f k 6 t312 t313 t314 (([(⟨bt315.1, bt315.2.1, bt315.2.2⟩ : S24)] : List (S24)))).bind fun bt321 => (if t296 = 0 then (if t310 = 0 then (if bt321.2.2.2 = 0 then ((val_Of.f (-3)).bind fun bt326 => (if (t293 == bt326.1 && (t294 == bt326.2.1 && (t295.toList == bt326.2.2.toList))) = true then ((val_Of.f (-1)).bind fun bt329 => (if (t307 == bt329.1 && (t308 == bt329.2.1 && (t309.toList == bt329.2.2.toList))) = true then ((val_Value_Show.f bt321.1 bt321.2.1 bt321.2.2.1).bind fun t332 => (some (t332.toList == ([39, 97, 98, 99, 39] : List UInt8)))) else (some false))) else (some false))) else (some false)) else (some false)) else (some false)))) = some r := H
  have A7 := Aside0.mk A70
  clear A70
  replace H := Option.bind_eq_some_iff.mp H
  obtain ⟨⟨t315, t316, t317⟩, A80, H⟩ := H
  replace H : ((val_Reckon.f k 6 t312 t313 t314 (([(⟨t315, t316, t317⟩ : S24)] : List (S24)))).bind fun bt321 => (if t296 = 0 then (if t310 = 0 then (if bt321.2.2.2 = 0 then ((val_Of.f (-3)).bind fun bt326 => (if (t293 == bt326.1 && (t294 == bt326.2.1 && (t295.toList == bt326.2.2.toList))) = true then ((val_Of.f (-1)).bind fun bt329 => (if (t307 == bt329.1 && (t308 == bt329.2.1 && (t309.toList == bt329.2.2.toList))) = true then ((val_Value_Show.f bt321.1 bt321.2.1 bt321.2.2.1).bind fun t332 => (some (t332.toList == ([39, 97, 98, 99, 39] : List UInt8)))) else (some false))) else (some false))) else (some false)) else (some false)) else (some false))) = some r := H
  have A8 := Aside0.mk A80
  clear A80
  obtain ⟨y318, hy318⟩ : ∃ y_ : List (S24), y_ = (([(⟨t315, t316, t317⟩ : S24)] : List (S24))) := ⟨_, rfl⟩
  replace H : ((val_Reckon.f k 6 t312 t313 t314 y318).bind fun bt321 => (if t296 = 0 then (if t310 = 0 then (if bt321.2.2.2 = 0 then ((val_Of.f (-3)).bind fun bt326 => (if (t293 == bt326.1 && (t294 == bt326.2.1 && (t295.toList == bt326.2.2.toList))) = true then ((val_Of.f (-1)).bind fun bt329 => (if (t307 == bt329.1 && (t308 == bt329.2.1 && (t309.toList == bt329.2.2.toList))) = true then ((val_Value_Show.f bt321.1 bt321.2.1 bt321.2.2.1).bind fun t332 => (some (t332.toList == ([39, 97, 98, 99, 39] : List UInt8)))) else (some false))) else (some false))) else (some false)) else (some false)) else (some false))) = some r := by first | (rw [hy318]; with_reducible exact H) | (have H2_ := (Option.bind_some _ _).symm.trans H; rw [hy318]; with_reducible exact H2_) | (have H2_ := (Option.bind_some _ _).symm.trans H; with_reducible exact H2_) | with_reducible exact H | (rw [hy318]; exact H) | exact H
  have Ny318 := Aside0.mk hy318
  clear hy318
  replace H := Option.bind_eq_some_iff.mp H
  obtain ⟨⟨t321, t322, t323, t324⟩, A90, H⟩ := H
  replace H : (if t296 = 0 then (if t310 = 0 then (if t324 = 0 then ((val_Of.f (-3)).bind fun bt326 => (if (t293 == bt326.1 && (t294 == bt326.2.1 && (t295.toList == bt326.2.2.toList))) = true then ((val_Of.f (-1)).bind fun bt329 => (if (t307 == bt329.1 && (t308 == bt329.2.1 && (t309.toList == bt329.2.2.toList))) = true then ((val_Value_Show.f t321 t322 t323).bind fun t332 => (some (t332.toList == ([39, 97, 98, 99, 39] : List UInt8)))) else (some false))) else (some false))) else (some false)) else (some false)) else (some false)) = some r := H
  have A9 := Aside0.mk A90
  clear A90
  by_cases c10 : t296 = 0
  · rw [if_pos c10] at H
    have c10b0 : (t296 == 0) = true := beq_iff_eq.mpr c10
    have c10b1 : (t296 != 0) = false := bne_eq_false_iff_eq.mpr c10
    clear c10
    by_cases c11 : t310 = 0
    · rw [if_pos c11] at H
      have c11b0 : (t310 == 0) = true := beq_iff_eq.mpr c11
      have c11b1 : (t310 != 0) = false := bne_eq_false_iff_eq.mpr c11
      clear c11
      by_cases c12 : t324 = 0
      · rw [if_pos c12] at H
        have c12b0 : (t324 == 0) = true := beq_iff_eq.mpr c12
        have c12b1 : (t324 != 0) = false := bne_eq_false_iff_eq.mpr c12
        clear c12
        replace H := Option.bind_eq_some_iff.mp H
        obtain ⟨⟨t326, t327, t328⟩, A130, H⟩ := H
        replace H : (if (t293 == t326 && (t294 == t327 && (t295.toList == t328.toList))) = true then ((val_Of.f (-1)).bind fun bt329 => (if (t307 == bt329.1 && (t308 == bt329.2.1 && (t309.toList == bt329.2.2.toList))) = true then ((val_Value_Show.f t321 t322 t323).bind fun t332 => (some (t332.toList == ([39, 97, 98, 99, 39] : List UInt8)))) else (some false))) else (some false)) = some r := H
        have A13 := Aside0.mk A130
        clear A130
        by_cases c14 : (t293 == t326 && (t294 == t327 && (t295.toList == t328.toList))) = true
        · rw [if_pos c14] at H
          have c14b0 : (t293 == t326 && (t294 == t327 && (t295.toList == t328.toList))) = true := c14
          (try (have c14b1 : decide (t293 = t326 && (t294 == t327 && (t295.toList == t328.toList))) = true := by simpa using c14))
          (try (have c14b2 : (t293 == t326 && (t294 == t327 && (t295.toList == t328.toList))) = true := by simpa using c14))
          clear c14
          replace H := Option.bind_eq_some_iff.mp H
          obtain ⟨⟨t329, t330, t331⟩, A150, H⟩ := H
          replace H : (if (t307 == t329 && (t308 == t330 && (t309.toList == t331.toList))) = true then ((val_Value_Show.f t321 t322 t323).bind fun t332 => (some (t332.toList == ([39, 97, 98, 99, 39] : List UInt8)))) else (some false)) = some r := H
          have A15 := Aside0.mk A150
          clear A150
          by_cases c16 : (t307 == t329 && (t308 == t330 && (t309.toList == t331.toList))) = true
          · rw [if_pos c16] at H
            have c16b0 : (t307 == t329 && (t308 == t330 && (t309.toList == t331.toList))) = true := c16
            (try (have c16b1 : decide (t307 = t329 && (t308 == t330 && (t309.toList == t331.toList))) = true := by simpa using c16))
            (try (have c16b2 : (t307 == t329 && (t308 == t330 && (t309.toList == t331.toList))) = true := by simpa using c16))
            clear c16
            replace H := Option.bind_eq_some_iff.mp H
            obtain ⟨t332, A170, H⟩ := H
            replace H : (some (t332.toList == ([39, 97, 98, 99, 39] : List UInt8))) = some r := H
            have A17 := Aside0.mk A170
            clear A170
            obtain rfl := Option.some.inj H
            go_enter Tryd.func9, Tryd.ntmps9
            try go_wp2_with (first | ((with_reducible refine gate_callee (f := 25) rfl ?_); refine goesL_ (some 8) rfl rfl Tryd.func25 (by kernel_rfl) rfl #[.int .i64 (-7)] rfl (by (try simp only [List.map_toArray, List.map_cons, List.map_nil]); first | done | rfl | (simp only [List.length_drop, List.length_take]; rfl)) ?_; (with_reducible refine (val_Of.calls (-7) t284 t285 t286 _ A1.out).mono ?_); rintro e w18 ⟨rfl, hb⟩; refine ⟨_, rfl, ?_⟩; have n0_ := Aside0.mk (below_step (by repeat (first | (with_reducible first | exact HB.out | apply below_alloc | apply pw_below_drewN | apply below_drew1) | exact HB.out)) hb); clear HB; have HB := n0_; clear n0_; (try clear hb); (try clear hb2); (try clear hk); (try clear hi)) | ((with_reducible refine gate_callee (f := 25) rfl ?_); refine goesL_ (some 9) rfl rfl Tryd.func25 (by kernel_rfl) rfl #[.int .i64 2] rfl (by (try simp only [List.map_toArray, List.map_cons, List.map_nil]); first | done | rfl | (simp only [List.length_drop, List.length_take]; rfl)) ?_; (with_reducible refine (val_Of.calls 2 t287 t288 t289 _ A2.out).mono ?_); rintro e w19 ⟨rfl, hb⟩; refine ⟨_, rfl, ?_⟩; have n0_ := Aside0.mk (below_step (by repeat (first | (with_reducible first | exact HB.out | apply below_alloc | apply pw_below_drewN | apply below_drew1) | exact HB.out)) hb); clear HB; have HB := n0_; clear n0_; (try clear hb); (try clear hb2); (try clear hk); (try clear hi)) | ((with_reducible refine gate_dst (N := 10) rfl ?_); refine Kd.R_lit k24 _ 24 ?hg (N := 10) ?hd (xs := ([(⟨t287, t288, t289⟩ : S24)] : List (S24))) (inner := [.int .i64 t287, .int .i64 t288, .string t289]) (ok := fun _ => True) (okp := fun _ => True) ?hr ?hp (fun _ hk => hk) trivial (Below.refl _ _) (Nat.le_refl _) (by simp) ?_; (case hd => rfl); (case hg => rfl); (case hr => first | (go_simp; done) | (go_simp; rfl)); (case hp => exact (Reps.c3 (show Kd.M k24 _ _ _ (⟨t287, t288, t289⟩ : S24) [.int .i64 t287, .int .i64 t288, .string t289] from (k24_mkM _ _ _ (⟨t287, t288, t289⟩ : S24) )) (Reps.none _ _))); intro v291 w20 ho21 hb hg_ hnew_; clear hg_ hnew_; (first | rw [← Ny290.out] at ho21 | (simp only [Int.reduceToNat] at ho21; rw [← Ny290.out] at ho21)); have n0_ := Aside0.mk (Kd.R_lower ho21 (below_size (by repeat (first | (with_reducible first | exact HB.out | apply below_alloc | apply pw_below_drewN | apply below_drew1) | exact HB.out)))); have n1_ := Aside0.mk (below_step (by repeat (first | (with_reducible first | exact HB.out | apply below_alloc | apply pw_below_drewN | apply below_drew1) | exact HB.out)) hb); clear HB; have HO292 := n0_; have HB := n1_; clear n0_ n1_; clear hb ho21; obtain ⟨Ao22, co22, eo22⟩ := Kd.R_slice HO292.out; subst eo22) | ((with_reducible refine gate_callee (f := 20) rfl ?_); refine goesL_ (some 11) rfl rfl Tryd.func20 (by kernel_rfl) rfl #[.int .i64 4, .agg #[.int .i64 t284, .int .i64 t285, .string t286], .slice Ao22 y290.length co22] rfl (by (try simp only [List.map_toArray, List.map_cons, List.map_nil]); first | done | rfl | (simp only [List.length_drop, List.length_take]; rfl)) ?_; (with_reducible refine (val_Reckon.calls k 4 t284 t285 t286 _ _ y290 t293 t294 t295 t296 _ ?side1 ?side2 A3.out).mono ?_); (case side1 => repeat (first | exact (Kd.R_reads' HO292.out).2.2 | (with_reducible refine Kd.C_alloc ?_ _) | (with_reducible refine Kd.C_drewN ?_ _) | (with_reducible refine Kd.C_drew ?_))); (case side2 => exact (Kd.R_reads' HO292.out).2.1); rintro e w23 ⟨rfl, hb⟩; refine ⟨_, rfl, ?_⟩; have n0_ := Aside0.mk (Kd.R_below (by (with_reducible repeat (first | apply Kd.R_alloc | apply Kd.R_drewN | apply Kd.R_drew)); exact HO292.out) hb); have n1_ := Aside0.mk (below_step (by repeat (first | (with_reducible first | exact HB.out | apply below_alloc | apply pw_below_drewN | apply below_drew1) | exact HB.out)) hb); clear HO292; clear HB; have HO292 := n0_; have HB := n1_; clear n0_ n1_; (try clear hb); (try clear hb2); (try clear hk); (try clear hi)) | ((with_reducible refine gate_dst (N := 1) rfl ?_); refine box_event ?hg (N := 1) ?hd (cs := #[.int .i64 0, .int .i64 0, .string (⟨#[]⟩ : ByteArray)]) (t := 24) ?hr ?_; (case hd => rfl); (case hg => rfl); (case hr => first | (go_simp; done) | (go_simp; rfl)); intro gb297 hg w24 hbox hb; have n0_ := Aside0.mk (Kd.R_below (Kd.R_elderB (by (with_reducible repeat (first | apply Kd.R_alloc | apply Kd.R_drewN | apply Kd.R_drew)); exact HO292.out) gb297 (Nat.le_of_eq hg.symm)) hb); have n1_ := Aside0.mk (below_step (by repeat (first | (with_reducible first | exact HB.out | apply below_alloc | apply pw_below_drewN | apply below_drew1) | exact HB.out)) hb); have n2_ := Aside0.mk (hbox); have n3_ := Aside0.mk ((by rw [hg]; exact (below_size (by repeat (first | (with_reducible first | exact HB.out | apply below_alloc | apply pw_below_drewN | apply below_drew1) | exact HB.out))) : w.heap.size ≤ gb297)); have n4_ := Aside0.mk ((by rw [hg]; exact (below_size (by repeat (first | (with_reducible first | exact HB.out | apply below_alloc | apply pw_below_drewN | apply below_drew1) | exact HB.out))) : w.heap.size ≤ gb297)); clear HO292; clear HB; have HO292 := n0_; have HB := n1_; have BK297 := n2_; have GW297 := n3_; have GE297 := n4_; clear n0_ n1_ n2_ n3_ n4_; clear hb hbox hg; have hcz25_0 : w24.cell? ⟨gb297, 0, none⟩ = some (.int .i64 0) := (blk_cell BK297.out 0).trans rfl; have hcz25_1 : w24.cell? ⟨gb297, 1, none⟩ = some (.int .i64 0) := (blk_cell BK297.out 1).trans rfl; have hcz25_2 : w24.cell? ⟨gb297, 2, none⟩ = some (.string (⟨#[]⟩ : ByteArray)) := (blk_cell BK297.out 2).trans rfl; have hfz25_0 := blk_frozen BK297.out 0; have hfz25_1 := blk_frozen BK297.out 1; have hfz25_2 := blk_frozen BK297.out 2) | ((with_reducible refine gate_callee (f := 25) rfl ?_); refine goesL_ (some 15) rfl rfl Tryd.func25 (by kernel_rfl) rfl #[.int .i64 (-7)] rfl (by (try simp only [List.map_toArray, List.map_cons, List.map_nil]); first | done | rfl | (simp only [List.length_drop, List.length_take]; rfl)) ?_; (with_reducible refine (val_Of.calls (-7) t298 t299 t300 _ A4.out).mono ?_); rintro e w26 ⟨rfl, hb⟩; refine ⟨_, rfl, ?_⟩; have n0_ := Aside0.mk (Kd.R_below (by (with_reducible repeat (first | apply Kd.R_alloc | apply Kd.R_drewN | apply Kd.R_drew)); exact (Kd.R_mono (Kd.R_far (p := ⟨gb297, 2, none⟩) (Kd.R_far (p := ⟨gb297, 1, none⟩) (Kd.R_far (p := ⟨gb297, 0, none⟩) (Kd.R_mono HO292.out (fun k_ hk => (⟨hk, hk.2⟩ : _ ∧ k_ ≠ gb297))) (fun _ hk => hk.2) (.int .i64 t293)) (fun _ hk => hk.2) (.int .i64 t294)) (fun _ hk => hk.2) (.string t295)) (fun _ h_ => h_.1))) hb); have n1_ := Aside0.mk (blk_below (g := gb297) (o := .cells #[.int .i64 t293, .int .i64 t294, .string t295] 24 (0, 0)) (by (with_reducible repeat (first | refine blk_drewN ?_ _ | refine blk_drew ?_ | refine blk_alloc ?_ _)); refine blk_put (cs := #[.int .i64 t293, .int .i64 t294, .string (⟨#[]⟩ : ByteArray)]) ?_ 2 _ rfl; (with_reducible repeat (first | refine blk_drewN ?_ _ | refine blk_drew ?_ | refine blk_alloc ?_ _)); refine blk_put (cs := #[.int .i64 t293, .int .i64 0, .string (⟨#[]⟩ : ByteArray)]) ?_ 1 _ rfl; (with_reducible repeat (first | refine blk_drewN ?_ _ | refine blk_drew ?_ | refine blk_alloc ?_ _)); refine blk_put (cs := #[.int .i64 0, .int .i64 0, .string (⟨#[]⟩ : ByteArray)]) ?_ 0 _ rfl; (with_reducible repeat (first | refine blk_drewN ?_ _ | refine blk_drew ?_ | refine blk_alloc ?_ _)); exact BK297.out) hb); have n2_ := Aside0.mk (below_step (by repeat (first | (with_reducible first | exact HB.out | apply below_alloc | apply pw_below_drewN | apply below_drew1 | refine below_set ?_ GE297.out) | exact HB.out)) hb); clear HO292; clear BK297; clear HB; have HO292 := n0_; have BK297 := n1_; have HB := n2_; clear n0_ n1_ n2_; (try clear hb); (try clear hb2); (try clear hk); (try clear hi)) | ((with_reducible refine gate_callee (f := 25) rfl ?_); refine goesL_ (some 16) rfl rfl Tryd.func25 (by kernel_rfl) rfl #[.int .i64 2] rfl (by (try simp only [List.map_toArray, List.map_cons, List.map_nil]); first | done | rfl | (simp only [List.length_drop, List.length_take]; rfl)) ?_; (with_reducible refine (val_Of.calls 2 t301 t302 t303 _ A5.out).mono ?_); rintro e w27 ⟨rfl, hb⟩; refine ⟨_, rfl, ?_⟩; have n0_ := Aside0.mk (Kd.R_below (by (with_reducible repeat (first | apply Kd.R_alloc | apply Kd.R_drewN | apply Kd.R_drew)); exact HO292.out) hb); have n1_ := Aside0.mk (blk_below (g := gb297) (o := .cells #[.int .i64 t293, .int .i64 t294, .string t295] 24 (0, 0)) (by (with_reducible repeat (first | refine blk_drewN ?_ _ | refine blk_drew ?_ | refine blk_alloc ?_ _)); exact BK297.out) hb); have n2_ := Aside0.mk (below_step (by repeat (first | (with_reducible first | exact HB.out | apply below_alloc | apply pw_below_drewN | apply below_drew1 | refine below_set ?_ GE297.out) | exact HB.out)) hb); clear HO292; clear BK297; clear HB; have HO292 := n0_; have BK297 := n1_; have HB := n2_; clear n0_ n1_ n2_; (try clear hb); (try clear hb2); (try clear hk); (try clear hi)) | ((with_reducible refine gate_dst (N := 17) rfl ?_); refine Kd.R_lit k24 _ 24 ?hg (N := 17) ?hd (xs := ([(⟨t301, t302, t303⟩ : S24)] : List (S24))) (inner := [.int .i64 t301, .int .i64 t302, .string t303]) (ok := fun _ => True) (okp := fun _ => True) ?hr ?hp (fun _ hk => hk) trivial (Below.refl _ _) (Nat.le_refl _) (by simp) ?_; (case hd => rfl); (case hg => rfl); (case hr => first | (go_simp; done) | (go_simp; rfl)); (case hp => exact (Reps.c3 (show Kd.M k24 _ _ _ (⟨t301, t302, t303⟩ : S24) [.int .i64 t301, .int .i64 t302, .string t303] from (k24_mkM _ _ _ (⟨t301, t302, t303⟩ : S24) )) (Reps.none _ _))); intro v305 w28 ho29 hb hg_ hnew_; clear hg_ hnew_; (first | rw [← Ny304.out] at ho29 | (simp only [Int.reduceToNat] at ho29; rw [← Ny304.out] at ho29)); have n0_ := Aside0.mk (Kd.R_elder' (by (with_reducible repeat (first | apply Kd.R_alloc | apply Kd.R_drewN | apply Kd.R_drew)); exact HO292.out) (Kd.R_base ho29) hb); have n1_ := Aside0.mk (Kd.R_lower (Kd.R_newB (Kd.R_new' ho29 (Kd.R_lt (by (with_reducible repeat (first | apply Kd.R_alloc | apply Kd.R_drewN | apply Kd.R_drew)); exact HO292.out))) (g := gb297) (o := .cells #[.int .i64 t293, .int .i64 t294, .string t295] 24 (0, 0)) (by (with_reducible repeat (first | refine blk_drewN ?_ _ | refine blk_drew ?_ | refine blk_alloc ?_ _)); exact BK297.out)) (below_size (by repeat (first | (with_reducible first | exact HB.out | apply below_alloc | apply pw_below_drewN | apply below_drew1 | refine below_set ?_ GE297.out) | exact HB.out)))); have n2_ := Aside0.mk (blk_below (g := gb297) (o := .cells #[.int .i64 t293, .int .i64 t294, .string t295] 24 (0, 0)) (by (with_reducible repeat (first | refine blk_drewN ?_ _ | refine blk_drew ?_ | refine blk_alloc ?_ _)); exact BK297.out) hb); have n3_ := Aside0.mk (below_step (by repeat (first | (with_reducible first | exact HB.out | apply below_alloc | apply pw_below_drewN | apply below_drew1 | refine below_set ?_ GE297.out) | exact HB.out)) hb); clear HO292; clear BK297; clear HB; have HO292 := n0_; have HO306 := n1_; have BK297 := n2_; have HB := n3_; clear n0_ n1_ n2_ n3_; clear hb ho29; obtain ⟨Ao30, co30, eo30⟩ := Kd.R_slice HO306.out; subst eo30) | ((with_reducible refine gate_callee (f := 20) rfl ?_); refine goesL_ (some 18) rfl rfl Tryd.func20 (by kernel_rfl) rfl #[.int .i64 5, .agg #[.int .i64 t298, .int .i64 t299, .string t300], .slice Ao30 y304.length co30] rfl (by (try simp only [List.map_toArray, List.map_cons, List.map_nil]); first | done | rfl | (simp only [List.length_drop, List.length_take]; rfl)) ?_; (with_reducible refine (val_Reckon.calls k 5 t298 t299 t300 _ _ y304 t307 t308 t309 t310 _ ?side1 ?side2 A6.out).mono ?_); (case side1 => repeat (first | exact (Kd.R_reads' HO306.out).2.2 | (with_reducible refine Kd.C_alloc ?_ _) | (with_reducible refine Kd.C_drewN ?_ _) | (with_reducible refine Kd.C_drew ?_))); (case side2 => exact (Kd.R_reads' HO306.out).2.1); rintro e w31 ⟨rfl, hb⟩; refine ⟨_, rfl, ?_⟩; have n0_ := Aside0.mk (Kd.R_below (by (with_reducible repeat (first | apply Kd.R_alloc | apply Kd.R_drewN | apply Kd.R_drew)); exact HO292.out) hb); have n1_ := Aside0.mk (Kd.R_below (by (with_reducible repeat (first | apply Kd.R_alloc | apply Kd.R_drewN | apply Kd.R_drew)); exact HO306.out) hb); have n2_ := Aside0.mk (blk_below (g := gb297) (o := .cells #[.int .i64 t293, .int .i64 t294, .string t295] 24 (0, 0)) (by (with_reducible repeat (first | refine blk_drewN ?_ _ | refine blk_drew ?_ | refine blk_alloc ?_ _)); exact BK297.out) hb); have n3_ := Aside0.mk (below_step (by repeat (first | (with_reducible first | exact HB.out | apply below_alloc | apply pw_below_drewN | apply below_drew1 | refine below_set ?_ GE297.out) | exact HB.out)) hb); clear HO292; clear HO306; clear BK297; clear HB; have HO292 := n0_; have HO306 := n1_; have BK297 := n2_; have HB := n3_; clear n0_ n1_ n2_ n3_; (try clear hb); (try clear hb2); (try clear hk); (try clear hi)) | ((with_reducible refine gate_dst (N := 3) rfl ?_); refine box_event ?hg (N := 3) ?hd (cs := #[.int .i64 0, .int .i64 0, .string (⟨#[]⟩ : ByteArray)]) (t := 24) ?hr ?_; (case hd => rfl); (case hg => rfl); (case hr => first | (go_simp; done) | (go_simp; rfl)); intro gb311 hg w32 hbox hb; have n0_ := Aside0.mk (Kd.R_below (Kd.R_elderB (by (with_reducible repeat (first | apply Kd.R_alloc | apply Kd.R_drewN | apply Kd.R_drew)); exact HO292.out) gb311 (Nat.le_of_eq hg.symm)) hb); have n1_ := Aside0.mk (Kd.R_below (Kd.R_elderB (by (with_reducible repeat (first | apply Kd.R_alloc | apply Kd.R_drewN | apply Kd.R_drew)); exact HO306.out) gb311 (Nat.le_of_eq hg.symm)) hb); have n2_ := Aside0.mk (blk_below (g := gb297) (o := .cells #[.int .i64 t293, .int .i64 t294, .string t295] 24 (0, 0)) (by (with_reducible repeat (first | refine blk_drewN ?_ _ | refine blk_drew ?_ | refine blk_alloc ?_ _)); exact BK297.out) hb); have n3_ := Aside0.mk (below_step (by repeat (first | (with_reducible first | exact HB.out | apply below_alloc | apply pw_below_drewN | apply below_drew1 | refine below_set ?_ GE297.out) | exact HB.out)) hb); have n4_ := Aside0.mk (hbox); have n5_ := Aside0.mk ((by rw [hg]; exact (below_size (by repeat (first | (with_reducible first | exact HB.out | apply below_alloc | apply pw_below_drewN | apply below_drew1 | refine below_set ?_ GE297.out) | exact HB.out))) : w.heap.size ≤ gb311)); have n6_ := Aside0.mk ((by rw [hg]; exact (below_size (by repeat (first | (with_reducible first | exact HB.out | apply below_alloc | apply pw_below_drewN | apply below_drew1 | refine below_set ?_ GE297.out) | exact HB.out))) : w.heap.size ≤ gb311)); have n7_ := Aside0.mk ((by rw [hg]; exact Nat.ne_of_lt (blk_lt (g := gb297) (o := .cells #[.int .i64 t293, .int .i64 t294, .string t295] 24 (0, 0)) (by (with_reducible repeat (first | refine blk_drewN ?_ _ | refine blk_drew ?_ | refine blk_alloc ?_ _)); exact BK297.out)) : gb297 ≠ gb311)); have n8_ := Aside0.mk ((by rw [hg]; exact Nat.ne_of_gt (blk_lt (g := gb297) (o := .cells #[.int .i64 t293, .int .i64 t294, .string t295] 24 (0, 0)) (by (with_reducible repeat (first | refine blk_drewN ?_ _ | refine blk_drew ?_ | refine blk_alloc ?_ _)); exact BK297.out)) : gb311 ≠ gb297)); clear HO292; clear HO306; clear BK297; clear HB; have HO292 := n0_; have HO306 := n1_; have BK297 := n2_; have HB := n3_; have BK311 := n4_; have GW311 := n5_; have GE311 := n6_; have NB297_311 := n7_; have NB311_297 := n8_; clear n0_ n1_ n2_ n3_ n4_ n5_ n6_ n7_ n8_; clear hb hbox hg; have hnb33 := NB311_297.out; have hnc33 := NB297_311.out; have hcz34_0 : w32.cell? ⟨gb311, 0, none⟩ = some (.int .i64 0) := (blk_cell BK311.out 0).trans rfl; have hcz34_1 : w32.cell? ⟨gb311, 1, none⟩ = some (.int .i64 0) := (blk_cell BK311.out 1).trans rfl; have hcz34_2 : w32.cell? ⟨gb311, 2, none⟩ = some (.string (⟨#[]⟩ : ByteArray)) := (blk_cell BK311.out 2).trans rfl; have hfz34_0 := blk_frozen BK311.out 0; have hfz34_1 := blk_frozen BK311.out 1; have hfz34_2 := blk_frozen BK311.out 2) | ((with_reducible refine gate_callee (f := 26) rfl ?_); refine goesL_ (some 22) rfl rfl Tryd.func26 (by kernel_rfl) rfl #[.string (⟨#[97, 98]⟩ : ByteArray)] rfl (by (try simp only [List.map_toArray, List.map_cons, List.map_nil]); first | done | rfl | (simp only [List.length_drop, List.length_take]; rfl)) ?_; (with_reducible refine (val_Word.calls (⟨#[97, 98]⟩ : ByteArray) t312 t313 t314 _ A7.out).mono ?_); rintro e w35 ⟨rfl, hb⟩; refine ⟨_, rfl, ?_⟩; have n0_ := Aside0.mk (Kd.R_below (by (with_reducible repeat (first | apply Kd.R_alloc | apply Kd.R_drewN | apply Kd.R_drew)); exact (Kd.R_mono (Kd.R_far (p := ⟨gb311, 2, none⟩) (Kd.R_far (p := ⟨gb311, 1, none⟩) (Kd.R_far (p := ⟨gb311, 0, none⟩) (Kd.R_mono HO292.out (fun k_ hk => (⟨hk, hk.2⟩ : _ ∧ k_ ≠ gb311))) (fun _ hk => hk.2) (.int .i64 t307)) (fun _ hk => hk.2) (.int .i64 t308)) (fun _ hk => hk.2) (.string t309)) (fun _ h_ => h_.1))) hb); have n1_ := Aside0.mk (Kd.R_below (by (with_reducible repeat (first | apply Kd.R_alloc | apply Kd.R_drewN | apply Kd.R_drew)); exact (Kd.R_mono (Kd.R_far (p := ⟨gb311, 2, none⟩) (Kd.R_far (p := ⟨gb311, 1, none⟩) (Kd.R_far (p := ⟨gb311, 0, none⟩) (Kd.R_mono HO306.out (fun k_ hk => (⟨hk, hk.2⟩ : _ ∧ k_ ≠ gb311))) (fun _ hk => hk.2) (.int .i64 t307)) (fun _ hk => hk.2) (.int .i64 t308)) (fun _ hk => hk.2) (.string t309)) (fun _ h_ => h_.1))) hb); have n2_ := Aside0.mk (blk_below (g := gb297) (o := .cells #[.int .i64 t293, .int .i64 t294, .string t295] 24 (0, 0)) (by (with_reducible repeat (first | refine blk_drewN ?_ _ | refine blk_drew ?_ | refine blk_alloc ?_ _)); refine blk_far ?_ NB297_311.out _; (with_reducible repeat (first | refine blk_drewN ?_ _ | refine blk_drew ?_ | refine blk_alloc ?_ _)); refine blk_far ?_ NB297_311.out _; (with_reducible repeat (first | refine blk_drewN ?_ _ | refine blk_drew ?_ | refine blk_alloc ?_ _)); refine blk_far ?_ NB297_311.out _; (with_reducible repeat (first | refine blk_drewN ?_ _ | refine blk_drew ?_ | refine blk_alloc ?_ _)); exact BK297.out) hb); have n3_ := Aside0.mk (blk_below (g := gb311) (o := .cells #[.int .i64 t307, .int .i64 t308, .string t309] 24 (0, 0)) (by (with_reducible repeat (first | refine blk_drewN ?_ _ | refine blk_drew ?_ | refine blk_alloc ?_ _)); refine blk_put (cs := #[.int .i64 t307, .int .i64 t308, .string (⟨#[]⟩ : ByteArray)]) ?_ 2 _ rfl; (with_reducible repeat (first | refine blk_drewN ?_ _ | refine blk_drew ?_ | refine blk_alloc ?_ _)); refine blk_put (cs := #[.int .i64 t307, .int .i64 0, .string (⟨#[]⟩ : ByteArray)]) ?_ 1 _ rfl; (with_reducible repeat (first | refine blk_drewN ?_ _ | refine blk_drew ?_ | refine blk_alloc ?_ _)); refine blk_put (cs := #[.int .i64 0, .int .i64 0, .string (⟨#[]⟩ : ByteArray)]) ?_ 0 _ rfl; (with_reducible repeat (first | refine blk_drewN ?_ _ | refine blk_drew ?_ | refine blk_alloc ?_ _)); exact BK311.out) hb); have n4_ := Aside0.mk (below_step (by repeat (first | (with_reducible first | exact HB.out | apply below_alloc | apply pw_below_drewN | apply below_drew1 | refine below_set ?_ GE297.out | refine below_set ?_ GE311.out) | exact HB.out)) hb); clear HO292; clear HO306; clear BK297; clear BK311; clear HB; have HO292 := n0_; have HO306 := n1_; have BK297 := n2_; have BK311 := n3_; have HB := n4_; clear n0_ n1_ n2_ n3_ n4_; (try clear hb); (try clear hb2); (try clear hk); (try clear hi)) | ((with_reducible refine gate_callee (f := 26) rfl ?_); refine goesL_ (some 23) rfl rfl Tryd.func26 (by kernel_rfl) rfl #[.string (⟨#[99]⟩ : ByteArray)] rfl (by (try simp only [List.map_toArray, List.map_cons, List.map_nil]); first | done | rfl | (simp only [List.length_drop, List.length_take]; rfl)) ?_; (with_reducible refine (val_Word.calls (⟨#[99]⟩ : ByteArray) t315 t316 t317 _ A8.out).mono ?_); rintro e w36 ⟨rfl, hb⟩; refine ⟨_, rfl, ?_⟩; have n0_ := Aside0.mk (Kd.R_below (by (with_reducible repeat (first | apply Kd.R_alloc | apply Kd.R_drewN | apply Kd.R_drew)); exact HO292.out) hb); have n1_ := Aside0.mk (Kd.R_below (by (with_reducible repeat (first | apply Kd.R_alloc | apply Kd.R_drewN | apply Kd.R_drew)); exact HO306.out) hb); have n2_ := Aside0.mk (blk_below (g := gb297) (o := .cells #[.int .i64 t293, .int .i64 t294, .string t295] 24 (0, 0)) (by (with_reducible repeat (first | refine blk_drewN ?_ _ | refine blk_drew ?_ | refine blk_alloc ?_ _)); exact BK297.out) hb); have n3_ := Aside0.mk (blk_below (g := gb311) (o := .cells #[.int .i64 t307, .int .i64 t308, .string t309] 24 (0, 0)) (by (with_reducible repeat (first | refine blk_drewN ?_ _ | refine blk_drew ?_ | refine blk_alloc ?_ _)); exact BK311.out) hb); have n4_ := Aside0.mk (below_step (by repeat (first | (with_reducible first | exact HB.out | apply below_alloc | apply pw_below_drewN | apply below_drew1 | refine below_set ?_ GE297.out | refine below_set ?_ GE311.out) | exact HB.out)) hb); clear HO292; clear HO306; clear BK297; clear BK311; clear HB; have HO292 := n0_; have HO306 := n1_; have BK297 := n2_; have BK311 := n3_; have HB := n4_; clear n0_ n1_ n2_ n3_ n4_; (try clear hb); (try clear hb2); (try clear hk); (try clear hi)) | ((with_reducible refine gate_dst (N := 24) rfl ?_); refine Kd.R_lit k24 _ 24 ?hg (N := 24) ?hd (xs := ([(⟨t315, t316, t317⟩ : S24)] : List (S24))) (inner := [.int .i64 t315, .int .i64 t316, .string t317]) (ok := fun _ => True) (okp := fun _ => True) ?hr ?hp (fun _ hk => hk) trivial (Below.refl _ _) (Nat.le_refl _) (by simp) ?_; (case hd => rfl); (case hg => rfl); (case hr => first | (go_simp; done) | (go_simp; rfl)); (case hp => exact (Reps.c3 (show Kd.M k24 _ _ _ (⟨t315, t316, t317⟩ : S24) [.int .i64 t315, .int .i64 t316, .string t317] from (k24_mkM _ _ _ (⟨t315, t316, t317⟩ : S24) )) (Reps.none _ _))); intro v319 w37 ho38 hb hg_ hnew_; clear hg_ hnew_; (first | rw [← Ny318.out] at ho38 | (simp only [Int.reduceToNat] at ho38; rw [← Ny318.out] at ho38)); have n0_ := Aside0.mk (Kd.R_elder' (by (with_reducible repeat (first | apply Kd.R_alloc | apply Kd.R_drewN | apply Kd.R_drew)); exact HO292.out) (Kd.R_base ho38) hb); have n1_ := Aside0.mk (Kd.R_elder' (by (with_reducible repeat (first | apply Kd.R_alloc | apply Kd.R_drewN | apply Kd.R_drew)); exact HO306.out) (Kd.R_base ho38) hb); have n2_ := Aside0.mk (Kd.R_lower (Kd.R_newB (Kd.R_newB (Kd.R_new' (Kd.R_new' ho38 (Kd.R_lt (by (with_reducible repeat (first | apply Kd.R_alloc | apply Kd.R_drewN | apply Kd.R_drew)); exact HO292.out))) (Kd.R_lt (by (with_reducible repeat (first | apply Kd.R_alloc | apply Kd.R_drewN | apply Kd.R_drew)); exact HO306.out))) (g := gb297) (o := .cells #[.int .i64 t293, .int .i64 t294, .string t295] 24 (0, 0)) (by (with_reducible repeat (first | refine blk_drewN ?_ _ | refine blk_drew ?_ | refine blk_alloc ?_ _)); exact BK297.out)) (g := gb311) (o := .cells #[.int .i64 t307, .int .i64 t308, .string t309] 24 (0, 0)) (by (with_reducible repeat (first | refine blk_drewN ?_ _ | refine blk_drew ?_ | refine blk_alloc ?_ _)); exact BK311.out)) (below_size (by repeat (first | (with_reducible first | exact HB.out | apply below_alloc | apply pw_below_drewN | apply below_drew1 | refine below_set ?_ GE297.out | refine below_set ?_ GE311.out) | exact HB.out)))); have n3_ := Aside0.mk (blk_below (g := gb297) (o := .cells #[.int .i64 t293, .int .i64 t294, .string t295] 24 (0, 0)) (by (with_reducible repeat (first | refine blk_drewN ?_ _ | refine blk_drew ?_ | refine blk_alloc ?_ _)); exact BK297.out) hb); have n4_ := Aside0.mk (blk_below (g := gb311) (o := .cells #[.int .i64 t307, .int .i64 t308, .string t309] 24 (0, 0)) (by (with_reducible repeat (first | refine blk_drewN ?_ _ | refine blk_drew ?_ | refine blk_alloc ?_ _)); exact BK311.out) hb); have n5_ := Aside0.mk (below_step (by repeat (first | (with_reducible first | exact HB.out | apply below_alloc | apply pw_below_drewN | apply below_drew1 | refine below_set ?_ GE297.out | refine below_set ?_ GE311.out) | exact HB.out)) hb); clear HO292; clear HO306; clear BK297; clear BK311; clear HB; have HO292 := n0_; have HO306 := n1_; have HO320 := n2_; have BK297 := n3_; have BK311 := n4_; have HB := n5_; clear n0_ n1_ n2_ n3_ n4_ n5_; clear hb ho38; obtain ⟨Ao39, co39, eo39⟩ := Kd.R_slice HO320.out; subst eo39) | ((with_reducible refine gate_callee (f := 20) rfl ?_); refine goesL_ (some 25) rfl rfl Tryd.func20 (by kernel_rfl) rfl #[.int .i64 6, .agg #[.int .i64 t312, .int .i64 t313, .string t314], .slice Ao39 y318.length co39] rfl (by (try simp only [List.map_toArray, List.map_cons, List.map_nil]); first | done | rfl | (simp only [List.length_drop, List.length_take]; rfl)) ?_; (with_reducible refine (val_Reckon.calls k 6 t312 t313 t314 _ _ y318 t321 t322 t323 t324 _ ?side1 ?side2 A9.out).mono ?_); (case side1 => repeat (first | exact (Kd.R_reads' HO320.out).2.2 | (with_reducible refine Kd.C_alloc ?_ _) | (with_reducible refine Kd.C_drewN ?_ _) | (with_reducible refine Kd.C_drew ?_))); (case side2 => exact (Kd.R_reads' HO320.out).2.1); rintro e w40 ⟨rfl, hb⟩; refine ⟨_, rfl, ?_⟩; have n0_ := Aside0.mk (Kd.R_below (by (with_reducible repeat (first | apply Kd.R_alloc | apply Kd.R_drewN | apply Kd.R_drew)); exact HO292.out) hb); have n1_ := Aside0.mk (Kd.R_below (by (with_reducible repeat (first | apply Kd.R_alloc | apply Kd.R_drewN | apply Kd.R_drew)); exact HO306.out) hb); have n2_ := Aside0.mk (Kd.R_below (by (with_reducible repeat (first | apply Kd.R_alloc | apply Kd.R_drewN | apply Kd.R_drew)); exact HO320.out) hb); have n3_ := Aside0.mk (blk_below (g := gb297) (o := .cells #[.int .i64 t293, .int .i64 t294, .string t295] 24 (0, 0)) (by (with_reducible repeat (first | refine blk_drewN ?_ _ | refine blk_drew ?_ | refine blk_alloc ?_ _)); exact BK297.out) hb); have n4_ := Aside0.mk (blk_below (g := gb311) (o := .cells #[.int .i64 t307, .int .i64 t308, .string t309] 24 (0, 0)) (by (with_reducible repeat (first | refine blk_drewN ?_ _ | refine blk_drew ?_ | refine blk_alloc ?_ _)); exact BK311.out) hb); have n5_ := Aside0.mk (below_step (by repeat (first | (with_reducible first | exact HB.out | apply below_alloc | apply pw_below_drewN | apply below_drew1 | refine below_set ?_ GE297.out | refine below_set ?_ GE311.out) | exact HB.out)) hb); clear HO292; clear HO306; clear HO320; clear BK297; clear BK311; clear HB; have HO292 := n0_; have HO306 := n1_; have HO320 := n2_; have BK297 := n3_; have BK311 := n4_; have HB := n5_; clear n0_ n1_ n2_ n3_ n4_ n5_; (try clear hb); (try clear hb2); (try clear hk); (try clear hi)) | ((with_reducible refine gate_dst (N := 5) rfl ?_); refine box_event ?hg (N := 5) ?hd (cs := #[.int .i64 0, .int .i64 0, .string (⟨#[]⟩ : ByteArray)]) (t := 24) ?hr ?_; (case hd => rfl); (case hg => rfl); (case hr => first | (go_simp; done) | (go_simp; rfl)); intro gb325 hg w41 hbox hb; have n0_ := Aside0.mk (Kd.R_below (Kd.R_elderB (by (with_reducible repeat (first | apply Kd.R_alloc | apply Kd.R_drewN | apply Kd.R_drew)); exact HO292.out) gb325 (Nat.le_of_eq hg.symm)) hb); have n1_ := Aside0.mk (Kd.R_below (Kd.R_elderB (by (with_reducible repeat (first | apply Kd.R_alloc | apply Kd.R_drewN | apply Kd.R_drew)); exact HO306.out) gb325 (Nat.le_of_eq hg.symm)) hb); have n2_ := Aside0.mk (Kd.R_below (Kd.R_elderB (by (with_reducible repeat (first | apply Kd.R_alloc | apply Kd.R_drewN | apply Kd.R_drew)); exact HO320.out) gb325 (Nat.le_of_eq hg.symm)) hb); have n3_ := Aside0.mk (blk_below (g := gb297) (o := .cells #[.int .i64 t293, .int .i64 t294, .string t295] 24 (0, 0)) (by (with_reducible repeat (first | refine blk_drewN ?_ _ | refine blk_drew ?_ | refine blk_alloc ?_ _)); exact BK297.out) hb); have n4_ := Aside0.mk (blk_below (g := gb311) (o := .cells #[.int .i64 t307, .int .i64 t308, .string t309] 24 (0, 0)) (by (with_reducible repeat (first | refine blk_drewN ?_ _ | refine blk_drew ?_ | refine blk_alloc ?_ _)); exact BK311.out) hb); have n5_ := Aside0.mk (below_step (by repeat (first | (with_reducible first | exact HB.out | apply below_alloc | apply pw_below_drewN | apply below_drew1 | refine below_set ?_ GE297.out | refine below_set ?_ GE311.out) | exact HB.out)) hb); have n6_ := Aside0.mk (hbox); have n7_ := Aside0.mk ((by rw [hg]; exact (below_size (by repeat (first | (with_reducible first | exact HB.out | apply below_alloc | apply pw_below_drewN | apply below_drew1 | refine below_set ?_ GE297.out | refine below_set ?_ GE311.out) | exact HB.out))) : w.heap.size ≤ gb325)); have n8_ := Aside0.mk ((by rw [hg]; exact (below_size (by repeat (first | (with_reducible first | exact HB.out | apply below_alloc | apply pw_below_drewN | apply below_drew1 | refine below_set ?_ GE297.out | refine below_set ?_ GE311.out) | exact HB.out))) : w.heap.size ≤ gb325)); have n9_ := Aside0.mk ((by rw [hg]; exact Nat.ne_of_lt (blk_lt (g := gb297) (o := .cells #[.int .i64 t293, .int .i64 t294, .string t295] 24 (0, 0)) (by (with_reducible repeat (first | refine blk_drewN ?_ _ | refine blk_drew ?_ | refine blk_alloc ?_ _)); exact BK297.out)) : gb297 ≠ gb325)); have n10_ := Aside0.mk ((by rw [hg]; exact Nat.ne_of_gt (blk_lt (g := gb297) (o := .cells #[.int .i64 t293, .int .i64 t294, .string t295] 24 (0, 0)) (by (with_reducible repeat (first | refine blk_drewN ?_ _ | refine blk_drew ?_ | refine blk_alloc ?_ _)); exact BK297.out)) : gb325 ≠ gb297)); have n11_ := Aside0.mk ((by rw [hg]; exact Nat.ne_of_lt (blk_lt (g := gb311) (o := .cells #[.int .i64 t307, .int .i64 t308, .string t309] 24 (0, 0)) (by (with_reducible repeat (first | refine blk_drewN ?_ _ | refine blk_drew ?_ | refine blk_alloc ?_ _)); exact BK311.out)) : gb311 ≠ gb325)); have n12_ := Aside0.mk ((by rw [hg]; exact Nat.ne_of_gt (blk_lt (g := gb311) (o := .cells #[.int .i64 t307, .int .i64 t308, .string t309] 24 (0, 0)) (by (with_reducible repeat (first | refine blk_drewN ?_ _ | refine blk_drew ?_ | refine blk_alloc ?_ _)); exact BK311.out)) : gb325 ≠ gb311)); clear HO292; clear HO306; clear HO320; clear BK297; clear BK311; clear HB; have HO292 := n0_; have HO306 := n1_; have HO320 := n2_; have BK297 := n3_; have BK311 := n4_; have HB := n5_; have BK325 := n6_; have GW325 := n7_; have GE325 := n8_; have NB297_325 := n9_; have NB325_297 := n10_; have NB311_325 := n11_; have NB325_311 := n12_; clear n0_ n1_ n2_ n3_ n4_ n5_ n6_ n7_ n8_ n9_ n10_ n11_ n12_; clear hb hbox hg; have hnb42 := NB325_297.out; have hnc42 := NB297_325.out; have hnb43 := NB325_311.out; have hnc43 := NB311_325.out; have hcz44_0 : w41.cell? ⟨gb325, 0, none⟩ = some (.int .i64 0) := (blk_cell BK325.out 0).trans rfl; have hcz44_1 : w41.cell? ⟨gb325, 1, none⟩ = some (.int .i64 0) := (blk_cell BK325.out 1).trans rfl; have hcz44_2 : w41.cell? ⟨gb325, 2, none⟩ = some (.string (⟨#[]⟩ : ByteArray)) := (blk_cell BK325.out 2).trans rfl; have hfz44_0 := blk_frozen BK325.out 0; have hfz44_1 := blk_frozen BK325.out 1; have hfz44_2 := blk_frozen BK325.out 2))
            have n0_ : Aside0 (Kd.R k24 24 (((w41.setCell ⟨gb325, 0, none⟩ (.int .i64 t321)).setCell ⟨gb325, 1, none⟩ (.int .i64 t322)).setCell ⟨gb325, 2, none⟩ (.string t323)) w.heap.size (fun k_ => some k_ ≠ (.slice Ao30 y304.length co30 : Value).ownBlock ∧ some k_ ≠ (.slice Ao39 y318.length co39 : Value).ownBlock ∧ k_ ≠ gb297 ∧ k_ ≠ gb311 ∧ k_ ≠ gb325) (.slice Ao22 y290.length co22) y290) := ⟨by (with_reducible repeat (first | apply Kd.R_alloc | apply Kd.R_drewN | apply Kd.R_drew)); exact Kd.R_mono (Kd.R_far (p := ⟨gb325, 2, none⟩) (Kd.R_far (p := ⟨gb325, 1, none⟩) (Kd.R_far (p := ⟨gb325, 0, none⟩) (Kd.R_mono HO292.out (fun k_ hk => (⟨hk, hk.2⟩ : _ ∧ k_ ≠ gb325))) (fun _ hk => hk.2) (.int .i64 t321)) (fun _ hk => hk.2) (.int .i64 t322)) (fun _ hk => hk.2) (.string t323)) (fun _ hk => ⟨hk.1.1.1.1.2, ⟨hk.1.1.2, ⟨hk.1.1.1.1.1.2, ⟨hk.1.1.1.2, hk.1.2⟩⟩⟩⟩)⟩
            have n1_ : Aside0 (Kd.R k24 24 (((w41.setCell ⟨gb325, 0, none⟩ (.int .i64 t321)).setCell ⟨gb325, 1, none⟩ (.int .i64 t322)).setCell ⟨gb325, 2, none⟩ (.string t323)) w.heap.size (fun k_ => some k_ ≠ (.slice Ao22 y290.length co22 : Value).ownBlock ∧ some k_ ≠ (.slice Ao39 y318.length co39 : Value).ownBlock ∧ k_ ≠ gb297 ∧ k_ ≠ gb311 ∧ k_ ≠ gb325) (.slice Ao30 y304.length co30) y304) := ⟨by (with_reducible repeat (first | apply Kd.R_alloc | apply Kd.R_drewN | apply Kd.R_drew)); exact Kd.R_mono (Kd.R_far (p := ⟨gb325, 2, none⟩) (Kd.R_far (p := ⟨gb325, 1, none⟩) (Kd.R_far (p := ⟨gb325, 0, none⟩) (Kd.R_mono HO306.out (fun k_ hk => (⟨hk, hk.2⟩ : _ ∧ k_ ≠ gb325))) (fun _ hk => hk.2) (.int .i64 t321)) (fun _ hk => hk.2) (.int .i64 t322)) (fun _ hk => hk.2) (.string t323)) (fun _ hk => ⟨hk.1.1.1.1.1.2, ⟨hk.1.1.2, ⟨hk.1.1.1.1.2, ⟨hk.1.1.1.2, hk.1.2⟩⟩⟩⟩)⟩
            have n2_ : Aside0 (Kd.R k24 24 (((w41.setCell ⟨gb325, 0, none⟩ (.int .i64 t321)).setCell ⟨gb325, 1, none⟩ (.int .i64 t322)).setCell ⟨gb325, 2, none⟩ (.string t323)) w.heap.size (fun k_ => some k_ ≠ (.slice Ao22 y290.length co22 : Value).ownBlock ∧ some k_ ≠ (.slice Ao30 y304.length co30 : Value).ownBlock ∧ k_ ≠ gb297 ∧ k_ ≠ gb311 ∧ k_ ≠ gb325) (.slice Ao39 y318.length co39) y318) := ⟨by (with_reducible repeat (first | apply Kd.R_alloc | apply Kd.R_drewN | apply Kd.R_drew)); exact Kd.R_mono (Kd.R_far (p := ⟨gb325, 2, none⟩) (Kd.R_far (p := ⟨gb325, 1, none⟩) (Kd.R_far (p := ⟨gb325, 0, none⟩) (Kd.R_mono HO320.out (fun k_ hk => (⟨hk, hk.2⟩ : _ ∧ k_ ≠ gb325))) (fun _ hk => hk.2) (.int .i64 t321)) (fun _ hk => hk.2) (.int .i64 t322)) (fun _ hk => hk.2) (.string t323)) (fun _ hk => ⟨hk.1.1.1.1.1.2, ⟨hk.1.1.1.1.2, ⟨hk.1.1.1.2, ⟨hk.1.1.2, hk.1.2⟩⟩⟩⟩)⟩
            have n3_ : Aside0 ((((w41.setCell ⟨gb325, 0, none⟩ (.int .i64 t321)).setCell ⟨gb325, 1, none⟩ (.int .i64 t322)).setCell ⟨gb325, 2, none⟩ (.string t323)).heap[gb297]? = some (.cells #[.int .i64 t293, .int .i64 t294, .string t295] 24 (0, 0))) := ⟨by (with_reducible repeat (first | refine blk_drewN ?_ _ | refine blk_drew ?_ | refine blk_alloc ?_ _)); refine blk_far ?_ NB297_325.out _; (with_reducible repeat (first | refine blk_drewN ?_ _ | refine blk_drew ?_ | refine blk_alloc ?_ _)); refine blk_far ?_ NB297_325.out _; (with_reducible repeat (first | refine blk_drewN ?_ _ | refine blk_drew ?_ | refine blk_alloc ?_ _)); refine blk_far ?_ NB297_325.out _; (with_reducible repeat (first | refine blk_drewN ?_ _ | refine blk_drew ?_ | refine blk_alloc ?_ _)); exact BK297.out⟩
            have n4_ : Aside0 ((((w41.setCell ⟨gb325, 0, none⟩ (.int .i64 t321)).setCell ⟨gb325, 1, none⟩ (.int .i64 t322)).setCell ⟨gb325, 2, none⟩ (.string t323)).heap[gb311]? = some (.cells #[.int .i64 t307, .int .i64 t308, .string t309] 24 (0, 0))) := ⟨by (with_reducible repeat (first | refine blk_drewN ?_ _ | refine blk_drew ?_ | refine blk_alloc ?_ _)); refine blk_far ?_ NB311_325.out _; (with_reducible repeat (first | refine blk_drewN ?_ _ | refine blk_drew ?_ | refine blk_alloc ?_ _)); refine blk_far ?_ NB311_325.out _; (with_reducible repeat (first | refine blk_drewN ?_ _ | refine blk_drew ?_ | refine blk_alloc ?_ _)); refine blk_far ?_ NB311_325.out _; (with_reducible repeat (first | refine blk_drewN ?_ _ | refine blk_drew ?_ | refine blk_alloc ?_ _)); exact BK311.out⟩
            have n5_ : Aside0 ((((w41.setCell ⟨gb325, 0, none⟩ (.int .i64 t321)).setCell ⟨gb325, 1, none⟩ (.int .i64 t322)).setCell ⟨gb325, 2, none⟩ (.string t323)).heap[gb325]? = some (.cells #[.int .i64 t321, .int .i64 t322, .string t323] 24 (0, 0))) := ⟨by (with_reducible repeat (first | refine blk_drewN ?_ _ | refine blk_drew ?_ | refine blk_alloc ?_ _)); refine blk_put (cs := #[.int .i64 t321, .int .i64 t322, .string (⟨#[]⟩ : ByteArray)]) ?_ 2 _ rfl; (with_reducible repeat (first | refine blk_drewN ?_ _ | refine blk_drew ?_ | refine blk_alloc ?_ _)); refine blk_put (cs := #[.int .i64 t321, .int .i64 0, .string (⟨#[]⟩ : ByteArray)]) ?_ 1 _ rfl; (with_reducible repeat (first | refine blk_drewN ?_ _ | refine blk_drew ?_ | refine blk_alloc ?_ _)); refine blk_put (cs := #[.int .i64 0, .int .i64 0, .string (⟨#[]⟩ : ByteArray)]) ?_ 0 _ rfl; (with_reducible repeat (first | refine blk_drewN ?_ _ | refine blk_drew ?_ | refine blk_alloc ?_ _)); exact BK325.out⟩
            have n6_ : Aside0 (Below w.heap.size w (((w41.setCell ⟨gb325, 0, none⟩ (.int .i64 t321)).setCell ⟨gb325, 1, none⟩ (.int .i64 t322)).setCell ⟨gb325, 2, none⟩ (.string t323))) := ⟨by repeat (first | (with_reducible first | exact HB.out | apply below_alloc | apply pw_below_drewN | apply below_drew1 | refine below_set ?_ GE297.out | refine below_set ?_ GE311.out | refine below_set ?_ GE325.out) | exact HB.out)⟩
            (try clear HO292)
            (try clear HO306)
            (try clear HO320)
            (try clear BK297)
            (try clear BK311)
            (try clear BK325)
            (try clear HB)
            generalize (((w41.setCell ⟨gb325, 0, none⟩ (.int .i64 t321)).setCell ⟨gb325, 1, none⟩ (.int .i64 t322)).setCell ⟨gb325, 2, none⟩ (.string t323)) = w45 at n0_ n1_ n2_ n3_ n4_ n5_ n6_ ⊢
            have HO292 := n0_
            have HO306 := n1_
            have HO320 := n2_
            have BK297 := n3_
            have BK311 := n4_
            have BK325 := n5_
            have HB := n6_
            clear n0_ n1_ n2_ n3_ n4_ n5_ n6_
            have n0_ := Aside0.mk (Kd.R_drew HO292.out)
            have n1_ := Aside0.mk (Kd.R_drew HO306.out)
            have n2_ := Aside0.mk (Kd.R_drew HO320.out)
            have n3_ := Aside0.mk (blk_drew BK297.out)
            have n4_ := Aside0.mk (blk_drew BK311.out)
            have n5_ := Aside0.mk (blk_drew BK325.out)
            have n6_ := Aside0.mk (below_drew1 HB.out)
            clear HO292
            clear HO306
            clear HO320
            clear BK297
            clear BK311
            clear BK325
            clear HB
            have HO292 := n0_
            have HO306 := n1_
            have HO320 := n2_
            have BK297 := n3_
            have BK311 := n4_
            have BK325 := n5_
            have HB := n6_
            clear n0_ n1_ n2_ n3_ n4_ n5_ n6_
            refine start_ (n := 26) (S := fun w' => w'.cell? ⟨gb297, 0, none⟩ = some (.int .i64 t293) ∧ w'.cell? ⟨gb297, 1, none⟩ = some (.int .i64 t294) ∧ w'.cell? ⟨gb297, 2, none⟩ = some (.string t295) ∧ w'.cell? ⟨gb311, 0, none⟩ = some (.int .i64 t307) ∧ w'.cell? ⟨gb311, 1, none⟩ = some (.int .i64 t308) ∧ w'.cell? ⟨gb311, 2, none⟩ = some (.string t309) ∧ w'.cell? ⟨gb325, 0, none⟩ = some (.int .i64 t321) ∧ w'.cell? ⟨gb325, 1, none⟩ = some (.int .i64 t322) ∧ w'.cell? ⟨gb325, 2, none⟩ = some (.string t323)) (ds := []) #[false, false, false, false, false, false, false, false, false, false, false, false, false, false, false, false, false, false, false, false, false, false, false, false, false, false] (by kernel_rfl) rfl rfl ⟨(blk_cell BK297.out 0).trans rfl, (blk_cell BK297.out 1).trans rfl, (blk_cell BK297.out 2).trans rfl, (blk_cell BK311.out 0).trans rfl, (blk_cell BK311.out 1).trans rfl, (blk_cell BK311.out 2).trans rfl, (blk_cell BK325.out 0).trans rfl, (blk_cell BK325.out 1).trans rfl, (blk_cell BK325.out 2).trans rfl⟩ (fun hHeld => ?_); refine with_tabW whirligiglaw01_anchor.tab4 whirligiglaw01_anchor.bits4 (fun HT_ HW_ => ?_)
            generalize w45.drew = w46 at HO292 HO306 HO320 BK297 BK311 BK325 HB hHeld ⊢
            refine pure_ (i := 0) (N := some 28) (v := ?_) (a' := ?_) #[true, false, false, false, false, false, false, false, false, false, false, false, false, false, false, false, false, false, false, false, false, false, false, false, false, false] rfl rfl (any_of HT_.out (by kernel_rfl)) (fun _ _ _ h => h) (Or.inl ⟨by rfl, ?_⟩) ?_ ?_
            rotate_left
            · intro w'
              go_simp
              with_reducible rfl
            rotate_left
            · simp only [Act.put, List.setIfInBounds_toArray, List.set_cons_zero, List.set_cons_succ, i64_w, i32_w]
              rfl
            refine pure_ (i := 1) (N := some 29) (v := ?_) (a' := ?_) #[true, true, false, false, false, false, false, false, false, false, false, false, false, false, false, false, false, false, false, false, false, false, false, false, false, false] rfl rfl (any_of HT_.out (by kernel_rfl)) (fun _ _ _ h => h) (Or.inl ⟨by rfl, ?_⟩) ?_ ?_
            rotate_left
            · intro w'
              go_simp
              with_reducible rfl
            rotate_left
            · simp only [Act.put, List.setIfInBounds_toArray, List.set_cons_zero, List.set_cons_succ, i64_w, i32_w]
              rfl
            refine pure_ (i := 2) (N := some 30) (v := ?_) (a' := ?_) #[true, true, true, false, false, false, false, false, false, false, false, false, false, false, false, false, false, false, false, false, false, false, false, false, false, false] rfl rfl (any_of HT_.out (by kernel_rfl)) (fun _ _ _ h => h) (Or.inl ⟨by rfl, ?_⟩) ?_ ?_
            rotate_left
            · intro w'
              go_simp
              with_reducible rfl
            rotate_left
            · simp only [Act.put, List.setIfInBounds_toArray, List.set_cons_zero, List.set_cons_succ, i64_w, i32_w]
              rfl
            refine pure_ (i := 3) (N := some 31) (v := ?_) (a' := ?_) #[true, true, true, true, false, false, false, false, false, false, false, false, false, false, false, false, false, false, false, false, false, false, false, false, false, false] rfl rfl (any_of HT_.out (by kernel_rfl)) (fun _ _ _ h => h) (Or.inl ⟨by rfl, ?_⟩) ?_ ?_
            rotate_left
            · intro w'
              go_simp
              with_reducible rfl
            rotate_left
            · simp only [Act.put, List.setIfInBounds_toArray, List.set_cons_zero, List.set_cons_succ, i64_w, i32_w]
              rfl
            refine pure_ (i := 4) (N := some 32) (v := ?_) (a' := ?_) #[true, true, true, true, true, false, false, false, false, false, false, false, false, false, false, false, false, false, false, false, false, false, false, false, false, false] rfl rfl (any_of HT_.out (by kernel_rfl)) (fun _ _ _ h => h) (Or.inl ⟨by rfl, ?_⟩) ?_ ?_
            rotate_left
            · intro w'
              go_simp
              with_reducible rfl
            rotate_left
            · simp only [Act.put, List.setIfInBounds_toArray, List.set_cons_zero, List.set_cons_succ, i64_w, i32_w]
              rfl
            refine pure_ (i := 5) (N := some 33) (v := ?_) (a' := ?_) #[true, true, true, true, true, true, false, false, false, false, false, false, false, false, false, false, false, false, false, false, false, false, false, false, false, false] rfl rfl (any_of HT_.out (by kernel_rfl)) (fun _ _ _ h => h) (Or.inl ⟨by rfl, ?_⟩) ?_ ?_
            rotate_left
            · intro w'
              go_simp
              with_reducible rfl
            rotate_left
            · simp only [Act.put, List.setIfInBounds_toArray, List.set_cons_zero, List.set_cons_succ, i64_w, i32_w]
              rfl
            refine pure_ (i := 6) (N := some 34) (v := ?_) (a' := ?_) #[true, true, true, true, true, true, true, false, false, false, false, false, false, false, false, false, false, false, false, false, false, false, false, false, false, false] rfl rfl (any_of HT_.out (by kernel_rfl)) (fun _ _ _ h => h) (Or.inl ⟨by rfl, ?_⟩) ?_ ?_
            rotate_left
            · intro w'
              go_simp
              with_reducible rfl
            rotate_left
            · simp only [Act.put, List.setIfInBounds_toArray, List.set_cons_zero, List.set_cons_succ, i64_w, i32_w]
              rfl
            refine pure_ (i := 7) (N := some 35) (v := ?_) (a' := ?_) #[true, true, true, true, true, true, true, true, false, false, false, false, false, false, false, false, false, false, false, false, false, false, false, false, false, false] rfl rfl (any_of HT_.out (by kernel_rfl)) (fun _ _ _ h => h) (Or.inl ⟨by rfl, ?_⟩) ?_ ?_
            rotate_left
            · intro w'
              go_simp
              with_reducible rfl
            rotate_left
            · simp only [Act.put, List.setIfInBounds_toArray, List.set_cons_zero, List.set_cons_succ, i64_w, i32_w]
              rfl
            refine pure_ (i := 8) (N := some 36) (v := ?_) (a' := ?_) #[true, true, true, true, true, true, true, true, true, false, false, false, false, false, false, false, false, false, false, false, false, false, false, false, false, false] rfl rfl (any_of HT_.out (by kernel_rfl)) (fun _ _ _ h => h) (Or.inl ⟨by rfl, ?_⟩) ?_ ?_
            rotate_left
            · intro w'
              go_simp
              with_reducible rfl
            rotate_left
            · simp only [Act.put, List.setIfInBounds_toArray, List.set_cons_zero, List.set_cons_succ, i64_w, i32_w]
              rfl
            refine pure_ (i := 9) (N := some 37) (v := ?_) (a' := ?_) #[true, true, true, true, true, true, true, true, true, true, false, false, false, false, false, false, false, false, false, false, false, false, false, false, false, false] rfl rfl (any_of HT_.out (by kernel_rfl)) (fun _ _ _ h => h) (Or.inl ⟨by rfl, ?_⟩) ?_ ?_
            rotate_left
            · intro w'
              go_simp
              with_reducible rfl
            rotate_left
            · simp only [Act.put, List.setIfInBounds_toArray, List.set_cons_zero, List.set_cons_succ, i64_w, i32_w]
              rfl
            refine pure_ (i := 10) (N := some 38) (v := ?_) (a' := ?_) #[true, true, true, true, true, true, true, true, true, true, true, false, false, false, false, false, false, false, false, false, false, false, false, false, false, false] rfl rfl (any_of HT_.out (by kernel_rfl)) (fun _ _ _ h => h) (Or.inl ⟨by rfl, ?_⟩) ?_ ?_
            rotate_left
            · intro w'
              go_simp
              with_reducible rfl
            rotate_left
            · simp only [Act.put, List.setIfInBounds_toArray, List.set_cons_zero, List.set_cons_succ, i64_w, i32_w]
              rfl
            refine take_ (i := 11) (N := some 39) (v := ?_) (a' := ?_) #[true, true, true, true, true, true, true, true, true, true, true, true, false, false, false, false, false, false, false, false, false, false, false, false, false, false] rfl rfl (take_ofW HT_.out HW_.out (by kernel_rfl)) (fun _ _ _ h => h) (Or.inl ⟨by rfl, ?_⟩) hHeld ?_ ?_
            rotate_left
            · rintro w' ⟨s0, s1, s2, s3, s4, s5, s6, s7, s8⟩
              go_simp
              with_reducible rfl
            rotate_left
            · simp only [Act.put, List.setIfInBounds_toArray, List.set_cons_zero, List.set_cons_succ, i64_w, i32_w]
              rfl
            refine one_ (i := 12) (N := some 40) #[true, true, true, true, true, true, true, true, true, true, true, true, true, false, false, false, false, false, false, false, false, false, false, false, false, false] rfl rfl (one_of HT_.out (by kernel_rfl)) (by decide) (fun K hK => ?_)
            refine goes_ Tryd.func25 (by kernel_rfl) rfl #[.int .i64 (-3)] (by rfl) rfl rfl (by (try simp only [List.map_toArray, List.map_cons, List.map_nil]); first | done | rfl | (simp only [List.length_drop, List.length_take]; rfl)) ?_
            with_reducible refine (val_Of.calls (-3) t326 t327 t328 _ A13.out).mono ?_
            rintro e w47 ⟨rfl, hb⟩
            refine ⟨_, rfl, ?_⟩
            have n0_ := Aside0.mk (Kd.R_below (by (with_reducible repeat (first | apply Kd.R_alloc | apply Kd.R_drewN | apply Kd.R_drew)); exact HO292.out) hb)
            have n1_ := Aside0.mk (Kd.R_below (by (with_reducible repeat (first | apply Kd.R_alloc | apply Kd.R_drewN | apply Kd.R_drew)); exact HO306.out) hb)
            have n2_ := Aside0.mk (Kd.R_below (by (with_reducible repeat (first | apply Kd.R_alloc | apply Kd.R_drewN | apply Kd.R_drew)); exact HO320.out) hb)
            have n3_ := Aside0.mk (blk_below (g := gb297) (o := .cells #[.int .i64 t293, .int .i64 t294, .string t295] 24 (0, 0)) (by (with_reducible repeat (first | refine blk_drewN ?_ _ | refine blk_drew ?_ | refine blk_alloc ?_ _)); exact BK297.out) hb)
            have n4_ := Aside0.mk (blk_below (g := gb311) (o := .cells #[.int .i64 t307, .int .i64 t308, .string t309] 24 (0, 0)) (by (with_reducible repeat (first | refine blk_drewN ?_ _ | refine blk_drew ?_ | refine blk_alloc ?_ _)); exact BK311.out) hb)
            have n5_ := Aside0.mk (blk_below (g := gb325) (o := .cells #[.int .i64 t321, .int .i64 t322, .string t323] 24 (0, 0)) (by (with_reducible repeat (first | refine blk_drewN ?_ _ | refine blk_drew ?_ | refine blk_alloc ?_ _)); exact BK325.out) hb)
            have n6_ := Aside0.mk (below_step (by repeat (first | (with_reducible first | exact HB.out | apply below_alloc | apply pw_below_drewN | apply below_drew1 | refine below_set ?_ GE297.out | refine below_set ?_ GE311.out | refine below_set ?_ GE325.out) | exact HB.out)) hb)
            clear HO292
            clear HO306
            clear HO320
            clear BK297
            clear BK311
            clear BK325
            clear HB
            have HO292 := n0_
            have HO306 := n1_
            have HO320 := n2_
            have BK297 := n3_
            have BK311 := n4_
            have BK325 := n5_
            have HB := n6_
            clear n0_ n1_ n2_ n3_ n4_ n5_ n6_
            (try clear hb)
            (try clear hb2)
            (try clear hk)
            (try clear hi)
            refine hK.out _ _ ⟨(blk_cell BK297.out 0).trans rfl, (blk_cell BK297.out 1).trans rfl, (blk_cell BK297.out 2).trans rfl, (blk_cell BK311.out 0).trans rfl, (blk_cell BK311.out 1).trans rfl, (blk_cell BK311.out 2).trans rfl, (blk_cell BK325.out 0).trans rfl, (blk_cell BK325.out 1).trans rfl, (blk_cell BK325.out 2).trans rfl⟩ (fun hHeld => ?_)
            clear hK K
            refine norm_ (a' := ?_) ?_ ?_
            rotate_left
            · show Act.put _ (some 40) _ = _
              simp only [Act.put, List.setIfInBounds_toArray, List.set_cons_zero, List.set_cons_succ, i64_w, i32_w]
              rfl
            refine pure_ (i := 13) (N := some 41) (v := ?_) (a' := ?_) #[true, true, true, true, true, true, true, true, true, true, true, true, true, true, false, false, false, false, false, false, false, false, false, false, false, false] rfl rfl (any_of HT_.out (by kernel_rfl)) (fun _ _ _ h => h) (Or.inl ⟨by rfl, ?_⟩) ?_ ?_
            rotate_left
            · intro w'
              go_simp
              with_reducible rfl
            rotate_left
            · simp only [Act.put, List.setIfInBounds_toArray, List.set_cons_zero, List.set_cons_succ, i64_w, i32_w]
              rfl
            refine pure_ (i := 14) (N := some 42) (v := ?_) (a' := ?_) #[true, true, true, true, true, true, true, true, true, true, true, true, true, true, true, false, false, false, false, false, false, false, false, false, false, false] rfl rfl (any_of HT_.out (by kernel_rfl)) (fun _ _ _ h => h) (Or.inl ⟨by rfl, ?_⟩) ?_ ?_
            rotate_left
            · intro w'
              go_simp
              with_reducible rfl
            rotate_left
            · simp only [Act.put, List.setIfInBounds_toArray, List.set_cons_zero, List.set_cons_succ, i64_w, i32_w]
              rfl
            refine pure_ (i := 15) (N := some 43) (v := ?_) (a' := ?_) #[true, true, true, true, true, true, true, true, true, true, true, true, true, true, true, true, false, false, false, false, false, false, false, false, false, false] rfl rfl (any_of HT_.out (by kernel_rfl)) (fun _ _ _ h => h) (Or.inl ⟨by rfl, ?_⟩) ?_ ?_
            rotate_left
            · intro w'
              go_simp
              with_reducible rfl
            rotate_left
            · simp only [Act.put, List.setIfInBounds_toArray, List.set_cons_zero, List.set_cons_succ, i64_w, i32_w]
              rfl
            refine take_ (i := 16) (N := some 44) (v := ?_) (a' := ?_) #[true, true, true, true, true, true, true, true, true, true, true, true, true, true, true, true, true, false, false, false, false, false, false, false, false, false] rfl rfl (take_ofW HT_.out HW_.out (by kernel_rfl)) (fun _ _ _ h => h) (Or.inl ⟨by rfl, ?_⟩) hHeld ?_ ?_
            rotate_left
            · rintro w' ⟨s0, s1, s2, s3, s4, s5, s6, s7, s8⟩
              go_simp
              with_reducible rfl
            rotate_left
            · simp only [Act.put, List.setIfInBounds_toArray, List.set_cons_zero, List.set_cons_succ, i64_w, i32_w]
              rfl
            refine one_ (i := 17) (N := some 45) #[true, true, true, true, true, true, true, true, true, true, true, true, true, true, true, true, true, true, false, false, false, false, false, false, false, false] rfl rfl (one_of HT_.out (by kernel_rfl)) (by decide) (fun K hK => ?_)
            refine goes_ Tryd.func25 (by kernel_rfl) rfl #[.int .i64 (-1)] (by rfl) rfl rfl (by (try simp only [List.map_toArray, List.map_cons, List.map_nil]); first | done | rfl | (simp only [List.length_drop, List.length_take]; rfl)) ?_
            with_reducible refine (val_Of.calls (-1) t329 t330 t331 _ A15.out).mono ?_
            rintro e w48 ⟨rfl, hb⟩
            refine ⟨_, rfl, ?_⟩
            have n0_ := Aside0.mk (Kd.R_below (by (with_reducible repeat (first | apply Kd.R_alloc | apply Kd.R_drewN | apply Kd.R_drew)); exact HO292.out) hb)
            have n1_ := Aside0.mk (Kd.R_below (by (with_reducible repeat (first | apply Kd.R_alloc | apply Kd.R_drewN | apply Kd.R_drew)); exact HO306.out) hb)
            have n2_ := Aside0.mk (Kd.R_below (by (with_reducible repeat (first | apply Kd.R_alloc | apply Kd.R_drewN | apply Kd.R_drew)); exact HO320.out) hb)
            have n3_ := Aside0.mk (blk_below (g := gb297) (o := .cells #[.int .i64 t293, .int .i64 t294, .string t295] 24 (0, 0)) (by (with_reducible repeat (first | refine blk_drewN ?_ _ | refine blk_drew ?_ | refine blk_alloc ?_ _)); exact BK297.out) hb)
            have n4_ := Aside0.mk (blk_below (g := gb311) (o := .cells #[.int .i64 t307, .int .i64 t308, .string t309] 24 (0, 0)) (by (with_reducible repeat (first | refine blk_drewN ?_ _ | refine blk_drew ?_ | refine blk_alloc ?_ _)); exact BK311.out) hb)
            have n5_ := Aside0.mk (blk_below (g := gb325) (o := .cells #[.int .i64 t321, .int .i64 t322, .string t323] 24 (0, 0)) (by (with_reducible repeat (first | refine blk_drewN ?_ _ | refine blk_drew ?_ | refine blk_alloc ?_ _)); exact BK325.out) hb)
            have n6_ := Aside0.mk (below_step (by repeat (first | (with_reducible first | exact HB.out | apply below_alloc | apply pw_below_drewN | apply below_drew1 | refine below_set ?_ GE297.out | refine below_set ?_ GE311.out | refine below_set ?_ GE325.out) | exact HB.out)) hb)
            clear HO292
            clear HO306
            clear HO320
            clear BK297
            clear BK311
            clear BK325
            clear HB
            have HO292 := n0_
            have HO306 := n1_
            have HO320 := n2_
            have BK297 := n3_
            have BK311 := n4_
            have BK325 := n5_
            have HB := n6_
            clear n0_ n1_ n2_ n3_ n4_ n5_ n6_
            (try clear hb)
            (try clear hb2)
            (try clear hk)
            (try clear hi)
            refine hK.out _ _ ⟨(blk_cell BK297.out 0).trans rfl, (blk_cell BK297.out 1).trans rfl, (blk_cell BK297.out 2).trans rfl, (blk_cell BK311.out 0).trans rfl, (blk_cell BK311.out 1).trans rfl, (blk_cell BK311.out 2).trans rfl, (blk_cell BK325.out 0).trans rfl, (blk_cell BK325.out 1).trans rfl, (blk_cell BK325.out 2).trans rfl⟩ (fun hHeld => ?_)
            clear hK K
            refine norm_ (a' := ?_) ?_ ?_
            rotate_left
            · show Act.put _ (some 45) _ = _
              simp only [Act.put, List.setIfInBounds_toArray, List.set_cons_zero, List.set_cons_succ, i64_w, i32_w]
              rfl
            refine pure_ (i := 18) (N := some 46) (v := ?_) (a' := ?_) #[true, true, true, true, true, true, true, true, true, true, true, true, true, true, true, true, true, true, true, false, false, false, false, false, false, false] rfl rfl (any_of HT_.out (by kernel_rfl)) (fun _ _ _ h => h) (Or.inl ⟨by rfl, ?_⟩) ?_ ?_
            rotate_left
            · intro w'
              go_simp
              with_reducible rfl
            rotate_left
            · simp only [Act.put, List.setIfInBounds_toArray, List.set_cons_zero, List.set_cons_succ, i64_w, i32_w]
              rfl
            refine pure_ (i := 19) (N := some 47) (v := ?_) (a' := ?_) #[true, true, true, true, true, true, true, true, true, true, true, true, true, true, true, true, true, true, true, true, false, false, false, false, false, false] rfl rfl (any_of HT_.out (by kernel_rfl)) (fun _ _ _ h => h) (Or.inl ⟨by rfl, ?_⟩) ?_ ?_
            rotate_left
            · intro w'
              go_simp
              with_reducible rfl
            rotate_left
            · simp only [Act.put, List.setIfInBounds_toArray, List.set_cons_zero, List.set_cons_succ, i64_w, i32_w]
              rfl
            refine pure_ (i := 20) (N := some 48) (v := ?_) (a' := ?_) #[true, true, true, true, true, true, true, true, true, true, true, true, true, true, true, true, true, true, true, true, true, false, false, false, false, false] rfl rfl (any_of HT_.out (by kernel_rfl)) (fun _ _ _ h => h) (Or.inl ⟨by rfl, ?_⟩) ?_ ?_
            rotate_left
            · intro w'
              go_simp
              with_reducible rfl
            rotate_left
            · simp only [Act.put, List.setIfInBounds_toArray, List.set_cons_zero, List.set_cons_succ, i64_w, i32_w]
              rfl
            refine take_ (i := 21) (N := some 49) (v := ?_) (a' := ?_) #[true, true, true, true, true, true, true, true, true, true, true, true, true, true, true, true, true, true, true, true, true, true, false, false, false, false] rfl rfl (take_ofW HT_.out HW_.out (by kernel_rfl)) (fun _ _ _ h => h) (Or.inl ⟨by rfl, ?_⟩) hHeld ?_ ?_
            rotate_left
            · rintro w' ⟨s0, s1, s2, s3, s4, s5, s6, s7, s8⟩
              go_simp
              with_reducible rfl
            rotate_left
            · simp only [Act.put, List.setIfInBounds_toArray, List.set_cons_zero, List.set_cons_succ, i64_w, i32_w]
              rfl
            refine one_ (i := 22) (N := some 50) #[true, true, true, true, true, true, true, true, true, true, true, true, true, true, true, true, true, true, true, true, true, true, true, false, false, false] rfl rfl (one_of HT_.out (by kernel_rfl)) (by decide) (fun K hK => ?_)
            refine goes_ Tryd.func13 (by kernel_rfl) rfl #[.agg #[.int .i64 t321, .int .i64 t322, .string t323]] (by rfl) rfl rfl (by (try simp only [List.map_toArray, List.map_cons, List.map_nil]); first | done | rfl | (simp only [List.length_drop, List.length_take]; rfl)) ?_
            with_reducible refine (val_Value_Show.calls t321 t322 t323 t332 _ A17.out).mono ?_
            rintro e w49 ⟨rfl, hb⟩
            refine ⟨_, rfl, ?_⟩
            have n0_ := Aside0.mk (Kd.R_below (by (with_reducible repeat (first | apply Kd.R_alloc | apply Kd.R_drewN | apply Kd.R_drew)); exact HO292.out) hb)
            have n1_ := Aside0.mk (Kd.R_below (by (with_reducible repeat (first | apply Kd.R_alloc | apply Kd.R_drewN | apply Kd.R_drew)); exact HO306.out) hb)
            have n2_ := Aside0.mk (Kd.R_below (by (with_reducible repeat (first | apply Kd.R_alloc | apply Kd.R_drewN | apply Kd.R_drew)); exact HO320.out) hb)
            have n3_ := Aside0.mk (blk_below (g := gb297) (o := .cells #[.int .i64 t293, .int .i64 t294, .string t295] 24 (0, 0)) (by (with_reducible repeat (first | refine blk_drewN ?_ _ | refine blk_drew ?_ | refine blk_alloc ?_ _)); exact BK297.out) hb)
            have n4_ := Aside0.mk (blk_below (g := gb311) (o := .cells #[.int .i64 t307, .int .i64 t308, .string t309] 24 (0, 0)) (by (with_reducible repeat (first | refine blk_drewN ?_ _ | refine blk_drew ?_ | refine blk_alloc ?_ _)); exact BK311.out) hb)
            have n5_ := Aside0.mk (blk_below (g := gb325) (o := .cells #[.int .i64 t321, .int .i64 t322, .string t323] 24 (0, 0)) (by (with_reducible repeat (first | refine blk_drewN ?_ _ | refine blk_drew ?_ | refine blk_alloc ?_ _)); exact BK325.out) hb)
            have n6_ := Aside0.mk (below_step (by repeat (first | (with_reducible first | exact HB.out | apply below_alloc | apply pw_below_drewN | apply below_drew1 | refine below_set ?_ GE297.out | refine below_set ?_ GE311.out | refine below_set ?_ GE325.out) | exact HB.out)) hb)
            clear HO292
            clear HO306
            clear HO320
            clear BK297
            clear BK311
            clear BK325
            clear HB
            have HO292 := n0_
            have HO306 := n1_
            have HO320 := n2_
            have BK297 := n3_
            have BK311 := n4_
            have BK325 := n5_
            have HB := n6_
            clear n0_ n1_ n2_ n3_ n4_ n5_ n6_
            (try clear hb)
            (try clear hb2)
            (try clear hk)
            (try clear hi)
            refine hK.out _ _ ⟨(blk_cell BK297.out 0).trans rfl, (blk_cell BK297.out 1).trans rfl, (blk_cell BK297.out 2).trans rfl, (blk_cell BK311.out 0).trans rfl, (blk_cell BK311.out 1).trans rfl, (blk_cell BK311.out 2).trans rfl, (blk_cell BK325.out 0).trans rfl, (blk_cell BK325.out 1).trans rfl, (blk_cell BK325.out 2).trans rfl⟩ (fun hHeld => ?_)
            clear hK K
            refine norm_ (a' := ?_) ?_ ?_
            rotate_left
            · show Act.put _ (some 50) _ = _
              simp only [Act.put, List.setIfInBounds_toArray, List.set_cons_zero, List.set_cons_succ, i64_w, i32_w]
              rfl
            refine pure_ (i := 23) (N := some 51) (v := ?_) (a' := ?_) #[true, true, true, true, true, true, true, true, true, true, true, true, true, true, true, true, true, true, true, true, true, true, true, true, false, false] rfl rfl (any_of HT_.out (by kernel_rfl)) (fun _ _ _ h => h) (Or.inl ⟨by rfl, ?_⟩) ?_ ?_
            rotate_left
            · intro w'
              go_simp
              with_reducible rfl
            rotate_left
            · simp only [Act.put, List.setIfInBounds_toArray, List.set_cons_zero, List.set_cons_succ, i64_w, i32_w]
              rfl
            refine pure_ (i := 24) (N := some 52) (v := ?_) (a' := ?_) #[true, true, true, true, true, true, true, true, true, true, true, true, true, true, true, true, true, true, true, true, true, true, true, true, true, false] rfl rfl (any_of HT_.out (by kernel_rfl)) (fun _ _ _ h => h) (Or.inl ⟨by rfl, ?_⟩) ?_ ?_
            rotate_left
            · intro w'
              go_simp
              with_reducible rfl
            rotate_left
            · simp only [Act.put, List.setIfInBounds_toArray, List.set_cons_zero, List.set_cons_succ, i64_w, i32_w]
              rfl
            refine pure_ (i := 25) (N := some 0) (v := ?_) (a' := ?_) #[true, true, true, true, true, true, true, true, true, true, true, true, true, true, true, true, true, true, true, true, true, true, true, true, true, true] rfl rfl (any_of HT_.out (by kernel_rfl)) (fun _ _ _ h => h) (Or.inl ⟨by rfl, ?_⟩) ?_ ?_
            rotate_left
            · intro w'
              go_simp
              with_reducible rfl
            rotate_left
            · simp only [Act.put, List.setIfInBounds_toArray, List.set_cons_zero, List.set_cons_succ, i64_w, i32_w]
              rfl
            refine done_ (done_of HT_.out (by kernel_rfl)) ?_
            try go_wp2
            go_ret
            exact ⟨by first | rfl | (simp [errW_none, errW_some] <;> rfl) | (simp [*, errW_none, errW_some] <;> rfl), by repeat (first | (with_reducible first | exact HB.out | apply below_alloc | apply pw_below_drewN | apply below_drew1 | refine below_set ?_ GE297.out | refine below_set ?_ GE311.out | refine below_set ?_ GE325.out) | exact HB.out)⟩
          · exact absurd (by obtain ⟨e1, e2, e3, _⟩ := quad (val_r A4.out A5.out Ny304.out A6.out); obtain ⟨f1, f2, f3⟩ := trip (A15.out : val_Of.f (-1) = some _); rw [e1, e2, e3, f1, f2, f3]; decide +kernel) c16
        · exact absurd (by obtain ⟨e1, e2, e3, _⟩ := quad (val_q A1.out A2.out Ny290.out A3.out); obtain ⟨f1, f2, f3⟩ := trip (A13.out : val_Of.f (-3) = some _); rw [e1, e2, e3, f1, f2, f3]; decide +kernel) c14
      · exact absurd (by exact (quad (val_s A7.out A8.out Ny318.out A9.out)).2.2.2) c12
    · exact absurd (by exact (quad (val_r A4.out A5.out Ny304.out A6.out)).2.2.2) c11
  · exact absurd (by exact (quad (val_q A1.out A2.out Ny290.out A3.out)).2.2.2) c10

end Go.Proofs.YtbbdlcmcndhhkaaDoor.MValReckons
