/- DeltaPatches, plain, and the walk over all arguments: the law's own answer is true. -/
import Derived.Test.YtfpbohfefliljaaDiffs
import Derived.Test.YtfpbohfefliljaaMDeltaPatchesx6d
namespace Go.Proofs.Ytfpbohfefliljaa.MDeltaPatches
open Go.RowKit Go.Proofs Go.Proofs.YtfpbohfefliljaaW.PrintWords Go.Proofs.YtfpbohfefliljaaW.PrintLast Go.Proofs.YtfpbohfefliljaaW.PrintMore
theorem anchor_f : whirligiglaw19_anchor.f 100 = some true := by decide +kernel
theorem patches_f (a b : List ByteArray) : whirligiglaw19_DeltaPatches.f 2000 a b = some true := by
  have han : whirligiglaw19_anchor.f 2000 = some true := at_rounds (fun k => whirligiglaw19_anchor.mono k) (by omega : 100 ≤ 2000) anchor_f
  unfold whirligiglaw19_DeltaPatches.f
  rw [han, Option.bind_some, if_pos rfl]
  by_cases h1 : (a.length : Int) > 200
  · rw [if_pos h1, whirligiglaw19_DeltaPatches.j0, if_pos rfl]
  · rw [if_neg h1]
    by_cases h2 : (b.length : Int) > 200
    · rw [decide_eq_true h2, whirligiglaw19_DeltaPatches.j0, if_pos rfl]
    · rw [decide_eq_false h2, whirligiglaw19_DeltaPatches.j0, if_neg (by decide)]
      have ha : a.length ≤ 200 := by omega
      have hb : b.length ≤ 200 := by omega
      obtain ⟨p, s, g1, g2, g3, g4, g5, g6⟩ := l0_both a b ha hb (a.length - 0) 0 1999 rfl (by omega) (by omega) (by omega) rfl
      have e1 : delta_Diff_string.f 1999 a b = some (res a b p s) := g5
      have e2 : whirligigref19_Diff.f 1999 a b = some (res a b p s) := g6
      obtain ⟨m1, m2, m3⟩ := made_res a b p s g1 g2 g3 g4
      clear g5 g6
      rw [e1, Option.bind_some, e2, Option.bind_some]
      generalize res a b p s = R at m1 m2 m3
      have e3 := put_f R.1 R.2.1 R.2.2 a (by omega) (by omega)
      rw [m1] at e3
      rw [e3, Option.bind_some, if_pos rfl, if_pos rfl, texts_f _ _ _ (by omega) (by omega), Option.bind_some, decide_eq_true rfl, if_pos rfl]
      have e4 : delta_Patch_string_Size.f R.1 R.2.1 R.2.2 = some (R.2.2.length : Int) := rfl
      rw [e4, Option.bind_some, if_pos rfl]
      show (if true = true then _ else _) = _
      rw [if_pos rfl]
      show (whirligiglaw19_texts.f 1999 b b).bind _ = _
      rw [texts_f _ _ _ (by omega) (by omega), Option.bind_some, decide_eq_true rfl, if_pos rfl, fits_f _ _ _ _ (by omega), Option.bind_some, decide_eq_true m2]
end Go.Proofs.Ytfpbohfefliljaa.MDeltaPatches
