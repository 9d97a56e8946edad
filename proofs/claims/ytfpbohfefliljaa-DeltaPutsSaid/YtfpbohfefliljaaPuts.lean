/- DeltaPuts, plain, and the walk over all arguments: the law's own answer is true. -/
import Derived.Test.YtfpbohfefliljaaTexts
import Derived.Test.YtfpbohfefliljaaMDeltaPutsx4
namespace Go.Proofs.Ytfpbohfefliljaa.MDeltaPuts
open Go.RowKit Go.Proofs Go.Proofs.YtfpbohfefliljaaW.PrintWords Go.Proofs.YtfpbohfefliljaaW.PrintLast Go.Proofs.YtfpbohfefliljaaW.PrintMore
theorem anchor_f : whirligiglaw19_anchor.f 100 = some true := by decide +kernel
theorem made_le (p q : Int) (w a : List ByteArray) : (made p q w a).1.length ≤ w.length + a.length + a.length := by
  unfold made
  split
  · simp only [List.length_append, List.length_take, List.length_drop]; omega
  · simp
theorem puts_f (p q : Int) (w a : List ByteArray) : whirligiglaw19_DeltaPuts.f 2000 p q w a = some true := by
  have han : whirligiglaw19_anchor.f 2000 = some true := at_rounds (fun k => whirligiglaw19_anchor.mono k) (by omega : 100 ≤ 2000) anchor_f
  unfold whirligiglaw19_DeltaPuts.f
  rw [han]
  simp only [Option.bind_some, if_true]
  by_cases h1 : (a.length : Int) > 200
  · rw [if_pos h1]
    simp [whirligiglaw19_DeltaPuts.j0]
  · rw [if_neg h1]
    by_cases h2 : (w.length : Int) > 200
    · rw [decide_eq_true h2]
      simp [whirligiglaw19_DeltaPuts.j0]
    · rw [decide_eq_false h2]
      simp only [whirligiglaw19_DeltaPuts.j0, Bool.false_eq_true, if_false]
      rw [put_f p q w a (by omega) (by omega), ref_put p q w a _ (by omega) (by omega) (by omega)]
      simp only [Option.bind_some]
      have hm := made_le p q w a
      have hs : (made p q w a).2 = decide (fits p q a.length) := by
        unfold made
        split
        · rw [decide_eq_true ‹_›]
        · rw [decide_eq_false ‹_›]
      rw [if_pos (by simp), fits_f _ _ _ _ (by omega)]
      simp only [Option.bind_some]
      rw [if_pos (by rw [hs]; simp), texts_f _ _ _ (by omega) (by omega)]
      simp only [Option.bind_some, decide_true, if_true]
      unfold delta_Patch_string_Size.f
      simp
theorem puts_walk (p q : Int) (A : Option Addr) (c : Nat) (w : List ByteArray) (A1 : Option Addr) (c1 : Nat) (a : List ByteArray) (W : World) (hr : Kd.C Kd.string W A w.length w) (hc : w.length ≤ c) (hr1 : Kd.C Kd.string W A1 a.length a) (hc1 : a.length ≤ c1) :
    Calls Try.prog 4 #[.agg #[.int .i64 p, .int .i64 q, .slice A w.length c], .slice A1 a.length c1] W fun e w' => e = .returned (.bool true) ∧ Below W.heap.size W w' :=
  whirligiglaw19_DeltaPuts.calls 2000 p q A c w A1 c1 a true W hr hc hr1 hc1 (puts_f p q w a)
end Go.Proofs.Ytfpbohfefliljaa.MDeltaPuts
