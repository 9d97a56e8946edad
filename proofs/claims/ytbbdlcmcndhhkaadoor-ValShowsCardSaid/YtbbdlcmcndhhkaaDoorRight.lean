/- val.Value.Right walked at texts; at the other kinds the print's contract. -/
import Derived.Test.YtbbdlcmcndhhkaaDoorPlain
namespace Go.Proofs.YtbbdlcmcndhhkaaDoor.MValReckons
open Go.RowKit Go.Proofs.YtbbdlcmcndhhkaaDoorW.PrintWords Go.Proofs.YtbbdlcmcndhhkaaDoorW.PrintLast Go.Proofs.YtbbdlcmcndhhkaaDoorW.PrintMore
set_option linter.unusedVariables false
set_option linter.unusedSimpArgs false
attribute [local go_sem high] eqA24

set_option maxHeartbeats 4000000 in
set_option maxRecDepth 100000 in
theorem right3_calls (n : Int) (s : ByteArray) (hs : s.size ≤ 140737488351232) (w : World) : Calls Tryd.prog 14 #[.agg #[.int .i64 3, .int .i64 n, .string s]] w fun e w' => e = .returned (.bool (n == 0 && plainB s)) ∧ Below w.heap.size w w' := by
  have hb := (Below.refl w.heap.size w).alloc (Nat.le_refl _) (.cells #[.int .i64 3, .int .i64 n, .string s] 24)
  have bk := blk_new w (.cells #[.int .i64 3, .int .i64 n, .string s] 24)
  have HS := Aside0.mk hs
  clear hs
  by_cases h : n = 0
  · subst h
    go_enter Tryd.func14, Tryd.ntmps14
    go_wp2_with fail
    refine (plain_calls s HS.out _).mono ?_
    rintro e w1 ⟨rfl, h1⟩
    go_wp2_with fail
    go_ret
    exact ⟨by first | rfl | simp, hb.trans (h1.mono hb.size)⟩
  · have hn : (n == 0) = false := beq_eq_false_iff_ne.2 h
    go_enter Tryd.func14, Tryd.ntmps14
    go_wp2_with fail
    go_ret
    exact ⟨by simp [hn], hb⟩
end Go.Proofs.YtbbdlcmcndhhkaaDoor.MValReckons
