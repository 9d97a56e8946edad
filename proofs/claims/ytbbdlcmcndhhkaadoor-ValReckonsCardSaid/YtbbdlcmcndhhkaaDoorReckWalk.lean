/- ValReckons: the walk over all arguments. -/
import Derived.Test.YtbbdlcmcndhhkaaDoorMValReckonsx13
import Derived.Test.YtbbdlcmcndhhkaaDoorReckF
import Derived.OpenShut
namespace Go.Proofs.YtbbdlcmcndhhkaaDoor.MValReckons
open Go.RowKit Go.Proofs Go.Proofs.YtbbdlcmcndhhkaaDoorW.PrintWords
set_option linter.unusedVariables false
theorem reckons_walk (op k1 n1 : Int) (s1 : ByteArray) (k2 n2 : Int) (s2 : ByteArray) (w : World) (w0 : (Lit.int .i64 op).wf = true) (w1 : (Lit.int .i64 k1).wf = true) (w2 : (Lit.int .i64 n1).wf = true) (w3 : s1.size ≤ maxLen) (w4 : (Lit.int .i64 k2).wf = true) (w5 : (Lit.int .i64 n2).wf = true) (w6 : s2.size ≤ maxLen) :
    Calls Tryd.prog 7 #[.int .i64 op, .agg #[.int .i64 k1, .int .i64 n1, .string s1], .agg #[.int .i64 k2, .int .i64 n2, .string s2]] w fun e w' => e = .returned (.bool true) ∧ Below w.heap.size w w' :=
  whirligiglaw01_ValReckons.calls 400 op k1 n1 s1 k2 n2 s2 true rfl w (reckons_f op k1 n1 s1 k2 n2 s2 (bounds_i64 w2) (bounds_i64 w5))
end Go.Proofs.YtbbdlcmcndhhkaaDoor.MValReckons
