/- DeltaPatches, plain, and the walk over all arguments: the law's own answer is true. -/
import Derived.Test.YtfpbohfefliljaaPatchesF
import Derived.Test.YtfpbohfefliljaaMDeltaPatchesx6
namespace Go.Proofs.Ytfpbohfefliljaa.MDeltaPatches
open Go.RowKit Go.Proofs Go.Proofs.YtfpbohfefliljaaW.PrintWords Go.Proofs.YtfpbohfefliljaaW.PrintLast Go.Proofs.YtfpbohfefliljaaW.PrintMore
theorem patches_walk (A : Option Addr) (c : Nat) (a : List ByteArray) (A1 : Option Addr) (c1 : Nat) (b : List ByteArray) (W : World) (hr : Kd.C Kd.string W A a.length a) (hc : a.length ≤ c) (hr1 : Kd.C Kd.string W A1 b.length b) (hc1 : b.length ≤ c1) :
    Calls Try.prog 3 #[.slice A a.length c, .slice A1 b.length c1] W fun e w' => e = .returned (.bool true) ∧ Below W.heap.size W w' :=
  whirligiglaw19_DeltaPatches.calls 2000 A c a A1 c1 b true rfl W hr hc hr1 hc1 (patches_f a b)
end Go.Proofs.Ytfpbohfefliljaa.MDeltaPatches
