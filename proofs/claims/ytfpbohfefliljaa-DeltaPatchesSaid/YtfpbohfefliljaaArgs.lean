/- How a slice of texts opens. -/
import Derived.Test.YtfpbohfefliljaaProg
import Derived.Test.YtfpbohfefliljaaOpen
import Derived.KernelRfl
namespace Go.Proofs.Ytfpbohfefliljaa.Open
open Go.RowKit Go.Proofs Go.Proofs.YtfpbohfefliljaaW.PrintWords
theorem strs : Opens Try.prog 22 (Kd.slice 9 Kd.string) (fun l => ∀ a ∈ l, a.size ≤ maxLen) := opens_slice Try.underlying22 (by kernel_rfl) (opens_string Try.underlying9)
end Go.Proofs.Ytfpbohfefliljaa.Open
