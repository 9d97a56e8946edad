/- How a slice of texts and a slice of slices of bytes open. -/
import Derived.Test.YtlnllcgepplneaaMFrameLinesx0
import Derived.Test.YtlnllcgepplneaaOpen
namespace Go.Proofs.Ytlnllcgepplneaa.Open
open Go.RowKit Go.Proofs Go.Proofs.YtlnllcgepplneaaW.PrintWords
theorem strs : Opens Try.prog 22 (Kd.slice 9 Kd.string) (fun l => ∀ a ∈ l, a.size ≤ maxLen) := opens_slice Try.underlying22 (by kernel_rfl) (opens_string Try.underlying9)
theorem pieces : Opens Try.prog 37 (Kd.slice 24 (Kd.slice 5 (Kd.int .u8))) (fun l => ∀ b ∈ l, ∀ x ∈ b, (Lit.int .u8 x).wf = true) := opens_slice Try.underlying37 (by kernel_rfl) (opens_slice Try.underlying24 (by kernel_rfl) (opens_int Try.underlying5))
end Go.Proofs.Ytlnllcgepplneaa.Open
