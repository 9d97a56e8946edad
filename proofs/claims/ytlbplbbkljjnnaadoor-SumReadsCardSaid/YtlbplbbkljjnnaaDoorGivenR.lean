/- What the printed SumReads takes as told. -/
import Derived.Test.YtlbplbbkljjnnaaDoorRead
namespace Go.Proofs.YtlbplbbkljjnnaaDoor
open Go.RowKit Go.Proofs Go.Proofs.YtlbplbbkljjnnaaDoorW.PrintWords
theorem TabFact.below {w w' : World} (h : TabFact w) (hb : Below w.heap.size w w') : TabFact w' := ⟨h.out.below hb⟩
end Go.Proofs.YtlbplbbkljjnnaaDoor
