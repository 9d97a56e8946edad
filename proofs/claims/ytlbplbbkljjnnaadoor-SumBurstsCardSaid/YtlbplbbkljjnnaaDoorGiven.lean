/- What the printed law takes as told: the table's fact as a class, the anchor and the sum. -/
import Derived.Test.YtlbplbbkljjnnaaDoorShow
namespace Go.Proofs.YtlbplbbkljjnnaaDoor
open Go.RowKit Go.Proofs Go.Proofs.YtlbplbbkljjnnaaDoorW.PrintWords
class TabFact (w : World) : Prop where
  out : Show.Tab w
end Go.Proofs.YtlbplbbkljjnnaaDoor
