/- What the printed laws take as told: the table's fact as a class, the anchor. -/
import Derived.Test.YtimodbkfjaknhaaDoorBAnch
namespace Go.Proofs.YtimodbkfjaknhaaDoor
open Go.RowKit Go.Proofs Go.Proofs.YtimodbkfjaknhaaDoorW.PrintWords
class TabFact (w : World) : Prop where
  out : BPlain.Tab w
end Go.Proofs.YtimodbkfjaknhaaDoor
