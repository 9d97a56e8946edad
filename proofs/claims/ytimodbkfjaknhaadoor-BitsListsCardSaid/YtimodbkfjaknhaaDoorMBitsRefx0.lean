-- Walks made by a program (wip/givenprint.sh); Lean checks them.
import Derived.Test.YtimodbkfjaknhaaDoorProg
import Derived.Below
import Derived.Deep.Draws
import Derived.Deep.AppendLies
import Derived.Maps.AppendAt
import Derived.OwnWalk
import Derived.Laws.BytesArg
import Derived.Laws.MakeOwn
import Derived.Laws.OwnMore
import Derived.Deep.OwnRows
import Derived.Tactics
import Derived.Lib.ConvBytes
import Derived.Laws.Slices
import Derived.WalkKit
import Derived.KernelRfl
import Derived.RowKit3
import Derived.Deep.LoopGhost
import Derived.Deep.QuietTactic
import Derived.BigQuiet
import Derived.WideLaws
import Derived.Deep.DeepCutAuto
import Derived.Deep.CutBlock
import Derived.Deep.RegionHeld3
import Derived.Laws.Rows
import Derived.Lib.AppendStr
import Derived.ArgAppend
import Derived.Laws.IdiomCopy
import Derived.OrdersHeld
import Derived.Laws.BitsLemmas
import Derived.RowKit
import Derived.Test.YtimodbkfjaknhaaDoorWWords
import Derived.Test.YtimodbkfjaknhaaDoorWLast
import Derived.Test.YtimodbkfjaknhaaDoorWTab
import Derived.Test.YtimodbkfjaknhaaDoorWFour
import Derived.Test.YtimodbkfjaknhaaDoorWQPut
import Derived.Test.YtimodbkfjaknhaaDoorWApart
import Derived.Test.YtimodbkfjaknhaaDoorWArr
import Derived.Test.YtimodbkfjaknhaaDoorWZeros
import Derived.Test.YtimodbkfjaknhaaDoorWFoot
import Derived.Test.YtimodbkfjaknhaaDoorWKept
import Derived.Test.YtimodbkfjaknhaaDoorWShare
import Derived.Test.YtimodbkfjaknhaaDoorWN
import Derived.Test.YtimodbkfjaknhaaDoorWFootNe
import Derived.Test.YtimodbkfjaknhaaDoorWAt
import Derived.Test.YtimodbkfjaknhaaDoorWEqStruct
import Derived.Test.YtimodbkfjaknhaaDoorWRepsOne
import Derived.Test.YtimodbkfjaknhaaDoorWInv
import Derived.Test.YtimodbkfjaknhaaDoorWInvWords
import Derived.Test.YtimodbkfjaknhaaDoorWGuard
import Derived.Test.YtimodbkfjaknhaaDoorWNEv
import Derived.Test.YtimodbkfjaknhaaDoorWMore
namespace Go.Proofs.YtimodbkfjaknhaaDoor.MBitsRef
open Go.RowKit Go.Proofs.YtimodbkfjaknhaaDoorW.PrintWords Go.Proofs.YtimodbkfjaknhaaDoorW.PrintLast Go.Proofs.YtimodbkfjaknhaaDoorW.PrintMore
attribute [local go_sem] max2_int min2_int max_two min_two max_three min_three max_four min_four   -- for this text's walks alone
set_option linter.unusedVariables false
set_option linter.unusedSimpArgs false



def errW : Option Int → Value
  | none => .nilIface
  | some c => .iface 0 (.int .i64 c)
theorem errW_none : errW none = .nilIface := rfl
theorem errW_some (c : Int) : errW (some c) = .iface 0 (.int .i64 c) := rfl

theorem info3 : (Tryd.prog.info? 3).map (fun i => (i.zero, i.size, i.bytes)) = some (some (.int .i64 0), 1, 8) := by kernel_rfl
theorem info5 : (Tryd.prog.info? 5).map (fun i => (i.zero, i.size, i.bytes)) = some (some (.int .u8 0), 1, 1) := by kernel_rfl
-- the values' own types

end Go.Proofs.YtimodbkfjaknhaaDoor.MBitsRef
