-- Walks made by a program (wip/givenprint.sh); Lean checks them.
import Derived.Test.YtlbplbbkljjnnaaDoorProg
import Derived.Below
import Derived.Deep.Draws
import Derived.Deep.AppendLies
import Derived.Maps.AppendAt
import Derived.OwnWalk
import Derived.Laws.BytesArg
import Derived.Laws.MakeOwn
import Derived.Laws.OwnMore
import Derived.Deep.OwnRows
import Derived.Tactics
import Derived.Lib.ConvBytes
import Derived.Laws.Slices
import Derived.WalkKit
import Derived.KernelRfl
import Derived.RowKit3
import Derived.Deep.LoopGhost
import Derived.Deep.QuietTactic
import Derived.BigQuiet
import Derived.WideLaws
import Derived.Deep.DeepCutAuto
import Derived.Deep.CutBlock
import Derived.Deep.RegionHeld3
import Derived.Laws.Rows
import Derived.Lib.AppendStr
import Derived.ArgAppend
import Derived.Laws.IdiomCopy
import Derived.OrdersHeld
import Derived.Laws.BitsLemmas
import Derived.RowKit
import Derived.Test.YtlbplbbkljjnnaaDoorGiven
import Derived.Test.YtlbplbbkljjnnaaDoorWWords
import Derived.Test.YtlbplbbkljjnnaaDoorWLast
import Derived.Test.YtlbplbbkljjnnaaDoorWTab
import Derived.Test.YtlbplbbkljjnnaaDoorWFour
import Derived.Test.YtlbplbbkljjnnaaDoorWQPut
import Derived.Test.YtlbplbbkljjnnaaDoorWApart
import Derived.Test.YtlbplbbkljjnnaaDoorWArr
import Derived.Test.YtlbplbbkljjnnaaDoorWZeros
import Derived.Test.YtlbplbbkljjnnaaDoorWFoot
import Derived.Test.YtlbplbbkljjnnaaDoorWKept
import Derived.Test.YtlbplbbkljjnnaaDoorWShare
import Derived.Test.YtlbplbbkljjnnaaDoorWN
import Derived.Test.YtlbplbbkljjnnaaDoorWFootNe
import Derived.Test.YtlbplbbkljjnnaaDoorWAt
import Derived.Test.YtlbplbbkljjnnaaDoorWEqStruct
import Derived.Test.YtlbplbbkljjnnaaDoorWRepsOne
import Derived.Test.YtlbplbbkljjnnaaDoorWInv
import Derived.Test.YtlbplbbkljjnnaaDoorWInvWords
import Derived.Test.YtlbplbbkljjnnaaDoorWGuard
import Derived.Test.YtlbplbbkljjnnaaDoorWNEv
import Derived.Test.YtlbplbbkljjnnaaDoorWMore
namespace Go.Proofs.YtlbplbbkljjnnaaDoor.MSumOf
open Go.RowKit Go.Proofs.YtlbplbbkljjnnaaDoorW.PrintWords Go.Proofs.YtlbplbbkljjnnaaDoorW.PrintLast Go.Proofs.YtlbplbbkljjnnaaDoorW.PrintMore
attribute [local go_sem] max2_int min2_int max_two min_two max_three min_three max_four min_four   -- for this text's walks alone
set_option linter.unusedVariables false
set_option linter.unusedSimpArgs false



def errW : Option Int → Value
  | none => .nilIface
  | some c => .iface 0 (.int .i64 c)
theorem errW_none : errW none = .nilIface := rfl
theorem errW_some (c : Int) : errW (some c) = .iface 0 (.int .i64 c) := rfl

theorem info9 : (Tryd.prog.info? 9).map (fun i => (i.zero, i.size, i.bytes)) = some (some (.string ⟨#[]⟩), 1, 16) := by kernel_rfl
-- the values' own types

end Go.Proofs.YtlbplbbkljjnnaaDoor.MSumOf
