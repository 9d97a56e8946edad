/- DeltaChains: the walk in the row's form. -/
import Derived.Test.YtfpbohfefliljaaDChain
import Derived.Test.YtfpbohfefliljaaDOpen
namespace Go.Proofs.Ytfpbohfefliljaa.MD
open Go Go.RowKit Go.Proofs Go.Proofs.YtfpbohfefliljaaW.PrintWords
theorem chains_row (A : Option Addr) (c : Nat) (l : List S46) (w : World) (hr : Kd.C k46 w A l.length l) (hc : l.length ≤ c) (hw : l.length ≤ reachBytes ∧ ∀ s ∈ l, tot s ≤ 1152921504606846975) :
    Calls Try.prog 5 #[.slice A l.length c] w fun e w' => e = .returned (.bool true) ∧ Below w.heap.size w w' := chains_any w A c l hr hc hw.2 (Nat.le_trans hw.1 (by decide))
end Go.Proofs.Ytfpbohfefliljaa.MD
