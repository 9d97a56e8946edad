/- What the rows list gives the table's fact. -/
import Derived.Test.YtimodbkfjaknhaaDoorBGiven
import Derived.Test.YtimodbkfjaknhaaDoorRows
import Derived.Lib.LaidTab
import Derived.Stop.LaidErr
import Derived.MakeChecks
import Derived.OpenShut
import Derived.LaidMore
namespace Go.Proofs.YtimodbkfjaknhaaDoor
open Go Go.RowKit Go.Proofs Go.Proofs.YtimodbkfjaknhaaDoorW.PrintWords
set_option linter.unusedVariables false
set_option maxRecDepth 100000
theorem tab_of {W : World} (h : laidMetH Tryd.prog Rows.bitsLawsRow.laid W) : BPlain.Tab W := by
  rw [MakeChecks.laidMetH_plain _ _ _ (by kernel_rfl)] at h
  have h2 := laidMet.tail h
  have ht : Lib.TabIs Tryd.prog W "math/bits.deBruijn64tab" .u8 (BPlain.tz.map Int.ofNat) := Lib.tabIs_of_head (g := 0) (k := .u8) (zs := BPlain.tz.map Int.ofNat) (t := 59) (e := 5) (n := 64) (by kernel_rfl) (by kernel_rfl) (by kernel_rfl) (by kernel_rfl) (by kernel_rfl) (by kernel_rfl) h2
  have hlen : (BPlain.tz.map Int.ofNat).length = 64 := by kernel_rfl
  have hc : ∀ i < 64, W.cell? ⟨0, i, none⟩ = some (.int .u8 ((BPlain.tz.getD i 0 : Nat) : Int)) := fun i hi => by
    have h0 := ht.cell (g := 0) (by kernel_rfl) i (by omega)
    rw [h0]
    have hl : i < BPlain.tz.length := by rw [List.length_map] at hlen; omega
    simp [List.getD, hl]
  exact ⟨hc, World.block_lt_of_cell? W _ (hc 0 (by decide))⟩
end Go.Proofs.YtimodbkfjaknhaaDoor
