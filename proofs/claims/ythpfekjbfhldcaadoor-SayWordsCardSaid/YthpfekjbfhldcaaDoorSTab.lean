/- What the rows list gives the table's fact; SayWords' call over the row's arguments. -/
import Derived.Test.YthpfekjbfhldcaaDoorSLawW
import Derived.Test.YthpfekjbfhldcaaDoorRows
import Derived.Lib.LaidTab
import Derived.Stop.LaidErr
import Derived.MakeChecks
import Derived.OpenShut
import Derived.LaidMore
namespace Go.Proofs.YthpfekjbfhldcaaDoor.SayP
open Go Go.RowKit Go.Proofs Go.Proofs.YthpfekjbfhldcaaDoorW.PrintWords
set_option linter.unusedVariables false
set_option maxRecDepth 100000
theorem say_tab {W : World} (h : laidMetH Tryd.prog Rows.sayWordsRow.laid W) : Tab W := by
  rw [MakeChecks.laidMetH_plain _ _ _ (by kernel_rfl)] at h
  have h2 := laidMet.tail (laidMet.tail h)
  exact ⟨Lib.tabIs_of_head (g := 0) (k := .u64) (zs := Lib.pow10Tab) (t := 65) (e := 55) (n := 20) (by kernel_rfl) (by kernel_rfl) (by kernel_rfl) (by kernel_rfl) (by kernel_rfl) (by kernel_rfl) h2⟩
theorem in64 {x : Int} (h : (Lit.int .i64 x).wf = true) : InI x := by
  have h : (-9223372036854775808 : Int) ≤ x ∧ x ≤ 9223372036854775807 := by simpa [Lit.wf, IntKind.min, IntKind.max, IntKind.signed, IntKind.bits] using h
  exact h
theorem sayWords_walk (a0 : ByteArray) (a1 : Int) (a2 : Option Addr) (cap2 : Nat) (z2 : List Int) (a3 : Int) (w : World) (w0 : a0.size ≤ 140737488351232) (w1 : (Lit.int .i64 a1).wf = true) (hr2 : ReadsInt w .i64 a2 z2.length z2) (hc2 : z2.length ≤ cap2) (hw2 : ∀ x ∈ z2, (Lit.int .i64 x).wf = true) (y2 : z2.length * 8 ≤ 140737488351232) (w3 : (Lit.int .i64 a3).wf = true) (hL : laidMetH Tryd.prog Rows.sayWordsRow.laid w) :
    Calls Tryd.prog 3 #[.string a0, .int .i64 a1, .slice a2 z2.length cap2, .int .i64 a3] w fun e w' => e = .returned (.bool true) ∧ Below w.heap.size w w' :=
  words_law a0 a1 a2 cap2 z2 a3 w (say_tab hL) (in64 w1) (Kd.C_of_reads (enc := Value.int .i64) (d := (0 : Int)) (h1 := fun _ => rfl) hr2) hc2 (fun x hx => in64 (hw2 x hx))
end Go.Proofs.YthpfekjbfhldcaaDoor.SayP
