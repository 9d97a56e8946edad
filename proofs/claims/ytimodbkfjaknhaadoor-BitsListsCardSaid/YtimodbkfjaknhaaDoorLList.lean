/- BitsLists: the law's call answers true, for all arguments, in a memory whose listed tables are as the program lays them. -/
import Derived.Test.YtimodbkfjaknhaaDoorLListB
import Derived.Test.YtimodbkfjaknhaaDoorBTab
namespace Go.Proofs.YtimodbkfjaknhaaDoor.Seq
open Go Go.RowKit Go.Proofs Go.Shelf BPlain Go.Proofs.YtimodbkfjaknhaaDoorW.PrintWords
set_option linter.unusedVariables false
theorem nat_of' {a : Int} (h : (Lit.int .u64 a).wf = true) : ∃ n : Nat, a = (n : Int) ∧ n < 18446744073709551616 := by
  have h : (0 : Int) ≤ a ∧ a ≤ 18446744073709551615 := by simpa [Lit.wf, IntKind.min, IntKind.max, IntKind.signed, IntKind.bits] using h
  exact ⟨a.toNat, by omega, by omega⟩
theorem bitsLists_walk (a0 a1 : Int) (w : World) (w0 : (Lit.int .u64 a0).wf = true) (w1 : (Lit.int .i64 a1).wf = true) (hL : laidMetH Tryd.prog Rows.bitsListsRow.laid w) :
    Calls Tryd.prog 3 #[.int .u64 a0, .int .i64 a1] w fun e w' => e = .returned (.bool true) ∧ Below w.heap.size w w' := by
  have hL' : laidMetH Tryd.prog Rows.bitsLawsRow.laid w := hL
  obtain ⟨s, rfl, hs⟩ := nat_of' w0
  by_cases h : lst s = []
  · exact lists_none s a1 hs w (Go.Proofs.YtimodbkfjaknhaaDoor.tab_of hL') ⟨h⟩
  · exact lists_some s a1 hs w (Go.Proofs.YtimodbkfjaknhaaDoor.tab_of hL') ⟨h⟩
end Go.Proofs.YtimodbkfjaknhaaDoor.Seq
