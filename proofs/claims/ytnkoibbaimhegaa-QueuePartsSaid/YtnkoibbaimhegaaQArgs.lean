/- How a slice of texts and a slice of timers open. -/
import Derived.Test.YtnkoibbaimhegaaQBase
import Derived.Test.YtnkoibbaimhegaaOpen
namespace Go.Proofs.Ytnkoibbaimhegaa.Open
open Go.RowKit Go.Proofs Go.Proofs.YtnkoibbaimhegaaW.PrintWords MQ
theorem strs : Opens Try.prog 29 (Kd.slice 9 Kd.string) (fun l => ∀ a ∈ l, a.size ≤ maxLen) := opens_slice Try.underlying29 (by kernel_rfl) (opens_string Try.underlying9)
theorem timers : Opens Try.prog 22 (Kd.slice 25 k25) (fun l : List S25 => ∀ a ∈ l, (Lit.int .i64 a.f0).wf = true ∧ (Lit.int .i64 a.f1).wf = true ∧ a.f2.size ≤ maxLen) := by
  have h64 := opens_int (P := Try.prog) (t := 2) (k := .i64) Try.underlying2
  have hi := opens_int (P := Try.prog) (t := 3) (k := .i64) Try.underlying3
  have hs := opens_string (P := Try.prog) (t := 9) Try.underlying9
  have h1 := opens_last (P := Try.prog) (f := ⟨ "Name", 9, 2, false, "", "", 16⟩) (off := 0 + (Kd.int .i64).sz + (Kd.int .i64).sz) hs rfl (by kernel_rfl)
  have h2 := opens_cons (P := Try.prog) (f := ⟨ "Seq", 3, 1, false, "", "", 8⟩) (off := 0 + (Kd.int .i64).sz) hi rfl (by kernel_rfl) h1
  have h3 := opens_cons (P := Try.prog) (f := ⟨ "Due", 2, 0, false, "", "", 0⟩) (off := 0) h64 rfl (by kernel_rfl) h2
  have h4 := opens_struct (P := Try.prog) (t := 25) (fun x : S25 => (x.f0, x.f1, x.f2)) (fun x => (⟨x.1, x.2.1, x.2.2⟩ : S25)) (fun _ => rfl) Try.underlying25 h3 (by kernel_rfl)
  exact opens_slice Try.underlying22 (by kernel_rfl) h4
end Go.Proofs.Ytnkoibbaimhegaa.Open
