/- RingPlays' calls: how the argument opens, and the walk over all arguments. -/
import Derived.Test.YtejfpnmomlnjhaaPlays
import Derived.Test.YtejfpnmomlnjhaaOpen
namespace Go.Proofs.Ytejfpnmomlnjhaa.Open
open Go.RowKit Go.Proofs Go.Proofs.YtejfpnmomlnjhaaW.PrintWords Go.Proofs.Ytejfpnmomlnjhaa.RI
theorem ops : Opens Try.prog 36 (Kd.slice 38 (Kd.iso (Kd.pair (Kd.int .i64) (Kd.slice 3 (Kd.int .i64))) (fun x : RI.Op => x))) (fun l : List RI.Op => ∀ a ∈ l, (Lit.int .i64 a.1).wf = true ∧ ∀ b ∈ a.2, (Lit.int .i64 b).wf = true) := by
  have hi := opens_int (P := Try.prog) (t := 3) (k := .i64) Try.underlying3
  have hs := opens_slice (P := Try.prog) (t := 22) (e := 3) Try.underlying22 (by kernel_rfl) hi
  have h1 := opens_last (P := Try.prog) (f := ⟨ "L", 22, 1, false, "", "", 8⟩) (off := 0 + (Kd.int .i64).sz) hs rfl (by kernel_rfl)
  have h2 := opens_cons (P := Try.prog) (f := ⟨ "Kind", 3, 0, false, "", "", 0⟩) (off := 0) hi rfl (by kernel_rfl) h1
  have h3 := opens_struct (P := Try.prog) (t := 38) (fun x : RI.Op => x) (fun x => x) (fun _ => rfl) Try.underlying38 h2 (by kernel_rfl)
  exact opens_slice Try.underlying36 (by kernel_rfl) h3
end Go.Proofs.Ytejfpnmomlnjhaa.Open
namespace Go.Proofs.Ytejfpnmomlnjhaa.RI
open Go.RowKit Go.Proofs Go.Proofs.YtejfpnmomlnjhaaW.PrintWords
theorem plays_walk (z : Int) (A : Option Addr) (c : Nat) (xs : List RI.Op) (st : Int) (w : World) (_hz : (Lit.int .i64 z).wf = true) (hr : (Kd.iso (Kd.pair (Kd.int .i64) (Kd.slice 3 (Kd.int .i64))) (fun x : RI.Op => x)).C w A xs.length xs) (_hc : xs.length ≤ c)
    (_hw : ∀ a ∈ xs, (Lit.int .i64 a.1).wf = true ∧ ∀ b ∈ a.2, (Lit.int .i64 b).wf = true) (_hst : (Lit.int .i64 st).wf = true) :
    Calls Try.prog 4 #[.int .i64 z, .slice A xs.length c, .int .i64 st] w fun e w' => e = .returned (.bool true) ∧ Below w.heap.size w w' := by
  by_cases h : z < 0 ∨ 64 < z ∨ 100 < xs.length
  · exact plays_out w z st A c xs h
  · obtain ⟨m, rfl⟩ := Int.eq_ofNat_of_zero_le (by omega : 0 ≤ z)
    exact plays_in w m (by omega) st A c xs hr (by omega)
end Go.Proofs.Ytejfpnmomlnjhaa.RI
