/- How a snapshot opens, and a list of snapshots. -/
import Derived.Test.YtfpbohfefliljaaDSnap
import Derived.Test.YtfpbohfefliljaaOpenW
namespace Go.Proofs.Ytfpbohfefliljaa.OpenW
open Go Go.RowKit Go.Proofs Go.Proofs.YtfpbohfefliljaaW.PrintWords Go.Proofs.Ytfpbohfefliljaa.MD
theorem snap : Opens Try.prog 46 k46 (fun s => tot s ≤ 1152921504606846975) := by
  have i3 := opens_int (P := Try.prog) (t := 3) (k := .i64) Try.underlying3
  have i2 := opens_int (P := Try.prog) (t := 2) (k := .i64) Try.underlying2
  have u38 := opens_int (P := Try.prog) (t := 38) (k := .u64) Try.underlying38
  have st := opens_string (P := Try.prog) (t := 9) Try.underlying9
  have v2 := opens_last (P := Try.prog) (f := ⟨ "S", 9, 2, false, "", "", 16⟩) (off := 2) st rfl (by kernel_rfl)
  have v1 := opens_cons (P := Try.prog) (f := ⟨ "N", 2, 1, false, "", "", 8⟩) (off := 1) i2 rfl (by kernel_rfl) v2
  have v0 := opens_cons (P := Try.prog) (f := ⟨ "Kind", 3, 0, false, "", "", 0⟩) (off := 0) i3 rfl (by kernel_rfl) v1
  have o68 := opens_struct (P := Try.prog) (t := 68) (fun x : S68 => (x.f0, x.f1, x.f2)) (fun y => ⟨y.1, y.2.1, y.2.2⟩) (fun _ => rfl) Try.underlying68 v0 (by kernel_rfl)
  have t2 := opens_last (P := Try.prog) (f := ⟨ "Name", 9, 2, false, "", "", 16⟩) (off := 2) st rfl (by kernel_rfl)
  have t1 := opens_cons (P := Try.prog) (f := ⟨ "Seq", 3, 1, false, "", "", 8⟩) (off := 1) i3 rfl (by kernel_rfl) t2
  have t0 := opens_cons (P := Try.prog) (f := ⟨ "Due", 2, 0, false, "", "", 0⟩) (off := 0) i2 rfl (by kernel_rfl) t1
  have o71 := opens_struct (P := Try.prog) (t := 71) (fun x : S71 => (x.f0, x.f1, x.f2)) (fun y => ⟨y.1, y.2.1, y.2.2⟩) (fun _ => rfl) Try.underlying71 t0 (by kernel_rfl)
  have s39 := opens_slice (P := Try.prog) (t := 39) (e := 38) Try.underlying39 (by kernel_rfl) (of_decide_eq_true (by kernel_rfl)) u38
  have s40 := opens_slice (P := Try.prog) (t := 40) (e := 68) Try.underlying40 (by kernel_rfl) (of_decide_eq_true (by kernel_rfl)) o68
  have s41 := opens_slice (P := Try.prog) (t := 41) (e := 71) Try.underlying41 (by kernel_rfl) (of_decide_eq_true (by kernel_rfl)) o71
  have s42 := opens_slice (P := Try.prog) (t := 42) (e := 3) Try.underlying42 (by kernel_rfl) (of_decide_eq_true (by kernel_rfl)) i3
  have s22 := opens_slice (P := Try.prog) (t := 22) (e := 9) Try.underlying22 (by kernel_rfl) (of_decide_eq_true (by kernel_rfl)) st
  have l3 := opens_last (P := Try.prog) (f := ⟨ "Out", 22, 3, false, "", "", 48⟩) (off := 3) s22 rfl (by kernel_rfl)
  have l2 := opens_cons (P := Try.prog) (f := ⟨ "Entered", 38, 2, false, "", "", 40⟩) (off := 2) u38 rfl (by kernel_rfl) l3
  have l1 := opens_cons (P := Try.prog) (f := ⟨ "Taken", 42, 1, false, "", "", 16⟩) (off := 1) s42 rfl (by kernel_rfl) l2
  have l0 := opens_cons (P := Try.prog) (f := ⟨ "Event", 9, 0, false, "", "", 0⟩) (off := 0) st rfl (by kernel_rfl) l1
  have o44 := opens_struct (P := Try.prog) (t := 44) (fun x : S44 => (x.f0, x.f1, x.f2, x.f3)) (fun y => ⟨y.1, y.2.1, y.2.2.1, y.2.2.2⟩) (fun _ => rfl) Try.underlying44 l0 (by kernel_rfl)
  have s10 := opens_last (P := Try.prog) (f := ⟨ "Last", 44, 10, true, "", "", 160⟩) (off := 10) o44 rfl (by kernel_rfl)
  have s9 := opens_cons (P := Try.prog) (f := ⟨ "Timers", 41, 9, false, "", "", 136⟩) (off := 9) s41 rfl (by kernel_rfl) s10
  have s8 := opens_cons (P := Try.prog) (f := ⟨ "Outer", 22, 8, false, "", "", 112⟩) (off := 8) s22 rfl (by kernel_rfl) s9
  have s7 := opens_cons (P := Try.prog) (f := ⟨ "Inner", 22, 7, false, "", "", 88⟩) (off := 7) s22 rfl (by kernel_rfl) s8
  have s6 := opens_cons (P := Try.prog) (f := ⟨ "Data", 40, 6, false, "", "", 64⟩) (off := 6) s40 rfl (by kernel_rfl) s7
  have s5 := opens_cons (P := Try.prog) (f := ⟨ "Past", 39, 5, false, "", "", 40⟩) (off := 5) s39 rfl (by kernel_rfl) s6
  have s4 := opens_cons (P := Try.prog) (f := ⟨ "In", 38, 4, false, "", "", 32⟩) (off := 4) u38 rfl (by kernel_rfl) s5
  have s3 := opens_cons (P := Try.prog) (f := ⟨ "Seq", 3, 3, false, "", "", 24⟩) (off := 3) i3 rfl (by kernel_rfl) s4
  have s2 := opens_cons (P := Try.prog) (f := ⟨ "Clock", 2, 2, false, "", "", 16⟩) (off := 2) i2 rfl (by kernel_rfl) s3
  have s1 := opens_cons (P := Try.prog) (f := ⟨ "Moves", 3, 1, false, "", "", 8⟩) (off := 1) i3 rfl (by kernel_rfl) s2
  have s0 := opens_cons (P := Try.prog) (f := ⟨ "Status", 3, 0, false, "", "", 0⟩) (off := 0) i3 rfl (by kernel_rfl) s1
  have o46 := opens_struct (P := Try.prog) (t := 46) (fun x : S46 => (x.f0, x.f1, x.f2, x.f3, x.f4, x.f5, x.f6, x.f7, x.f8, x.f9, x.f10)) (fun y => ⟨y.1, y.2.1, y.2.2.1, y.2.2.2.1, y.2.2.2.2.1, y.2.2.2.2.2.1, y.2.2.2.2.2.2.1, y.2.2.2.2.2.2.2.1, y.2.2.2.2.2.2.2.2.1, y.2.2.2.2.2.2.2.2.2.1, y.2.2.2.2.2.2.2.2.2.2⟩) (fun _ => rfl) Try.underlying46 s0 (by kernel_rfl)
  intro H enc W fuel cs x hx hw0
  obtain ⟨a, hK, hwf⟩ := o46 H enc W fuel cs x hx hw0
  refine ⟨a, hK, ?_⟩
  obtain ⟨_, _, _, _, _, w5, w6, w7, w8, w9, _, w11, _, w13⟩ := hwf
  have b5 := w5.1; have b6 := w6.1; have b7 := w7.1; have b8 := w8.1; have b9 := w9.1; have b11 := w11.1; have b13 := w13.1
  simp only [] at b5 b6 b7 b8 b9 b11 b13
  unfold tot
  have hr : reachBytes = 140737488351232 := by decide
  rw [hr] at b5 b6 b7 b8 b9 b11 b13
  omega
theorem snaps : Opens Try.prog 36 (Kd.slice 46 k46) (fun l => l.length ≤ reachBytes ∧ ∀ s ∈ l, tot s ≤ 1152921504606846975) := opens_slice Try.underlying36 (by kernel_rfl) (of_decide_eq_true (by kernel_rfl)) snap
end Go.Proofs.Ytfpbohfefliljaa.OpenW
