/- Go's slices.Clone at one element type, walked: it makes a row of its own that holds what it should. -/
import Derived.Test.YthadibmgahlpfaaProg
import Derived.Test.YthadibmgahlpfaaWWords
import Derived.Test.YthadibmgahlpfaaWZeros
import Derived.Test.YthadibmgahlpfaaWMore
import Derived.WalkKit
import Derived.WalkSpells
import Derived.Outline
import Derived.KernelRfl
import Derived.Lib.Hide
import Derived.Deep.LoopGhost
import Derived.RowKit3
import Derived.Laws.Rows
import Derived.Deep.OwnRows
import Derived.Deep.AppendLies
namespace Go.Proofs.Ythadibmgahlpfaa.SlI
open Go.RowKit Go.Proofs Go.Proofs.YthadibmgahlpfaaW.PrintWords Go.Proofs.YthadibmgahlpfaaW.PrintLast Go.Proofs.YthadibmgahlpfaaW.PrintMore
set_option linter.unusedVariables false
set_option linter.unusedSimpArgs false

theorem infoE : (Try.prog.info? 3).map (fun i => (i.zero, i.size, i.bytes)) = some (some (.int .i64 0), (Kd.int .i64).sz, 8) := by kernel_rfl
/-- An empty row that isn't nil. -/
theorem R_empty (W : World) (base : Nat) (hb : base ≤ W.heap.size) : Kd.R (Kd.int .i64) 3 (W.alloc (.cells #[] 3)) base (fun _ => True) (.slice (some ⟨W.heap.size, 0, none⟩) 0 0) [] :=
  ⟨fun _ _ => trivial, OwnRow.lit W base (Reps.none _ _) hb (by simp)⟩

set_option maxHeartbeats 4000000 in
set_option maxRecDepth 100000 in
theorem clone_any (A0 : Option Addr) (c0 : Nat) (l0 : List (Int)) (w : World) (hr0 : Kd.C (Kd.int .i64) w A0 l0.length l0) (hc0 : l0.length ≤ c0) (hb : l0.length * 8 ≤ 140737488355328) :
    Calls Try.prog 33 #[.slice A0 l0.length c0] w fun e w' => ∃ v0_ : Value, e = .returned v0_ ∧ Kd.R (Kd.int .i64) 3 w' w.heap.size (fun _ => True) v0_ l0 ∧ Below w.heap.size w w' := by
  have hq := fun (w : World) (a : Option Addr) (n c : Nat) => Lib.run_eql_slice_nil (P := Try.prog) w 34 3 a n c 0 0 Try.underlying34
  rcases A0 with _ | ad
  · have h0 : l0 = [] := by
      cases l0 with
      | nil => rfl
      | cons a l => obtain ⟨ad, e, _⟩ := hr0.2.2 (by simp); cases e
    subst h0
    clear hr0
    go_enter Try.func33, Try.ntmps33
    go_wp2
    go_ret
    exact ⟨_, rfl, Kd.R_nil _ _ _ _ _, Below.refl _ _⟩
  · have HR := Aside0.mk hr0
    have HBD := Aside0.mk hb
    have HB := Aside0.mk (Below.refl w.heap.size w)
    clear hr0 hb
    go_enter Try.func33, Try.ntmps33
    go_wp2_with (at_builtin; refine Kd.R_append_rows (Kd.int .i64) (w0 := w) w.heap.size rfl (.tmp 5) (.tmp 6) 34 3 (.int .i64 0) 8 rfl Try.underlying34 infoE rfl (by decide) (by omega) (.slice (some ⟨w.heap.size, 0, none⟩) 0 0) [] l0 _ _ _ (fun _ => True) (fun _ => False) rfl rfl (R_empty w _ (Nat.le_refl _)) (Kd.C_alloc HR.out _) (fun _ _ h => h) (fun _ h => h.elim) (fun _ _ => trivial) (below_alloc HB.out _) (by simp) (by have := HBD.out; simp only [List.length_nil, Nat.zero_add]; omega) ?_; intro v1 w1 ho hbl hg hat; have HO := Aside0.mk ho; have HBL := Aside0.mk hbl; clear ho hbl hg hat)
    go_ret
    exact ⟨_, rfl, HO.out, HBL.out⟩

end Go.Proofs.Ythadibmgahlpfaa.SlI
