/- The keeper's row is turned: what holds behind it. -/
import Derived.Test.YthadibmgahlpfaaKNear
namespace Go.Proofs.Ythadibmgahlpfaa.MD
open Go Go.RowKit Go.Proofs Go.Proofs.YthadibmgahlpfaaW.PrintWords Go.Proofs.YthadibmgahlpfaaW.PrintLast Go.Proofs.YthadibmgahlpfaaW.PrintMore
set_option linter.unusedVariables false
set_option linter.unusedSimpArgs false

theorem SnapC.tail {w : World} {x : E} (h : SnapC w (.agg #[.int .i64 x.s.f0, .int .i64 x.s.f1, .int .i64 x.s.f2, .int .i64 x.s.f3, .int .u64 x.s.f4, .slice x.A5 x.s.f5.length x.c5, .slice x.A6 x.s.f6.length x.c6, .slice x.A7 x.s.f7.length x.c7, .slice x.A8 x.s.f8.length x.c8, .slice x.A9 x.s.f9.length x.c9, .string x.s.f10.f0, .slice x.A11 x.s.f10.f1.length x.c11, .int .u64 x.s.f10.f2, .slice x.A13 x.s.f10.f3.length x.c13]) x.s) : SnapE w x := by
  obtain ⟨cs, e, hK⟩ := h
  injection e with e
  have e2 : cs = tailE x := (congrArg Array.toList e).symm
  rw [e2] at hK
  exact hK
theorem After.own {w w' : World} {v v' : Value} (h : After w w' v v') {k : Nat} (hk : k < w.heap.size) (hv : some k ≠ v.ownBlock) : some k ≠ v'.ownBlock := fun e => by
  rcases h.2 with g1 | ⟨b, g1, g2⟩
  · exact hv (e.trans g1)
  · rw [g1] at e
    injection e with e
    omega
theorem keep_turn {base : Nat} {ot : Nat → Prop} {w w' : World} {B : Nat} {ev mo : Int} {l l' : List E} {v v' : Value} (hbase : base ≤ w.heap.size) (h1 : w.heap[B]? = some (.cells #[.int .i64 ev, .int .i64 mo, v] 59 (0, 0))) (h2 : base ≤ B) (h3 : Kd.R kE 64 w base (fun _ => True) v l) (h4 : v.ownBlock ≠ some B)
    (h5 : ∀ k, v.ownBlock = some k → ¬ ot k) (h6 : ∀ k, ot k → k < w.heap.size ∧ k ≠ B) (h7 : ∀ x ∈ l, Own base B ot v.ownBlock w x) (hR : Kd.R kE 64 w' base (fun _ => True) v' l') (hA : After w w' v v')
    (hnew : ∀ x ∈ l', x ∈ l ∨ Own base B ot v.ownBlock w x) :
    Keep base ot (w'.setCell ⟨B, 2, none⟩ v') B ev mo l' ∧ Beside w (w'.setCell ⟨B, 2, none⟩ v') ∧ Below base w (w'.setCell ⟨B, 2, none⟩ v') ∧ w'.heap[B]? = some (.cells #[.int .i64 ev, .int .i64 mo, v] 59 (0, 0)) := by
  have h1' : w'.heap[B]? = some (.cells #[.int .i64 ev, .int .i64 mo, v] 59 (0, 0)) := (hA.1.block B (blk_lt h1) (fun e => h4 e.symm)).trans h1
  have hvB : v'.ownBlock ≠ some B := fun e => hA.own (blk_lt h1) (fun e2 => h4 e2.symm) e.symm
  have hR2 : Kd.R kE 64 (w'.setCell ⟨B, 2, none⟩ v') base (fun _ => True) v' l' := R_move hR (fun k hk => Below.heap_setCell w' ⟨B, 2, none⟩ v' k (fun e => hvB (by rw [hk, e])))
  refine ⟨⟨⟨v', blk_put (cs' := #[.int .i64 ev, .int .i64 mo, v']) h1' 2 v' rfl, h2, hR2, hvB, fun k hk ho => ?_, fun k hk => ⟨by rw [World.size_setCell]; exact Nat.lt_of_lt_of_le (h6 k hk).1 hA.1.size, (h6 k hk).2⟩, fun x hx W hW => ?_⟩⟩, (Beside.grown h3 hA.1).trans (Beside.cell59 h1' 2 v'), ((Below.refl base w).grown hA.1 hbase (fun k hk => Kd.R_base h3 k hk)).setCell (p := ⟨B, 2, none⟩) h2 v', h1'⟩
  · exact hA.own (h6 k ho).1 (fun e => h5 k e.symm ho) hk.symm
  · have hO : Own base B ot v.ownBlock w x := by
      rcases hnew x hx with g | g
      · exact h7 x g
      · exact g
    refine hO W (fun k k1 k2 k3 k4 k5 => ?_)
    refine (hW k k1 k2 (hA.own k5 k3) k4 (by rw [World.size_setCell]; exact Nat.lt_of_lt_of_le k5 hA.1.size)).trans ?_
    exact (Below.heap_setCell w' ⟨B, 2, none⟩ v' k k2).trans (hA.1.block k k5 k3)
end Go.Proofs.Ythadibmgahlpfaa.MD
