/- DeltaLeads: what its walk uses: values by their form alone, loads of whole rows, deltas beside two blocks. -/
import Derived.Test.YtfpbohfefliljaaDApp
import Derived.Test.YtfpbohfefliljaaDSame
import Derived.Test.YtfpbohfefliljaaDSize
import Derived.Test.YtfpbohfefliljaaDRef
namespace Go.Proofs.Ytfpbohfefliljaa.MD
open Go Go.RowKit Go.Proofs Go.Proofs.YtfpbohfefliljaaW.PrintWords Go.Proofs.YtfpbohfefliljaaW.PrintLast Go.Proofs.YtfpbohfefliljaaW.PrintMore
set_option linter.unusedVariables false
set_option linter.unusedSimpArgs false
theorem anchor_any (w : World) : Calls Try.prog 7 #[] w fun e w' => e = .returned (.bool true) ∧ Below w.heap.size w w' :=
  whirligiglaw19_anchor.calls true w (by kernel_rfl)
theorem SnapC_form {w : World} {v : Value} {s : S46} (h : SnapC w v s) : ∃ ca : Array Value, v = .agg ca ∧ ca.size = 14 ∧ ca.all (·.oneCell') = true := by
  obtain ⟨cs, rfl, hK⟩ := h
  obtain ⟨A5, c5, A6, c6, A7, c7, A8, c8, A9, c9, A11, c11, A13, c13, rfl, _⟩ := k46_open hK
  exact ⟨_, rfl, rfl, by kernel_rfl⟩
theorem DeltaC_form {w : World} {v : Value} {a b : S46} (h : DeltaC w v a b) : ∃ cd : Array Value, v = .agg cd ∧ cd.size = 35 ∧ cd.all (·.oneCell') = true := by
  obtain ⟨B1, d1, B2, d2, B3, d3, B4, d4, B5, d5, B6, d6, B7, d7, ps, rfl, hps, _⟩ := h
  obtain ⟨F5, g5, F6, g6, F7, g7, F8, g8, F9, g9, F11, g11, F13, g13, rfl, _⟩ := k46_open hps
  simp only [List.append_toArray, List.cons_append, List.nil_append]
  exact ⟨_, rfl, rfl, by kernel_rfl⟩
/-- A whole row is loaded. -/
theorem load_row {P : Program} (w : World) (g : Nat) (t : TypeId) (cs : Array Value) (d : TypeDesc) (hg : w.heap[g]? = some (.cells cs t (0, 0))) (hu : P.underlying t = some d) (hd : (match d with | .struct _ | .array _ _ => true | _ => false) = true) (hi : (P.info? t).map (·.size) = some cs.size) :
    (Instr.loadAt t (.pointer (some ⟨g, 0, none⟩))).run P w = .ok (.agg cs) w := by
  simp only [Instr.loadAt, Instr.sureAddr, Sem.run_bind, Sem.run_pure, Result.andThen]
  exact run_loadVar_row w g t t cs (0, 0) d hg hu hd hi
theorem size46 : (Try.prog.info? 46).map (·.size) = some 14 := by kernel_rfl
theorem size61 : (Try.prog.info? 61).map (·.size) = some 35 := by kernel_rfl
theorem load46 {w : World} {g : Nat} {cs : Array Value} (hg : w.heap[g]? = some (.cells cs 46 (0, 0))) (hs : cs.size = 14) : (Instr.loadAt 46 (.pointer (some ⟨g, 0, none⟩))).run Try.prog w = .ok (.agg cs) w :=
  load_row w g 46 cs _ hg Try.underlying46 rfl (by rw [hs]; exact size46)
theorem load61 {w : World} {g : Nat} {cs : Array Value} (hg : w.heap[g]? = some (.cells cs 61 (0, 0))) (hs : cs.size = 35) : (Instr.loadAt 61 (.pointer (some ⟨g, 0, none⟩))).run Try.prog w = .ok (.agg cs) w :=
  load_row w g 61 cs _ hg Try.underlying61 rfl (by rw [hs]; exact size61)
theorem load_run {P : Program} {o : Oper} {a : Act} {w : World} {t : TypeId} {p : Operand} {v u : Value} (ho : o.op = .load t p) (hp : a.eval p = u) (hrun : (Instr.loadAt t u).run P w = .ok v w) : (execOp a.eval o).run P w = .ok (.value v) w := by
  unfold execOp
  simp only [ho, hp, Sem.run_bind, Sem.run_pure, Result.andThen_ok, hrun]
/-- A load whose answer is known, in a walk that halts there. -/
theorem load_rowG {P : Program} {ops : Array Oper} {rest : List Oper} {o : Oper} {a : Act} {Q : Exit → Act → World → Prop} {w : World} {t : TypeId} {p : Operand} {v u : Value} (N : Tmp) (hw : Region.wanted o (yielded ops a.tmps) = true) (hN : o.dst = some N) (ho : o.op = .load t p) (hp : a.eval p = u)
    (hrun : (Instr.loadAt t u).run P w = .ok v w) (h : wpList P ops Q rest (a.put (some N) v) w) : wpList P ops Q (o :: rest) a w := by
  have he : (execOp a.eval o).run P w = .ok (.value v) w := by
    unfold execOp
    simp only [ho, hp, Sem.run_bind, Sem.run_pure, Result.andThen_ok, hrun]
  refine wpList_step fun K hK => ?_
  rw [if_pos hw]
  unfold Oper.wp
  rw [he]
  show K (a.put o.dst v) w
  rw [hN]
  exact hK _ _ h
theorem field_run {P : Program} {o : Oper} {a : Act} {w : World} {t : TypeId} {j : Nat} {p : Operand} {v u : Value} (ho : o.op = .field t p j) (hp : a.eval p = u) (hrun : (Instr.field t u j).run P w = .ok v w) : (execOp a.eval o).run P w = .ok (.value v) w := by
  unfold execOp
  simp only [ho, hp, Sem.run_bind, Sem.run_pure, Result.andThen_ok, hrun]
theorem fld51 (x y : Int) (A : Option Addr) (n c : Nat) (W : World) : (Instr.field 51 (.agg #[.int .i64 x, .int .i64 y, .slice A n c]) 2).run Try.prog W = .ok (.slice A n c) W := by kernel_rfl
theorem fld53 (x y : Int) (A : Option Addr) (n c : Nat) (W : World) : (Instr.field 53 (.agg #[.int .i64 x, .int .i64 y, .slice A n c]) 2).run Try.prog W = .ok (.slice A n c) W := by kernel_rfl
theorem fld55 (x y : Int) (A : Option Addr) (n c : Nat) (W : World) : (Instr.field 55 (.agg #[.int .i64 x, .int .i64 y, .slice A n c]) 2).run Try.prog W = .ok (.slice A n c) W := by kernel_rfl
theorem fld57 (x y : Int) (A : Option Addr) (n c : Nat) (W : World) : (Instr.field 57 (.agg #[.int .i64 x, .int .i64 y, .slice A n c]) 2).run Try.prog W = .ok (.slice A n c) W := by kernel_rfl
theorem fld27 (x y : Int) (A : Option Addr) (n c : Nat) (W : World) : (Instr.field 27 (.agg #[.int .i64 x, .int .i64 y, .slice A n c]) 2).run Try.prog W = .ok (.slice A n c) W := by kernel_rfl
theorem wr_sm (x : Int) (h0 : 0 ≤ x) (h1 : x ≤ 100000) : wrap64 x = x := by unfold wrap64; omega
theorem dsz_le (a b : S46) (h : tot b ≤ 1000) : (dWith a.f5 b.f5).length + (dWith a.f6 b.f6).length + (dWith a.f7 b.f7).length + (dWith a.f8 b.f8).length + (dWith a.f9 b.f9).length + (dWith a.f10.f1 b.f10.f1).length + (dWith a.f10.f3 b.f10.f3).length ≤ 1000 := by
  have e1 := dWith_le a.f5 b.f5
  have e2 := dWith_le a.f6 b.f6
  have e3 := dWith_le a.f7 b.f7
  have e4 := dWith_le a.f8 b.f8
  have e5 := dWith_le a.f9 b.f9
  have e6 := dWith_le a.f10.f1 b.f10.f1
  have e7 := dWith_le a.f10.f3 b.f10.f3
  unfold tot at h
  omega
/-- An empty delta's cells. -/
def z61d : Array Value := #[.int .i64 0, .int .i64 0, .slice none 0 0, .int .i64 0, .int .i64 0, .slice none 0 0, .int .i64 0, .int .i64 0, .slice none 0 0, .int .i64 0, .int .i64 0, .slice none 0 0, .int .i64 0, .int .i64 0, .slice none 0 0, .int .i64 0, .int .i64 0, .slice none 0 0, .int .i64 0, .int .i64 0, .slice none 0 0, .int .i64 0, .int .i64 0, .int .i64 0, .int .i64 0, .int .u64 0, .slice none 0 0, .slice none 0 0, .slice none 0 0, .slice none 0 0, .slice none 0 0, .string ⟨#[]⟩, .slice none 0 0, .int .u64 0, .slice none 0 0]
def o61 : Obj := .cells z61d 61
theorem alloc61 {oi : Oper} {a : Act} {w : World} (ho : oi.op = .alloc 61) : (execOp a.eval oi).run Try.prog w = .ok (.value (.pointer (some ⟨w.heap.size, 0, none⟩))) (w.alloc o61) := by
  unfold execOp
  simp only [ho]
  kernel_rfl
/-- v reads as the delta from a to b in each world that agrees with w but for two blocks. -/
def DeltaP (p q : Nat) (w : World) (v : Value) (a b : S46) : Prop := ∀ W : World, (∀ k, k ≠ p → k ≠ q → k < w.heap.size → w.heap[k]? = W.heap[k]?) → DeltaC W v a b
theorem DeltaP_of {n p q : Nat} {w X : World} {v : Value} {a b : S46} (h : DeltaN n w v a b) (hb : Below w.heap.size w X) (hp : p < n ∨ w.heap.size ≤ p) (hq : q < n ∨ w.heap.size ≤ q) : DeltaP p q X v a b := by
  intro W hW
  refine h W (fun k hk hlt => ?_)
  rw [← hb.block k hlt]
  exact hW k (by omega) (by omega) (Nat.lt_of_lt_of_le hlt hb.size)
end Go.Proofs.Ytfpbohfefliljaa.MD
