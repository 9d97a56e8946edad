/- Rows of marks: their cells, stores into them, clearing; what stays of the elder memory. -/
import Derived.Test.YthadibmgahlpfaaKInsert
import Derived.Lib.SliceRun
import Derived.Deep.RegionLaw
namespace Go.Proofs.Ythadibmgahlpfaa.MD
open Go Go.RowKit Go.Proofs Go.Proofs.YthadibmgahlpfaaW.PrintWords Go.Proofs.YthadibmgahlpfaaW.PrintLast Go.Proofs.YthadibmgahlpfaaW.PrintMore
set_option linter.unusedVariables false
set_option linter.unusedSimpArgs false
theorem grown_setCell {w W : World} {g : Nat} (h : w.grownBy W (some g)) (o : Nat) (v : Value) : w.grownBy (W.setCell ⟨g, o, none⟩ v) (some g) :=
  ⟨h.os, h.tape, h.output, by rw [World.size_setCell]; exact h.size, fun k hk hne => (Below.heap_setCell W ⟨g, o, none⟩ v k (fun e => hne (by rw [e]))).trans (h.block k hk hne)⟩
theorem grown_setCells {w : World} {g : Nat} : ∀ (vs : List Value) (o : Nat) (W : World), w.grownBy W (some g) → w.grownBy (W.setCells g o vs) (some g)
  | [], _, _, h => h
  | v :: r, o, W, h => grown_setCells r (o + 1) _ (grown_setCell h o v)
theorem grown_drew {w W : World} {r : Option Nat} (h : w.grownBy W r) : w.grownBy W.drew r := ⟨h.os, h.tape, h.output, h.size, h.block⟩
theorem grown_row {w W : World} {g : Nat} (h : w.grownBy W (some g)) (cs : Array Value) : w.grownBy (W.setRow g cs) (some g) := by
  refine ⟨h.os, h.tape, h.output, by have := h.size; simpa [World.setRow] using this, fun k hk hne => ?_⟩
  rw [← h.block k hk hne]
  simp only [World.setRow, Array.getElem?_modify]
  rw [if_neg (fun e => hne (by rw [e]))]
theorem grown_refl (w : World) (r : Option Nat) : w.grownBy w r := ⟨rfl, rfl, rfl, Nat.le_refl _, fun _ _ _ => rfl⟩
theorem grown_then {w W X : World} {r : Option Nat} (h : w.grownBy W r) (hb : Below W.heap.size W X) : w.grownBy X r := h.trans (grown_of_below hb r)
theorem below_of_grown {w W : World} {base g : Nat} (h : w.grownBy W (some g)) (hb : base ≤ g) (hs : base ≤ w.heap.size) : Below base w W := ⟨h.os, h.tape, h.output, h.size, fun k hk => h.block k (Nat.lt_of_lt_of_le hk hs) (fun e => by injection e with e; omega)⟩
theorem cellsE_get : ∀ (L : List E) (j k : Nat), j < L.length → k < 15 → (cellsE L)[j * 15 + k]? = (encE (L.getD j zE))[k]?
  | [], _, _, h, _ => absurd h (Nat.not_lt_zero _)
  | y :: r, 0, k, _, hk => by
    rw [cellsE, Nat.zero_mul, Nat.zero_add, List.getElem?_append_left (show k < 15 from hk)]
    rfl
  | y :: r, j + 1, k, h, hk => by
    rw [cellsE, show (j + 1) * 15 + k = (encE y).length + (j * 15 + k) by show _ = 15 + _; omega, List.getElem?_append_right (Nat.le_add_right _ _), Nat.add_sub_cancel_left, cellsE_get r j k (by simpa using h) hk]
    rfl
theorem row_cells {w : World} {g : Nat} {cur : Array Value} {L : List E} (hg : w.heap[g]? = some (.cells cur 64 (0, 0))) (htake : cur.toList.take (L.length * 15) = cellsE L) (j : Nat) (hj : j < L.length) :
    w.cell? ⟨g, j * 15, none⟩ = some (.int .i64 (L.getD j zE).f0) ∧ w.cell? ⟨g, j * 15 + 1, none⟩ = some (.int .i64 (L.getD j zE).s.f0) ∧ w.cell? ⟨g, j * 15 + 2, none⟩ = some (.int .i64 (L.getD j zE).s.f1) ∧ w.cell? ⟨g, j * 15 + 3, none⟩ = some (.int .i64 (L.getD j zE).s.f2) ∧ w.cell? ⟨g, j * 15 + 4, none⟩ = some (.int .i64 (L.getD j zE).s.f3) ∧ w.cell? ⟨g, j * 15 + 5, none⟩ = some (.int .u64 (L.getD j zE).s.f4) ∧ w.cell? ⟨g, j * 15 + 6, none⟩ = some (.slice (L.getD j zE).A5 (L.getD j zE).s.f5.length (L.getD j zE).c5) ∧ w.cell? ⟨g, j * 15 + 7, none⟩ = some (.slice (L.getD j zE).A6 (L.getD j zE).s.f6.length (L.getD j zE).c6) ∧ w.cell? ⟨g, j * 15 + 8, none⟩ = some (.slice (L.getD j zE).A7 (L.getD j zE).s.f7.length (L.getD j zE).c7) ∧ w.cell? ⟨g, j * 15 + 9, none⟩ = some (.slice (L.getD j zE).A8 (L.getD j zE).s.f8.length (L.getD j zE).c8) ∧ w.cell? ⟨g, j * 15 + 10, none⟩ = some (.slice (L.getD j zE).A9 (L.getD j zE).s.f9.length (L.getD j zE).c9) ∧ w.cell? ⟨g, j * 15 + 11, none⟩ = some (.string (L.getD j zE).s.f10.f0) ∧ w.cell? ⟨g, j * 15 + 12, none⟩ = some (.slice (L.getD j zE).A11 (L.getD j zE).s.f10.f1.length (L.getD j zE).c11) ∧ w.cell? ⟨g, j * 15 + 13, none⟩ = some (.int .u64 (L.getD j zE).s.f10.f2) ∧ w.cell? ⟨g, j * 15 + 14, none⟩ = some (.slice (L.getD j zE).A13 (L.getD j zE).s.f10.f3.length (L.getD j zE).c13) := by
  have h : ∀ k, k < 15 → w.cell? ⟨g, j * 15 + k, none⟩ = (encE (L.getD j zE))[k]? := fun k hk => by
    rw [cell_of_row w g _ cur 64 (0, 0) hg, ← Array.getElem?_toList, ← cellsE_get L j k hj hk, ← htake, List.getElem?_take_of_lt (by omega)]
  exact ⟨h 0 (by omega), h 1 (by omega), h 2 (by omega), h 3 (by omega), h 4 (by omega), h 5 (by omega), h 6 (by omega), h 7 (by omega), h 8 (by omega), h 9 (by omega), h 10 (by omega), h 11 (by omega), h 12 (by omega), h 13 (by omega), h 14 (by omega)⟩
/-- A store of a whole mark into a row of the call's own. -/
theorem set_row (g : Nat) (cap : Nat) (cur : Array Value) (L : List E) (w : World) (hg : w.heap[g]? = some (.cells cur 64 (0, 0))) (hcs : cur.size = cap * 15) (hnc : L.length ≤ cap) (htake : cur.toList.take (L.length * 15) = cellsE L)
    (i : Nat) (hi : i < L.length) (y : E) : ∃ cur', (((((((((((((((w.setCell ⟨g, i * 15, none⟩ (.int .i64 y.f0)).setCell ⟨g, i * 15 + 1, none⟩ (.int .i64 y.s.f0)).setCell ⟨g, i * 15 + 2, none⟩ (.int .i64 y.s.f1)).setCell ⟨g, i * 15 + 3, none⟩ (.int .i64 y.s.f2)).setCell ⟨g, i * 15 + 4, none⟩ (.int .i64 y.s.f3)).setCell ⟨g, i * 15 + 5, none⟩ (.int .u64 y.s.f4)).setCell ⟨g, i * 15 + 6, none⟩ (.slice y.A5 y.s.f5.length y.c5)).setCell ⟨g, i * 15 + 7, none⟩ (.slice y.A6 y.s.f6.length y.c6)).setCell ⟨g, i * 15 + 8, none⟩ (.slice y.A7 y.s.f7.length y.c7)).setCell ⟨g, i * 15 + 9, none⟩ (.slice y.A8 y.s.f8.length y.c8)).setCell ⟨g, i * 15 + 10, none⟩ (.slice y.A9 y.s.f9.length y.c9)).setCell ⟨g, i * 15 + 11, none⟩ (.string y.s.f10.f0)).setCell ⟨g, i * 15 + 12, none⟩ (.slice y.A11 y.s.f10.f1.length y.c11)).setCell ⟨g, i * 15 + 13, none⟩ (.int .u64 y.s.f10.f2)).setCell ⟨g, i * 15 + 14, none⟩ (.slice y.A13 y.s.f10.f3.length y.c13)).heap[g]? = some (.cells cur' 64 (0, 0)) ∧ cur'.size = cap * 15 ∧
      cur'.toList.take ((L.set i y).length * 15) = cellsE (L.set i y) := by
  obtain ⟨cur', h3, h4, h5⟩ := setCells_row (encE y) (i * 15) w cur hg (by rw [hcs]; show i * 15 + 15 ≤ _; omega)
  refine ⟨cur', h3, by rw [h4, hcs], ?_⟩
  have hel : (encE y).length = 15 := rfl
  have hs : L.set i y = L.take i ++ y :: L.drop (i + 1) := List.set_eq_take_append_cons_drop.trans (if_pos hi)
  have hAl : (cellsE (L.take i)).length = i * 15 := by rw [cellsE_length, List.length_take, Nat.min_eq_left (by omega)]
  have hA : cur.toList.take (i * 15) = cellsE (L.take i) := by
    have h2 : cur.toList.take (i * 15) = (cur.toList.take (L.length * 15)).take (i * 15) := by rw [List.take_take, Nat.min_eq_left (by omega)]
    rw [h2, htake]
    conv => lhs; rw [← List.take_append_drop i L, cellsE_append]
    rw [← hAl, List.take_left]
  have hD : (cur.toList.drop (i * 15 + 15)).take ((L.length - (i + 1)) * 15) = cellsE (L.drop (i + 1)) := by
    have h2 : (cur.toList.drop (i * 15 + 15)).take ((L.length - (i + 1)) * 15) = (cur.toList.take (L.length * 15)).drop (i * 15 + 15) := by
      rw [List.drop_take, show L.length * 15 - (i * 15 + 15) = (L.length - (i + 1)) * 15 by omega]
    rw [h2, htake]
    have h6 : (cellsE (L.take (i + 1))).length = i * 15 + 15 := by rw [cellsE_length, List.length_take, Nat.min_eq_left (by omega)]; omega
    conv => lhs; rw [← List.take_append_drop (i + 1) L, cellsE_append]
    rw [← h6, List.drop_left]
  rw [List.length_set, h5, hel, hA, hs, cellsE_append, cellsE, ← hD, List.append_assoc]
  have e1 : L.length * 15 = (cellsE (L.take i)).length + ((encE y).length + (L.length - (i + 1)) * 15) := by rw [hAl, hel]; omega
  rw [e1, List.take_length_add_append, List.take_length_add_append]
theorem zeros_cells (n : Nat) : (Builtin.zeroCells (Value.agg #[.int .i64 0, .int .i64 0, .int .i64 0, .int .i64 0, .int .i64 0, .int .u64 0, .slice none 0 0, .slice none 0 0, .slice none 0 0, .slice none 0 0, .slice none 0 0, .string ByteArray.empty, .slice none 0 0, .int .u64 0, .slice none 0 0]).cells n).toList = cellsE (List.replicate n zE) :=
  reps_cells (R := fun x c => c = encE x) (fun _ _ h => h) _ _ (Kd.reps_zeros (z := (Value.agg #[.int .i64 0, .int .i64 0, .int .i64 0, .int .i64 0, .int .i64 0, .int .u64 0, .slice none 0 0, .slice none 0 0, .slice none 0 0, .slice none 0 0, .slice none 0 0, .string ByteArray.empty, .slice none 0 0, .int .u64 0, .slice none 0 0])) (size := 15) (z0 := zE) rfl (by decide) rfl n)
theorem zeroM : ∀ w, (zeroValue 64).run Try.prog w = .ok (Value.agg #[.int .i64 0, .int .i64 0, .int .i64 0, .int .i64 0, .int .i64 0, .int .u64 0, .slice none 0 0, .slice none 0 0, .slice none 0 0, .slice none 0 0, .slice none 0 0, .string ByteArray.empty, .slice none 0 0, .int .u64 0, .slice none 0 0]) w := fun w => by
  obtain ⟨i, hi, h⟩ := Option.map_eq_some_iff.1 infoM
  simp only [Prod.mk.injEq] at h
  simp [zeroValue, typeInfo, hi, h.1]
theorem run_clear_rows (w : World) (g o n c : Nat) (ty : TypeId) (cur : Array Value) (hg : w.heap[g]? = some (.cells cur 64 (0, 0))) (hn : 0 < n) (hfit : o + n * 15 ≤ cur.size) :
    (Builtin.clear_ #[57] ty #[.slice (some ⟨g, o, none⟩) n c]).run Try.prog w = .ok (.tuple #[]) (w.setRow g (cur.toList.take o ++ cellsE (List.replicate n zE) ++ cur.toList.drop (o + n * 15)).toArray) := by
  have hl : (cellsE (List.replicate n zE)).length = n * 15 := by rw [cellsE_length, List.length_replicate]
  have hst := run_storeCells_at Try.prog g o 64 (cellsE (List.replicate n zE)) 0 cur w hg (by rw [hl]; simpa using hfit) (cellsE_one _)
  have hz := zeros_cells n
  have hv := zeroM w
  rw [hl] at hst
  simp only [Nat.add_zero] at hst
  obtain ⟨m, rfl⟩ : ∃ m, n = m + 1 := ⟨n - 1, by omega⟩
  unfold Builtin.clear_
  simp [run_underlying Try.underlying57, hv, hz, hst]
theorem filt_set (p : E → Bool) (l L : List E) (i j : Nat) (hj : j < l.length) (hij : i ≤ j) (hlen : L.length = l.length) (h1 : L.take i = (l.take j).filter p) (h2 : L.drop j = l.drop j) (hp : p (l.getD j zE) = true) :
    (L.set i (l.getD j zE)).take (i + 1) = (l.take (j + 1)).filter p ∧ (L.set i (l.getD j zE)).drop (j + 1) = l.drop (j + 1) := by
  have hg : l.getD j zE = l[j] := by rw [List.getD_eq_getElem?_getD, List.getElem?_eq_getElem hj]; rfl
  constructor
  · have hil : (L.take i).length = i := by rw [List.length_take]; omega
    rw [List.set_eq_take_append_cons_drop, if_pos (by omega), List.take_append, List.take_of_length_le (by omega), hil, Nat.add_sub_cancel_left, List.take_succ_cons, List.take_zero, h1, List.take_succ_eq_append_getElem hj, List.filter_append, ← hg]
    congr 1
    rw [List.filter_cons, if_pos hp]
    rfl
  · rw [List.drop_set, if_pos (by omega), ← List.drop_drop, ← List.drop_drop, h2]
end Go.Proofs.Ythadibmgahlpfaa.MD
