/- delta.Delta.Apply walked: a delta from one snapshot to another one, put on the first, makes the other. -/
import Derived.Test.YtfpbohfefliljaaDBet
import Derived.Test.YtfpbohfefliljaaPu
import Derived.Laws.ResultCell
namespace Go.Proofs.Ytfpbohfefliljaa.MD
open Go Go.RowKit Go.Proofs Go.Proofs.YtfpbohfefliljaaW.PrintWords Go.Proofs.YtfpbohfefliljaaW.PrintLast Go.Proofs.YtfpbohfefliljaaW.PrintMore
set_option linter.unusedVariables false
set_option linter.unusedSimpArgs false
/-- v reads as s in each world that agrees with w from block n on. -/
def SnapN (n : Nat) (w : World) (v : Value) (s : S46) : Prop := ∀ W : World, (∀ k, n ≤ k → k < w.heap.size → w.heap[k]? = W.heap[k]?) → SnapC W v s
/-- The walk halts at it. -/
structure Hold (p : Prop) : Prop where
  out : p
theorem setRow_size (w : World) (g : Nat) (cs : Array Value) : (w.setRow g cs).heap.size = w.heap.size := by simp [World.setRow]
theorem setRow_far {c' : Array Value} (w : World) {i g : Nat} (h : i ≠ g) : (w.setRow g c').heap[i]? = w.heap[i]? := by
  simp only [World.setRow, Array.getElem?_modify]
  rw [if_neg (fun e => h e.symm)]
theorem R_pass {α : Type} {d : Kd α} {e : Nat} {W : World} {base g : Nat} {v : Value} {xs : List α} (h : d.R e W base (fun _ => True) v xs) (hg : g < base) (j : Nat) (u : Value) : d.R e (W.setCell ⟨g, j, none⟩ u) base (fun _ => True) v xs :=
  Kd.R_mono (Kd.R_far (p := ⟨g, j, none⟩) (Kd.R_mono (Kd.R_bound h) (fun k hk => hk.2.1)) (fun k hk => by have h1 : base ≤ k := hk; show k ≠ g; omega) u) (fun _ _ => trivial)
theorem store_rowL {P : Program} {ops : Array Oper} {rest : List Oper} {o : Oper} {a : Act} {Q : Exit → Act → World → Prop} {w : World} {t : TypeId} {p x : Operand} {g : Nat} {c c' : Array Value}
    (ho : o.op = .store t p x) (hgd : o.guard = none) (hN : o.dst = none) (hp : a.eval p = .pointer (some ⟨g, 0, none⟩)) (hx : a.eval x = .agg c') (hg : w.heap[g]? = some (.cells c t (0, 0)))
    (hi : (P.info? t).map (·.size) = some c'.size) (hs : c.size = c'.size) (h1 : c'.all (·.oneCell') = true) (h : wpList P ops Q rest a (w.setRow g c')) : wpList P ops Q (o :: rest) a w := by
  have hrun := store_row (P := P) (oi := o) (a := a) ho hp hx hg hi hs h1
  refine wpList_plain hgd fun K hK => ?_
  unfold Oper.wp
  rw [hrun]
  show K (a.put o.dst undef) _
  rw [hN]
  exact hK _ _ h
theorem results_row_tmp {P : Program} {fn : Func} {p u : Tmp} {ty : TypeId} (h : fn.results = #[.cell p ty, .tmp u]) (tmps : Array Value) (w : World) (g : Nat) (t : TypeId) (cs : Array Value) (fr : Nat × Nat) (d : TypeDesc)
    (hp : tmps.getD p undef = .pointer (some ⟨g, 0, none⟩)) (hg : w.heap[g]? = some (.cells cs t fr))
    (hu : P.underlying ty = some d) (hd : (match d with | .struct _ | .array _ _ => true | _ => false) = true) (hi : (P.info? ty).map (·.size) = some cs.size) :
    (results fn tmps).run P w = .ok (.tuple #[.agg cs, tmps.getD u undef]) w := by
  rw [results_cell_tmp h, hp]
  simp [asAddr, run_loadVar_row w g t ty cs fr d hg hu hd hi, Result.andThen]
set_option maxHeartbeats 32000000 in
set_option maxRecDepth 100000 in
theorem apply_any (w : World) (vd va : Value) (a b : S46) (hd : DeltaC w vd a b) (ha : SnapC w va a) (hsa : tot a ≤ 1000) (hsb : tot b ≤ 1000) : Calls Try.prog 18 #[vd, va] w fun e w' => ∃ v', e = .returned (.tuple #[v', .bool true]) ∧ SnapN w.heap.size w' v' b ∧ Below w.heap.size w w' := by
  obtain ⟨B1, d1, B2, d2, B3, d3, B4, d4, B5, d5, B6, d6, B7, d7, ps, rfl, hps, p1, p2, p3, p4, p5, p6, p7⟩ := hd
  have HPL := Aside0.mk hps
  obtain ⟨F5, g5, F6, g6, F7, g7, F8, g8, F9, g9, F11, g11, F13, g13, rfl, _⟩ := k46_open hps
  obtain ⟨cs, rfl, hKa⟩ := ha
  obtain ⟨A5, c5, A6, c6, A7, c7, A8, c8, A9, c9, A11, c11, A13, c13, rfl, l5, s5, l6, s6, l7, s7, l8, s8, l9, s9, l11, s11, l13, s13⟩ := k46_open hKa
  have HA5 := Aside0.mk (And.intro l5 s5)
  have HA6 := Aside0.mk (And.intro l6 s6)
  have HA7 := Aside0.mk (And.intro l7 s7)
  have HA8 := Aside0.mk (And.intro l8 s8)
  have HA9 := Aside0.mk (And.intro l9 s9)
  have HA11 := Aside0.mk (And.intro l11 s11)
  have HA13 := Aside0.mk (And.intro l13 s13)
  have HP1 := Aside0.mk p1
  have HP2 := Aside0.mk p2
  have HP3 := Aside0.mk p3
  have HP4 := Aside0.mk p4
  have HP5 := Aside0.mk p5
  have HP6 := Aside0.mk p6
  have HP7 := Aside0.mk p7
  have HSA := Aside0.mk hsa
  have HSB := Aside0.mk hsb
  clear l5 s5 l6 s6 l7 s7 l8 s8 l9 s9 l11 s11 l13 s13 p1 p2 p3 p4 p5 p6 p7 hsa hsb hps hKa
  simp only [List.append_toArray, List.cons_append, List.nil_append]
  have HW0 := Aside0.mk ((((Below.refl w.heap.size w).alloc (Nat.le_refl _) (.cells #[.int .i64 (dAt a.f5 b.f5), .int .i64 (dLess a.f5 b.f5), .slice B1 (dWith a.f5 b.f5).length d1, .int .i64 (dAt a.f6 b.f6), .int .i64 (dLess a.f6 b.f6), .slice B2 (dWith a.f6 b.f6).length d2, .int .i64 (dAt a.f7 b.f7), .int .i64 (dLess a.f7 b.f7), .slice B3 (dWith a.f7 b.f7).length d3, .int .i64 (dAt a.f8 b.f8), .int .i64 (dLess a.f8 b.f8), .slice B4 (dWith a.f8 b.f8).length d4, .int .i64 (dAt a.f9 b.f9), .int .i64 (dLess a.f9 b.f9), .slice B5 (dWith a.f9 b.f9).length d5, .int .i64 (dAt a.f10.f1 b.f10.f1), .int .i64 (dLess a.f10.f1 b.f10.f1), .slice B6 (dWith a.f10.f1 b.f10.f1).length d6, .int .i64 (dAt a.f10.f3 b.f10.f3), .int .i64 (dLess a.f10.f3 b.f10.f3), .slice B7 (dWith a.f10.f3 b.f10.f3).length d7, .int .i64 (plainS b).f0, .int .i64 (plainS b).f1, .int .i64 (plainS b).f2, .int .i64 (plainS b).f3, .int .u64 (plainS b).f4, .slice F5 (plainS b).f5.length g5, .slice F6 (plainS b).f6.length g6, .slice F7 (plainS b).f7.length g7, .slice F8 (plainS b).f8.length g8, .slice F9 (plainS b).f9.length g9, .string (plainS b).f10.f0, .slice F11 (plainS b).f10.f1.length g11, .int .u64 (plainS b).f10.f2, .slice F13 (plainS b).f10.f3.length g13] 61)).alloc (by simp) (.cells #[.int .i64 a.f0, .int .i64 a.f1, .int .i64 a.f2, .int .i64 a.f3, .int .u64 a.f4, .slice A5 a.f5.length c5, .slice A6 a.f6.length c6, .slice A7 a.f7.length c7, .slice A8 a.f8.length c8, .slice A9 a.f9.length c9, .string a.f10.f0, .slice A11 a.f10.f1.length c11, .int .u64 a.f10.f2, .slice A13 a.f10.f3.length c13] 46)).alloc (by simp; omega) (.cells #[.int .i64 0, .int .i64 0, .int .i64 0, .int .i64 0, .int .u64 0, .slice none 0 0, .slice none 0 0, .slice none 0 0, .slice none 0 0, .slice none 0 0, .string ⟨#[]⟩, .slice none 0 0, .int .u64 0, .slice none 0 0] 46))
  have BD := Aside0.mk (blk_alloc (blk_alloc (blk_new w (.cells #[.int .i64 (dAt a.f5 b.f5), .int .i64 (dLess a.f5 b.f5), .slice B1 (dWith a.f5 b.f5).length d1, .int .i64 (dAt a.f6 b.f6), .int .i64 (dLess a.f6 b.f6), .slice B2 (dWith a.f6 b.f6).length d2, .int .i64 (dAt a.f7 b.f7), .int .i64 (dLess a.f7 b.f7), .slice B3 (dWith a.f7 b.f7).length d3, .int .i64 (dAt a.f8 b.f8), .int .i64 (dLess a.f8 b.f8), .slice B4 (dWith a.f8 b.f8).length d4, .int .i64 (dAt a.f9 b.f9), .int .i64 (dLess a.f9 b.f9), .slice B5 (dWith a.f9 b.f9).length d5, .int .i64 (dAt a.f10.f1 b.f10.f1), .int .i64 (dLess a.f10.f1 b.f10.f1), .slice B6 (dWith a.f10.f1 b.f10.f1).length d6, .int .i64 (dAt a.f10.f3 b.f10.f3), .int .i64 (dLess a.f10.f3 b.f10.f3), .slice B7 (dWith a.f10.f3 b.f10.f3).length d7, .int .i64 (plainS b).f0, .int .i64 (plainS b).f1, .int .i64 (plainS b).f2, .int .i64 (plainS b).f3, .int .u64 (plainS b).f4, .slice F5 (plainS b).f5.length g5, .slice F6 (plainS b).f6.length g6, .slice F7 (plainS b).f7.length g7, .slice F8 (plainS b).f8.length g8, .slice F9 (plainS b).f9.length g9, .string (plainS b).f10.f0, .slice F11 (plainS b).f10.f1.length g11, .int .u64 (plainS b).f10.f2, .slice F13 (plainS b).f10.f3.length g13] 61)) (.cells #[.int .i64 a.f0, .int .i64 a.f1, .int .i64 a.f2, .int .i64 a.f3, .int .u64 a.f4, .slice A5 a.f5.length c5, .slice A6 a.f6.length c6, .slice A7 a.f7.length c7, .slice A8 a.f8.length c8, .slice A9 a.f9.length c9, .string a.f10.f0, .slice A11 a.f10.f1.length c11, .int .u64 a.f10.f2, .slice A13 a.f10.f3.length c13] 46)) (.cells #[.int .i64 0, .int .i64 0, .int .i64 0, .int .i64 0, .int .u64 0, .slice none 0 0, .slice none 0 0, .slice none 0 0, .slice none 0 0, .slice none 0 0, .string ⟨#[]⟩, .slice none 0 0, .int .u64 0, .slice none 0 0] 46))
  have hba := blk_alloc (blk_new (w.alloc (.cells #[.int .i64 (dAt a.f5 b.f5), .int .i64 (dLess a.f5 b.f5), .slice B1 (dWith a.f5 b.f5).length d1, .int .i64 (dAt a.f6 b.f6), .int .i64 (dLess a.f6 b.f6), .slice B2 (dWith a.f6 b.f6).length d2, .int .i64 (dAt a.f7 b.f7), .int .i64 (dLess a.f7 b.f7), .slice B3 (dWith a.f7 b.f7).length d3, .int .i64 (dAt a.f8 b.f8), .int .i64 (dLess a.f8 b.f8), .slice B4 (dWith a.f8 b.f8).length d4, .int .i64 (dAt a.f9 b.f9), .int .i64 (dLess a.f9 b.f9), .slice B5 (dWith a.f9 b.f9).length d5, .int .i64 (dAt a.f10.f1 b.f10.f1), .int .i64 (dLess a.f10.f1 b.f10.f1), .slice B6 (dWith a.f10.f1 b.f10.f1).length d6, .int .i64 (dAt a.f10.f3 b.f10.f3), .int .i64 (dLess a.f10.f3 b.f10.f3), .slice B7 (dWith a.f10.f3 b.f10.f3).length d7, .int .i64 (plainS b).f0, .int .i64 (plainS b).f1, .int .i64 (plainS b).f2, .int .i64 (plainS b).f3, .int .u64 (plainS b).f4, .slice F5 (plainS b).f5.length g5, .slice F6 (plainS b).f6.length g6, .slice F7 (plainS b).f7.length g7, .slice F8 (plainS b).f8.length g8, .slice F9 (plainS b).f9.length g9, .string (plainS b).f10.f0, .slice F11 (plainS b).f10.f1.length g11, .int .u64 (plainS b).f10.f2, .slice F13 (plainS b).f10.f3.length g13] 61)) (.cells #[.int .i64 a.f0, .int .i64 a.f1, .int .i64 a.f2, .int .i64 a.f3, .int .u64 a.f4, .slice A5 a.f5.length c5, .slice A6 a.f6.length c6, .slice A7 a.f7.length c7, .slice A8 a.f8.length c8, .slice A9 a.f9.length c9, .string a.f10.f0, .slice A11 a.f10.f1.length c11, .int .u64 a.f10.f2, .slice A13 a.f10.f3.length c13] 46)) (.cells #[.int .i64 0, .int .i64 0, .int .i64 0, .int .i64 0, .int .u64 0, .slice none 0 0, .slice none 0 0, .slice none 0 0, .slice none 0 0, .slice none 0 0, .string ⟨#[]⟩, .slice none 0 0, .int .u64 0, .slice none 0 0] 46)
  rw [World.size_alloc] at hba
  have BA := Aside0.mk hba
  have hbr := blk_new ((w.alloc (.cells #[.int .i64 (dAt a.f5 b.f5), .int .i64 (dLess a.f5 b.f5), .slice B1 (dWith a.f5 b.f5).length d1, .int .i64 (dAt a.f6 b.f6), .int .i64 (dLess a.f6 b.f6), .slice B2 (dWith a.f6 b.f6).length d2, .int .i64 (dAt a.f7 b.f7), .int .i64 (dLess a.f7 b.f7), .slice B3 (dWith a.f7 b.f7).length d3, .int .i64 (dAt a.f8 b.f8), .int .i64 (dLess a.f8 b.f8), .slice B4 (dWith a.f8 b.f8).length d4, .int .i64 (dAt a.f9 b.f9), .int .i64 (dLess a.f9 b.f9), .slice B5 (dWith a.f9 b.f9).length d5, .int .i64 (dAt a.f10.f1 b.f10.f1), .int .i64 (dLess a.f10.f1 b.f10.f1), .slice B6 (dWith a.f10.f1 b.f10.f1).length d6, .int .i64 (dAt a.f10.f3 b.f10.f3), .int .i64 (dLess a.f10.f3 b.f10.f3), .slice B7 (dWith a.f10.f3 b.f10.f3).length d7, .int .i64 (plainS b).f0, .int .i64 (plainS b).f1, .int .i64 (plainS b).f2, .int .i64 (plainS b).f3, .int .u64 (plainS b).f4, .slice F5 (plainS b).f5.length g5, .slice F6 (plainS b).f6.length g6, .slice F7 (plainS b).f7.length g7, .slice F8 (plainS b).f8.length g8, .slice F9 (plainS b).f9.length g9, .string (plainS b).f10.f0, .slice F11 (plainS b).f10.f1.length g11, .int .u64 (plainS b).f10.f2, .slice F13 (plainS b).f10.f3.length g13] 61)).alloc (.cells #[.int .i64 a.f0, .int .i64 a.f1, .int .i64 a.f2, .int .i64 a.f3, .int .u64 a.f4, .slice A5 a.f5.length c5, .slice A6 a.f6.length c6, .slice A7 a.f7.length c7, .slice A8 a.f8.length c8, .slice A9 a.f9.length c9, .string a.f10.f0, .slice A11 a.f10.f1.length c11, .int .u64 a.f10.f2, .slice A13 a.f10.f3.length c13] 46)) (.cells #[.int .i64 0, .int .i64 0, .int .i64 0, .int .i64 0, .int .u64 0, .slice none 0 0, .slice none 0 0, .slice none 0 0, .slice none 0 0, .slice none 0 0, .string ⟨#[]⟩, .slice none 0 0, .int .u64 0, .slice none 0 0] 46)
  rw [World.size_alloc, World.size_alloc] at hbr
  have BR := Aside0.mk hbr
  clear hba hbr
  go_enter Try.func18, Try.ntmps18
  go_upto_region 1 with (fail)
  generalize ((w.alloc (.cells #[.int .i64 (dAt a.f5 b.f5), .int .i64 (dLess a.f5 b.f5), .slice B1 (dWith a.f5 b.f5).length d1, .int .i64 (dAt a.f6 b.f6), .int .i64 (dLess a.f6 b.f6), .slice B2 (dWith a.f6 b.f6).length d2, .int .i64 (dAt a.f7 b.f7), .int .i64 (dLess a.f7 b.f7), .slice B3 (dWith a.f7 b.f7).length d3, .int .i64 (dAt a.f8 b.f8), .int .i64 (dLess a.f8 b.f8), .slice B4 (dWith a.f8 b.f8).length d4, .int .i64 (dAt a.f9 b.f9), .int .i64 (dLess a.f9 b.f9), .slice B5 (dWith a.f9 b.f9).length d5, .int .i64 (dAt a.f10.f1 b.f10.f1), .int .i64 (dLess a.f10.f1 b.f10.f1), .slice B6 (dWith a.f10.f1 b.f10.f1).length d6, .int .i64 (dAt a.f10.f3 b.f10.f3), .int .i64 (dLess a.f10.f3 b.f10.f3), .slice B7 (dWith a.f10.f3 b.f10.f3).length d7, .int .i64 (plainS b).f0, .int .i64 (plainS b).f1, .int .i64 (plainS b).f2, .int .i64 (plainS b).f3, .int .u64 (plainS b).f4, .slice F5 (plainS b).f5.length g5, .slice F6 (plainS b).f6.length g6, .slice F7 (plainS b).f7.length g7, .slice F8 (plainS b).f8.length g8, .slice F9 (plainS b).f9.length g9, .string (plainS b).f10.f0, .slice F11 (plainS b).f10.f1.length g11, .int .u64 (plainS b).f10.f2, .slice F13 (plainS b).f10.f3.length g13] 61)).alloc (.cells #[.int .i64 a.f0, .int .i64 a.f1, .int .i64 a.f2, .int .i64 a.f3, .int .u64 a.f4, .slice A5 a.f5.length c5, .slice A6 a.f6.length c6, .slice A7 a.f7.length c7, .slice A8 a.f8.length c8, .slice A9 a.f9.length c9, .string a.f10.f0, .slice A11 a.f10.f1.length c11, .int .u64 a.f10.f2, .slice A13 a.f10.f3.length c13] 46)).alloc (.cells #[.int .i64 0, .int .i64 0, .int .i64 0, .int .i64 0, .int .u64 0, .slice none 0 0, .slice none 0 0, .slice none 0 0, .slice none 0 0, .slice none 0 0, .string ⟨#[]⟩, .slice none 0 0, .int .u64 0, .slice none 0 0] 46) = w0 at HW0 BD BA BR ⊢
  have k21 : w0.cell? ⟨w.heap.size, 21, none⟩ = some (.int .i64 (plainS b).f0) := blk_cell BD.out 21
  have k22 : w0.cell? ⟨w.heap.size, 22, none⟩ = some (.int .i64 (plainS b).f1) := blk_cell BD.out 22
  have k23 : w0.cell? ⟨w.heap.size, 23, none⟩ = some (.int .i64 (plainS b).f2) := blk_cell BD.out 23
  have k24 : w0.cell? ⟨w.heap.size, 24, none⟩ = some (.int .i64 (plainS b).f3) := blk_cell BD.out 24
  have k25 : w0.cell? ⟨w.heap.size, 25, none⟩ = some (.int .u64 (plainS b).f4) := blk_cell BD.out 25
  have k26 : w0.cell? ⟨w.heap.size, 26, none⟩ = some (.slice F5 (plainS b).f5.length g5) := blk_cell BD.out 26
  have k27 : w0.cell? ⟨w.heap.size, 27, none⟩ = some (.slice F6 (plainS b).f6.length g6) := blk_cell BD.out 27
  have k28 : w0.cell? ⟨w.heap.size, 28, none⟩ = some (.slice F7 (plainS b).f7.length g7) := blk_cell BD.out 28
  have k29 : w0.cell? ⟨w.heap.size, 29, none⟩ = some (.slice F8 (plainS b).f8.length g8) := blk_cell BD.out 29
  have k30 : w0.cell? ⟨w.heap.size, 30, none⟩ = some (.slice F9 (plainS b).f9.length g9) := blk_cell BD.out 30
  have k31 : w0.cell? ⟨w.heap.size, 31, none⟩ = some (.string (plainS b).f10.f0) := blk_cell BD.out 31
  have k32 : w0.cell? ⟨w.heap.size, 32, none⟩ = some (.slice F11 (plainS b).f10.f1.length g11) := blk_cell BD.out 32
  have k33 : w0.cell? ⟨w.heap.size, 33, none⟩ = some (.int .u64 (plainS b).f10.f2) := blk_cell BD.out 33
  have k34 : w0.cell? ⟨w.heap.size, 34, none⟩ = some (.slice F13 (plainS b).f10.f3.length g13) := blk_cell BD.out 34
  go_wp2_with (go_at_call 32; refine Hold.out ?_)
  refine ⟨?_⟩
  clear k21 k22 k23 k24 k25 k26 k27 k28 k29 k30 k31 k32 k33 k34
  refine (plain_any w0 _ (plainS b) ⟨_, rfl, plain_K HPL.out⟩).mono ?_
  rintro e x1 ⟨v, rfl, ⟨qs, rfl, hQ⟩, hb⟩
  have HQ := Aside0.mk hQ
  obtain ⟨G5, h5, G6, h6, G7, h7, G8, h8, G9, h9, G11, h11, G13, h13, rfl, _⟩ := k46_open hQ
  have hlt := blk_lt BR.out
  have HL1 := Aside0.mk (show w.heap.size + 2 < x1.heap.size from Nat.lt_of_lt_of_le hlt hb.size)
  replace BD := Aside0.mk (blk_below BD.out hb)
  replace BA := Aside0.mk (blk_below BA.out hb)
  replace BR := Aside0.mk (blk_below BR.out hb)
  replace HW0 := Aside0.mk (HW0.out.trans (hb.mono HW0.out.size))
  clear hlt hb hQ
  go_wp2_with ((with_reducible refine gate_store (t := 46) (p := 6) (v := .tmp 10) rfl ?_); refine Hold.out ?_)
  refine ⟨?_⟩
  have hb : Below x1.heap.size x1 ((x1.alloc (.cells #[.int .i64 0, .int .i64 0, .int .i64 0, .int .i64 0, .int .u64 0, .slice none 0 0, .slice none 0 0, .slice none 0 0, .slice none 0 0, .slice none 0 0, .string ⟨#[]⟩, .slice none 0 0, .int .u64 0, .slice none 0 0] 46)).alloc (.cells #[.bool false] 4)) := ((Below.refl _ x1).alloc (Nat.le_refl _) _).alloc (by simp) _
  have BB := Aside0.mk (blk_alloc (blk_new x1 (.cells #[.int .i64 0, .int .i64 0, .int .i64 0, .int .i64 0, .int .u64 0, .slice none 0 0, .slice none 0 0, .slice none 0 0, .slice none 0 0, .slice none 0 0, .string ⟨#[]⟩, .slice none 0 0, .int .u64 0, .slice none 0 0] 46)) (.cells #[.bool false] 4))
  have hO0 := blk_new (x1.alloc (.cells #[.int .i64 0, .int .i64 0, .int .i64 0, .int .i64 0, .int .u64 0, .slice none 0 0, .slice none 0 0, .slice none 0 0, .slice none 0 0, .slice none 0 0, .string ⟨#[]⟩, .slice none 0 0, .int .u64 0, .slice none 0 0] 46)) (.cells #[.bool false] 4)
  rw [World.size_alloc] at hO0
  have BO := Aside0.mk hO0
  have HSZ := Aside0.mk (show ((x1.alloc (.cells #[.int .i64 0, .int .i64 0, .int .i64 0, .int .i64 0, .int .u64 0, .slice none 0 0, .slice none 0 0, .slice none 0 0, .slice none 0 0, .slice none 0 0, .string ⟨#[]⟩, .slice none 0 0, .int .u64 0, .slice none 0 0] 46)).alloc (.cells #[.bool false] 4)).heap.size = x1.heap.size + 2 by simp)
  replace BD := Aside0.mk (blk_below BD.out hb)
  replace BA := Aside0.mk (blk_below BA.out hb)
  replace BR := Aside0.mk (blk_below BR.out hb)
  replace HW0 := Aside0.mk (HW0.out.trans (hb.mono HW0.out.size))
  clear hb hO0
  generalize (x1.alloc (.cells #[.int .i64 0, .int .i64 0, .int .i64 0, .int .i64 0, .int .u64 0, .slice none 0 0, .slice none 0 0, .slice none 0 0, .slice none 0 0, .slice none 0 0, .string ⟨#[]⟩, .slice none 0 0, .int .u64 0, .slice none 0 0] 46)).alloc (.cells #[.bool false] 4) = y1 at BD BA BR BB BO HW0 HSZ ⊢
  refine store_rowL (g := x1.heap.size) (c' := #[.int .i64 (plainS b).f0, .int .i64 (plainS b).f1, .int .i64 (plainS b).f2, .int .i64 (plainS b).f3, .int .u64 (plainS b).f4, .slice G5 (plainS b).f5.length h5, .slice G6 (plainS b).f6.length h6, .slice G7 (plainS b).f7.length h7, .slice G8 (plainS b).f8.length h8, .slice G9 (plainS b).f9.length h9, .string (plainS b).f10.f0, .slice G11 (plainS b).f10.f1.length h11, .int .u64 (plainS b).f10.f2, .slice G13 (plainS b).f10.f3.length h13]) rfl rfl rfl rfl rfl BB.out (by kernel_rfl) rfl (by kernel_rfl) ?_
  replace BD := Aside0.mk ((setRow_far (c' := #[.int .i64 (plainS b).f0, .int .i64 (plainS b).f1, .int .i64 (plainS b).f2, .int .i64 (plainS b).f3, .int .u64 (plainS b).f4, .slice G5 (plainS b).f5.length h5, .slice G6 (plainS b).f6.length h6, .slice G7 (plainS b).f7.length h7, .slice G8 (plainS b).f8.length h8, .slice G9 (plainS b).f9.length h9, .string (plainS b).f10.f0, .slice G11 (plainS b).f10.f1.length h11, .int .u64 (plainS b).f10.f2, .slice G13 (plainS b).f10.f3.length h13]) y1 (show w.heap.size ≠ x1.heap.size by have := HL1.out; omega)).trans BD.out)
  replace BA := Aside0.mk ((setRow_far (c' := #[.int .i64 (plainS b).f0, .int .i64 (plainS b).f1, .int .i64 (plainS b).f2, .int .i64 (plainS b).f3, .int .u64 (plainS b).f4, .slice G5 (plainS b).f5.length h5, .slice G6 (plainS b).f6.length h6, .slice G7 (plainS b).f7.length h7, .slice G8 (plainS b).f8.length h8, .slice G9 (plainS b).f9.length h9, .string (plainS b).f10.f0, .slice G11 (plainS b).f10.f1.length h11, .int .u64 (plainS b).f10.f2, .slice G13 (plainS b).f10.f3.length h13]) y1 (show (w.heap.size + 1) ≠ x1.heap.size by have := HL1.out; omega)).trans BA.out)
  replace BR := Aside0.mk ((setRow_far (c' := #[.int .i64 (plainS b).f0, .int .i64 (plainS b).f1, .int .i64 (plainS b).f2, .int .i64 (plainS b).f3, .int .u64 (plainS b).f4, .slice G5 (plainS b).f5.length h5, .slice G6 (plainS b).f6.length h6, .slice G7 (plainS b).f7.length h7, .slice G8 (plainS b).f8.length h8, .slice G9 (plainS b).f9.length h9, .string (plainS b).f10.f0, .slice G11 (plainS b).f10.f1.length h11, .int .u64 (plainS b).f10.f2, .slice G13 (plainS b).f10.f3.length h13]) y1 (show (w.heap.size + 2) ≠ x1.heap.size by have := HL1.out; omega)).trans BR.out)
  replace BO := Aside0.mk ((setRow_far (c' := #[.int .i64 (plainS b).f0, .int .i64 (plainS b).f1, .int .i64 (plainS b).f2, .int .i64 (plainS b).f3, .int .u64 (plainS b).f4, .slice G5 (plainS b).f5.length h5, .slice G6 (plainS b).f6.length h6, .slice G7 (plainS b).f7.length h7, .slice G8 (plainS b).f8.length h8, .slice G9 (plainS b).f9.length h9, .string (plainS b).f10.f0, .slice G11 (plainS b).f10.f1.length h11, .int .u64 (plainS b).f10.f2, .slice G13 (plainS b).f10.f3.length h13]) y1 (show (x1.heap.size + 1) ≠ x1.heap.size by have := HL1.out; omega)).trans BO.out)
  replace BB := Aside0.mk (setRow_heap y1 x1.heap.size _ (#[.int .i64 (plainS b).f0, .int .i64 (plainS b).f1, .int .i64 (plainS b).f2, .int .i64 (plainS b).f3, .int .u64 (plainS b).f4, .slice G5 (plainS b).f5.length h5, .slice G6 (plainS b).f6.length h6, .slice G7 (plainS b).f7.length h7, .slice G8 (plainS b).f8.length h8, .slice G9 (plainS b).f9.length h9, .string (plainS b).f10.f0, .slice G11 (plainS b).f10.f1.length h11, .int .u64 (plainS b).f10.f2, .slice G13 (plainS b).f10.f3.length h13]) 46 (0, 0) BB.out)
  replace HW0 := Aside0.mk (setRow_below (g := x1.heap.size) (cs := #[.int .i64 (plainS b).f0, .int .i64 (plainS b).f1, .int .i64 (plainS b).f2, .int .i64 (plainS b).f3, .int .u64 (plainS b).f4, .slice G5 (plainS b).f5.length h5, .slice G6 (plainS b).f6.length h6, .slice G7 (plainS b).f7.length h7, .slice G8 (plainS b).f8.length h8, .slice G9 (plainS b).f9.length h9, .string (plainS b).f10.f0, .slice G11 (plainS b).f10.f1.length h11, .int .u64 (plainS b).f10.f2, .slice G13 (plainS b).f10.f3.length h13]) HW0.out (by have := HL1.out; omega))
  have HSZ2 := Aside0.mk (show (y1.setRow x1.heap.size (#[.int .i64 (plainS b).f0, .int .i64 (plainS b).f1, .int .i64 (plainS b).f2, .int .i64 (plainS b).f3, .int .u64 (plainS b).f4, .slice G5 (plainS b).f5.length h5, .slice G6 (plainS b).f6.length h6, .slice G7 (plainS b).f7.length h7, .slice G8 (plainS b).f8.length h8, .slice G9 (plainS b).f9.length h9, .string (plainS b).f10.f0, .slice G11 (plainS b).f10.f1.length h11, .int .u64 (plainS b).f10.f2, .slice G13 (plainS b).f10.f3.length h13])).heap.size = x1.heap.size + 2 by rw [setRow_size]; exact HSZ.out)
  clear HSZ
  generalize y1.setRow x1.heap.size (#[.int .i64 (plainS b).f0, .int .i64 (plainS b).f1, .int .i64 (plainS b).f2, .int .i64 (plainS b).f3, .int .u64 (plainS b).f4, .slice G5 (plainS b).f5.length h5, .slice G6 (plainS b).f6.length h6, .slice G7 (plainS b).f7.length h7, .slice G8 (plainS b).f8.length h8, .slice G9 (plainS b).f9.length h9, .string (plainS b).f10.f0, .slice G11 (plainS b).f10.f1.length h11, .int .u64 (plainS b).f10.f2, .slice G13 (plainS b).f10.f3.length h13]) = y2 at BD BA BR BB BO HW0 HSZ2 ⊢
  have k0 : y2.cell? ⟨(x1.heap.size + 1), 0, none⟩ = some (.bool false) := blk_cell BO.out 0
  have z0 : y2.frozen? ⟨(x1.heap.size + 1), 0, none⟩ = false := blk_frozen BO.out 0
  go_upto_region 2 with (fail)
  clear k0 z0
  replace BD := Aside0.mk (blk_far BD.out (p := ⟨(x1.heap.size + 1), 0, none⟩) (show w.heap.size ≠ (x1.heap.size + 1) by have := HL1.out; omega) (.bool true))
  replace BA := Aside0.mk (blk_far BA.out (p := ⟨(x1.heap.size + 1), 0, none⟩) (show (w.heap.size + 1) ≠ (x1.heap.size + 1) by have := HL1.out; omega) (.bool true))
  replace BR := Aside0.mk (blk_far BR.out (p := ⟨(x1.heap.size + 1), 0, none⟩) (show (w.heap.size + 2) ≠ (x1.heap.size + 1) by have := HL1.out; omega) (.bool true))
  replace BB := Aside0.mk (blk_far BB.out (p := ⟨(x1.heap.size + 1), 0, none⟩) (show x1.heap.size ≠ (x1.heap.size + 1) by have := HL1.out; omega) (.bool true))
  replace BO := Aside0.mk (blk_put (cs' := #[.bool true]) BO.out 0 (.bool true) rfl)
  replace HW0 := Aside0.mk (HW0.out.setCell (p := ⟨(x1.heap.size + 1), 0, none⟩) (by have := HL1.out; show w.heap.size ≤ (x1.heap.size + 1); omega) (.bool true))
  have HSZ3 := Aside0.mk (show (y2.setCell ⟨(x1.heap.size + 1), 0, none⟩ (.bool true)).heap.size = x1.heap.size + 2 by rw [World.size_setCell]; exact HSZ2.out)
  clear HSZ2
  generalize y2.setCell ⟨(x1.heap.size + 1), 0, none⟩ (.bool true) = y3 at BD BA BR BB BO HW0 HSZ3 ⊢
  have HSZ := Aside0.mk (show x1.heap.size + 2 ≤ y3.heap.size from Nat.le_of_eq HSZ3.out.symm)
  clear HSZ3
  have k0 : y3.cell? ⟨w.heap.size, 0, none⟩ = some (.int .i64 (dAt a.f5 b.f5)) := blk_cell BD.out 0
  have k1 : y3.cell? ⟨w.heap.size, 1, none⟩ = some (.int .i64 (dLess a.f5 b.f5)) := blk_cell BD.out 1
  have k2 : y3.cell? ⟨w.heap.size, 2, none⟩ = some (.slice B1 (dWith a.f5 b.f5).length d1) := blk_cell BD.out 2
  have a5 : y3.cell? ⟨(w.heap.size + 1), 5, none⟩ = some (.slice A5 a.f5.length c5) := blk_cell BA.out 5
  go_wp2_with (go_at_call 33; refine Hold.out ?_)
  refine ⟨?_⟩
  clear k0 k1 k2 a5
  refine (PuB.put_d B1 d1 A5 c5 a.f5 b.f5 (x1.heap.size + 1) _ (Kd.C_below HP1.out.2 HW0.out) HP1.out.1 (Kd.C_below HA5.out.2 HW0.out) HA5.out.1 BO.out (by have := HSA.out; unfold tot at this; omega) (by have := HSB.out; unfold tot at this; omega)).mono ?_
  rintro e u1 ⟨v, rfl, hR, hb⟩
  obtain ⟨X0, y0, rfl⟩ := Kd.R_slice hR
  replace BD := Aside0.mk (blk_below BD.out hb)
  replace BA := Aside0.mk (blk_below BA.out hb)
  replace BR := Aside0.mk (blk_below BR.out hb)
  replace BB := Aside0.mk (blk_below BB.out hb)
  replace BO := Aside0.mk (blk_below BO.out hb)
  replace HW0 := Aside0.mk (HW0.out.trans (hb.mono HW0.out.size))
  have R0 := Aside0.mk hR
  have HBS0 := Aside0.mk (show x1.heap.size + 2 ≤ y3.heap.size from HSZ.out)
  replace HSZ := Aside0.mk (Nat.le_trans HSZ.out hb.size)
  clear hR hb
  have k0 : u1.cell? ⟨x1.heap.size, 5, none⟩ = some (.slice G5 (plainS b).f5.length h5) := blk_cell BB.out 5
  have z0 : u1.frozen? ⟨x1.heap.size, 5, none⟩ = false := blk_frozen BB.out 5
  go_upto_region 3 with (fail)
  clear k0 z0
  replace BD := Aside0.mk (blk_far BD.out (p := ⟨x1.heap.size, 5, none⟩) (show w.heap.size ≠ x1.heap.size by have := HL1.out; omega) (.slice X0 b.f5.length y0))
  replace BA := Aside0.mk (blk_far BA.out (p := ⟨x1.heap.size, 5, none⟩) (show (w.heap.size + 1) ≠ x1.heap.size by have := HL1.out; omega) (.slice X0 b.f5.length y0))
  replace BR := Aside0.mk (blk_far BR.out (p := ⟨x1.heap.size, 5, none⟩) (show (w.heap.size + 2) ≠ x1.heap.size by have := HL1.out; omega) (.slice X0 b.f5.length y0))
  replace BO := Aside0.mk (blk_far BO.out (p := ⟨x1.heap.size, 5, none⟩) (show (x1.heap.size + 1) ≠ x1.heap.size by have := HL1.out; omega) (.slice X0 b.f5.length y0))
  replace BB := Aside0.mk (blk_put (cs' := #[.int .i64 (plainS b).f0, .int .i64 (plainS b).f1, .int .i64 (plainS b).f2, .int .i64 (plainS b).f3, .int .u64 (plainS b).f4, .slice X0 b.f5.length y0, .slice G6 (plainS b).f6.length h6, .slice G7 (plainS b).f7.length h7, .slice G8 (plainS b).f8.length h8, .slice G9 (plainS b).f9.length h9, .string (plainS b).f10.f0, .slice G11 (plainS b).f10.f1.length h11, .int .u64 (plainS b).f10.f2, .slice G13 (plainS b).f10.f3.length h13]) BB.out 5 (.slice X0 b.f5.length y0) rfl)
  replace HW0 := Aside0.mk (HW0.out.setCell (p := ⟨x1.heap.size, 5, none⟩) (by have := HL1.out; show w.heap.size ≤ x1.heap.size; omega) (.slice X0 b.f5.length y0))
  replace R0 := Aside0.mk (R_pass R0.out (show x1.heap.size < _ by have := HBS0.out; have := HL1.out; omega) 5 (.slice X0 b.f5.length y0))
  replace HSZ := Aside0.mk (show x1.heap.size + 2 ≤ (u1.setCell ⟨x1.heap.size, 5, none⟩ (.slice X0 b.f5.length y0)).heap.size by rw [World.size_setCell]; exact HSZ.out)
  generalize u1.setCell ⟨x1.heap.size, 5, none⟩ (.slice X0 b.f5.length y0) = yy2 at BD BA BR BB BO HW0 HSZ R0 ⊢
  have k3 : yy2.cell? ⟨w.heap.size, 3, none⟩ = some (.int .i64 (dAt a.f6 b.f6)) := blk_cell BD.out 3
  have k4 : yy2.cell? ⟨w.heap.size, 4, none⟩ = some (.int .i64 (dLess a.f6 b.f6)) := blk_cell BD.out 4
  have k5 : yy2.cell? ⟨w.heap.size, 5, none⟩ = some (.slice B2 (dWith a.f6 b.f6).length d2) := blk_cell BD.out 5
  have a6 : yy2.cell? ⟨(w.heap.size + 1), 6, none⟩ = some (.slice A6 a.f6.length c6) := blk_cell BA.out 6
  go_wp2_with (go_at_call 34; refine Hold.out ?_)
  refine ⟨?_⟩
  clear k3 k4 k5 a6
  refine (PuV.put_d B2 d2 A6 c6 a.f6 b.f6 (x1.heap.size + 1) _ (Kd.C_below HP2.out.2 HW0.out) HP2.out.1 (Kd.C_below HA6.out.2 HW0.out) HA6.out.1 BO.out (by have := HSA.out; unfold tot at this; omega) (by have := HSB.out; unfold tot at this; omega)).mono ?_
  rintro e u3 ⟨v, rfl, hR, hb⟩
  obtain ⟨X1, y1, rfl⟩ := Kd.R_slice hR
  replace BD := Aside0.mk (blk_below BD.out hb)
  replace BA := Aside0.mk (blk_below BA.out hb)
  replace BR := Aside0.mk (blk_below BR.out hb)
  replace BB := Aside0.mk (blk_below BB.out hb)
  replace BO := Aside0.mk (blk_below BO.out hb)
  replace R0 := Aside0.mk (Kd.R_below R0.out hb)
  replace HW0 := Aside0.mk (HW0.out.trans (hb.mono HW0.out.size))
  have R1 := Aside0.mk hR
  have HBS1 := Aside0.mk (show x1.heap.size + 2 ≤ yy2.heap.size from HSZ.out)
  replace HSZ := Aside0.mk (Nat.le_trans HSZ.out hb.size)
  clear hR hb
  have k0 : u3.cell? ⟨x1.heap.size, 6, none⟩ = some (.slice G6 (plainS b).f6.length h6) := blk_cell BB.out 6
  have z0 : u3.frozen? ⟨x1.heap.size, 6, none⟩ = false := blk_frozen BB.out 6
  go_upto_region 4 with (fail)
  clear k0 z0
  replace BD := Aside0.mk (blk_far BD.out (p := ⟨x1.heap.size, 6, none⟩) (show w.heap.size ≠ x1.heap.size by have := HL1.out; omega) (.slice X1 b.f6.length y1))
  replace BA := Aside0.mk (blk_far BA.out (p := ⟨x1.heap.size, 6, none⟩) (show (w.heap.size + 1) ≠ x1.heap.size by have := HL1.out; omega) (.slice X1 b.f6.length y1))
  replace BR := Aside0.mk (blk_far BR.out (p := ⟨x1.heap.size, 6, none⟩) (show (w.heap.size + 2) ≠ x1.heap.size by have := HL1.out; omega) (.slice X1 b.f6.length y1))
  replace BO := Aside0.mk (blk_far BO.out (p := ⟨x1.heap.size, 6, none⟩) (show (x1.heap.size + 1) ≠ x1.heap.size by have := HL1.out; omega) (.slice X1 b.f6.length y1))
  replace BB := Aside0.mk (blk_put (cs' := #[.int .i64 (plainS b).f0, .int .i64 (plainS b).f1, .int .i64 (plainS b).f2, .int .i64 (plainS b).f3, .int .u64 (plainS b).f4, .slice X0 b.f5.length y0, .slice X1 b.f6.length y1, .slice G7 (plainS b).f7.length h7, .slice G8 (plainS b).f8.length h8, .slice G9 (plainS b).f9.length h9, .string (plainS b).f10.f0, .slice G11 (plainS b).f10.f1.length h11, .int .u64 (plainS b).f10.f2, .slice G13 (plainS b).f10.f3.length h13]) BB.out 6 (.slice X1 b.f6.length y1) rfl)
  replace HW0 := Aside0.mk (HW0.out.setCell (p := ⟨x1.heap.size, 6, none⟩) (by have := HL1.out; show w.heap.size ≤ x1.heap.size; omega) (.slice X1 b.f6.length y1))
  replace R0 := Aside0.mk (R_pass R0.out (show x1.heap.size < _ by have := HBS0.out; have := HL1.out; omega) 6 (.slice X1 b.f6.length y1))
  replace R1 := Aside0.mk (R_pass R1.out (show x1.heap.size < _ by have := HBS1.out; have := HL1.out; omega) 6 (.slice X1 b.f6.length y1))
  replace HSZ := Aside0.mk (show x1.heap.size + 2 ≤ (u3.setCell ⟨x1.heap.size, 6, none⟩ (.slice X1 b.f6.length y1)).heap.size by rw [World.size_setCell]; exact HSZ.out)
  generalize u3.setCell ⟨x1.heap.size, 6, none⟩ (.slice X1 b.f6.length y1) = yy4 at BD BA BR BB BO HW0 HSZ R0 R1 ⊢
  refine start_ (n := 16) (S := fun W => W.heap[w.heap.size]? = some (.cells #[.int .i64 (dAt a.f5 b.f5), .int .i64 (dLess a.f5 b.f5), .slice B1 (dWith a.f5 b.f5).length d1, .int .i64 (dAt a.f6 b.f6), .int .i64 (dLess a.f6 b.f6), .slice B2 (dWith a.f6 b.f6).length d2, .int .i64 (dAt a.f7 b.f7), .int .i64 (dLess a.f7 b.f7), .slice B3 (dWith a.f7 b.f7).length d3, .int .i64 (dAt a.f8 b.f8), .int .i64 (dLess a.f8 b.f8), .slice B4 (dWith a.f8 b.f8).length d4, .int .i64 (dAt a.f9 b.f9), .int .i64 (dLess a.f9 b.f9), .slice B5 (dWith a.f9 b.f9).length d5, .int .i64 (dAt a.f10.f1 b.f10.f1), .int .i64 (dLess a.f10.f1 b.f10.f1), .slice B6 (dWith a.f10.f1 b.f10.f1).length d6, .int .i64 (dAt a.f10.f3 b.f10.f3), .int .i64 (dLess a.f10.f3 b.f10.f3), .slice B7 (dWith a.f10.f3 b.f10.f3).length d7, .int .i64 (plainS b).f0, .int .i64 (plainS b).f1, .int .i64 (plainS b).f2, .int .i64 (plainS b).f3, .int .u64 (plainS b).f4, .slice F5 (plainS b).f5.length g5, .slice F6 (plainS b).f6.length g6, .slice F7 (plainS b).f7.length g7, .slice F8 (plainS b).f8.length g8, .slice F9 (plainS b).f9.length g9, .string (plainS b).f10.f0, .slice F11 (plainS b).f10.f1.length g11, .int .u64 (plainS b).f10.f2, .slice F13 (plainS b).f10.f3.length g13] 61 (0, 0)) ∧ W.heap[(w.heap.size + 1)]? = some (.cells #[.int .i64 a.f0, .int .i64 a.f1, .int .i64 a.f2, .int .i64 a.f3, .int .u64 a.f4, .slice A5 a.f5.length c5, .slice A6 a.f6.length c6, .slice A7 a.f7.length c7, .slice A8 a.f8.length c8, .slice A9 a.f9.length c9, .string a.f10.f0, .slice A11 a.f10.f1.length c11, .int .u64 a.f10.f2, .slice A13 a.f10.f3.length c13] 46 (0, 0))) (ds := [13, 15]) #[false, false, false, false, false, false, false, false, false, false, false, false, false, false, false, false] (by kernel_rfl) rfl rfl (⟨blk_drew BD.out, blk_drew BA.out⟩) (fun hHeld => ?_)
  have hb : Below yy4.heap.size yy4 yy4.drew := below_drew1 (Below.refl _ _)
  replace BD := Aside0.mk (blk_below BD.out hb)
  replace BA := Aside0.mk (blk_below BA.out hb)
  replace BR := Aside0.mk (blk_below BR.out hb)
  replace BB := Aside0.mk (blk_below BB.out hb)
  replace BO := Aside0.mk (blk_below BO.out hb)
  replace R0 := Aside0.mk (Kd.R_below R0.out hb)
  replace R1 := Aside0.mk (Kd.R_below R1.out hb)
  replace HW0 := Aside0.mk (HW0.out.trans (hb.mono HW0.out.size))
  replace HSZ := Aside0.mk (Nat.le_trans HSZ.out hb.size)
  clear hb
  generalize yy4.drew = yy4d at BD BA BR BB BO HW0 HSZ hHeld R0 R1 ⊢
  refine pure_ (i := 0) (N := some 25) (v := ?_) (a' := ?_) #[true, false, false, false, false, false, false, false, false, false, false, false, false, false, false, false] rfl rfl (by kernel_rfl) (fun _ _ _ h => h) (Or.inl ⟨by rfl, ?_⟩) ?_ ?_
  rotate_left
  · intro w'
    go_simp
    with_reducible rfl
  rotate_left
  · simp only [Act.put, List.setIfInBounds_toArray, List.set_cons_zero, List.set_cons_succ, i64_w, i32_w]
    rfl
  refine pure_ (i := 1) (N := some 26) (v := ?_) (a' := ?_) #[true, true, false, false, false, false, false, false, false, false, false, false, false, false, false, false] rfl rfl (by kernel_rfl) (fun _ _ _ h => h) (Or.inl ⟨by rfl, ?_⟩) ?_ ?_
  rotate_left
  · intro w'
    go_simp
    with_reducible rfl
  rotate_left
  · simp only [Act.put, List.setIfInBounds_toArray, List.set_cons_zero, List.set_cons_succ, i64_w, i32_w]
    rfl
  refine take_ (i := 2) (N := some 27) (v := ?_) (a' := ?_) #[true, true, true, false, false, false, false, false, false, false, false, false, false, false, false, false] rfl rfl (by kernel_rfl) (fun _ _ _ h => h) (Or.inl ⟨by rfl, ?_⟩) hHeld ?_ ?_
  rotate_left
  · rintro w' ⟨s0, s1⟩
    have k6 : w'.cell? ⟨w.heap.size, 6, none⟩ = some (.int .i64 (dAt a.f7 b.f7)) := blk_cell s0 6
    have k7 : w'.cell? ⟨w.heap.size, 7, none⟩ = some (.int .i64 (dLess a.f7 b.f7)) := blk_cell s0 7
    have k8 : w'.cell? ⟨w.heap.size, 8, none⟩ = some (.slice B3 (dWith a.f7 b.f7).length d3) := blk_cell s0 8
    go_simp
    with_reducible rfl
  rotate_left
  · simp only [Act.put, List.setIfInBounds_toArray, List.set_cons_zero, List.set_cons_succ, i64_w, i32_w]
    rfl
  refine pure_ (i := 3) (N := some 28) (v := ?_) (a' := ?_) #[true, true, true, true, false, false, false, false, false, false, false, false, false, false, false, false] rfl rfl (by kernel_rfl) (fun _ _ _ h => h) (Or.inl ⟨by rfl, ?_⟩) ?_ ?_
  rotate_left
  · intro w'
    go_simp
    with_reducible rfl
  rotate_left
  · simp only [Act.put, List.setIfInBounds_toArray, List.set_cons_zero, List.set_cons_succ, i64_w, i32_w]
    rfl
  refine take_ (i := 4) (N := some 29) (v := ?_) (a' := ?_) #[true, true, true, true, true, false, false, false, false, false, false, false, false, false, false, false] rfl rfl (by kernel_rfl) (fun _ _ _ h => h) (Or.inl ⟨by rfl, ?_⟩) hHeld ?_ ?_
  rotate_left
  · rintro w' ⟨s0, s1⟩
    have a7 : w'.cell? ⟨(w.heap.size + 1), 7, none⟩ = some (.slice A7 a.f7.length c7) := blk_cell s1 7
    go_simp
    with_reducible rfl
  rotate_left
  · simp only [Act.put, List.setIfInBounds_toArray, List.set_cons_zero, List.set_cons_succ, i64_w, i32_w]
    rfl
  refine pure_ (i := 6) (N := some 31) (v := ?_) (a' := ?_) #[true, true, true, true, true, false, true, false, false, false, false, false, false, false, false, false] rfl rfl (by kernel_rfl) (fun _ _ _ h => h) (Or.inl ⟨by rfl, ?_⟩) ?_ ?_
  rotate_left
  · intro w'
    go_simp
    with_reducible rfl
  rotate_left
  · simp only [Act.put, List.setIfInBounds_toArray, List.set_cons_zero, List.set_cons_succ, i64_w, i32_w]
    rfl
  refine pure_ (i := 7) (N := some 32) (v := ?_) (a' := ?_) #[true, true, true, true, true, false, true, true, false, false, false, false, false, false, false, false] rfl rfl (by kernel_rfl) (fun _ _ _ h => h) (Or.inl ⟨by rfl, ?_⟩) ?_ ?_
  rotate_left
  · intro w'
    go_simp
    with_reducible rfl
  rotate_left
  · simp only [Act.put, List.setIfInBounds_toArray, List.set_cons_zero, List.set_cons_succ, i64_w, i32_w]
    rfl
  refine take_ (i := 8) (N := some 33) (v := ?_) (a' := ?_) #[true, true, true, true, true, false, true, true, true, false, false, false, false, false, false, false] rfl rfl (by kernel_rfl) (fun _ _ _ h => h) (Or.inl ⟨by rfl, ?_⟩) hHeld ?_ ?_
  rotate_left
  · rintro w' ⟨s0, s1⟩
    have k9 : w'.cell? ⟨w.heap.size, 9, none⟩ = some (.int .i64 (dAt a.f8 b.f8)) := blk_cell s0 9
    have k10 : w'.cell? ⟨w.heap.size, 10, none⟩ = some (.int .i64 (dLess a.f8 b.f8)) := blk_cell s0 10
    have k11 : w'.cell? ⟨w.heap.size, 11, none⟩ = some (.slice B4 (dWith a.f8 b.f8).length d4) := blk_cell s0 11
    go_simp
    with_reducible rfl
  rotate_left
  · simp only [Act.put, List.setIfInBounds_toArray, List.set_cons_zero, List.set_cons_succ, i64_w, i32_w]
    rfl
  refine pure_ (i := 9) (N := some 34) (v := ?_) (a' := ?_) #[true, true, true, true, true, false, true, true, true, true, false, false, false, false, false, false] rfl rfl (by kernel_rfl) (fun _ _ _ h => h) (Or.inl ⟨by rfl, ?_⟩) ?_ ?_
  rotate_left
  · intro w'
    go_simp
    with_reducible rfl
  rotate_left
  · simp only [Act.put, List.setIfInBounds_toArray, List.set_cons_zero, List.set_cons_succ, i64_w, i32_w]
    rfl
  refine take_ (i := 10) (N := some 35) (v := ?_) (a' := ?_) #[true, true, true, true, true, false, true, true, true, true, true, false, false, false, false, false] rfl rfl (by kernel_rfl) (fun _ _ _ h => h) (Or.inl ⟨by rfl, ?_⟩) hHeld ?_ ?_
  rotate_left
  · rintro w' ⟨s0, s1⟩
    have a8 : w'.cell? ⟨(w.heap.size + 1), 8, none⟩ = some (.slice A8 a.f8.length c8) := blk_cell s1 8
    go_simp
    with_reducible rfl
  rotate_left
  · simp only [Act.put, List.setIfInBounds_toArray, List.set_cons_zero, List.set_cons_succ, i64_w, i32_w]
    rfl
  refine one_ (i := 5) (N := some 30) #[true, true, true, true, true, true, true, true, true, true, true, false, false, false, false, false] rfl rfl (by kernel_rfl) (by decide) (fun K hK => ?_)
  refine goes_ Try.func35 (by kernel_rfl) rfl #[.agg #[.int .i64 (dAt a.f7 b.f7), .int .i64 (dLess a.f7 b.f7), .slice B3 (dWith a.f7 b.f7).length d3], .slice A7 a.f7.length c7, .pointer (some ⟨(x1.heap.size + 1), 0, none⟩)] (by rfl) rfl rfl (by (try simp only [List.map_toArray, List.map_cons, List.map_nil]); first | done | rfl) ?_
  refine (PuS.put_d B3 d3 A7 c7 a.f7 b.f7 (x1.heap.size + 1) _ (Kd.C_below HP3.out.2 HW0.out) HP3.out.1 (Kd.C_below HA7.out.2 HW0.out) HA7.out.1 BO.out (by have := HSA.out; unfold tot at this; omega) (by have := HSB.out; unfold tot at this; omega)).mono ?_
  rintro e u5 ⟨v, rfl, hR, hb⟩
  obtain ⟨X2, y2, rfl⟩ := Kd.R_slice hR
  replace BD := Aside0.mk (blk_below BD.out hb)
  replace BA := Aside0.mk (blk_below BA.out hb)
  replace BR := Aside0.mk (blk_below BR.out hb)
  replace BB := Aside0.mk (blk_below BB.out hb)
  replace BO := Aside0.mk (blk_below BO.out hb)
  replace R0 := Aside0.mk (Kd.R_below R0.out hb)
  replace R1 := Aside0.mk (Kd.R_below R1.out hb)
  replace HW0 := Aside0.mk (HW0.out.trans (hb.mono HW0.out.size))
  have R2 := Aside0.mk hR
  have HBS2 := Aside0.mk (show x1.heap.size + 2 ≤ yy4d.heap.size from HSZ.out)
  replace HSZ := Aside0.mk (Nat.le_trans HSZ.out hb.size)
  refine ⟨_, rfl, ?_⟩
  refine hK.out _ _ ⟨BD.out, BA.out⟩ (fun hHeld => ?_)
  clear hR hb
  clear hK K
  refine norm_ (a' := ?_) ?_ ?_
  rotate_left
  · show Act.put _ (some 30) _ = _
    simp only [Act.put, List.setIfInBounds_toArray, List.set_cons_zero, List.set_cons_succ, i64_w, i32_w]
    rfl
  refine pure_ (i := 12) (N := some 37) (v := ?_) (a' := ?_) #[true, true, true, true, true, true, true, true, true, true, true, false, true, false, false, false] rfl rfl (by kernel_rfl) (fun _ _ _ h => h) (Or.inl ⟨by rfl, ?_⟩) ?_ ?_
  rotate_left
  · intro w'
    go_simp
    with_reducible rfl
  rotate_left
  · simp only [Act.put, List.setIfInBounds_toArray, List.set_cons_zero, List.set_cons_succ, i64_w, i32_w]
    rfl
  refine one_ (i := 11) (N := some 36) #[true, true, true, true, true, true, true, true, true, true, true, true, true, false, false, false] rfl rfl (by kernel_rfl) (by decide) (fun K hK => ?_)
  refine goes_ Try.func35 (by kernel_rfl) rfl #[.agg #[.int .i64 (dAt a.f8 b.f8), .int .i64 (dLess a.f8 b.f8), .slice B4 (dWith a.f8 b.f8).length d4], .slice A8 a.f8.length c8, .pointer (some ⟨(x1.heap.size + 1), 0, none⟩)] (by rfl) rfl rfl (by (try simp only [List.map_toArray, List.map_cons, List.map_nil]); first | done | rfl) ?_
  refine (PuS.put_d B4 d4 A8 c8 a.f8 b.f8 (x1.heap.size + 1) _ (Kd.C_below HP4.out.2 HW0.out) HP4.out.1 (Kd.C_below HA8.out.2 HW0.out) HA8.out.1 BO.out (by have := HSA.out; unfold tot at this; omega) (by have := HSB.out; unfold tot at this; omega)).mono ?_
  rintro e u6 ⟨v, rfl, hR, hb⟩
  obtain ⟨X3, y3, rfl⟩ := Kd.R_slice hR
  replace BD := Aside0.mk (blk_below BD.out hb)
  replace BA := Aside0.mk (blk_below BA.out hb)
  replace BR := Aside0.mk (blk_below BR.out hb)
  replace BB := Aside0.mk (blk_below BB.out hb)
  replace BO := Aside0.mk (blk_below BO.out hb)
  replace R0 := Aside0.mk (Kd.R_below R0.out hb)
  replace R1 := Aside0.mk (Kd.R_below R1.out hb)
  replace R2 := Aside0.mk (Kd.R_below R2.out hb)
  replace HW0 := Aside0.mk (HW0.out.trans (hb.mono HW0.out.size))
  have R3 := Aside0.mk hR
  have HBS3 := Aside0.mk (show x1.heap.size + 2 ≤ u5.heap.size from HSZ.out)
  replace HSZ := Aside0.mk (Nat.le_trans HSZ.out hb.size)
  refine ⟨_, rfl, ?_⟩
  refine hK.out _ _ ⟨BD.out, BA.out⟩ (fun hHeld => ?_)
  clear hR hb
  clear hK K
  refine norm_ (a' := ?_) ?_ ?_
  rotate_left
  · show Act.put _ (some 36) _ = _
    simp only [Act.put, List.setIfInBounds_toArray, List.set_cons_zero, List.set_cons_succ, i64_w, i32_w]
    rfl
  refine last_ (i := 13) (N := none) #[true, true, true, true, true, true, true, true, true, true, true, true, true, true, false, false] rfl rfl (by kernel_rfl) (by decide) (fun K hK => ?_)
  have k0 : u6.cell? ⟨x1.heap.size, 7, none⟩ = some (.slice G7 (plainS b).f7.length h7) := blk_cell BB.out 7
  have z0 : u6.frozen? ⟨x1.heap.size, 7, none⟩ = false := blk_frozen BB.out 7
  refine skip_ (w1 := u6.setCell ⟨x1.heap.size, 7, none⟩ (.slice X2 b.f7.length y2)) (by rfl) rfl (by go_simp) ?_
  clear k0 z0
  refine hK.out _ _ ?_
  clear hK K
  replace BD := Aside0.mk (blk_far BD.out (p := ⟨x1.heap.size, 7, none⟩) (show w.heap.size ≠ x1.heap.size by have := HL1.out; omega) (.slice X2 b.f7.length y2))
  replace BA := Aside0.mk (blk_far BA.out (p := ⟨x1.heap.size, 7, none⟩) (show (w.heap.size + 1) ≠ x1.heap.size by have := HL1.out; omega) (.slice X2 b.f7.length y2))
  replace BR := Aside0.mk (blk_far BR.out (p := ⟨x1.heap.size, 7, none⟩) (show (w.heap.size + 2) ≠ x1.heap.size by have := HL1.out; omega) (.slice X2 b.f7.length y2))
  replace BO := Aside0.mk (blk_far BO.out (p := ⟨x1.heap.size, 7, none⟩) (show (x1.heap.size + 1) ≠ x1.heap.size by have := HL1.out; omega) (.slice X2 b.f7.length y2))
  replace BB := Aside0.mk (blk_put (cs' := #[.int .i64 (plainS b).f0, .int .i64 (plainS b).f1, .int .i64 (plainS b).f2, .int .i64 (plainS b).f3, .int .u64 (plainS b).f4, .slice X0 b.f5.length y0, .slice X1 b.f6.length y1, .slice X2 b.f7.length y2, .slice G8 (plainS b).f8.length h8, .slice G9 (plainS b).f9.length h9, .string (plainS b).f10.f0, .slice G11 (plainS b).f10.f1.length h11, .int .u64 (plainS b).f10.f2, .slice G13 (plainS b).f10.f3.length h13]) BB.out 7 (.slice X2 b.f7.length y2) rfl)
  replace HW0 := Aside0.mk (HW0.out.setCell (p := ⟨x1.heap.size, 7, none⟩) (by have := HL1.out; show w.heap.size ≤ x1.heap.size; omega) (.slice X2 b.f7.length y2))
  replace R0 := Aside0.mk (R_pass R0.out (show x1.heap.size < _ by have := HBS0.out; have := HL1.out; omega) 7 (.slice X2 b.f7.length y2))
  replace R1 := Aside0.mk (R_pass R1.out (show x1.heap.size < _ by have := HBS1.out; have := HL1.out; omega) 7 (.slice X2 b.f7.length y2))
  replace R2 := Aside0.mk (R_pass R2.out (show x1.heap.size < _ by have := HBS2.out; have := HL1.out; omega) 7 (.slice X2 b.f7.length y2))
  replace R3 := Aside0.mk (R_pass R3.out (show x1.heap.size < _ by have := HBS3.out; have := HL1.out; omega) 7 (.slice X2 b.f7.length y2))
  replace HSZ := Aside0.mk (show x1.heap.size + 2 ≤ (u6.setCell ⟨x1.heap.size, 7, none⟩ (.slice X2 b.f7.length y2)).heap.size by rw [World.size_setCell]; exact HSZ.out)
  generalize u6.setCell ⟨x1.heap.size, 7, none⟩ (.slice X2 b.f7.length y2) = yy7 at BD BA BR BB BO HW0 HSZ R0 R1 R2 R3 ⊢
  refine pure_ (i := 14) (N := some 38) (v := ?_) (a' := ?_) #[true, true, true, true, true, true, true, true, true, true, true, true, true, true, true, false] rfl rfl (by kernel_rfl) (fun _ _ _ h => h) (Or.inl ⟨by rfl, ?_⟩) ?_ ?_
  rotate_left
  · intro w'
    go_simp
    with_reducible rfl
  rotate_left
  · simp only [Act.put, List.setIfInBounds_toArray, List.set_cons_zero, List.set_cons_succ, i64_w, i32_w]
    rfl
  refine last_ (i := 15) (N := none) #[true, true, true, true, true, true, true, true, true, true, true, true, true, true, true, true] rfl rfl (by kernel_rfl) (by decide) (fun K hK => ?_)
  have k0 : yy7.cell? ⟨x1.heap.size, 8, none⟩ = some (.slice G8 (plainS b).f8.length h8) := blk_cell BB.out 8
  have z0 : yy7.frozen? ⟨x1.heap.size, 8, none⟩ = false := blk_frozen BB.out 8
  refine skip_ (w1 := yy7.setCell ⟨x1.heap.size, 8, none⟩ (.slice X3 b.f8.length y3)) (by rfl) rfl (by go_simp) ?_
  clear k0 z0
  refine hK.out _ _ ?_
  clear hK K
  replace BD := Aside0.mk (blk_far BD.out (p := ⟨x1.heap.size, 8, none⟩) (show w.heap.size ≠ x1.heap.size by have := HL1.out; omega) (.slice X3 b.f8.length y3))
  replace BA := Aside0.mk (blk_far BA.out (p := ⟨x1.heap.size, 8, none⟩) (show (w.heap.size + 1) ≠ x1.heap.size by have := HL1.out; omega) (.slice X3 b.f8.length y3))
  replace BR := Aside0.mk (blk_far BR.out (p := ⟨x1.heap.size, 8, none⟩) (show (w.heap.size + 2) ≠ x1.heap.size by have := HL1.out; omega) (.slice X3 b.f8.length y3))
  replace BO := Aside0.mk (blk_far BO.out (p := ⟨x1.heap.size, 8, none⟩) (show (x1.heap.size + 1) ≠ x1.heap.size by have := HL1.out; omega) (.slice X3 b.f8.length y3))
  replace BB := Aside0.mk (blk_put (cs' := #[.int .i64 (plainS b).f0, .int .i64 (plainS b).f1, .int .i64 (plainS b).f2, .int .i64 (plainS b).f3, .int .u64 (plainS b).f4, .slice X0 b.f5.length y0, .slice X1 b.f6.length y1, .slice X2 b.f7.length y2, .slice X3 b.f8.length y3, .slice G9 (plainS b).f9.length h9, .string (plainS b).f10.f0, .slice G11 (plainS b).f10.f1.length h11, .int .u64 (plainS b).f10.f2, .slice G13 (plainS b).f10.f3.length h13]) BB.out 8 (.slice X3 b.f8.length y3) rfl)
  replace HW0 := Aside0.mk (HW0.out.setCell (p := ⟨x1.heap.size, 8, none⟩) (by have := HL1.out; show w.heap.size ≤ x1.heap.size; omega) (.slice X3 b.f8.length y3))
  replace R0 := Aside0.mk (R_pass R0.out (show x1.heap.size < _ by have := HBS0.out; have := HL1.out; omega) 8 (.slice X3 b.f8.length y3))
  replace R1 := Aside0.mk (R_pass R1.out (show x1.heap.size < _ by have := HBS1.out; have := HL1.out; omega) 8 (.slice X3 b.f8.length y3))
  replace R2 := Aside0.mk (R_pass R2.out (show x1.heap.size < _ by have := HBS2.out; have := HL1.out; omega) 8 (.slice X3 b.f8.length y3))
  replace R3 := Aside0.mk (R_pass R3.out (show x1.heap.size < _ by have := HBS3.out; have := HL1.out; omega) 8 (.slice X3 b.f8.length y3))
  replace HSZ := Aside0.mk (show x1.heap.size + 2 ≤ (yy7.setCell ⟨x1.heap.size, 8, none⟩ (.slice X3 b.f8.length y3)).heap.size by rw [World.size_setCell]; exact HSZ.out)
  generalize yy7.setCell ⟨x1.heap.size, 8, none⟩ (.slice X3 b.f8.length y3) = yy8 at BD BA BR BB BO HW0 HSZ R0 R1 R2 R3 ⊢
  refine done_ (by kernel_rfl) ?_
  have k12 : yy8.cell? ⟨w.heap.size, 12, none⟩ = some (.int .i64 (dAt a.f9 b.f9)) := blk_cell BD.out 12
  have k13 : yy8.cell? ⟨w.heap.size, 13, none⟩ = some (.int .i64 (dLess a.f9 b.f9)) := blk_cell BD.out 13
  have k14 : yy8.cell? ⟨w.heap.size, 14, none⟩ = some (.slice B5 (dWith a.f9 b.f9).length d5) := blk_cell BD.out 14
  have a9 : yy8.cell? ⟨(w.heap.size + 1), 9, none⟩ = some (.slice A9 a.f9.length c9) := blk_cell BA.out 9
  go_wp2_with (go_at_call 36; refine Hold.out ?_)
  refine ⟨?_⟩
  clear k12 k13 k14 a9
  refine (PuT.put_d B5 d5 A9 c9 a.f9 b.f9 (x1.heap.size + 1) _ (Kd.C_below HP5.out.2 HW0.out) HP5.out.1 (Kd.C_below HA9.out.2 HW0.out) HA9.out.1 BO.out (by have := HSA.out; unfold tot at this; omega) (by have := HSB.out; unfold tot at this; omega)).mono ?_
  rintro e u9 ⟨v, rfl, hR, hb⟩
  obtain ⟨X4, y4, rfl⟩ := Kd.R_slice hR
  replace BD := Aside0.mk (blk_below BD.out hb)
  replace BA := Aside0.mk (blk_below BA.out hb)
  replace BR := Aside0.mk (blk_below BR.out hb)
  replace BB := Aside0.mk (blk_below BB.out hb)
  replace BO := Aside0.mk (blk_below BO.out hb)
  replace R0 := Aside0.mk (Kd.R_below R0.out hb)
  replace R1 := Aside0.mk (Kd.R_below R1.out hb)
  replace R2 := Aside0.mk (Kd.R_below R2.out hb)
  replace R3 := Aside0.mk (Kd.R_below R3.out hb)
  replace HW0 := Aside0.mk (HW0.out.trans (hb.mono HW0.out.size))
  have R4 := Aside0.mk hR
  have HBS4 := Aside0.mk (show x1.heap.size + 2 ≤ yy8.heap.size from HSZ.out)
  replace HSZ := Aside0.mk (Nat.le_trans HSZ.out hb.size)
  clear hR hb
  have k0 : u9.cell? ⟨x1.heap.size, 9, none⟩ = some (.slice G9 (plainS b).f9.length h9) := blk_cell BB.out 9
  have z0 : u9.frozen? ⟨x1.heap.size, 9, none⟩ = false := blk_frozen BB.out 9
  go_upto_region 6 with (fail)
  clear k0 z0
  replace BD := Aside0.mk (blk_far BD.out (p := ⟨x1.heap.size, 9, none⟩) (show w.heap.size ≠ x1.heap.size by have := HL1.out; omega) (.slice X4 b.f9.length y4))
  replace BA := Aside0.mk (blk_far BA.out (p := ⟨x1.heap.size, 9, none⟩) (show (w.heap.size + 1) ≠ x1.heap.size by have := HL1.out; omega) (.slice X4 b.f9.length y4))
  replace BR := Aside0.mk (blk_far BR.out (p := ⟨x1.heap.size, 9, none⟩) (show (w.heap.size + 2) ≠ x1.heap.size by have := HL1.out; omega) (.slice X4 b.f9.length y4))
  replace BO := Aside0.mk (blk_far BO.out (p := ⟨x1.heap.size, 9, none⟩) (show (x1.heap.size + 1) ≠ x1.heap.size by have := HL1.out; omega) (.slice X4 b.f9.length y4))
  replace BB := Aside0.mk (blk_put (cs' := #[.int .i64 (plainS b).f0, .int .i64 (plainS b).f1, .int .i64 (plainS b).f2, .int .i64 (plainS b).f3, .int .u64 (plainS b).f4, .slice X0 b.f5.length y0, .slice X1 b.f6.length y1, .slice X2 b.f7.length y2, .slice X3 b.f8.length y3, .slice X4 b.f9.length y4, .string (plainS b).f10.f0, .slice G11 (plainS b).f10.f1.length h11, .int .u64 (plainS b).f10.f2, .slice G13 (plainS b).f10.f3.length h13]) BB.out 9 (.slice X4 b.f9.length y4) rfl)
  replace HW0 := Aside0.mk (HW0.out.setCell (p := ⟨x1.heap.size, 9, none⟩) (by have := HL1.out; show w.heap.size ≤ x1.heap.size; omega) (.slice X4 b.f9.length y4))
  replace R0 := Aside0.mk (R_pass R0.out (show x1.heap.size < _ by have := HBS0.out; have := HL1.out; omega) 9 (.slice X4 b.f9.length y4))
  replace R1 := Aside0.mk (R_pass R1.out (show x1.heap.size < _ by have := HBS1.out; have := HL1.out; omega) 9 (.slice X4 b.f9.length y4))
  replace R2 := Aside0.mk (R_pass R2.out (show x1.heap.size < _ by have := HBS2.out; have := HL1.out; omega) 9 (.slice X4 b.f9.length y4))
  replace R3 := Aside0.mk (R_pass R3.out (show x1.heap.size < _ by have := HBS3.out; have := HL1.out; omega) 9 (.slice X4 b.f9.length y4))
  replace R4 := Aside0.mk (R_pass R4.out (show x1.heap.size < _ by have := HBS4.out; have := HL1.out; omega) 9 (.slice X4 b.f9.length y4))
  replace HSZ := Aside0.mk (show x1.heap.size + 2 ≤ (u9.setCell ⟨x1.heap.size, 9, none⟩ (.slice X4 b.f9.length y4)).heap.size by rw [World.size_setCell]; exact HSZ.out)
  generalize u9.setCell ⟨x1.heap.size, 9, none⟩ (.slice X4 b.f9.length y4) = yy10 at BD BA BR BB BO HW0 HSZ R0 R1 R2 R3 R4 ⊢
  refine start_ (n := 20) (S := fun W => W.heap[w.heap.size]? = some (.cells #[.int .i64 (dAt a.f5 b.f5), .int .i64 (dLess a.f5 b.f5), .slice B1 (dWith a.f5 b.f5).length d1, .int .i64 (dAt a.f6 b.f6), .int .i64 (dLess a.f6 b.f6), .slice B2 (dWith a.f6 b.f6).length d2, .int .i64 (dAt a.f7 b.f7), .int .i64 (dLess a.f7 b.f7), .slice B3 (dWith a.f7 b.f7).length d3, .int .i64 (dAt a.f8 b.f8), .int .i64 (dLess a.f8 b.f8), .slice B4 (dWith a.f8 b.f8).length d4, .int .i64 (dAt a.f9 b.f9), .int .i64 (dLess a.f9 b.f9), .slice B5 (dWith a.f9 b.f9).length d5, .int .i64 (dAt a.f10.f1 b.f10.f1), .int .i64 (dLess a.f10.f1 b.f10.f1), .slice B6 (dWith a.f10.f1 b.f10.f1).length d6, .int .i64 (dAt a.f10.f3 b.f10.f3), .int .i64 (dLess a.f10.f3 b.f10.f3), .slice B7 (dWith a.f10.f3 b.f10.f3).length d7, .int .i64 (plainS b).f0, .int .i64 (plainS b).f1, .int .i64 (plainS b).f2, .int .i64 (plainS b).f3, .int .u64 (plainS b).f4, .slice F5 (plainS b).f5.length g5, .slice F6 (plainS b).f6.length g6, .slice F7 (plainS b).f7.length g7, .slice F8 (plainS b).f8.length g8, .slice F9 (plainS b).f9.length g9, .string (plainS b).f10.f0, .slice F11 (plainS b).f10.f1.length g11, .int .u64 (plainS b).f10.f2, .slice F13 (plainS b).f10.f3.length g13] 61 (0, 0)) ∧ W.heap[(w.heap.size + 1)]? = some (.cells #[.int .i64 a.f0, .int .i64 a.f1, .int .i64 a.f2, .int .i64 a.f3, .int .u64 a.f4, .slice A5 a.f5.length c5, .slice A6 a.f6.length c6, .slice A7 a.f7.length c7, .slice A8 a.f8.length c8, .slice A9 a.f9.length c9, .string a.f10.f0, .slice A11 a.f10.f1.length c11, .int .u64 a.f10.f2, .slice A13 a.f10.f3.length c13] 46 (0, 0))) (ds := [16, 19]) #[false, false, false, false, false, false, false, false, false, false, false, false, false, false, false, false, false, false, false, false] (by kernel_rfl) rfl rfl (⟨blk_drew BD.out, blk_drew BA.out⟩) (fun hHeld => ?_)
  have hb : Below yy10.heap.size yy10 yy10.drew := below_drew1 (Below.refl _ _)
  replace BD := Aside0.mk (blk_below BD.out hb)
  replace BA := Aside0.mk (blk_below BA.out hb)
  replace BR := Aside0.mk (blk_below BR.out hb)
  replace BB := Aside0.mk (blk_below BB.out hb)
  replace BO := Aside0.mk (blk_below BO.out hb)
  replace R0 := Aside0.mk (Kd.R_below R0.out hb)
  replace R1 := Aside0.mk (Kd.R_below R1.out hb)
  replace R2 := Aside0.mk (Kd.R_below R2.out hb)
  replace R3 := Aside0.mk (Kd.R_below R3.out hb)
  replace R4 := Aside0.mk (Kd.R_below R4.out hb)
  replace HW0 := Aside0.mk (HW0.out.trans (hb.mono HW0.out.size))
  replace HSZ := Aside0.mk (Nat.le_trans HSZ.out hb.size)
  clear hb
  generalize yy10.drew = yy10d at BD BA BR BB BO HW0 HSZ hHeld R0 R1 R2 R3 R4 ⊢
  refine pure_ (i := 0) (N := some 46) (v := ?_) (a' := ?_) #[true, false, false, false, false, false, false, false, false, false, false, false, false, false, false, false, false, false, false, false] rfl rfl (by kernel_rfl) (fun _ _ _ h => h) (Or.inl ⟨by rfl, ?_⟩) ?_ ?_
  rotate_left
  · intro w'
    go_simp
    with_reducible rfl
  rotate_left
  · simp only [Act.put, List.setIfInBounds_toArray, List.set_cons_zero, List.set_cons_succ, i64_w, i32_w]
    rfl
  refine pure_ (i := 1) (N := some 47) (v := ?_) (a' := ?_) #[true, true, false, false, false, false, false, false, false, false, false, false, false, false, false, false, false, false, false, false] rfl rfl (by kernel_rfl) (fun _ _ _ h => h) (Or.inl ⟨by rfl, ?_⟩) ?_ ?_
  rotate_left
  · intro w'
    go_simp
    with_reducible rfl
  rotate_left
  · simp only [Act.put, List.setIfInBounds_toArray, List.set_cons_zero, List.set_cons_succ, i64_w, i32_w]
    rfl
  refine take_ (i := 2) (N := some 48) (v := ?_) (a' := ?_) #[true, true, true, false, false, false, false, false, false, false, false, false, false, false, false, false, false, false, false, false] rfl rfl (by kernel_rfl) (fun _ _ _ h => h) (Or.inl ⟨by rfl, ?_⟩) hHeld ?_ ?_
  rotate_left
  · rintro w' ⟨s0, s1⟩
    have k15 : w'.cell? ⟨w.heap.size, 15, none⟩ = some (.int .i64 (dAt a.f10.f1 b.f10.f1)) := blk_cell s0 15
    have k16 : w'.cell? ⟨w.heap.size, 16, none⟩ = some (.int .i64 (dLess a.f10.f1 b.f10.f1)) := blk_cell s0 16
    have k17 : w'.cell? ⟨w.heap.size, 17, none⟩ = some (.slice B6 (dWith a.f10.f1 b.f10.f1).length d6) := blk_cell s0 17
    go_simp
    with_reducible rfl
  rotate_left
  · simp only [Act.put, List.setIfInBounds_toArray, List.set_cons_zero, List.set_cons_succ, i64_w, i32_w]
    rfl
  refine pure_ (i := 3) (N := some 49) (v := ?_) (a' := ?_) #[true, true, true, true, false, false, false, false, false, false, false, false, false, false, false, false, false, false, false, false] rfl rfl (by kernel_rfl) (fun _ _ _ h => h) (Or.inl ⟨by rfl, ?_⟩) ?_ ?_
  rotate_left
  · intro w'
    go_simp
    with_reducible rfl
  rotate_left
  · simp only [Act.put, List.setIfInBounds_toArray, List.set_cons_zero, List.set_cons_succ, i64_w, i32_w]
    rfl
  refine pure_ (i := 4) (N := some 50) (v := ?_) (a' := ?_) #[true, true, true, true, true, false, false, false, false, false, false, false, false, false, false, false, false, false, false, false] rfl rfl (by kernel_rfl) (fun _ _ _ h => h) (Or.inl ⟨by rfl, ?_⟩) ?_ ?_
  rotate_left
  · intro w'
    go_simp
    with_reducible rfl
  rotate_left
  · simp only [Act.put, List.setIfInBounds_toArray, List.set_cons_zero, List.set_cons_succ, i64_w, i32_w]
    rfl
  refine take_ (i := 5) (N := some 51) (v := ?_) (a' := ?_) #[true, true, true, true, true, true, false, false, false, false, false, false, false, false, false, false, false, false, false, false] rfl rfl (by kernel_rfl) (fun _ _ _ h => h) (Or.inl ⟨by rfl, ?_⟩) hHeld ?_ ?_
  rotate_left
  · rintro w' ⟨s0, s1⟩
    have a11 : w'.cell? ⟨(w.heap.size + 1), 11, none⟩ = some (.slice A11 a.f10.f1.length c11) := blk_cell s1 11
    go_simp
    with_reducible rfl
  rotate_left
  · simp only [Act.put, List.setIfInBounds_toArray, List.set_cons_zero, List.set_cons_succ, i64_w, i32_w]
    rfl
  refine pure_ (i := 7) (N := some 53) (v := ?_) (a' := ?_) #[true, true, true, true, true, true, false, true, false, false, false, false, false, false, false, false, false, false, false, false] rfl rfl (by kernel_rfl) (fun _ _ _ h => h) (Or.inl ⟨by rfl, ?_⟩) ?_ ?_
  rotate_left
  · intro w'
    go_simp
    with_reducible rfl
  rotate_left
  · simp only [Act.put, List.setIfInBounds_toArray, List.set_cons_zero, List.set_cons_succ, i64_w, i32_w]
    rfl
  refine pure_ (i := 8) (N := some 54) (v := ?_) (a' := ?_) #[true, true, true, true, true, true, false, true, true, false, false, false, false, false, false, false, false, false, false, false] rfl rfl (by kernel_rfl) (fun _ _ _ h => h) (Or.inl ⟨by rfl, ?_⟩) ?_ ?_
  rotate_left
  · intro w'
    go_simp
    with_reducible rfl
  rotate_left
  · simp only [Act.put, List.setIfInBounds_toArray, List.set_cons_zero, List.set_cons_succ, i64_w, i32_w]
    rfl
  refine take_ (i := 9) (N := some 55) (v := ?_) (a' := ?_) #[true, true, true, true, true, true, false, true, true, true, false, false, false, false, false, false, false, false, false, false] rfl rfl (by kernel_rfl) (fun _ _ _ h => h) (Or.inl ⟨by rfl, ?_⟩) hHeld ?_ ?_
  rotate_left
  · rintro w' ⟨s0, s1⟩
    have k18 : w'.cell? ⟨w.heap.size, 18, none⟩ = some (.int .i64 (dAt a.f10.f3 b.f10.f3)) := blk_cell s0 18
    have k19 : w'.cell? ⟨w.heap.size, 19, none⟩ = some (.int .i64 (dLess a.f10.f3 b.f10.f3)) := blk_cell s0 19
    have k20 : w'.cell? ⟨w.heap.size, 20, none⟩ = some (.slice B7 (dWith a.f10.f3 b.f10.f3).length d7) := blk_cell s0 20
    go_simp
    with_reducible rfl
  rotate_left
  · simp only [Act.put, List.setIfInBounds_toArray, List.set_cons_zero, List.set_cons_succ, i64_w, i32_w]
    rfl
  refine pure_ (i := 10) (N := some 56) (v := ?_) (a' := ?_) #[true, true, true, true, true, true, false, true, true, true, true, false, false, false, false, false, false, false, false, false] rfl rfl (by kernel_rfl) (fun _ _ _ h => h) (Or.inl ⟨by rfl, ?_⟩) ?_ ?_
  rotate_left
  · intro w'
    go_simp
    with_reducible rfl
  rotate_left
  · simp only [Act.put, List.setIfInBounds_toArray, List.set_cons_zero, List.set_cons_succ, i64_w, i32_w]
    rfl
  refine pure_ (i := 11) (N := some 57) (v := ?_) (a' := ?_) #[true, true, true, true, true, true, false, true, true, true, true, true, false, false, false, false, false, false, false, false] rfl rfl (by kernel_rfl) (fun _ _ _ h => h) (Or.inl ⟨by rfl, ?_⟩) ?_ ?_
  rotate_left
  · intro w'
    go_simp
    with_reducible rfl
  rotate_left
  · simp only [Act.put, List.setIfInBounds_toArray, List.set_cons_zero, List.set_cons_succ, i64_w, i32_w]
    rfl
  refine take_ (i := 12) (N := some 58) (v := ?_) (a' := ?_) #[true, true, true, true, true, true, false, true, true, true, true, true, true, false, false, false, false, false, false, false] rfl rfl (by kernel_rfl) (fun _ _ _ h => h) (Or.inl ⟨by rfl, ?_⟩) hHeld ?_ ?_
  rotate_left
  · rintro w' ⟨s0, s1⟩
    have a13 : w'.cell? ⟨(w.heap.size + 1), 13, none⟩ = some (.slice A13 a.f10.f3.length c13) := blk_cell s1 13
    go_simp
    with_reducible rfl
  rotate_left
  · simp only [Act.put, List.setIfInBounds_toArray, List.set_cons_zero, List.set_cons_succ, i64_w, i32_w]
    rfl
  refine one_ (i := 6) (N := some 52) #[true, true, true, true, true, true, true, true, true, true, true, true, true, false, false, false, false, false, false, false] rfl rfl (by kernel_rfl) (by decide) (fun K hK => ?_)
  refine goes_ Try.func37 (by kernel_rfl) rfl #[.agg #[.int .i64 (dAt a.f10.f1 b.f10.f1), .int .i64 (dLess a.f10.f1 b.f10.f1), .slice B6 (dWith a.f10.f1 b.f10.f1).length d6], .slice A11 a.f10.f1.length c11, .pointer (some ⟨(x1.heap.size + 1), 0, none⟩)] (by rfl) rfl rfl (by (try simp only [List.map_toArray, List.map_cons, List.map_nil]); first | done | rfl) ?_
  refine (PuI.put_d B6 d6 A11 c11 a.f10.f1 b.f10.f1 (x1.heap.size + 1) _ (Kd.C_below HP6.out.2 HW0.out) HP6.out.1 (Kd.C_below HA11.out.2 HW0.out) HA11.out.1 BO.out (by have := HSA.out; unfold tot at this; omega) (by have := HSB.out; unfold tot at this; omega)).mono ?_
  rintro e u11 ⟨v, rfl, hR, hb⟩
  obtain ⟨X5, y5, rfl⟩ := Kd.R_slice hR
  replace BD := Aside0.mk (blk_below BD.out hb)
  replace BA := Aside0.mk (blk_below BA.out hb)
  replace BR := Aside0.mk (blk_below BR.out hb)
  replace BB := Aside0.mk (blk_below BB.out hb)
  replace BO := Aside0.mk (blk_below BO.out hb)
  replace R0 := Aside0.mk (Kd.R_below R0.out hb)
  replace R1 := Aside0.mk (Kd.R_below R1.out hb)
  replace R2 := Aside0.mk (Kd.R_below R2.out hb)
  replace R3 := Aside0.mk (Kd.R_below R3.out hb)
  replace R4 := Aside0.mk (Kd.R_below R4.out hb)
  replace HW0 := Aside0.mk (HW0.out.trans (hb.mono HW0.out.size))
  have R5 := Aside0.mk hR
  have HBS5 := Aside0.mk (show x1.heap.size + 2 ≤ yy10d.heap.size from HSZ.out)
  replace HSZ := Aside0.mk (Nat.le_trans HSZ.out hb.size)
  refine ⟨_, rfl, ?_⟩
  refine hK.out _ _ ⟨BD.out, BA.out⟩ (fun hHeld => ?_)
  clear hR hb
  clear hK K
  refine norm_ (a' := ?_) ?_ ?_
  rotate_left
  · show Act.put _ (some 52) _ = _
    simp only [Act.put, List.setIfInBounds_toArray, List.set_cons_zero, List.set_cons_succ, i64_w, i32_w]
    rfl
  refine pure_ (i := 14) (N := some 60) (v := ?_) (a' := ?_) #[true, true, true, true, true, true, true, true, true, true, true, true, true, false, true, false, false, false, false, false] rfl rfl (by kernel_rfl) (fun _ _ _ h => h) (Or.inl ⟨by rfl, ?_⟩) ?_ ?_
  rotate_left
  · intro w'
    go_simp
    with_reducible rfl
  rotate_left
  · simp only [Act.put, List.setIfInBounds_toArray, List.set_cons_zero, List.set_cons_succ, i64_w, i32_w]
    rfl
  refine pure_ (i := 15) (N := some 61) (v := ?_) (a' := ?_) #[true, true, true, true, true, true, true, true, true, true, true, true, true, false, true, true, false, false, false, false] rfl rfl (by kernel_rfl) (fun _ _ _ h => h) (Or.inl ⟨by rfl, ?_⟩) ?_ ?_
  rotate_left
  · intro w'
    go_simp
    with_reducible rfl
  rotate_left
  · simp only [Act.put, List.setIfInBounds_toArray, List.set_cons_zero, List.set_cons_succ, i64_w, i32_w]
    rfl
  refine one_ (i := 13) (N := some 59) #[true, true, true, true, true, true, true, true, true, true, true, true, true, true, true, true, false, false, false, false] rfl rfl (by kernel_rfl) (by decide) (fun K hK => ?_)
  refine goes_ Try.func35 (by kernel_rfl) rfl #[.agg #[.int .i64 (dAt a.f10.f3 b.f10.f3), .int .i64 (dLess a.f10.f3 b.f10.f3), .slice B7 (dWith a.f10.f3 b.f10.f3).length d7], .slice A13 a.f10.f3.length c13, .pointer (some ⟨(x1.heap.size + 1), 0, none⟩)] (by rfl) rfl rfl (by (try simp only [List.map_toArray, List.map_cons, List.map_nil]); first | done | rfl) ?_
  refine (PuS.put_d B7 d7 A13 c13 a.f10.f3 b.f10.f3 (x1.heap.size + 1) _ (Kd.C_below HP7.out.2 HW0.out) HP7.out.1 (Kd.C_below HA13.out.2 HW0.out) HA13.out.1 BO.out (by have := HSA.out; unfold tot at this; omega) (by have := HSB.out; unfold tot at this; omega)).mono ?_
  rintro e u12 ⟨v, rfl, hR, hb⟩
  obtain ⟨X6, y6, rfl⟩ := Kd.R_slice hR
  replace BD := Aside0.mk (blk_below BD.out hb)
  replace BA := Aside0.mk (blk_below BA.out hb)
  replace BR := Aside0.mk (blk_below BR.out hb)
  replace BB := Aside0.mk (blk_below BB.out hb)
  replace BO := Aside0.mk (blk_below BO.out hb)
  replace R0 := Aside0.mk (Kd.R_below R0.out hb)
  replace R1 := Aside0.mk (Kd.R_below R1.out hb)
  replace R2 := Aside0.mk (Kd.R_below R2.out hb)
  replace R3 := Aside0.mk (Kd.R_below R3.out hb)
  replace R4 := Aside0.mk (Kd.R_below R4.out hb)
  replace R5 := Aside0.mk (Kd.R_below R5.out hb)
  replace HW0 := Aside0.mk (HW0.out.trans (hb.mono HW0.out.size))
  have R6 := Aside0.mk hR
  have HBS6 := Aside0.mk (show x1.heap.size + 2 ≤ u11.heap.size from HSZ.out)
  replace HSZ := Aside0.mk (Nat.le_trans HSZ.out hb.size)
  refine ⟨_, rfl, ?_⟩
  refine hK.out _ _ ⟨BD.out, BA.out⟩ (fun hHeld => ?_)
  clear hR hb
  clear hK K
  refine norm_ (a' := ?_) ?_ ?_
  rotate_left
  · show Act.put _ (some 59) _ = _
    simp only [Act.put, List.setIfInBounds_toArray, List.set_cons_zero, List.set_cons_succ, i64_w, i32_w]
    rfl
  refine last_ (i := 16) (N := none) #[true, true, true, true, true, true, true, true, true, true, true, true, true, true, true, true, true, false, false, false] rfl rfl (by kernel_rfl) (by decide) (fun K hK => ?_)
  have k0 : u12.cell? ⟨x1.heap.size, 11, none⟩ = some (.slice G11 (plainS b).f10.f1.length h11) := blk_cell BB.out 11
  have z0 : u12.frozen? ⟨x1.heap.size, 11, none⟩ = false := blk_frozen BB.out 11
  refine skip_ (w1 := u12.setCell ⟨x1.heap.size, 11, none⟩ (.slice X5 b.f10.f1.length y5)) (by rfl) rfl (by go_simp) ?_
  clear k0 z0
  refine hK.out _ _ ?_
  clear hK K
  replace BD := Aside0.mk (blk_far BD.out (p := ⟨x1.heap.size, 11, none⟩) (show w.heap.size ≠ x1.heap.size by have := HL1.out; omega) (.slice X5 b.f10.f1.length y5))
  replace BA := Aside0.mk (blk_far BA.out (p := ⟨x1.heap.size, 11, none⟩) (show (w.heap.size + 1) ≠ x1.heap.size by have := HL1.out; omega) (.slice X5 b.f10.f1.length y5))
  replace BR := Aside0.mk (blk_far BR.out (p := ⟨x1.heap.size, 11, none⟩) (show (w.heap.size + 2) ≠ x1.heap.size by have := HL1.out; omega) (.slice X5 b.f10.f1.length y5))
  replace BO := Aside0.mk (blk_far BO.out (p := ⟨x1.heap.size, 11, none⟩) (show (x1.heap.size + 1) ≠ x1.heap.size by have := HL1.out; omega) (.slice X5 b.f10.f1.length y5))
  replace BB := Aside0.mk (blk_put (cs' := #[.int .i64 (plainS b).f0, .int .i64 (plainS b).f1, .int .i64 (plainS b).f2, .int .i64 (plainS b).f3, .int .u64 (plainS b).f4, .slice X0 b.f5.length y0, .slice X1 b.f6.length y1, .slice X2 b.f7.length y2, .slice X3 b.f8.length y3, .slice X4 b.f9.length y4, .string (plainS b).f10.f0, .slice X5 b.f10.f1.length y5, .int .u64 (plainS b).f10.f2, .slice G13 (plainS b).f10.f3.length h13]) BB.out 11 (.slice X5 b.f10.f1.length y5) rfl)
  replace HW0 := Aside0.mk (HW0.out.setCell (p := ⟨x1.heap.size, 11, none⟩) (by have := HL1.out; show w.heap.size ≤ x1.heap.size; omega) (.slice X5 b.f10.f1.length y5))
  replace R0 := Aside0.mk (R_pass R0.out (show x1.heap.size < _ by have := HBS0.out; have := HL1.out; omega) 11 (.slice X5 b.f10.f1.length y5))
  replace R1 := Aside0.mk (R_pass R1.out (show x1.heap.size < _ by have := HBS1.out; have := HL1.out; omega) 11 (.slice X5 b.f10.f1.length y5))
  replace R2 := Aside0.mk (R_pass R2.out (show x1.heap.size < _ by have := HBS2.out; have := HL1.out; omega) 11 (.slice X5 b.f10.f1.length y5))
  replace R3 := Aside0.mk (R_pass R3.out (show x1.heap.size < _ by have := HBS3.out; have := HL1.out; omega) 11 (.slice X5 b.f10.f1.length y5))
  replace R4 := Aside0.mk (R_pass R4.out (show x1.heap.size < _ by have := HBS4.out; have := HL1.out; omega) 11 (.slice X5 b.f10.f1.length y5))
  replace R5 := Aside0.mk (R_pass R5.out (show x1.heap.size < _ by have := HBS5.out; have := HL1.out; omega) 11 (.slice X5 b.f10.f1.length y5))
  replace R6 := Aside0.mk (R_pass R6.out (show x1.heap.size < _ by have := HBS6.out; have := HL1.out; omega) 11 (.slice X5 b.f10.f1.length y5))
  replace HSZ := Aside0.mk (show x1.heap.size + 2 ≤ (u12.setCell ⟨x1.heap.size, 11, none⟩ (.slice X5 b.f10.f1.length y5)).heap.size by rw [World.size_setCell]; exact HSZ.out)
  generalize u12.setCell ⟨x1.heap.size, 11, none⟩ (.slice X5 b.f10.f1.length y5) = yy13 at BD BA BR BB BO HW0 HSZ R0 R1 R2 R3 R4 R5 R6 ⊢
  refine pure_ (i := 17) (N := some 62) (v := ?_) (a' := ?_) #[true, true, true, true, true, true, true, true, true, true, true, true, true, true, true, true, true, true, false, false] rfl rfl (by kernel_rfl) (fun _ _ _ h => h) (Or.inl ⟨by rfl, ?_⟩) ?_ ?_
  rotate_left
  · intro w'
    go_simp
    with_reducible rfl
  rotate_left
  · simp only [Act.put, List.setIfInBounds_toArray, List.set_cons_zero, List.set_cons_succ, i64_w, i32_w]
    rfl
  refine pure_ (i := 18) (N := some 63) (v := ?_) (a' := ?_) #[true, true, true, true, true, true, true, true, true, true, true, true, true, true, true, true, true, true, true, false] rfl rfl (by kernel_rfl) (fun _ _ _ h => h) (Or.inl ⟨by rfl, ?_⟩) ?_ ?_
  rotate_left
  · intro w'
    go_simp
    with_reducible rfl
  rotate_left
  · simp only [Act.put, List.setIfInBounds_toArray, List.set_cons_zero, List.set_cons_succ, i64_w, i32_w]
    rfl
  refine last_ (i := 19) (N := none) #[true, true, true, true, true, true, true, true, true, true, true, true, true, true, true, true, true, true, true, true] rfl rfl (by kernel_rfl) (by decide) (fun K hK => ?_)
  have k0 : yy13.cell? ⟨x1.heap.size, 13, none⟩ = some (.slice G13 (plainS b).f10.f3.length h13) := blk_cell BB.out 13
  have z0 : yy13.frozen? ⟨x1.heap.size, 13, none⟩ = false := blk_frozen BB.out 13
  refine skip_ (w1 := yy13.setCell ⟨x1.heap.size, 13, none⟩ (.slice X6 b.f10.f3.length y6)) (by rfl) rfl (by go_simp) ?_
  clear k0 z0
  refine hK.out _ _ ?_
  clear hK K
  replace BD := Aside0.mk (blk_far BD.out (p := ⟨x1.heap.size, 13, none⟩) (show w.heap.size ≠ x1.heap.size by have := HL1.out; omega) (.slice X6 b.f10.f3.length y6))
  replace BA := Aside0.mk (blk_far BA.out (p := ⟨x1.heap.size, 13, none⟩) (show (w.heap.size + 1) ≠ x1.heap.size by have := HL1.out; omega) (.slice X6 b.f10.f3.length y6))
  replace BR := Aside0.mk (blk_far BR.out (p := ⟨x1.heap.size, 13, none⟩) (show (w.heap.size + 2) ≠ x1.heap.size by have := HL1.out; omega) (.slice X6 b.f10.f3.length y6))
  replace BO := Aside0.mk (blk_far BO.out (p := ⟨x1.heap.size, 13, none⟩) (show (x1.heap.size + 1) ≠ x1.heap.size by have := HL1.out; omega) (.slice X6 b.f10.f3.length y6))
  replace BB := Aside0.mk (blk_put (cs' := #[.int .i64 (plainS b).f0, .int .i64 (plainS b).f1, .int .i64 (plainS b).f2, .int .i64 (plainS b).f3, .int .u64 (plainS b).f4, .slice X0 b.f5.length y0, .slice X1 b.f6.length y1, .slice X2 b.f7.length y2, .slice X3 b.f8.length y3, .slice X4 b.f9.length y4, .string (plainS b).f10.f0, .slice X5 b.f10.f1.length y5, .int .u64 (plainS b).f10.f2, .slice X6 b.f10.f3.length y6]) BB.out 13 (.slice X6 b.f10.f3.length y6) rfl)
  replace HW0 := Aside0.mk (HW0.out.setCell (p := ⟨x1.heap.size, 13, none⟩) (by have := HL1.out; show w.heap.size ≤ x1.heap.size; omega) (.slice X6 b.f10.f3.length y6))
  replace R0 := Aside0.mk (R_pass R0.out (show x1.heap.size < _ by have := HBS0.out; have := HL1.out; omega) 13 (.slice X6 b.f10.f3.length y6))
  replace R1 := Aside0.mk (R_pass R1.out (show x1.heap.size < _ by have := HBS1.out; have := HL1.out; omega) 13 (.slice X6 b.f10.f3.length y6))
  replace R2 := Aside0.mk (R_pass R2.out (show x1.heap.size < _ by have := HBS2.out; have := HL1.out; omega) 13 (.slice X6 b.f10.f3.length y6))
  replace R3 := Aside0.mk (R_pass R3.out (show x1.heap.size < _ by have := HBS3.out; have := HL1.out; omega) 13 (.slice X6 b.f10.f3.length y6))
  replace R4 := Aside0.mk (R_pass R4.out (show x1.heap.size < _ by have := HBS4.out; have := HL1.out; omega) 13 (.slice X6 b.f10.f3.length y6))
  replace R5 := Aside0.mk (R_pass R5.out (show x1.heap.size < _ by have := HBS5.out; have := HL1.out; omega) 13 (.slice X6 b.f10.f3.length y6))
  replace R6 := Aside0.mk (R_pass R6.out (show x1.heap.size < _ by have := HBS6.out; have := HL1.out; omega) 13 (.slice X6 b.f10.f3.length y6))
  replace HSZ := Aside0.mk (show x1.heap.size + 2 ≤ (yy13.setCell ⟨x1.heap.size, 13, none⟩ (.slice X6 b.f10.f3.length y6)).heap.size by rw [World.size_setCell]; exact HSZ.out)
  generalize yy13.setCell ⟨x1.heap.size, 13, none⟩ (.slice X6 b.f10.f3.length y6) = yy14 at BD BA BR BB BO HW0 HSZ R0 R1 R2 R3 R4 R5 R6 ⊢
  refine done_ (by kernel_rfl) ?_
  have k0 : yy14.cell? ⟨(x1.heap.size + 1), 0, none⟩ = some (.bool true) := blk_cell BO.out 0
  have b0 : yy14.cell? ⟨x1.heap.size, 0, none⟩ = some (.int .i64 (plainS b).f0) := blk_cell BB.out 0
  have b1 : yy14.cell? ⟨x1.heap.size, 1, none⟩ = some (.int .i64 (plainS b).f1) := blk_cell BB.out 1
  have b2 : yy14.cell? ⟨x1.heap.size, 2, none⟩ = some (.int .i64 (plainS b).f2) := blk_cell BB.out 2
  have b3 : yy14.cell? ⟨x1.heap.size, 3, none⟩ = some (.int .i64 (plainS b).f3) := blk_cell BB.out 3
  have b4 : yy14.cell? ⟨x1.heap.size, 4, none⟩ = some (.int .u64 (plainS b).f4) := blk_cell BB.out 4
  have b5 : yy14.cell? ⟨x1.heap.size, 5, none⟩ = some (.slice X0 b.f5.length y0) := blk_cell BB.out 5
  have b6 : yy14.cell? ⟨x1.heap.size, 6, none⟩ = some (.slice X1 b.f6.length y1) := blk_cell BB.out 6
  have b7 : yy14.cell? ⟨x1.heap.size, 7, none⟩ = some (.slice X2 b.f7.length y2) := blk_cell BB.out 7
  have b8 : yy14.cell? ⟨x1.heap.size, 8, none⟩ = some (.slice X3 b.f8.length y3) := blk_cell BB.out 8
  have b9 : yy14.cell? ⟨x1.heap.size, 9, none⟩ = some (.slice X4 b.f9.length y4) := blk_cell BB.out 9
  have b10 : yy14.cell? ⟨x1.heap.size, 10, none⟩ = some (.string (plainS b).f10.f0) := blk_cell BB.out 10
  have b11 : yy14.cell? ⟨x1.heap.size, 11, none⟩ = some (.slice X5 b.f10.f1.length y5) := blk_cell BB.out 11
  have b12 : yy14.cell? ⟨x1.heap.size, 12, none⟩ = some (.int .u64 (plainS b).f10.f2) := blk_cell BB.out 12
  have b13 : yy14.cell? ⟨x1.heap.size, 13, none⟩ = some (.slice X6 b.f10.f3.length y6) := blk_cell BB.out 13
  go_wp2_with ((with_reducible refine gate_store (t := 46) (p := 4) (v := .tmp 67) rfl ?_); refine Hold.out ?_)
  refine ⟨?_⟩
  clear k0 b0 b1 b2 b3 b4 b5 b6 b7 b8 b9 b10 b11 b12 b13
  refine store_rowL (g := w.heap.size + 2) (c' := #[.int .i64 (plainS b).f0, .int .i64 (plainS b).f1, .int .i64 (plainS b).f2, .int .i64 (plainS b).f3, .int .u64 (plainS b).f4, .slice X0 b.f5.length y0, .slice X1 b.f6.length y1, .slice X2 b.f7.length y2, .slice X3 b.f8.length y3, .slice X4 b.f9.length y4, .string (plainS b).f10.f0, .slice X5 b.f10.f1.length y5, .int .u64 (plainS b).f10.f2, .slice X6 b.f10.f3.length y6]) rfl rfl rfl rfl rfl BR.out (by kernel_rfl) rfl (by kernel_rfl) ?_
  replace BR := Aside0.mk (setRow_heap yy14 (w.heap.size + 2) _ (#[.int .i64 (plainS b).f0, .int .i64 (plainS b).f1, .int .i64 (plainS b).f2, .int .i64 (plainS b).f3, .int .u64 (plainS b).f4, .slice X0 b.f5.length y0, .slice X1 b.f6.length y1, .slice X2 b.f7.length y2, .slice X3 b.f8.length y3, .slice X4 b.f9.length y4, .string (plainS b).f10.f0, .slice X5 b.f10.f1.length y5, .int .u64 (plainS b).f10.f2, .slice X6 b.f10.f3.length y6]) 46 (0, 0) BR.out)
  replace HW0 := Aside0.mk (setRow_below (g := w.heap.size + 2) (cs := #[.int .i64 (plainS b).f0, .int .i64 (plainS b).f1, .int .i64 (plainS b).f2, .int .i64 (plainS b).f3, .int .u64 (plainS b).f4, .slice X0 b.f5.length y0, .slice X1 b.f6.length y1, .slice X2 b.f7.length y2, .slice X3 b.f8.length y3, .slice X4 b.f9.length y4, .string (plainS b).f10.f0, .slice X5 b.f10.f1.length y5, .int .u64 (plainS b).f10.f2, .slice X6 b.f10.f3.length y6]) HW0.out (by omega))
  have HS : Aside0 (SnapN w.heap.size (yy14.setRow (w.heap.size + 2) (#[.int .i64 (plainS b).f0, .int .i64 (plainS b).f1, .int .i64 (plainS b).f2, .int .i64 (plainS b).f3, .int .u64 (plainS b).f4, .slice X0 b.f5.length y0, .slice X1 b.f6.length y1, .slice X2 b.f7.length y2, .slice X3 b.f8.length y3, .slice X4 b.f9.length y4, .string (plainS b).f10.f0, .slice X5 b.f10.f1.length y5, .int .u64 (plainS b).f10.f2, .slice X6 b.f10.f3.length y6])) (.agg (#[.int .i64 (plainS b).f0, .int .i64 (plainS b).f1, .int .i64 (plainS b).f2, .int .i64 (plainS b).f3, .int .u64 (plainS b).f4, .slice X0 b.f5.length y0, .slice X1 b.f6.length y1, .slice X2 b.f7.length y2, .slice X3 b.f8.length y3, .slice X4 b.f9.length y4, .string (plainS b).f10.f0, .slice X5 b.f10.f1.length y5, .int .u64 (plainS b).f10.f2, .slice X6 b.f10.f3.length y6])) b) := by
    refine ⟨fun W hW => ?_⟩
    have q0 := Kd.R_reads' (Kd.R_step (R_last (g := w.heap.size + 2) (c' := #[.int .i64 (plainS b).f0, .int .i64 (plainS b).f1, .int .i64 (plainS b).f2, .int .i64 (plainS b).f3, .int .u64 (plainS b).f4, .slice X0 b.f5.length y0, .slice X1 b.f6.length y1, .slice X2 b.f7.length y2, .slice X3 b.f8.length y3, .slice X4 b.f9.length y4, .string (plainS b).f10.f0, .slice X5 b.f10.f1.length y5, .int .u64 (plainS b).f10.f2, .slice X6 b.f10.f3.length y6]) R0.out (Below.refl _ _) (show w.heap.size + 2 < _ by have := HBS0.out; have := HL1.out; omega)) (fun k hk hlt => (hW k (Nat.le_trans (Nat.le_trans (by have := HL1.out; omega : w.heap.size ≤ x1.heap.size + 2) HBS0.out) hk) hlt).symm))
    have q1 := Kd.R_reads' (Kd.R_step (R_last (g := w.heap.size + 2) (c' := #[.int .i64 (plainS b).f0, .int .i64 (plainS b).f1, .int .i64 (plainS b).f2, .int .i64 (plainS b).f3, .int .u64 (plainS b).f4, .slice X0 b.f5.length y0, .slice X1 b.f6.length y1, .slice X2 b.f7.length y2, .slice X3 b.f8.length y3, .slice X4 b.f9.length y4, .string (plainS b).f10.f0, .slice X5 b.f10.f1.length y5, .int .u64 (plainS b).f10.f2, .slice X6 b.f10.f3.length y6]) R1.out (Below.refl _ _) (show w.heap.size + 2 < _ by have := HBS1.out; have := HL1.out; omega)) (fun k hk hlt => (hW k (Nat.le_trans (Nat.le_trans (by have := HL1.out; omega : w.heap.size ≤ x1.heap.size + 2) HBS1.out) hk) hlt).symm))
    have q2 := Kd.R_reads' (Kd.R_step (R_last (g := w.heap.size + 2) (c' := #[.int .i64 (plainS b).f0, .int .i64 (plainS b).f1, .int .i64 (plainS b).f2, .int .i64 (plainS b).f3, .int .u64 (plainS b).f4, .slice X0 b.f5.length y0, .slice X1 b.f6.length y1, .slice X2 b.f7.length y2, .slice X3 b.f8.length y3, .slice X4 b.f9.length y4, .string (plainS b).f10.f0, .slice X5 b.f10.f1.length y5, .int .u64 (plainS b).f10.f2, .slice X6 b.f10.f3.length y6]) R2.out (Below.refl _ _) (show w.heap.size + 2 < _ by have := HBS2.out; have := HL1.out; omega)) (fun k hk hlt => (hW k (Nat.le_trans (Nat.le_trans (by have := HL1.out; omega : w.heap.size ≤ x1.heap.size + 2) HBS2.out) hk) hlt).symm))
    have q3 := Kd.R_reads' (Kd.R_step (R_last (g := w.heap.size + 2) (c' := #[.int .i64 (plainS b).f0, .int .i64 (plainS b).f1, .int .i64 (plainS b).f2, .int .i64 (plainS b).f3, .int .u64 (plainS b).f4, .slice X0 b.f5.length y0, .slice X1 b.f6.length y1, .slice X2 b.f7.length y2, .slice X3 b.f8.length y3, .slice X4 b.f9.length y4, .string (plainS b).f10.f0, .slice X5 b.f10.f1.length y5, .int .u64 (plainS b).f10.f2, .slice X6 b.f10.f3.length y6]) R3.out (Below.refl _ _) (show w.heap.size + 2 < _ by have := HBS3.out; have := HL1.out; omega)) (fun k hk hlt => (hW k (Nat.le_trans (Nat.le_trans (by have := HL1.out; omega : w.heap.size ≤ x1.heap.size + 2) HBS3.out) hk) hlt).symm))
    have q4 := Kd.R_reads' (Kd.R_step (R_last (g := w.heap.size + 2) (c' := #[.int .i64 (plainS b).f0, .int .i64 (plainS b).f1, .int .i64 (plainS b).f2, .int .i64 (plainS b).f3, .int .u64 (plainS b).f4, .slice X0 b.f5.length y0, .slice X1 b.f6.length y1, .slice X2 b.f7.length y2, .slice X3 b.f8.length y3, .slice X4 b.f9.length y4, .string (plainS b).f10.f0, .slice X5 b.f10.f1.length y5, .int .u64 (plainS b).f10.f2, .slice X6 b.f10.f3.length y6]) R4.out (Below.refl _ _) (show w.heap.size + 2 < _ by have := HBS4.out; have := HL1.out; omega)) (fun k hk hlt => (hW k (Nat.le_trans (Nat.le_trans (by have := HL1.out; omega : w.heap.size ≤ x1.heap.size + 2) HBS4.out) hk) hlt).symm))
    have q5 := Kd.R_reads' (Kd.R_step (R_last (g := w.heap.size + 2) (c' := #[.int .i64 (plainS b).f0, .int .i64 (plainS b).f1, .int .i64 (plainS b).f2, .int .i64 (plainS b).f3, .int .u64 (plainS b).f4, .slice X0 b.f5.length y0, .slice X1 b.f6.length y1, .slice X2 b.f7.length y2, .slice X3 b.f8.length y3, .slice X4 b.f9.length y4, .string (plainS b).f10.f0, .slice X5 b.f10.f1.length y5, .int .u64 (plainS b).f10.f2, .slice X6 b.f10.f3.length y6]) R5.out (Below.refl _ _) (show w.heap.size + 2 < _ by have := HBS5.out; have := HL1.out; omega)) (fun k hk hlt => (hW k (Nat.le_trans (Nat.le_trans (by have := HL1.out; omega : w.heap.size ≤ x1.heap.size + 2) HBS5.out) hk) hlt).symm))
    have q6 := Kd.R_reads' (Kd.R_step (R_last (g := w.heap.size + 2) (c' := #[.int .i64 (plainS b).f0, .int .i64 (plainS b).f1, .int .i64 (plainS b).f2, .int .i64 (plainS b).f3, .int .u64 (plainS b).f4, .slice X0 b.f5.length y0, .slice X1 b.f6.length y1, .slice X2 b.f7.length y2, .slice X3 b.f8.length y3, .slice X4 b.f9.length y4, .string (plainS b).f10.f0, .slice X5 b.f10.f1.length y5, .int .u64 (plainS b).f10.f2, .slice X6 b.f10.f3.length y6]) R6.out (Below.refl _ _) (show w.heap.size + 2 < _ by have := HBS6.out; have := HL1.out; omega)) (fun k hk hlt => (hW k (Nat.le_trans (Nat.le_trans (by have := HL1.out; omega : w.heap.size ≤ x1.heap.size + 2) HBS6.out) hk) hlt).symm))
    exact ⟨_, rfl, k46_mk _ b q0.2.1 q0.2.2 q1.2.1 q1.2.2 q2.2.1 q2.2.2 q3.2.1 q3.2.2 q4.2.1 q4.2.2 q5.2.1 q5.2.2 q6.2.1 q6.2.2⟩
  generalize yy14.setRow (w.heap.size + 2) (#[.int .i64 (plainS b).f0, .int .i64 (plainS b).f1, .int .i64 (plainS b).f2, .int .i64 (plainS b).f3, .int .u64 (plainS b).f4, .slice X0 b.f5.length y0, .slice X1 b.f6.length y1, .slice X2 b.f7.length y2, .slice X3 b.f8.length y3, .slice X4 b.f9.length y4, .string (plainS b).f10.f0, .slice X5 b.f10.f1.length y5, .int .u64 (plainS b).f10.f2, .slice X6 b.f10.f3.length y6]) = xf at BR HW0 HS ⊢
  go_wp2
  refine bodyPost_ret (results_row_tmp rfl _ _ (w.heap.size + 2) 46 (#[.int .i64 (plainS b).f0, .int .i64 (plainS b).f1, .int .i64 (plainS b).f2, .int .i64 (plainS b).f3, .int .u64 (plainS b).f4, .slice X0 b.f5.length y0, .slice X1 b.f6.length y1, .slice X2 b.f7.length y2, .slice X3 b.f8.length y3, .slice X4 b.f9.length y4, .string (plainS b).f10.f0, .slice X5 b.f10.f1.length y5, .int .u64 (plainS b).f10.f2, .slice X6 b.f10.f3.length y6]) (0, 0) _ rfl BR.out Try.underlying46 rfl (by kernel_rfl)) rfl ⟨_, rfl, HS.out, HW0.out⟩
end Go.Proofs.Ytfpbohfefliljaa.MD
