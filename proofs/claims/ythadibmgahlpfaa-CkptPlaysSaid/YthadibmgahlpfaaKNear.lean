/- The keeper's Near. -/
import Derived.Test.YthadibmgahlpfaaKMeth
import Derived.Laws.ResultCell
import Derived.Laws.Tables
namespace Go.Proofs.Ythadibmgahlpfaa.MD
open Go Go.RowKit Go.Proofs Go.Proofs.YthadibmgahlpfaaW.PrintWords Go.Proofs.YthadibmgahlpfaaW.PrintLast Go.Proofs.YthadibmgahlpfaaW.PrintMore
set_option linter.unusedVariables false
set_option linter.unusedSimpArgs false
theorem store_row {P : Program} {oi : Oper} {a : Act} {w : World} {t : TypeId} {p x : Operand} {g : Nat} {c c' : Array Value} (ho : oi.op = .store t p x) (hp : a.eval p = .pointer (some ⟨g, 0, none⟩)) (hx : a.eval x = .agg c')
    (hg : w.heap[g]? = some (.cells c t (0, 0))) (hi : (P.info? t).map (·.size) = some c'.size) (hs : c.size = c'.size) (h1 : c'.all (·.oneCell') = true) : (execOp a.eval oi).run P w = .ok .skip (w.setRow g c') := by
  have hrun : (Instr.storeAt t (.pointer (some ⟨g, 0, none⟩)) (.agg c')).run P w = .ok () (w.setRow g c') := by
    simp only [Instr.storeAt, Instr.sureAddr, Sem.run_bind, Sem.run_pure, Result.andThen]
    exact run_storeVar_row w g t t c c' hg hi hs h1
  unfold execOp
  simp only [ho, hp, hx, Sem.run_bind, Sem.run_pure, Result.andThen_ok, hrun]
theorem store_rowL {P : Program} {ops : Array Oper} {rest : List Oper} {o : Oper} {a : Act} {Q : Exit → Act → World → Prop} {w : World} {t : TypeId} {p x : Operand} {g : Nat} {c c' : Array Value}
    (ho : o.op = .store t p x) (hgd : o.guard = none) (hN : o.dst = none) (hp : a.eval p = .pointer (some ⟨g, 0, none⟩)) (hx : a.eval x = .agg c') (hg : w.heap[g]? = some (.cells c t (0, 0)))
    (hi : (P.info? t).map (·.size) = some c'.size) (hs : c.size = c'.size) (h1 : c'.all (·.oneCell') = true) (h : wpList P ops Q rest a (w.setRow g c')) : wpList P ops Q (o :: rest) a w := by
  have hrun := store_row (P := P) (oi := o) (a := a) ho hp hx hg hi hs h1
  refine wpList_plain hgd fun K hK => ?_
  unfold Oper.wp
  rw [hrun]
  show K (a.put o.dst undef) _
  rw [hN]
  exact hK _ _ h
theorem setRow_size (w : World) (g : Nat) (cs : Array Value) : (w.setRow g cs).heap.size = w.heap.size := by simp [World.setRow]
theorem setRow_far {c' : Array Value} (w : World) {i g : Nat} (h : i ≠ g) : (w.setRow g c').heap[i]? = w.heap[i]? := by
  simp only [World.setRow, Array.getElem?_modify]
  rw [if_neg (fun e => h e.symm)]
theorem setRow_below {w W : World} {g : Nat} {cs : Array Value} (h : Below w.heap.size w W) (hg : w.heap.size ≤ g) : Below w.heap.size w (W.setRow g cs) := by
  refine ⟨h.os, h.tape, h.output, ?_, fun i hi => ?_⟩
  · have := h.size
    simpa [World.setRow] using this
  · rw [← h.block i hi]
    simp only [World.setRow, Array.getElem?_modify]
    rw [if_neg (by omega)]
theorem results_tct {P : Program} {fn : Func} {u p z : Tmp} {ty : TypeId} (h : fn.results = #[.tmp u, .cell p ty, .tmp z]) (tmps : Array Value) (w : World) (g : Nat) (t : TypeId) (cs : Array Value) (fr : Nat × Nat) (d : TypeDesc)
    (hp : tmps.getD p undef = .pointer (some ⟨g, 0, none⟩)) (hg : w.heap[g]? = some (.cells cs t fr))
    (hu : P.underlying ty = some d) (hd : (match d with | .struct _ | .array _ _ => true | _ => false) = true) (hi : (P.info? ty).map (·.size) = some cs.size) :
    (results fn tmps).run P w = .ok (.tuple #[tmps.getD u undef, .agg cs, tmps.getD z undef]) w := by
  have h1 : (results fn tmps).run P w = ((asAddr (tmps.getD p undef)).run P w).andThen fun a w₁ => ((loadVar ty a).run P w₁).andThen fun v w₂ => .ok (.tuple #[tmps.getD u undef, v, tmps.getD z undef]) w₂ := by
    simp only [results, h]
    simp [Sem.run_bind, Result.andThen]
  rw [h1, hp]
  simp [asAddr, run_loadVar_row w g t ty cs fr d hg hu hd hi, Result.andThen]
/-- Near's answer: nothing, or a mark's place and snapshot. -/
structure NearP (l : List E) (i : Nat) (b : Bool) (e : Ending) (w' : World) : Prop where
  out : (b = false ∧ i = 0 ∧ e = .returned (.tuple #[.int .i64 0, .agg #[.int .i64 0, .int .i64 0, .int .i64 0, .int .i64 0, .int .u64 0, .slice none 0 0, .slice none 0 0, .slice none 0 0, .slice none 0 0, .slice none 0 0, .string ⟨#[]⟩, .slice none 0 0, .int .u64 0, .slice none 0 0], .bool false])) ∨
    ∃ (j : Nat) (v : Value), j < l.length ∧ (b = true ∧ j = i ∨ b = false ∧ i = j + 1) ∧ e = .returned (.tuple #[.int .i64 (l.getD j zE).f0, v, .bool true]) ∧ SnapC w' v (l.getD j zE).s
set_option maxHeartbeats 4000000 in
set_option maxRecDepth 100000 in
theorem near_any (base : Nat) (ot : Nat → Prop) (w : World) (B : Nat) (ev mo : Int) (l : List E) (t : Int) (h : Keep base ot w B ev mo l) (hr : Rising l) (hl : l.length ≤ 1000) (ht : ∀ x ∈ l, tot x.s ≤ 1000) :
    Calls Try.prog 9 #[.pointer (some ⟨B, 0, none⟩), .int .i64 t] w fun e w' => ∃ (i : Nat) (b : Bool), Found l t i b ∧ NearP l i b e w' ∧ Below w.heap.size w w' := by
  have HK1 := Aside0.mk (h.below ((Below.refl w.heap.size w).alloc (Nat.le_refl _) (.cells #[.int .i64 0, .int .i64 0, .int .i64 0, .int .i64 0, .int .u64 0, .slice none 0 0, .slice none 0 0, .slice none 0 0, .slice none 0 0, .slice none 0 0, .string ⟨#[]⟩, .slice none 0 0, .int .u64 0, .slice none 0 0] 38)))
  have HB := Aside0.mk ((Below.refl w.heap.size w).alloc (Nat.le_refl _) (.cells #[.int .i64 0, .int .i64 0, .int .i64 0, .int .i64 0, .int .u64 0, .slice none 0 0, .slice none 0 0, .slice none 0 0, .slice none 0 0, .slice none 0 0, .string ⟨#[]⟩, .slice none 0 0, .int .u64 0, .slice none 0 0] 38))
  have BK := Aside0.mk (blk_new w (.cells #[.int .i64 0, .int .i64 0, .int .i64 0, .int .i64 0, .int .u64 0, .slice none 0 0, .slice none 0 0, .slice none 0 0, .slice none 0 0, .slice none 0 0, .string ⟨#[]⟩, .slice none 0 0, .int .u64 0, .slice none 0 0] 38))
  have HRI := Aside0.mk hr
  have HL := Aside0.mk hl
  have HT := Aside0.mk ht
  clear h hr hl ht
  go_enter Try.func9, Try.ntmps9
  go_upto_region 1 with (fail)
  obtain ⟨g0, hg0⟩ : ∃ z : Nat, z = w.heap.size := ⟨_, rfl⟩
  rw [← hg0] at BK ⊢
  have HG : Aside0 (w.heap.size ≤ g0) := ⟨Nat.le_of_eq hg0.symm⟩
  clear hg0
  generalize w.alloc (.cells #[.int .i64 0, .int .i64 0, .int .i64 0, .int .i64 0, .int .u64 0, .slice none 0 0, .slice none 0 0, .slice none 0 0, .slice none 0 0, .slice none 0 0, .string ⟨#[]⟩, .slice none 0 0, .int .u64 0, .slice none 0 0] 38) = w1 at HK1 HB BK ⊢
  go_wp2_with (go_at_call 17; refine Hold.out ?_)
  refine ⟨?_⟩
  refine (find_any base ot w1 B ev mo l t HK1.out HRI.out HL.out).mono ?_
  rintro e w2 ⟨i, b, rfl, hF, hb⟩
  have HF := Aside0.mk hF
  have HK2 := Aside0.mk (HK1.out.below hb)
  replace HB := Aside0.mk (HB.out.trans (hb.mono HB.out.size))
  replace BK := Aside0.mk (blk_below BK.out hb)
  clear hb HK1
  have hle := hF.le
  cases b with
  | true =>
    have hj : i < l.length := (hF.there.1 rfl).1
    clear hF
    obtain ⟨j, hij⟩ : ∃ j, j = i := ⟨_, rfl⟩
    have HIJ := Aside0.mk hij
    subst hij
    obtain ⟨v, h1, h2, h3, h4, h5, h6, h7⟩ := HK2.out.out
    obtain ⟨A, c, rfl⟩ := Kd.R_slice h3
    have k2 : w2.cell? ⟨B, 2, none⟩ = some (.slice A l.length c) := blk_cell h1 2
    have hq := Kd.R_reads' h3
    have p : (0 : Int) ≤ (j : Int) := Int.natCast_nonneg _
    have hn4 : (j : Int) < (l.length : Int) := by omega
    obtain ⟨ad, rfl, x0, x1, x2, x3, x4, x5, x6, x7, x8, x9, x10, x11, x12, x13, x14⟩ := at_E hq.2.2 _ p hn4
    have hy : rd_E l (j : Int) = l.getD j zE := by unfold rd_E; rw [Int.toNat_natCast]
    have hmem : l.getD j zE ∈ l := by rw [List.getD_eq_getElem?_getD, List.getElem?_eq_getElem hj]; exact List.getElem_mem hj
    rw [Int.toNat_natCast, hy] at x0 x1 x2 x3 x4 x5 x6 x7 x8 x9 x10 x11 x12 x13 x14
    have HSE : Aside0 (SnapC w2 (.agg #[.int .i64 (l.getD j zE).s.f0, .int .i64 (l.getD j zE).s.f1, .int .i64 (l.getD j zE).s.f2, .int .i64 (l.getD j zE).s.f3, .int .u64 (l.getD j zE).s.f4, .slice (l.getD j zE).A5 (l.getD j zE).s.f5.length (l.getD j zE).c5, .slice (l.getD j zE).A6 (l.getD j zE).s.f6.length (l.getD j zE).c6, .slice (l.getD j zE).A7 (l.getD j zE).s.f7.length (l.getD j zE).c7, .slice (l.getD j zE).A8 (l.getD j zE).s.f8.length (l.getD j zE).c8, .slice (l.getD j zE).A9 (l.getD j zE).s.f9.length (l.getD j zE).c9, .string (l.getD j zE).s.f10.f0, .slice (l.getD j zE).A11 (l.getD j zE).s.f10.f1.length (l.getD j zE).c11, .int .u64 (l.getD j zE).s.f10.f2, .slice (l.getD j zE).A13 (l.getD j zE).s.f10.f3.length (l.getD j zE).c13]) (l.getD j zE).s) := ⟨(h7 _ hmem w2 (fun _ _ _ _ _ _ => rfl)).snap⟩
    have HTOT : Aside0 (tot (l.getD j zE).s ≤ 1000) := ⟨HT.out _ hmem⟩
    clear h1 h2 h3 h4 h5 h6 h7 hq hy hmem HK2
    obtain ⟨y, hyy⟩ : ∃ z, z = l.getD j zE := ⟨_, rfl⟩
    have HY := Aside0.mk hyy.symm
    rw [← hyy] at x0 x1 x2 x3 x4 x5 x6 x7 x8 x9 x10 x11 x12 x13 x14 HSE HTOT
    have HJ := Aside0.mk hj
    clear hyy hj
    go_upto_region 6 with (fail)
    refine start_ (n := 20) (S := fun W => Below w2.heap.size w2 W) (ds := [18]) #[false, false, false, false, false, false, false, false, false, false, false, false, false, false, false, false, false, false, false, false] (by kernel_rfl) rfl rfl (below_drew1 (Below.refl _ _)) (fun hHeld => ?_)
    refine pure_ (i := 0) (N := some 22) (v := ?_) (a' := ?_) #[true, false, false, false, false, false, false, false, false, false, false, false, false, false, false, false, false, false, false, false] rfl rfl (by kernel_rfl) (fun _ _ _ h => h) (Or.inl ⟨by rfl, ?_⟩) ?_ ?_
    rotate_left
    · intro w'
      go_simp
      with_reducible rfl
    rotate_left
    · simp only [Act.put, List.setIfInBounds_toArray, List.set_cons_zero, List.set_cons_succ, i64_w, i32_w]
      rfl
    refine pure_ (i := 1) (N := some 23) (v := ?_) (a' := ?_) #[true, true, false, false, false, false, false, false, false, false, false, false, false, false, false, false, false, false, false, false] rfl rfl (by kernel_rfl) (fun _ _ _ h => h) (Or.inl ⟨by rfl, ?_⟩) ?_ ?_
    rotate_left
    · intro w'
      go_simp
      with_reducible rfl
    rotate_left
    · simp only [Act.put, List.setIfInBounds_toArray, List.set_cons_zero, List.set_cons_succ, i64_w, i32_w]
      rfl
    refine pure_ (i := 2) (N := some 24) (v := ?_) (a' := ?_) #[true, true, true, false, false, false, false, false, false, false, false, false, false, false, false, false, false, false, false, false] rfl rfl (by kernel_rfl) (fun _ _ _ h => h) (Or.inl ⟨by rfl, ?_⟩) ?_ ?_
    rotate_left
    · intro w'
      go_simp
      with_reducible rfl
    rotate_left
    · simp only [Act.put, List.setIfInBounds_toArray, List.set_cons_zero, List.set_cons_succ, i64_w, i32_w]
      rfl
    refine take_ (i := 3) (N := some 25) (v := ?_) (a' := ?_) #[true, true, true, true, false, false, false, false, false, false, false, false, false, false, false, false, false, false, false, false] rfl rfl (by kernel_rfl) (fun _ _ _ h => h) (Or.inl ⟨by rfl, ?_⟩) hHeld ?_ ?_
    rotate_left
    · intro w' s0
      have e := pw_cell_below s0 k2
      go_simp
      with_reducible rfl
    rotate_left
    · simp only [Act.put, List.setIfInBounds_toArray, List.set_cons_zero, List.set_cons_succ, i64_w, i32_w]
      rfl
    refine pure_ (i := 4) (N := some 26) (v := ?_) (a' := ?_) #[true, true, true, true, true, false, false, false, false, false, false, false, false, false, false, false, false, false, false, false] rfl rfl (by kernel_rfl) (fun _ _ _ h => h) (Or.inl ⟨by rfl, ?_⟩) ?_ ?_
    rotate_left
    · intro w'
      go_simp
      with_reducible rfl
    rotate_left
    · simp only [Act.put, List.setIfInBounds_toArray, List.set_cons_zero, List.set_cons_succ, i64_w, i32_w]
      rfl
    refine pure_ (i := 5) (N := some 27) (v := ?_) (a' := ?_) #[true, true, true, true, true, true, false, false, false, false, false, false, false, false, false, false, false, false, false, false] rfl rfl (by kernel_rfl) (fun _ _ _ h => h) (Or.inl ⟨by rfl, ?_⟩) ?_ ?_
    rotate_left
    · intro w'
      go_simp
      with_reducible rfl
    rotate_left
    · simp only [Act.put, List.setIfInBounds_toArray, List.set_cons_zero, List.set_cons_succ, i64_w, i32_w]
      rfl
    refine pure_ (i := 6) (N := some 28) (v := ?_) (a' := ?_) #[true, true, true, true, true, true, true, false, false, false, false, false, false, false, false, false, false, false, false, false] rfl rfl (by kernel_rfl) (fun _ _ _ h => h) (Or.inl ⟨by rfl, ?_⟩) ?_ ?_
    rotate_left
    · intro w'
      go_simp
      with_reducible rfl
    rotate_left
    · simp only [Act.put, List.setIfInBounds_toArray, List.set_cons_zero, List.set_cons_succ, i64_w, i32_w]
      rfl
    refine take_ (i := 7) (N := some 29) (v := ?_) (a' := ?_) #[true, true, true, true, true, true, true, true, false, false, false, false, false, false, false, false, false, false, false, false] rfl rfl (by kernel_rfl) (fun _ _ _ h => h) (Or.inl ⟨by rfl, ?_⟩) hHeld ?_ ?_
    rotate_left
    · intro w' s0
      have e := pw_cell_below s0 x0
      go_simp
      with_reducible rfl
    rotate_left
    · simp only [Act.put, List.setIfInBounds_toArray, List.set_cons_zero, List.set_cons_succ, i64_w, i32_w]
      rfl
    refine pure_ (i := 8) (N := some 30) (v := ?_) (a' := ?_) #[true, true, true, true, true, true, true, true, true, false, false, false, false, false, false, false, false, false, false, false] rfl rfl (by kernel_rfl) (fun _ _ _ h => h) (Or.inl ⟨by rfl, ?_⟩) ?_ ?_
    rotate_left
    · intro w'
      go_simp
      with_reducible rfl
    rotate_left
    · simp only [Act.put, List.setIfInBounds_toArray, List.set_cons_zero, List.set_cons_succ, i64_w, i32_w]
      rfl
    refine pure_ (i := 9) (N := some 31) (v := ?_) (a' := ?_) #[true, true, true, true, true, true, true, true, true, true, false, false, false, false, false, false, false, false, false, false] rfl rfl (by kernel_rfl) (fun _ _ _ h => h) (Or.inl ⟨by rfl, ?_⟩) ?_ ?_
    rotate_left
    · intro w'
      go_simp
      with_reducible rfl
    rotate_left
    · simp only [Act.put, List.setIfInBounds_toArray, List.set_cons_zero, List.set_cons_succ, i64_w, i32_w]
      rfl
    refine pure_ (i := 10) (N := some 32) (v := ?_) (a' := ?_) #[true, true, true, true, true, true, true, true, true, true, true, false, false, false, false, false, false, false, false, false] rfl rfl (by kernel_rfl) (fun _ _ _ h => h) (Or.inl ⟨by rfl, ?_⟩) ?_ ?_
    rotate_left
    · intro w'
      go_simp
      with_reducible rfl
    rotate_left
    · simp only [Act.put, List.setIfInBounds_toArray, List.set_cons_zero, List.set_cons_succ, i64_w, i32_w]
      rfl
    refine take_ (i := 11) (N := some 33) (v := ?_) (a' := ?_) #[true, true, true, true, true, true, true, true, true, true, true, true, false, false, false, false, false, false, false, false] rfl rfl (by kernel_rfl) (fun _ _ _ h => h) (Or.inl ⟨by rfl, ?_⟩) hHeld ?_ ?_
    rotate_left
    · intro w' s0
      have e := pw_cell_below s0 k2
      go_simp
      with_reducible rfl
    rotate_left
    · simp only [Act.put, List.setIfInBounds_toArray, List.set_cons_zero, List.set_cons_succ, i64_w, i32_w]
      rfl
    refine pure_ (i := 12) (N := some 34) (v := ?_) (a' := ?_) #[true, true, true, true, true, true, true, true, true, true, true, true, true, false, false, false, false, false, false, false] rfl rfl (by kernel_rfl) (fun _ _ _ h => h) (Or.inl ⟨by rfl, ?_⟩) ?_ ?_
    rotate_left
    · intro w'
      go_simp
      with_reducible rfl
    rotate_left
    · simp only [Act.put, List.setIfInBounds_toArray, List.set_cons_zero, List.set_cons_succ, i64_w, i32_w]
      rfl
    refine pure_ (i := 13) (N := some 35) (v := ?_) (a' := ?_) #[true, true, true, true, true, true, true, true, true, true, true, true, true, true, false, false, false, false, false, false] rfl rfl (by kernel_rfl) (fun _ _ _ h => h) (Or.inl ⟨by rfl, ?_⟩) ?_ ?_
    rotate_left
    · intro w'
      go_simp
      with_reducible rfl
    rotate_left
    · simp only [Act.put, List.setIfInBounds_toArray, List.set_cons_zero, List.set_cons_succ, i64_w, i32_w]
      rfl
    refine pure_ (i := 14) (N := some 36) (v := ?_) (a' := ?_) #[true, true, true, true, true, true, true, true, true, true, true, true, true, true, true, false, false, false, false, false] rfl rfl (by kernel_rfl) (fun _ _ _ h => h) (Or.inl ⟨by rfl, ?_⟩) ?_ ?_
    rotate_left
    · intro w'
      go_simp
      with_reducible rfl
    rotate_left
    · simp only [Act.put, List.setIfInBounds_toArray, List.set_cons_zero, List.set_cons_succ, i64_w, i32_w]
      rfl
    refine take_ (i := 15) (N := some 37) (v := ?_) (a' := ?_) #[true, true, true, true, true, true, true, true, true, true, true, true, true, true, true, true, false, false, false, false] rfl rfl (by kernel_rfl) (fun _ _ _ h => h) (Or.inl ⟨by rfl, ?_⟩) hHeld ?_ ?_
    rotate_left
    · intro w' s0
      have e1 := pw_cell_below s0 x1
      have e2 := pw_cell_below s0 x2
      have e3 := pw_cell_below s0 x3
      have e4 := pw_cell_below s0 x4
      have e5 := pw_cell_below s0 x5
      have e6 := pw_cell_below s0 x6
      have e7 := pw_cell_below s0 x7
      have e8 := pw_cell_below s0 x8
      have e9 := pw_cell_below s0 x9
      have e10 := pw_cell_below s0 x10
      have e11 := pw_cell_below s0 x11
      have e12 := pw_cell_below s0 x12
      have e13 := pw_cell_below s0 x13
      have e14 := pw_cell_below s0 x14
      go_simp
      with_reducible rfl
    rotate_left
    · simp only [Act.put, List.setIfInBounds_toArray, List.set_cons_zero, List.set_cons_succ, i64_w, i32_w]
      rfl
    refine one_ (i := 16) (N := some 38) #[true, true, true, true, true, true, true, true, true, true, true, true, true, true, true, true, true, false, false, false] rfl rfl (by kernel_rfl) (by decide) (fun K hK => ?_)
    refine goes_ Try.func19 (by kernel_rfl) rfl #[.agg #[.int .i64 y.s.f0, .int .i64 y.s.f1, .int .i64 y.s.f2, .int .i64 y.s.f3, .int .u64 y.s.f4, .slice y.A5 y.s.f5.length y.c5, .slice y.A6 y.s.f6.length y.c6, .slice y.A7 y.s.f7.length y.c7, .slice y.A8 y.s.f8.length y.c8, .slice y.A9 y.s.f9.length y.c9, .string y.s.f10.f0, .slice y.A11 y.s.f10.f1.length y.c11, .int .u64 y.s.f10.f2, .slice y.A13 y.s.f10.f3.length y.c13]] (by rfl) rfl rfl (by (try simp only [List.map_toArray, List.map_cons, List.map_nil]); first | done | rfl) ?_
    refine (copy_new _ _ y.s (HSE.out.below hHeld) HTOT.out).mono ?_
    rintro e w3 ⟨v, rfl, hN, hb⟩
    obtain ⟨zy, hz1, hz2, rfl, hz3⟩ := (hN w3 (fun _ _ _ => rfl)).mark 0
    have hB3 := hHeld.trans (hb.mono hHeld.size)
    refine ⟨_, rfl, ?_⟩
    refine hK.out _ _ hB3 (fun hHeld => ?_)
    clear hb
    clear hK K
    refine norm_ (a' := ?_) ?_ ?_
    rotate_left
    · show Act.put _ (some 38) _ = _
      simp only [Act.put, List.setIfInBounds_toArray, List.set_cons_zero, List.set_cons_succ, i64_w, i32_w]
      rfl
    refine pure_ (i := 17) (N := some 4) (v := ?_) (a' := ?_) #[true, true, true, true, true, true, true, true, true, true, true, true, true, true, true, true, true, true, false, false] rfl rfl (by kernel_rfl) (fun _ _ _ h => h) (Or.inl ⟨by rfl, ?_⟩) ?_ ?_
    rotate_left
    · intro w'
      go_simp
      with_reducible rfl
    rotate_left
    · simp only [Act.put, List.setIfInBounds_toArray, List.set_cons_zero, List.set_cons_succ, i64_w, i32_w]
      rfl
    refine last_ (i := 18) (N := none) #[true, true, true, true, true, true, true, true, true, true, true, true, true, true, true, true, true, true, true, false] rfl rfl (by kernel_rfl) (by decide) (fun K hK => ?_)
    have hbk := blk_below BK.out hHeld
    refine skip_ (w1 := w3.setRow g0 #[.int .i64 zy.s.f0, .int .i64 zy.s.f1, .int .i64 zy.s.f2, .int .i64 zy.s.f3, .int .u64 zy.s.f4, .slice zy.A5 zy.s.f5.length zy.c5, .slice zy.A6 zy.s.f6.length zy.c6, .slice zy.A7 zy.s.f7.length zy.c7, .slice zy.A8 zy.s.f8.length zy.c8, .slice zy.A9 zy.s.f9.length zy.c9, .string zy.s.f10.f0, .slice zy.A11 zy.s.f10.f1.length zy.c11, .int .u64 zy.s.f10.f2, .slice zy.A13 zy.s.f10.f3.length zy.c13]) (by rfl) rfl (store_row rfl rfl rfl hbk (by kernel_rfl) rfl (by kernel_rfl)) ?_
    have hR := setRow_heap w3 g0 _ #[.int .i64 zy.s.f0, .int .i64 zy.s.f1, .int .i64 zy.s.f2, .int .i64 zy.s.f3, .int .u64 zy.s.f4, .slice zy.A5 zy.s.f5.length zy.c5, .slice zy.A6 zy.s.f6.length zy.c6, .slice zy.A7 zy.s.f7.length zy.c7, .slice zy.A8 zy.s.f8.length zy.c8, .slice zy.A9 zy.s.f9.length zy.c9, .string zy.s.f10.f0, .slice zy.A11 zy.s.f10.f1.length zy.c11, .int .u64 zy.s.f10.f2, .slice zy.A13 zy.s.f10.f3.length zy.c13] 38 (0, 0) hbk
    refine hK.out _ _ ?_
    clear hK K
    refine pure_ (i := 19) (N := some 6) (v := ?_) (a' := ?_) #[true, true, true, true, true, true, true, true, true, true, true, true, true, true, true, true, true, true, true, true] rfl rfl (by kernel_rfl) (fun _ _ _ h => h) (Or.inl ⟨by rfl, ?_⟩) ?_ ?_
    rotate_left
    · intro w'
      go_simp
      with_reducible rfl
    rotate_left
    · simp only [Act.put, List.setIfInBounds_toArray, List.set_cons_zero, List.set_cons_succ, i64_w, i32_w]
      rfl
    refine done_ (by kernel_rfl) ?_
    have HR := Aside0.mk hR
    have HBF := Aside0.mk (setRow_below (g := g0) (cs := #[.int .i64 zy.s.f0, .int .i64 zy.s.f1, .int .i64 zy.s.f2, .int .i64 zy.s.f3, .int .u64 zy.s.f4, .slice zy.A5 zy.s.f5.length zy.c5, .slice zy.A6 zy.s.f6.length zy.c6, .slice zy.A7 zy.s.f7.length zy.c7, .slice zy.A8 zy.s.f8.length zy.c8, .slice zy.A9 zy.s.f9.length zy.c9, .string zy.s.f10.f0, .slice zy.A11 zy.s.f10.f1.length zy.c11, .int .u64 zy.s.f10.f2, .slice zy.A13 zy.s.f10.f3.length zy.c13]) (HB.out.trans (hHeld.mono HB.out.size)) HG.out)
    have HSN : Aside0 (SnapC (w3.setRow g0 #[.int .i64 zy.s.f0, .int .i64 zy.s.f1, .int .i64 zy.s.f2, .int .i64 zy.s.f3, .int .u64 zy.s.f4, .slice zy.A5 zy.s.f5.length zy.c5, .slice zy.A6 zy.s.f6.length zy.c6, .slice zy.A7 zy.s.f7.length zy.c7, .slice zy.A8 zy.s.f8.length zy.c8, .slice zy.A9 zy.s.f9.length zy.c9, .string zy.s.f10.f0, .slice zy.A11 zy.s.f10.f1.length zy.c11, .int .u64 zy.s.f10.f2, .slice zy.A13 zy.s.f10.f3.length zy.c13]) (.agg #[.int .i64 zy.s.f0, .int .i64 zy.s.f1, .int .i64 zy.s.f2, .int .i64 zy.s.f3, .int .u64 zy.s.f4, .slice zy.A5 zy.s.f5.length zy.c5, .slice zy.A6 zy.s.f6.length zy.c6, .slice zy.A7 zy.s.f7.length zy.c7, .slice zy.A8 zy.s.f8.length zy.c8, .slice zy.A9 zy.s.f9.length zy.c9, .string zy.s.f10.f0, .slice zy.A11 zy.s.f10.f1.length zy.c11, .int .u64 zy.s.f10.f2, .slice zy.A13 zy.s.f10.f3.length zy.c13]) y.s) := ⟨by
      have h8 := blk_lt BK.out
      have h9 : w2.drew.heap.size = w2.heap.size := rfl
      exact hN _ (fun k hk hlt => (setRow_far w3 (by omega)).symm)⟩
    generalize w3.setRow g0 #[.int .i64 zy.s.f0, .int .i64 zy.s.f1, .int .i64 zy.s.f2, .int .i64 zy.s.f3, .int .u64 zy.s.f4, .slice zy.A5 zy.s.f5.length zy.c5, .slice zy.A6 zy.s.f6.length zy.c6, .slice zy.A7 zy.s.f7.length zy.c7, .slice zy.A8 zy.s.f8.length zy.c8, .slice zy.A9 zy.s.f9.length zy.c9, .string zy.s.f10.f0, .slice zy.A11 zy.s.f10.f1.length zy.c11, .int .u64 zy.s.f10.f2, .slice zy.A13 zy.s.f10.f3.length zy.c13] = w4 at HR HBF HSN ⊢
    go_wp2
    refine bodyPost_ret (results_tct rfl _ _ g0 38 _ (0, 0) _ rfl HR.out Try.underlying38 rfl (by kernel_rfl)) rfl ?_
    exact ⟨j, true, HF.out, ⟨.inr ⟨j, _, HJ.out, .inl ⟨rfl, rfl⟩, by rw [HY.out]; rfl, by rw [HY.out]; exact HSN.out⟩⟩, HBF.out⟩
  | false =>
    clear hF
    by_cases hi0 : i = 0
    · have HI0 := Aside0.mk hi0
      subst hi0
      clear hle HK2
      go_wp2_with ((with_reducible refine gate_store (t := 38) (p := 5) (v := .tmp 21) rfl ?_); refine Hold.out ?_)
      refine ⟨?_⟩
      refine store_rowL (g := g0) (c' := #[.int .i64 0, .int .i64 0, .int .i64 0, .int .i64 0, .int .u64 0, .slice none 0 0, .slice none 0 0, .slice none 0 0, .slice none 0 0, .slice none 0 0, .string ⟨#[]⟩, .slice none 0 0, .int .u64 0, .slice none 0 0]) rfl rfl rfl rfl rfl BK.out (by kernel_rfl) rfl (by kernel_rfl) ?_
      have HR := Aside0.mk (setRow_heap w2 g0 _ #[.int .i64 0, .int .i64 0, .int .i64 0, .int .i64 0, .int .u64 0, .slice none 0 0, .slice none 0 0, .slice none 0 0, .slice none 0 0, .slice none 0 0, .string ⟨#[]⟩, .slice none 0 0, .int .u64 0, .slice none 0 0] 38 (0, 0) BK.out)
      have HBF := Aside0.mk (setRow_below (g := g0) (cs := #[.int .i64 0, .int .i64 0, .int .i64 0, .int .i64 0, .int .u64 0, .slice none 0 0, .slice none 0 0, .slice none 0 0, .slice none 0 0, .slice none 0 0, .string ⟨#[]⟩, .slice none 0 0, .int .u64 0, .slice none 0 0]) HB.out HG.out)
      generalize w2.setRow g0 #[.int .i64 0, .int .i64 0, .int .i64 0, .int .i64 0, .int .u64 0, .slice none 0 0, .slice none 0 0, .slice none 0 0, .slice none 0 0, .slice none 0 0, .string ⟨#[]⟩, .slice none 0 0, .int .u64 0, .slice none 0 0] = w4 at HR HBF ⊢
      go_wp2
      refine bodyPost_ret (results_tct rfl _ _ g0 38 _ (0, 0) _ rfl HR.out Try.underlying38 rfl (by kernel_rfl)) rfl ?_
      exact ⟨0, false, HF.out, ⟨.inl ⟨rfl, rfl, rfl⟩⟩, HBF.out⟩
    · obtain ⟨j, hij⟩ : ∃ j, i = j + 1 := ⟨i - 1, by omega⟩
      have hj : j < l.length := by omega
      have hw : IntKind.i64.wrap ((i : Int) - 1) = (j : Int) := by have := HL.out; rw [IntKind.wrap_i64]; omega
      have hjn : ¬ ((j : Int) < 0) := by omega
      have HIJ := Aside0.mk hij
      clear hij hi0 hle
      obtain ⟨v, h1, h2, h3, h4, h5, h6, h7⟩ := HK2.out.out
      obtain ⟨A, c, rfl⟩ := Kd.R_slice h3
      have k2 : w2.cell? ⟨B, 2, none⟩ = some (.slice A l.length c) := blk_cell h1 2
      have hq := Kd.R_reads' h3
      have p : (0 : Int) ≤ (j : Int) := Int.natCast_nonneg _
      have hn4 : (j : Int) < (l.length : Int) := by omega
      obtain ⟨ad, rfl, x0, x1, x2, x3, x4, x5, x6, x7, x8, x9, x10, x11, x12, x13, x14⟩ := at_E hq.2.2 _ p hn4
      have hy : rd_E l (j : Int) = l.getD j zE := by unfold rd_E; rw [Int.toNat_natCast]
      have hmem : l.getD j zE ∈ l := by rw [List.getD_eq_getElem?_getD, List.getElem?_eq_getElem hj]; exact List.getElem_mem hj
      rw [Int.toNat_natCast, hy] at x0 x1 x2 x3 x4 x5 x6 x7 x8 x9 x10 x11 x12 x13 x14
      have HSE : Aside0 (SnapC w2 (.agg #[.int .i64 (l.getD j zE).s.f0, .int .i64 (l.getD j zE).s.f1, .int .i64 (l.getD j zE).s.f2, .int .i64 (l.getD j zE).s.f3, .int .u64 (l.getD j zE).s.f4, .slice (l.getD j zE).A5 (l.getD j zE).s.f5.length (l.getD j zE).c5, .slice (l.getD j zE).A6 (l.getD j zE).s.f6.length (l.getD j zE).c6, .slice (l.getD j zE).A7 (l.getD j zE).s.f7.length (l.getD j zE).c7, .slice (l.getD j zE).A8 (l.getD j zE).s.f8.length (l.getD j zE).c8, .slice (l.getD j zE).A9 (l.getD j zE).s.f9.length (l.getD j zE).c9, .string (l.getD j zE).s.f10.f0, .slice (l.getD j zE).A11 (l.getD j zE).s.f10.f1.length (l.getD j zE).c11, .int .u64 (l.getD j zE).s.f10.f2, .slice (l.getD j zE).A13 (l.getD j zE).s.f10.f3.length (l.getD j zE).c13]) (l.getD j zE).s) := ⟨(h7 _ hmem w2 (fun _ _ _ _ _ _ => rfl)).snap⟩
      have HTOT : Aside0 (tot (l.getD j zE).s ≤ 1000) := ⟨HT.out _ hmem⟩
      clear h1 h2 h3 h4 h5 h6 h7 hq hy hmem HK2
      obtain ⟨y, hyy⟩ : ∃ z, z = l.getD j zE := ⟨_, rfl⟩
      have HY := Aside0.mk hyy.symm
      rw [← hyy] at x0 x1 x2 x3 x4 x5 x6 x7 x8 x9 x10 x11 x12 x13 x14 HSE HTOT
      have HJ := Aside0.mk hj
      clear hyy hj
      go_upto_region 6 with (fail)
      refine start_ (n := 20) (S := fun W => Below w2.heap.size w2 W) (ds := [18]) #[false, false, false, false, false, false, false, false, false, false, false, false, false, false, false, false, false, false, false, false] (by kernel_rfl) rfl rfl (below_drew1 (Below.refl _ _)) (fun hHeld => ?_)
      refine pure_ (i := 0) (N := some 22) (v := ?_) (a' := ?_) #[true, false, false, false, false, false, false, false, false, false, false, false, false, false, false, false, false, false, false, false] rfl rfl (by kernel_rfl) (fun _ _ _ h => h) (Or.inl ⟨by rfl, ?_⟩) ?_ ?_
      rotate_left
      · intro w'
        go_simp
        with_reducible rfl
      rotate_left
      · simp only [Act.put, List.setIfInBounds_toArray, List.set_cons_zero, List.set_cons_succ, i64_w, i32_w]
        rfl
      refine pure_ (i := 1) (N := some 23) (v := ?_) (a' := ?_) #[true, true, false, false, false, false, false, false, false, false, false, false, false, false, false, false, false, false, false, false] rfl rfl (by kernel_rfl) (fun _ _ _ h => h) (Or.inl ⟨by rfl, ?_⟩) ?_ ?_
      rotate_left
      · intro w'
        go_simp
        with_reducible rfl
      rotate_left
      · simp only [Act.put, List.setIfInBounds_toArray, List.set_cons_zero, List.set_cons_succ, i64_w, i32_w]
        rfl
      refine pure_ (i := 2) (N := some 24) (v := ?_) (a' := ?_) #[true, true, true, false, false, false, false, false, false, false, false, false, false, false, false, false, false, false, false, false] rfl rfl (by kernel_rfl) (fun _ _ _ h => h) (Or.inl ⟨by rfl, ?_⟩) ?_ ?_
      rotate_left
      · intro w'
        go_simp
        with_reducible rfl
      rotate_left
      · simp only [Act.put, List.setIfInBounds_toArray, List.set_cons_zero, List.set_cons_succ, i64_w, i32_w]
        rfl
      refine take_ (i := 3) (N := some 25) (v := ?_) (a' := ?_) #[true, true, true, true, false, false, false, false, false, false, false, false, false, false, false, false, false, false, false, false] rfl rfl (by kernel_rfl) (fun _ _ _ h => h) (Or.inl ⟨by rfl, ?_⟩) hHeld ?_ ?_
      rotate_left
      · intro w' s0
        have e := pw_cell_below s0 k2
        go_simp
        with_reducible rfl
      rotate_left
      · simp only [Act.put, List.setIfInBounds_toArray, List.set_cons_zero, List.set_cons_succ, i64_w, i32_w]
        rfl
      refine pure_ (i := 4) (N := some 26) (v := ?_) (a' := ?_) #[true, true, true, true, true, false, false, false, false, false, false, false, false, false, false, false, false, false, false, false] rfl rfl (by kernel_rfl) (fun _ _ _ h => h) (Or.inl ⟨by rfl, ?_⟩) ?_ ?_
      rotate_left
      · intro w'
        go_simp
        with_reducible rfl
      rotate_left
      · simp only [Act.put, List.setIfInBounds_toArray, List.set_cons_zero, List.set_cons_succ, i64_w, i32_w]
        rfl
      refine pure_ (i := 5) (N := some 27) (v := ?_) (a' := ?_) #[true, true, true, true, true, true, false, false, false, false, false, false, false, false, false, false, false, false, false, false] rfl rfl (by kernel_rfl) (fun _ _ _ h => h) (Or.inl ⟨by rfl, ?_⟩) ?_ ?_
      rotate_left
      · intro w'
        go_simp
        with_reducible rfl
      rotate_left
      · simp only [Act.put, List.setIfInBounds_toArray, List.set_cons_zero, List.set_cons_succ, i64_w, i32_w]
        rfl
      refine pure_ (i := 6) (N := some 28) (v := ?_) (a' := ?_) #[true, true, true, true, true, true, true, false, false, false, false, false, false, false, false, false, false, false, false, false] rfl rfl (by kernel_rfl) (fun _ _ _ h => h) (Or.inl ⟨by rfl, ?_⟩) ?_ ?_
      rotate_left
      · intro w'
        go_simp
        with_reducible rfl
      rotate_left
      · simp only [Act.put, List.setIfInBounds_toArray, List.set_cons_zero, List.set_cons_succ, i64_w, i32_w]
        rfl
      refine take_ (i := 7) (N := some 29) (v := ?_) (a' := ?_) #[true, true, true, true, true, true, true, true, false, false, false, false, false, false, false, false, false, false, false, false] rfl rfl (by kernel_rfl) (fun _ _ _ h => h) (Or.inl ⟨by rfl, ?_⟩) hHeld ?_ ?_
      rotate_left
      · intro w' s0
        have e := pw_cell_below s0 x0
        go_simp
        with_reducible rfl
      rotate_left
      · simp only [Act.put, List.setIfInBounds_toArray, List.set_cons_zero, List.set_cons_succ, i64_w, i32_w]
        rfl
      refine pure_ (i := 8) (N := some 30) (v := ?_) (a' := ?_) #[true, true, true, true, true, true, true, true, true, false, false, false, false, false, false, false, false, false, false, false] rfl rfl (by kernel_rfl) (fun _ _ _ h => h) (Or.inl ⟨by rfl, ?_⟩) ?_ ?_
      rotate_left
      · intro w'
        go_simp
        with_reducible rfl
      rotate_left
      · simp only [Act.put, List.setIfInBounds_toArray, List.set_cons_zero, List.set_cons_succ, i64_w, i32_w]
        rfl
      refine pure_ (i := 9) (N := some 31) (v := ?_) (a' := ?_) #[true, true, true, true, true, true, true, true, true, true, false, false, false, false, false, false, false, false, false, false] rfl rfl (by kernel_rfl) (fun _ _ _ h => h) (Or.inl ⟨by rfl, ?_⟩) ?_ ?_
      rotate_left
      · intro w'
        go_simp
        with_reducible rfl
      rotate_left
      · simp only [Act.put, List.setIfInBounds_toArray, List.set_cons_zero, List.set_cons_succ, i64_w, i32_w]
        rfl
      refine pure_ (i := 10) (N := some 32) (v := ?_) (a' := ?_) #[true, true, true, true, true, true, true, true, true, true, true, false, false, false, false, false, false, false, false, false] rfl rfl (by kernel_rfl) (fun _ _ _ h => h) (Or.inl ⟨by rfl, ?_⟩) ?_ ?_
      rotate_left
      · intro w'
        go_simp
        with_reducible rfl
      rotate_left
      · simp only [Act.put, List.setIfInBounds_toArray, List.set_cons_zero, List.set_cons_succ, i64_w, i32_w]
        rfl
      refine take_ (i := 11) (N := some 33) (v := ?_) (a' := ?_) #[true, true, true, true, true, true, true, true, true, true, true, true, false, false, false, false, false, false, false, false] rfl rfl (by kernel_rfl) (fun _ _ _ h => h) (Or.inl ⟨by rfl, ?_⟩) hHeld ?_ ?_
      rotate_left
      · intro w' s0
        have e := pw_cell_below s0 k2
        go_simp
        with_reducible rfl
      rotate_left
      · simp only [Act.put, List.setIfInBounds_toArray, List.set_cons_zero, List.set_cons_succ, i64_w, i32_w]
        rfl
      refine pure_ (i := 12) (N := some 34) (v := ?_) (a' := ?_) #[true, true, true, true, true, true, true, true, true, true, true, true, true, false, false, false, false, false, false, false] rfl rfl (by kernel_rfl) (fun _ _ _ h => h) (Or.inl ⟨by rfl, ?_⟩) ?_ ?_
      rotate_left
      · intro w'
        go_simp
        with_reducible rfl
      rotate_left
      · simp only [Act.put, List.setIfInBounds_toArray, List.set_cons_zero, List.set_cons_succ, i64_w, i32_w]
        rfl
      refine pure_ (i := 13) (N := some 35) (v := ?_) (a' := ?_) #[true, true, true, true, true, true, true, true, true, true, true, true, true, true, false, false, false, false, false, false] rfl rfl (by kernel_rfl) (fun _ _ _ h => h) (Or.inl ⟨by rfl, ?_⟩) ?_ ?_
      rotate_left
      · intro w'
        go_simp
        with_reducible rfl
      rotate_left
      · simp only [Act.put, List.setIfInBounds_toArray, List.set_cons_zero, List.set_cons_succ, i64_w, i32_w]
        rfl
      refine pure_ (i := 14) (N := some 36) (v := ?_) (a' := ?_) #[true, true, true, true, true, true, true, true, true, true, true, true, true, true, true, false, false, false, false, false] rfl rfl (by kernel_rfl) (fun _ _ _ h => h) (Or.inl ⟨by rfl, ?_⟩) ?_ ?_
      rotate_left
      · intro w'
        go_simp
        with_reducible rfl
      rotate_left
      · simp only [Act.put, List.setIfInBounds_toArray, List.set_cons_zero, List.set_cons_succ, i64_w, i32_w]
        rfl
      refine take_ (i := 15) (N := some 37) (v := ?_) (a' := ?_) #[true, true, true, true, true, true, true, true, true, true, true, true, true, true, true, true, false, false, false, false] rfl rfl (by kernel_rfl) (fun _ _ _ h => h) (Or.inl ⟨by rfl, ?_⟩) hHeld ?_ ?_
      rotate_left
      · intro w' s0
        have e1 := pw_cell_below s0 x1
        have e2 := pw_cell_below s0 x2
        have e3 := pw_cell_below s0 x3
        have e4 := pw_cell_below s0 x4
        have e5 := pw_cell_below s0 x5
        have e6 := pw_cell_below s0 x6
        have e7 := pw_cell_below s0 x7
        have e8 := pw_cell_below s0 x8
        have e9 := pw_cell_below s0 x9
        have e10 := pw_cell_below s0 x10
        have e11 := pw_cell_below s0 x11
        have e12 := pw_cell_below s0 x12
        have e13 := pw_cell_below s0 x13
        have e14 := pw_cell_below s0 x14
        go_simp
        with_reducible rfl
      rotate_left
      · simp only [Act.put, List.setIfInBounds_toArray, List.set_cons_zero, List.set_cons_succ, i64_w, i32_w]
        rfl
      refine one_ (i := 16) (N := some 38) #[true, true, true, true, true, true, true, true, true, true, true, true, true, true, true, true, true, false, false, false] rfl rfl (by kernel_rfl) (by decide) (fun K hK => ?_)
      refine goes_ Try.func19 (by kernel_rfl) rfl #[.agg #[.int .i64 y.s.f0, .int .i64 y.s.f1, .int .i64 y.s.f2, .int .i64 y.s.f3, .int .u64 y.s.f4, .slice y.A5 y.s.f5.length y.c5, .slice y.A6 y.s.f6.length y.c6, .slice y.A7 y.s.f7.length y.c7, .slice y.A8 y.s.f8.length y.c8, .slice y.A9 y.s.f9.length y.c9, .string y.s.f10.f0, .slice y.A11 y.s.f10.f1.length y.c11, .int .u64 y.s.f10.f2, .slice y.A13 y.s.f10.f3.length y.c13]] (by rfl) rfl rfl (by (try simp only [List.map_toArray, List.map_cons, List.map_nil]); first | done | rfl) ?_
      refine (copy_new _ _ y.s (HSE.out.below hHeld) HTOT.out).mono ?_
      rintro e w3 ⟨v, rfl, hN, hb⟩
      obtain ⟨zy, hz1, hz2, rfl, hz3⟩ := (hN w3 (fun _ _ _ => rfl)).mark 0
      have hB3 := hHeld.trans (hb.mono hHeld.size)
      refine ⟨_, rfl, ?_⟩
      refine hK.out _ _ hB3 (fun hHeld => ?_)
      clear hb
      clear hK K
      refine norm_ (a' := ?_) ?_ ?_
      rotate_left
      · show Act.put _ (some 38) _ = _
        simp only [Act.put, List.setIfInBounds_toArray, List.set_cons_zero, List.set_cons_succ, i64_w, i32_w]
        rfl
      refine pure_ (i := 17) (N := some 4) (v := ?_) (a' := ?_) #[true, true, true, true, true, true, true, true, true, true, true, true, true, true, true, true, true, true, false, false] rfl rfl (by kernel_rfl) (fun _ _ _ h => h) (Or.inl ⟨by rfl, ?_⟩) ?_ ?_
      rotate_left
      · intro w'
        go_simp
        with_reducible rfl
      rotate_left
      · simp only [Act.put, List.setIfInBounds_toArray, List.set_cons_zero, List.set_cons_succ, i64_w, i32_w]
        rfl
      refine last_ (i := 18) (N := none) #[true, true, true, true, true, true, true, true, true, true, true, true, true, true, true, true, true, true, true, false] rfl rfl (by kernel_rfl) (by decide) (fun K hK => ?_)
      have hbk := blk_below BK.out hHeld
      refine skip_ (w1 := w3.setRow g0 #[.int .i64 zy.s.f0, .int .i64 zy.s.f1, .int .i64 zy.s.f2, .int .i64 zy.s.f3, .int .u64 zy.s.f4, .slice zy.A5 zy.s.f5.length zy.c5, .slice zy.A6 zy.s.f6.length zy.c6, .slice zy.A7 zy.s.f7.length zy.c7, .slice zy.A8 zy.s.f8.length zy.c8, .slice zy.A9 zy.s.f9.length zy.c9, .string zy.s.f10.f0, .slice zy.A11 zy.s.f10.f1.length zy.c11, .int .u64 zy.s.f10.f2, .slice zy.A13 zy.s.f10.f3.length zy.c13]) (by rfl) rfl (store_row rfl rfl rfl hbk (by kernel_rfl) rfl (by kernel_rfl)) ?_
      have hR := setRow_heap w3 g0 _ #[.int .i64 zy.s.f0, .int .i64 zy.s.f1, .int .i64 zy.s.f2, .int .i64 zy.s.f3, .int .u64 zy.s.f4, .slice zy.A5 zy.s.f5.length zy.c5, .slice zy.A6 zy.s.f6.length zy.c6, .slice zy.A7 zy.s.f7.length zy.c7, .slice zy.A8 zy.s.f8.length zy.c8, .slice zy.A9 zy.s.f9.length zy.c9, .string zy.s.f10.f0, .slice zy.A11 zy.s.f10.f1.length zy.c11, .int .u64 zy.s.f10.f2, .slice zy.A13 zy.s.f10.f3.length zy.c13] 38 (0, 0) hbk
      refine hK.out _ _ ?_
      clear hK K
      refine pure_ (i := 19) (N := some 6) (v := ?_) (a' := ?_) #[true, true, true, true, true, true, true, true, true, true, true, true, true, true, true, true, true, true, true, true] rfl rfl (by kernel_rfl) (fun _ _ _ h => h) (Or.inl ⟨by rfl, ?_⟩) ?_ ?_
      rotate_left
      · intro w'
        go_simp
        with_reducible rfl
      rotate_left
      · simp only [Act.put, List.setIfInBounds_toArray, List.set_cons_zero, List.set_cons_succ, i64_w, i32_w]
        rfl
      refine done_ (by kernel_rfl) ?_
      have HR := Aside0.mk hR
      have HBF := Aside0.mk (setRow_below (g := g0) (cs := #[.int .i64 zy.s.f0, .int .i64 zy.s.f1, .int .i64 zy.s.f2, .int .i64 zy.s.f3, .int .u64 zy.s.f4, .slice zy.A5 zy.s.f5.length zy.c5, .slice zy.A6 zy.s.f6.length zy.c6, .slice zy.A7 zy.s.f7.length zy.c7, .slice zy.A8 zy.s.f8.length zy.c8, .slice zy.A9 zy.s.f9.length zy.c9, .string zy.s.f10.f0, .slice zy.A11 zy.s.f10.f1.length zy.c11, .int .u64 zy.s.f10.f2, .slice zy.A13 zy.s.f10.f3.length zy.c13]) (HB.out.trans (hHeld.mono HB.out.size)) HG.out)
      have HSN : Aside0 (SnapC (w3.setRow g0 #[.int .i64 zy.s.f0, .int .i64 zy.s.f1, .int .i64 zy.s.f2, .int .i64 zy.s.f3, .int .u64 zy.s.f4, .slice zy.A5 zy.s.f5.length zy.c5, .slice zy.A6 zy.s.f6.length zy.c6, .slice zy.A7 zy.s.f7.length zy.c7, .slice zy.A8 zy.s.f8.length zy.c8, .slice zy.A9 zy.s.f9.length zy.c9, .string zy.s.f10.f0, .slice zy.A11 zy.s.f10.f1.length zy.c11, .int .u64 zy.s.f10.f2, .slice zy.A13 zy.s.f10.f3.length zy.c13]) (.agg #[.int .i64 zy.s.f0, .int .i64 zy.s.f1, .int .i64 zy.s.f2, .int .i64 zy.s.f3, .int .u64 zy.s.f4, .slice zy.A5 zy.s.f5.length zy.c5, .slice zy.A6 zy.s.f6.length zy.c6, .slice zy.A7 zy.s.f7.length zy.c7, .slice zy.A8 zy.s.f8.length zy.c8, .slice zy.A9 zy.s.f9.length zy.c9, .string zy.s.f10.f0, .slice zy.A11 zy.s.f10.f1.length zy.c11, .int .u64 zy.s.f10.f2, .slice zy.A13 zy.s.f10.f3.length zy.c13]) y.s) := ⟨by
        have h8 := blk_lt BK.out
        have h9 : w2.drew.heap.size = w2.heap.size := rfl
        exact hN _ (fun k hk hlt => (setRow_far w3 (by omega)).symm)⟩
      generalize w3.setRow g0 #[.int .i64 zy.s.f0, .int .i64 zy.s.f1, .int .i64 zy.s.f2, .int .i64 zy.s.f3, .int .u64 zy.s.f4, .slice zy.A5 zy.s.f5.length zy.c5, .slice zy.A6 zy.s.f6.length zy.c6, .slice zy.A7 zy.s.f7.length zy.c7, .slice zy.A8 zy.s.f8.length zy.c8, .slice zy.A9 zy.s.f9.length zy.c9, .string zy.s.f10.f0, .slice zy.A11 zy.s.f10.f1.length zy.c11, .int .u64 zy.s.f10.f2, .slice zy.A13 zy.s.f10.f3.length zy.c13] = w4 at HR HBF HSN ⊢
      go_wp2
      refine bodyPost_ret (results_tct rfl _ _ g0 38 _ (0, 0) _ rfl HR.out Try.underlying38 rfl (by kernel_rfl)) rfl ?_
      exact ⟨i, false, HF.out, ⟨.inr ⟨j, _, HJ.out, .inr ⟨rfl, HIJ.out⟩, by rw [HY.out]; rfl, by rw [HY.out]; exact HSN.out⟩⟩, HBF.out⟩
end Go.Proofs.Ythadibmgahlpfaa.MD
