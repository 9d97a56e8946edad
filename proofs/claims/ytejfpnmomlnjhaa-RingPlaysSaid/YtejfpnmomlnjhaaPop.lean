/- The ring's Pop and Clear, walked: what they do to a ring's memory, said of the list that it holds. -/
import Derived.Test.YtejfpnmomlnjhaaRingI
import Derived.Laws.IdiomCopy
namespace Go.Proofs.Ytejfpnmomlnjhaa.RI
open Go.RowKit Go.Proofs.YtejfpnmomlnjhaaW.PrintWords Go.Proofs.Ytejfpnmomlnjhaa.Plain
set_option linter.unusedVariables false
set_option linter.unusedSimpArgs false

set_option maxHeartbeats 1000000 in
theorem pop_none (w : World) (b g m f : Nat) (buf : List Int) (h : At w b g m f 0 buf) :
    Calls Try.prog 13 #[.pointer (some ⟨b, 0, none⟩)] w fun e w' => e = .returned (.tuple #[.int .i64 0, .bool false]) ∧ w = w' := by
  have hc2 := h.c2
  clear h
  go_enter Try.func13, Try.ntmps13
  go_wp2
  go_ret2
  exact ⟨rfl, rfl⟩

set_option maxHeartbeats 2000000 in
theorem pop_some (w : World) (b g m f n : Nat) (buf : List Int) (h : At w b g m f n buf) (hn : 0 < n) :
    Calls Try.prog 13 #[.pointer (some ⟨b, 0, none⟩)] w fun e w' => e = .returned (.tuple #[.int .i64 ((con 0 m f n buf).getD (n - 1) 0), .bool true]) ∧
      (∃ buf', At w' b g m f (n - 1) buf' ∧ con 0 m f (n - 1) buf' = (con 0 m f n buf).take (n - 1)) ∧ Others b g w w' := by
  have h64 := h.m64
  have hnm := h.nm
  have hf : f < m := by rcases h.fm with h1 | h1 <;> omega
  have hl := pl_lt (i := n - 1) hf (by omega)
  have e : (con 0 m f n buf).getD (n - 1) 0 = buf.getD (pl m f (n - 1)) 0 := con_getD (by omega)
  rw [e, ← con_take (n - 1) (by omega)]
  have hcp := con_pop (d := (0 : Int)) (x := 0) (buf := buf) hf (by omega : n - 1 < m)
  rw [← hcp]
  clear e hcp
  have h1 := h.setN (n' := n - 1) (by omega)
  have e1 : ((n - 1 : Nat) : Int) = (n : Int) - 1 := by omega
  rw [e1] at h1
  have h2 := fun W (hw : At W b g m f (n - 1) buf) => place_any W b g m f (n - 1) buf ((n : Int) - 1) hw (by omega) (by omega) (by omega)
  rw [show ((n : Int) - 1).toNat = n - 1 by omega] at h2
  have h3 := fun W (hw : At W b g m f (n - 1) buf) => hw.setB hl 0
  have hcell := h.cg _ hl
  have hz := h.zg _ hl
  have hc0 := h.c0
  have hc2 := h.c2
  have hz2 := h.z2
  have hgb := h.ne
  have hgb' := Ne.symm h.ne
  generalize buf.set (pl m f (n - 1)) 0 = buf2 at h3 ⊢
  generalize buf.getD (pl m f (n - 1)) 0 = x at hcell ⊢
  generalize pl m f (n - 1) = q at h2 h3 hl hcell hz
  have hb0 : ((n : Int) == 0) = false := by rw [beq_eq_false_iff_ne]; omega
  have s1 : IntKind.i64.wrap ((n : Int) - 1) = (n : Int) - 1 := by rw [IntKind.wrap_i64]; omega
  have H1 := Lib.hid h1
  have H2 := Lib.hid h2
  have H3 := Lib.hid h3
  clear h1 h2 h3 h e1
  go_enter Try.func13, Try.ntmps13
  go_wp2_with (first | (go_at_call 21; refine (H2.out _ H1.out).mono ?_; rintro e w' ⟨rfl, ⟨⟨nd, rfl⟩⟩⟩))
  go_ret2
  refine ⟨rfl, ⟨buf2, H3.out _ (H1.out.drewN nd), rfl⟩, ?_⟩
  exact ((((Others.refl b g w).setCell (p := ⟨b, 2, none⟩) (Or.inl rfl) _).drewN nd).setCell (p := ⟨g, q, none⟩) (Or.inr rfl) _)

theorem Others.setCells {b g : Nat} {a w : World} (h : Others b g a w) (vs : List Value) (o : Nat) : Others b g a (w.setCells g o vs) := by
  induction vs generalizing o w with
  | nil => exact h
  | cons v vs ih => exact ih (h.setCell (p := ⟨g, o, none⟩) (Or.inr rfl) v) (o + 1)

theorem At.clearB {w : World} {b g m f n : Nat} {buf : List Int} (h : At w b g m f n buf) : At (w.setCells g 0 (List.replicate m (.int .i64 0))) b g m f n (List.replicate m 0) := by
  have hb : ∀ i, (w.setCells g 0 (List.replicate m (Value.int .i64 0))).cell? ⟨b, i, none⟩ = w.cell? ⟨b, i, none⟩ := fun i =>
    World.cell?_setCells_out g _ 0 w ⟨b, i, none⟩ (fun e => absurd e.symm h.ne)
  have hsz : w.heap.size ≤ (w.setCells g 0 (List.replicate m (Value.int .i64 0))).heap.size := ((Others.refl b g w).setCells _ _).size
  refine ⟨by simp, h.m64, h.nm, h.fm, h.ne, (hb 0).trans h.c0, (hb 1).trans h.c1, (hb 2).trans h.c2, ?_, ?_, fun j hj => ?_, fun j hj => ?_, Nat.lt_of_lt_of_le h.lb hsz, Nat.lt_of_lt_of_le h.lg hsz⟩
  · rw [World.frozen?_setCells]; exact h.z1
  · rw [World.frozen?_setCells]; exact h.z2
  · have := World.cell?_setCells_in g (List.replicate m (Value.int .i64 0)) 0 w (fun j hj => by rw [Nat.zero_add, h.cg j (by simpa using hj)]; rfl) j (by simpa using hj)
    rw [Nat.zero_add] at this
    rw [this]
    simp [List.getD_eq_getElem?_getD, hj]
  · rw [World.frozen?_setCells]; exact h.zg j hj

theorem zero3 (w : World) : (zeroValue 3).run Try.prog w = .ok (.int .i64 0) w := by kernel_rfl
theorem clear_run (w : World) (b g m f n : Nat) (buf : List Int) (T : TypeId) (h : At w b g m f n buf) :
    (Builtin.clear_ #[22] T #[.slice (some ⟨g, 0, none⟩) m m]).run Try.prog w = .ok (.tuple #[]) (w.setCells g 0 (List.replicate m (.int .i64 0))) := by
  have hst := run_storeCells_cells (P := Try.prog) g 0 (List.replicate m (Value.int .i64 0)) 0 w
    (fun j hj => by rw [show 0 + 0 + j = j by omega, h.cg j (by simpa using hj)]; rfl) (fun j hj => by rw [show 0 + 0 + j = j by omega]; exact h.zg j (by simpa using hj))
    (fun v hv => by rw [List.eq_of_mem_replicate hv]; rfl)
  cases m with
  | zero => simp [Builtin.clear_, run_underlying Try.underlying22, Result.andThen]; rfl
  | succ m =>
    have hzc : (Builtin.zeroCells (Value.int IntKind.i64 0).cells (m + 1)).toList = List.replicate (m + 1) (Value.int .i64 0) := by
      simp [Builtin.zeroCells, Value.cells, Nat.mod_one, List.map_const']
    simp [Builtin.clear_, run_underlying Try.underlying22, zero3, Result.andThen, hzc, hst]

set_option maxHeartbeats 1000000 in
theorem clear_any (w : World) (b g m f n : Nat) (buf : List Int) (h : At w b g m f n buf) :
    Calls Try.prog 14 #[.pointer (some ⟨b, 0, none⟩)] w fun e w' => e = .returned (.tuple #[]) ∧ (∃ buf', At w' b g m 0 0 buf') ∧ Others b g w w' := by
  have hrun := fun T => clear_run w b g m f n buf T h
  have h1 := h.clearB
  have ho := (Others.refl b g w).setCells (List.replicate m (.int .i64 0)) 0
  have hc0 := h.c0
  generalize w.setCells g 0 (List.replicate m (.int .i64 0)) = w1 at hrun h1 ho
  have h2 := (h1.setF (f' := 0) (Or.inr rfl)).setN (n' := 0) (Nat.zero_le _)
  have ho2 := (ho.setCell (p := ⟨b, 1, none⟩) (Or.inl rfl) (.int .i64 0)).setCell (p := ⟨b, 2, none⟩) (Or.inl rfl) (.int .i64 0)
  have hc1 := h1.c1
  have hc2 := h1.c2
  have hz1 := h1.z1
  have hz2 := h1.z2
  have H2 := Lib.hid h2
  clear h h1 ho h2
  go_enter Try.func14, Try.ntmps14
  go_wp2
  go_end0
  exact ⟨rfl, ⟨_, H2.out⟩, ho2⟩
end Go.Proofs.Ytejfpnmomlnjhaa.RI
