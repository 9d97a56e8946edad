/- The keeper's state: its block, a row of marks of its own, and snapshots that read whatever else changes. -/
import Derived.Test.YthadibmgahlpfaaKDelF
import Derived.Test.YthadibmgahlpfaaKDel1
import Derived.Test.YthadibmgahlpfaaMCkptPlaysx1
namespace Go.Proofs.Ythadibmgahlpfaa.MD
open Go Go.RowKit Go.Proofs Go.Proofs.YthadibmgahlpfaaW.PrintWords Go.Proofs.YthadibmgahlpfaaW.PrintLast Go.Proofs.YthadibmgahlpfaaW.PrintMore
set_option linter.unusedVariables false
set_option linter.unusedSimpArgs false
/-- A value that reads as a snapshot. -/
def SnapC (w : World) (v : Value) (s : S38) : Prop := ∃ cs : List Value, v = .agg cs.toArray ∧ k38.K w s cs
theorem SnapC.below {w w' : World} {v : Value} {s : S38} (h : SnapC w v s) (hb : Below w.heap.size w w') : SnapC w' v s := by
  obtain ⟨cs, h1, h2⟩ := h
  exact ⟨cs, h1, k38.K_below hb h2⟩
/-- How many things of lists a snapshot has. -/
def tot (s : S38) : Nat := s.f5.length + s.f6.length + s.f7.length + s.f8.length + s.f9.length + s.f10.f1.length + s.f10.f3.length
/-- v reads as s in each world that agrees with w from block n on. -/
def SnapN (n : Nat) (w : World) (v : Value) (s : S38) : Prop := ∀ W : World, (∀ k, n ≤ k → k < w.heap.size → w.heap[k]? = W.heap[k]?) → SnapC W v s
theorem R_new {α : Type} {d : Kd α} {e base : Nat} {ok : Nat → Prop} {w W : World} {v : Value} {xs : List α} (h : d.R e w base ok v xs) (hW : ∀ k, base ≤ k → k < w.heap.size → w.heap[k]? = W.heap[k]?) : ∃ A c, v = .slice A xs.length c ∧ xs.length ≤ c ∧ d.C W A xs.length xs := by
  obtain ⟨A, c, rfl⟩ := Kd.R_slice h
  have h2 := Kd.R_reads' (Kd.R_step (Kd.R_mono (Kd.R_bound h) (fun k hk => hk.2.1)) (fun k hk hlt => (hW k hk hlt).symm))
  exact ⟨A, c, rfl, h2.2.1, h2.2.2⟩
theorem copy_new (w : World) (v : Value) (s : S38) (h : SnapC w v s) (hs : tot s ≤ 1000) : Calls Try.prog 19 #[v] w fun e w' => ∃ v', e = .returned v' ∧ SnapN w.heap.size w' v' s ∧ Below w.heap.size w w' := by
  obtain ⟨cs, rfl, hK⟩ := h
  obtain ⟨A5, c5, A6, c6, A7, c7, A8, c8, A9, c9, A11, c11, A13, c13, rfl, l5, g5, l6, g6, l7, g7, l8, g8, l9, g9, l11, g11, l13, g13⟩ := k38_open hK
  unfold tot at hs
  have hf : snap_Snap_Copy.f s.f0 s.f1 s.f2 s.f3 s.f4 s.f5 s.f6 s.f7 s.f8 s.f9 s.f10.f0 s.f10.f1 s.f10.f2 s.f10.f3 = some (s.f0, s.f1, s.f2, s.f3, s.f4, s.f5, s.f6, s.f7, s.f8, s.f9, s.f10.f0, s.f10.f1, s.f10.f2, s.f10.f3) := by
    unfold snap_Snap_Copy.f bits_Set_29.f val_Value_30.f slices_Clone_string_string.f queue_Timer_32.f slices_Clone_int_int.f
    rw [if_pos (by omega), if_pos (by omega), if_pos (by omega), if_pos (by omega), if_pos (by omega), if_pos (by omega), if_pos (by omega)]
    rfl
  refine (snap_Snap_Copy.calls s.f0 s.f1 s.f2 s.f3 s.f4 A5 c5 s.f5 A6 c6 s.f6 A7 c7 s.f7 A8 c8 s.f8 A9 c9 s.f9 s.f10.f0 A11 c11 s.f10.f1 s.f10.f2 A13 c13 s.f10.f3 _ _ _ _ _ _ _ _ _ _ _ _ _ _ w g5 l5 g6 l6 g7 l7 g8 l8 g9 l9 g11 l11 g13 l13 hf).mono ?_
  rintro e w' ⟨v5, v6, v7, v8, v9, v11, v13, rfl, h5, h6, h7, h8, h9, h11, h13, hb⟩
  refine ⟨_, rfl, fun W hW => ?_, hb⟩
  obtain ⟨B5, d5, rfl, p5, q5⟩ := R_new h5 hW
  obtain ⟨B6, d6, rfl, p6, q6⟩ := R_new h6 hW
  obtain ⟨B7, d7, rfl, p7, q7⟩ := R_new h7 hW
  obtain ⟨B8, d8, rfl, p8, q8⟩ := R_new h8 hW
  obtain ⟨B9, d9, rfl, p9, q9⟩ := R_new h9 hW
  obtain ⟨B11, d11, rfl, p11, q11⟩ := R_new h11 hW
  obtain ⟨B13, d13, rfl, p13, q13⟩ := R_new h13 hW
  exact ⟨_, rfl, k38_mk W s p5 q5 p6 q6 p7 q7 p8 q8 p9 q9 p11 q11 p13 q13⟩
def SnapE (w : World) (x : E) : Prop := k38.K w x.s (tailE x)
theorem SnapE.snap {w : World} {x : E} (h : SnapE w x) : SnapC w (.agg #[.int .i64 x.s.f0, .int .i64 x.s.f1, .int .i64 x.s.f2, .int .i64 x.s.f3, .int .u64 x.s.f4, .slice x.A5 x.s.f5.length x.c5, .slice x.A6 x.s.f6.length x.c6, .slice x.A7 x.s.f7.length x.c7, .slice x.A8 x.s.f8.length x.c8, .slice x.A9 x.s.f9.length x.c9, .string x.s.f10.f0, .slice x.A11 x.s.f10.f1.length x.c11, .int .u64 x.s.f10.f2, .slice x.A13 x.s.f10.f3.length x.c13]) x.s := ⟨tailE x, rfl, h⟩
theorem SnapC.mark {w : World} {v : Value} {s : S38} (h : SnapC w v s) (at_ : Int) : ∃ x : E, x.f0 = at_ ∧ x.s = s ∧ v = .agg #[.int .i64 x.s.f0, .int .i64 x.s.f1, .int .i64 x.s.f2, .int .i64 x.s.f3, .int .u64 x.s.f4, .slice x.A5 x.s.f5.length x.c5, .slice x.A6 x.s.f6.length x.c6, .slice x.A7 x.s.f7.length x.c7, .slice x.A8 x.s.f8.length x.c8, .slice x.A9 x.s.f9.length x.c9, .string x.s.f10.f0, .slice x.A11 x.s.f10.f1.length x.c11, .int .u64 x.s.f10.f2, .slice x.A13 x.s.f10.f3.length x.c13] ∧ SnapE w x := by
  obtain ⟨cs, rfl, hK⟩ := h
  obtain ⟨A5, c5, A6, c6, A7, c7, A8, c8, A9, c9, A11, c11, A13, c13, rfl, _⟩ := k38_open hK
  exact ⟨⟨at_, s, A5, c5, A6, c6, A7, c7, A8, c8, A9, c9, A11, c11, A13, c13⟩, rfl, rfl, rfl, hK⟩
/-- The mark's snapshot reads whatever changes of the blocks ahead of base, of the keeper's block, its row's and the others. -/
def Own (base B : Nat) (ot : Nat → Prop) (rb : Option Nat) (w : World) (x : E) : Prop :=
  ∀ W : World, (∀ k, base ≤ k → k ≠ B → some k ≠ rb → ¬ ot k → k < w.heap.size → W.heap[k]? = w.heap[k]?) → SnapE W x
structure Keep (base : Nat) (ot : Nat → Prop) (w : World) (B : Nat) (every most : Int) (l : List E) : Prop where
  out : ∃ v, w.heap[B]? = some (.cells #[.int .i64 every, .int .i64 most, v] 59 (0, 0)) ∧ base ≤ B ∧ Kd.R kE 64 w base (fun _ => True) v l ∧ v.ownBlock ≠ some B ∧ (∀ k, v.ownBlock = some k → ¬ ot k) ∧ (∀ k, ot k → k < w.heap.size ∧ k ≠ B) ∧ ∀ x ∈ l, Own base B ot v.ownBlock w x
theorem Keep.move {base : Nat} {ot : Nat → Prop} {w W : World} {B : Nat} {every most : Int} {l : List E} (h : Keep base ot w B every most l) (hs : w.heap.size ≤ W.heap.size) (hk : ∀ k, base ≤ k → ¬ ot k → k < w.heap.size → W.heap[k]? = w.heap[k]?) : Keep base ot W B every most l := by
  obtain ⟨v, h1, h2, h3, h4, h5, h6, h7⟩ := h.out
  have hB : B < w.heap.size := blk_lt h1
  have hoB : ¬ ot B := fun e => (h6 B e).2 rfl
  refine ⟨v, (hk B h2 hoB hB).trans h1, h2, ?_, h4, h5, fun k hk1 => ⟨Nat.lt_of_lt_of_le (h6 k hk1).1 hs, (h6 k hk1).2⟩, fun x hx W' hW' => h7 x hx W' (fun k k1 k2 k3 k4 k5 => (hW' k k1 k2 k3 k4 (Nat.lt_of_lt_of_le k5 hs)).trans (hk k k1 k4 k5))⟩
  rcases (own_of_R h3).2 with ⟨rfl, hl⟩ | ⟨g, cap, cur, rfl, hbg, hg, hr⟩
  · obtain rfl : l = [] := List.length_eq_zero_iff.1 hl
    exact Kd.R_nil _ _ _ _ _
  · exact R_of_ownE ⟨cellsE_length _, .inr ⟨g, cap, cur, rfl, hbg, (hk g hbg (h5 g rfl) (blk_lt hg)).trans hg, hr⟩⟩
theorem Keep.below {base : Nat} {ot : Nat → Prop} {w W : World} {B : Nat} {every most : Int} {l : List E} (h : Keep base ot w B every most l) (hb : Below w.heap.size w W) : Keep base ot W B every most l := h.move hb.size (fun k _ _ hk => hb.block k hk)
theorem Keep.lt {base : Nat} {ot : Nat → Prop} {w : World} {B : Nat} {every most : Int} {l : List E} (h : Keep base ot w B every most l) : B < w.heap.size := by
  obtain ⟨v, h1, _⟩ := h.out
  exact blk_lt h1
theorem Keep.ge {base : Nat} {ot : Nat → Prop} {w : World} {B : Nat} {every most : Int} {l : List E} (h : Keep base ot w B every most l) : base ≤ B := by
  obtain ⟨v, _, h2, _⟩ := h.out
  exact h2
/-- Of the elder memory only keepers' blocks and rows of marks may have changed. -/
def Beside (w w' : World) : Prop := w.heap.size ≤ w'.heap.size ∧ ∀ k, k < w.heap.size → (∀ c, w.heap[k]? ≠ some (.cells c 59 (0, 0))) → (∀ c, w.heap[k]? ≠ some (.cells c 64 (0, 0))) → w'.heap[k]? = w.heap[k]?
theorem Beside.refl (w : World) : Beside w w := ⟨Nat.le_refl _, fun _ _ _ _ => rfl⟩
theorem Beside.of_below {w w' : World} (h : Below w.heap.size w w') : Beside w w' := ⟨h.size, fun k hk _ _ => h.block k hk⟩
theorem Beside.trans {w w1 w2 : World} (h : Beside w w1) (k : Beside w1 w2) : Beside w w2 := ⟨Nat.le_trans h.1 k.1, fun i hi h1 h2 => by
  have e := h.2 i hi h1 h2
  exact (k.2 i (Nat.lt_of_lt_of_le hi h.1) (fun c => by rw [e]; exact h1 c) (fun c => by rw [e]; exact h2 c)).trans e⟩
theorem Beside.cell59 {w : World} {B : Nat} {c : Array Value} (hB : w.heap[B]? = some (.cells c 59 (0, 0))) (o : Nat) (v : Value) : Beside w (w.setCell ⟨B, o, none⟩ v) := ⟨by rw [World.size_setCell]; exact Nat.le_refl _, fun k hk h1 _ => Below.heap_setCell w ⟨B, o, none⟩ v k (fun e => h1 c (by rw [e]; exact hB))⟩
theorem Beside.grown {w w' : World} {v : Value} {base : Nat} {l : List E} (hR : Kd.R kE 64 w base (fun _ => True) v l) (h : w.grownBy w' v.ownBlock) : Beside w w' := ⟨h.size, fun k hk _ h2 => h.block k hk (fun e => by
  obtain ⟨c, hc⟩ := own_typed (own_of_R hR) k e.symm
  exact h2 c hc)⟩
theorem Beside.get {w w' : World} (h : Beside w w') {k : Nat} {c : Array Value} {t : TypeId} {fr : Nat × Nat} (hk : w.heap[k]? = some (.cells c t fr)) (h1 : t ≠ 59) (h2 : t ≠ 64) : w'.heap[k]? = some (.cells c t fr) :=
  (h.2 k (blk_lt hk) (fun c' e => by rw [hk] at e; injection e with e; injection e with _ e; exact h1 e) (fun c' e => by rw [hk] at e; injection e with e; injection e with _ e; exact h2 e)).trans hk
/-- The marks stand in rising order. -/
def Rising (l : List E) : Prop := ∀ i j, i < j → j < l.length → (l.getD i zE).f0 < (l.getD j zE).f0
theorem Rising.mono {l : List E} (h : Rising l) {t : Int} : ∀ a b, a ≤ b → b < l.length → (l.getD b zE).f0 < t → (l.getD a zE).f0 < t := by
  intro a b hab hb ht
  rcases Nat.lt_or_eq_of_le hab with h1 | rfl
  · exact Int.lt_trans (h a b h1 hb) ht
  · exact ht
end Go.Proofs.Ythadibmgahlpfaa.MD
