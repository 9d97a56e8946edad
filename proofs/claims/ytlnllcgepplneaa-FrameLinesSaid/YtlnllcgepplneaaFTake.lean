/- A reader's memory; take and end walked. -/
import Derived.Test.YtlnllcgepplneaaFCut
namespace Go.Proofs.Ytlnllcgepplneaa.MFrameLines
open Go.RowKit Go.Proofs Go.Proofs.YtlnllcgepplneaaW.PrintWords Go.Proofs.YtlnllcgepplneaaW.PrintLast Go.Proofs.YtlnllcgepplneaaW.PrintMore
set_option linter.unusedVariables false
set_option linter.unusedSimpArgs false
/-- Block g holds a reader: its bytes (slice v holds p), too long, odd, some. -/
structure St (w : World) (base g : Nat) (v : Value) (p : List Int) (lo od so : Bool) : Prop where
  c0 : w.cell? ⟨g, 0, none⟩ = some v
  c1 : w.cell? ⟨g, 1, none⟩ = some (.bool lo)
  c2 : w.cell? ⟨g, 2, none⟩ = some (.bool od)
  c3 : w.cell? ⟨g, 3, none⟩ = some (.bool so)
  z0 : w.frozen? ⟨g, 0, none⟩ = false
  z1 : w.frozen? ⟨g, 1, none⟩ = false
  z2 : w.frozen? ⟨g, 2, none⟩ = false
  z3 : w.frozen? ⟨g, 3, none⟩ = false
  own : Kd.R (Kd.int .u8) 5 w base (fun k => k ≠ g) v p
  lg : g < w.heap.size
  hb : base ≤ g
/-- All but block g and the row's block is as it was. -/
structure Oth (g : Nat) (row : Option Nat) (w w' : World) : Prop where
  os : w'.os = w.os
  tape : w'.tape = w.tape
  output : w'.output = w.output
  size : w.heap.size ≤ w'.heap.size
  block : ∀ k, k < w.heap.size → k ≠ g → some k ≠ row → w'.heap[k]? = w.heap[k]?
section
variable {g base : Nat} {row : Option Nat} {w w' w2 : World} {v : Value} {p : List Int} {lo od so : Bool}
theorem Oth.refl (g : Nat) (row : Option Nat) (w : World) : Oth g row w w := ⟨rfl, rfl, rfl, Nat.le_refl _, fun _ _ _ _ => rfl⟩
theorem Oth.trans {row' : Option Nat} (h : Oth g row w w') (k : Oth g row' w' w2) (hr : row' = row ∨ row' = none ∨ ∃ b, row' = some b ∧ w.heap.size ≤ b) : Oth g row w w2 :=
  ⟨k.os.trans h.os, k.tape.trans h.tape, k.output.trans h.output, Nat.le_trans h.size k.size, fun i hi hg hn => by
    refine (k.block i (Nat.lt_of_lt_of_le hi h.size) hg ?_).trans (h.block i hi hg hn)
    rcases hr with rfl | rfl | ⟨b, rfl, hb⟩
    · exact hn
    · exact fun e => by cases e
    · intro e; injection e with e; omega⟩
theorem Oth.weak (h : Oth g none w w') (row : Option Nat) : Oth g row w w' := ⟨h.os, h.tape, h.output, h.size, fun i hi hg _ => h.block i hi hg (fun e => by cases e)⟩
theorem Oth.setCell (h : Oth g row w w') (i : Nat) (u : Value) : Oth g row w (w'.setCell ⟨g, i, none⟩ u) :=
  ⟨h.os, h.tape, h.output, by simpa using h.size, fun k hk h1 h2 => (Below.heap_setCell w' ⟨g, i, none⟩ u k h1).trans (h.block k hk h1 h2)⟩
theorem Oth.of_grown (h : w.grownBy w' row) (g : Nat) : Oth g row w w' := ⟨h.os, h.tape, h.output, h.size, fun i hi _ hr => h.block i hi hr⟩
theorem Oth.of_below (h : Below w.heap.size w w') (g : Nat) (row : Option Nat) : Oth g row w w' := ⟨h.os, h.tape, h.output, h.size, fun i hi _ _ => h.block i hi⟩
theorem Oth.below {B : Nat} {w0 : World} (h : Oth g row w w') (k : Below B w0 w) (hg : B ≤ g) (hr : ∀ b, row = some b → B ≤ b) (hB : B ≤ w.heap.size) : Below B w0 w' :=
  ⟨h.os.trans k.os, h.tape.trans k.tape, h.output.trans k.output, Nat.le_trans k.size h.size, fun i hi => (h.block i (by omega) (by omega) (fun e => by have := hr i e.symm; omega)).trans (k.block i hi)⟩
theorem St.step (h : St w base g v p lo od so) (hg : w'.heap[g]? = w.heap[g]?) (hv : ∀ k, v.ownBlock = some k → w'.heap[k]? = w.heap[k]?) (hs : w.heap.size ≤ w'.heap.size) : St w' base g v p lo od so :=
  ⟨(World.cell?_of_block hg).trans h.c0, (World.cell?_of_block hg).trans h.c1, (World.cell?_of_block hg).trans h.c2, (World.cell?_of_block hg).trans h.c3,
   (World.frozen?_of_block hg).trans h.z0, (World.frozen?_of_block hg).trans h.z1, (World.frozen?_of_block hg).trans h.z2, (World.frozen?_of_block hg).trans h.z3,
   Kd.R_of_own (own_move (Kd.own_of_R h.own) hv) h.own.1, Nat.lt_of_lt_of_le h.lg hs, h.hb⟩
theorem St.own_lt (h : St w base g v p lo od so) (k : Nat) (hk : v.ownBlock = some k) : k < w.heap.size := Kd.R_lt h.own k hk
theorem St.own_base (h : St w base g v p lo od so) (k : Nat) (hk : v.ownBlock = some k) : base ≤ k := Kd.R_base h.own k hk
theorem St.below (h : St w base g v p lo od so) (hb : Below w.heap.size w w') : St w' base g v p lo od so := h.step (hb.block _ h.lg) (fun k hk => hb.block _ (h.own_lt k hk)) hb.size
theorem St.drewN (h : St w base g v p lo od so) (n : Nat) : St (w.drewN n) base g v p lo od so := h.below (pw_below_drewN (Below.refl _ _) n)
theorem St.alloc (h : St w base g v p lo od so) (o : Obj) : St (w.alloc o) base g v p lo od so := h.below (below_alloc (Below.refl _ _) o)
theorem setCell_ne {a b : Addr} (h : a ≠ b) (u : Value) : (w.setCell a u).cell? b = w.cell? b := World.cell?_setCell_other _ _ _ _ h
theorem addr_ne_off {x i j : Nat} (h : i ≠ j) : (⟨x, i, none⟩ : Addr) ≠ ⟨x, j, none⟩ := fun e => h (by injection e)
theorem St.set1 (h : St w base g v p lo od so) (b : Bool) : St (w.setCell ⟨g, 1, none⟩ (.bool b)) base g v p b od so :=
  ⟨(setCell_ne (addr_ne_off (by omega)) _).trans h.c0, World.cell?_setCell_same' _ _ _ (by rw [h.c1]; rfl), (setCell_ne (addr_ne_off (by omega)) _).trans h.c2, (setCell_ne (addr_ne_off (by omega)) _).trans h.c3,
   by rw [World.frozen?_setCell]; exact h.z0, by rw [World.frozen?_setCell]; exact h.z1, by rw [World.frozen?_setCell]; exact h.z2, by rw [World.frozen?_setCell]; exact h.z3,
   Kd.R_far h.own (fun _ hk => hk) _, by simpa using h.lg, h.hb⟩
theorem St.set2 (h : St w base g v p lo od so) (b : Bool) : St (w.setCell ⟨g, 2, none⟩ (.bool b)) base g v p lo b so :=
  ⟨(setCell_ne (addr_ne_off (by omega)) _).trans h.c0, (setCell_ne (addr_ne_off (by omega)) _).trans h.c1, World.cell?_setCell_same' _ _ _ (by rw [h.c2]; rfl), (setCell_ne (addr_ne_off (by omega)) _).trans h.c3,
   by rw [World.frozen?_setCell]; exact h.z0, by rw [World.frozen?_setCell]; exact h.z1, by rw [World.frozen?_setCell]; exact h.z2, by rw [World.frozen?_setCell]; exact h.z3,
   Kd.R_far h.own (fun _ hk => hk) _, by simpa using h.lg, h.hb⟩
theorem St.set3 (h : St w base g v p lo od so) (b : Bool) : St (w.setCell ⟨g, 3, none⟩ (.bool b)) base g v p lo od b :=
  ⟨(setCell_ne (addr_ne_off (by omega)) _).trans h.c0, (setCell_ne (addr_ne_off (by omega)) _).trans h.c1, (setCell_ne (addr_ne_off (by omega)) _).trans h.c2, World.cell?_setCell_same' _ _ _ (by rw [h.c3]; rfl),
   by rw [World.frozen?_setCell]; exact h.z0, by rw [World.frozen?_setCell]; exact h.z1, by rw [World.frozen?_setCell]; exact h.z2, by rw [World.frozen?_setCell]; exact h.z3,
   Kd.R_far h.own (fun _ hk => hk) _, by simpa using h.lg, h.hb⟩
theorem St.set0 {v' : Value} {p' : List Int} {w1 : World} (h : St w base g v p lo od so) (hg : w.grownBy w1 v.ownBlock) (ho : Kd.R (Kd.int .u8) 5 w1 base (fun k => k ≠ g) v' p') : St (w1.setCell ⟨g, 0, none⟩ v') base g v' p' lo od so := by
  have hgg : w1.heap[g]? = w.heap[g]? := hg.block g h.lg (fun e => h.own.1 g e.symm rfl)
  exact ⟨World.cell?_setCell_same' _ _ _ (by rw [World.cell?_of_block hgg, h.c0]; rfl), (setCell_ne (addr_ne_off (by omega)) _).trans ((World.cell?_of_block hgg).trans h.c1), (setCell_ne (addr_ne_off (by omega)) _).trans ((World.cell?_of_block hgg).trans h.c2), (setCell_ne (addr_ne_off (by omega)) _).trans ((World.cell?_of_block hgg).trans h.c3),
   by rw [World.frozen?_setCell]; exact (World.frozen?_of_block hgg).trans h.z0, by rw [World.frozen?_setCell]; exact (World.frozen?_of_block hgg).trans h.z1, by rw [World.frozen?_setCell]; exact (World.frozen?_of_block hgg).trans h.z2, by rw [World.frozen?_setCell]; exact (World.frozen?_of_block hgg).trans h.z3,
   Kd.R_far ho (fun _ hk => hk) _, by have := h.lg; have := hg.size; simp; omega, h.hb⟩
end
/-- A byte that no line may have. -/
def oddI (x : Int) : Bool := decide (x < 32) || decide (x > 126)
end Go.Proofs.Ytlnllcgepplneaa.MFrameLines
