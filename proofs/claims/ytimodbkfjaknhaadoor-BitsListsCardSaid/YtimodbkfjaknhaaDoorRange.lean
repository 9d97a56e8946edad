/- A range over an iterator that counts down in a box of its own: what the iterator owes, and how the loop is walked. -/
import Derived.RangeFuncNested
import Derived.RangeFuncBound
import Derived.RangeFuncCalls
import Derived.RangeFuncLeaves
import Derived.RangeFuncWrites
import Derived.RangeFuncBox
import Derived.Shelf.Abstract
import Derived.Shelf.RegionOpen
import Derived.WalkKit
import Derived.OwnWalkIn
import Derived.TacticsInMore
import Derived.LoopNIn
import Derived.LoopIn
import Derived.Test.YtimodbkfjaknhaaDoorProg
namespace Go.Proofs.YtimodbkfjaknhaaDoor.Seq
open Go Go.RowKit Go.Proofs Go.Shelf
set_option linter.unusedVariables false
/-- The set in the iterator's box; the library's table, block 0, is Z. -/
structure Box (W : World) (b : Nat) (s : Int) (Z : Option Obj) : Prop where
  box : Boxed W b 23 (.int .u64 s)
  tab : W.heap[0]? = Z
  pos : 0 < b
theorem Box.cell {W : World} {b : Nat} {s : Int} {Z : Option Obj} (h : Box W b s Z) : W.cell? ⟨b, 0, none⟩ = some (.int .u64 s) := h.box.cell
theorem Box.free {W : World} {b : Nat} {s : Int} {Z : Option Obj} (h : Box W b s Z) : W.frozen? ⟨b, 0, none⟩ = false := h.box.frozen
/-- A round leaves the iterator's box and the table. -/
structure Kept (b : Nat) (W W' : World) : Prop where
  box : W'.heap[b]? = W.heap[b]?
  tab : W'.heap[0]? = W.heap[0]?
theorem Box.kept {W W' : World} {b : Nat} {s : Int} {Z : Option Obj} (h : Box W b s Z) (k : Kept b W W') : Box W' b s Z :=
  ⟨k.box.trans h.box, k.tab.trans h.tab, h.pos⟩
theorem Box.lt {W : World} {b : Nat} {s : Int} {Z : Option Obj} (h : Box W b s Z) : b < W.heap.size := h.box.lt
theorem Box.store {W : World} {b : Nat} {s : Int} {Z : Option Obj} (h : Box W b s Z) (s' : Int) : Box (W.setCell ⟨b, 0, none⟩ (.int .u64 s')) b s' Z :=
  ⟨h.box.set _, (Below.heap_setCell W ⟨b, 0, none⟩ _ 0 (fun e => by have := h.pos; change 0 = b at e; omega)).trans h.tab, h.pos⟩
theorem Kept.of_below {W W' : World} {b B : Nat} (h : Below B W W') (hb : b < B) : Kept b W W' := ⟨h.block b hb, h.block 0 (by omega)⟩
/-- What the rounds' side must bear: a store into the box, a new block, a draw. -/
structure Bears (b : Nat) (J : List Int → World → Prop) : Prop where
  store : ∀ pre W v, J pre W → J pre (W.setCell ⟨b, 0, none⟩ v)
  alloc : ∀ pre W o, J pre W → J pre (W.alloc o)
  drew : ∀ pre W n, J pre W → J pre (W.drewN n)
/-- The iterator's word: xs come, one behind the other, till a round says no more. -/
def Gives (n : Nat) (P : Program) (gf b : Nat) (s : Int) (Z : Option Obj) (xs : List Int) : Prop :=
  ∀ (l : Nat) (J Jx : List Int → World → Prop) (W : World), Bears b J →
    (∀ pre x s1 W1, J pre W1 → pre ++ [x] <+: xs → Box W1 b s1 Z → YieldAt Fence.wide (n - 1) P l #[.int .i64 x] W1 fun e W' => (e = .returned (.bool true) ∧ J (pre ++ [x]) W' ∧ Kept b W1 W') ∨ (e = .returned (.bool false) ∧ Jx (pre ++ [x]) W')) →
    J [] W → Box W b s Z →
    CallsIn Fence.wide n P gf #[.func (.yield l) #[] #[], .pointer (some ⟨b, 0, none⟩)] W fun e W' => (∃ v, e = .returned v) ∧ (J xs W' ∨ ∃ pre, pre <+: xs ∧ Jx pre W')
/-- How a round's body may be left. -/
def roundEnd (b : Nat) (I : List Int → World → Prop) (Ix : Code → List Int → World → Prop) (xs : List Int) (W : World) : Exit → Act → World → Prop
  | .normal, _, W' => KeepsOthers W W' ∧ Kept b W W' ∧ I xs W'
  | .ret, _, W' => KeepsOthers W W' ∧ Ix .ret xs W'
  | .exit id, _, W' => KeepsOthers W W' ∧ Ix (.exit id) xs W'
  | .goto t, _, W' => KeepsOthers W W' ∧ Ix (.goto t) xs W'
  | .panic _, _, _ => False
  | .outgrown, _, _ => False
theorem putObj_set {W : World} {l b : Nat} {o : Obj} {v : Value} (hne : l ≠ b) (h : W.heap[l]? = some o) : (W.setCell ⟨b, 0, none⟩ v).heap[l]? = some o := (Below.heap_setCell W ⟨b, 0, none⟩ v l hne).trans h
theorem alloc_keeps {W : World} {l : Nat} {o o' : Obj} (h : W.heap[l]? = some o) : (W.alloc o').heap[l]? = some o := (Below.heap_alloc W o' l (Array.getElem?_eq_some_iff.1 h).1).trans h
/-- The loop, walked: the body once, at any of the numbers. -/
theorem range_box {n : Nat} {P : Program} {g : Operand} {p : Tmp} {assign body : Code} {Q : Exit → Act → World → Prop} {a : Act} {w : World} {gf b B : Nat} {s : Int} {Z : Option Obj} {xs : List Int}
    (hg : a.eval g = .func (.func gf) #[] #[.pointer (some ⟨b, 0, none⟩)]) (eg : ∀ args w, (callFunc gf args).run P w = .ok (.enter gf args) w)
    (hseq : Gives (n - 1) P gf b s Z xs) (hbox : Box w b s Z) (hB : B ≤ w.heap.size)
    (I : List Int → World → Prop) (Ix : Code → List Int → World → Prop) (hI : OwnFrom B I) (hIx : ∀ c, OwnFrom B (Ix c)) (hIb : Bears b I) (h0 : I [] w) (a₁ : Int → Act)
    (hassign : ∀ (l : Nat) (x : Int) (W : World) (K : Act → World → Prop), K (a₁ x) W → assign.wpIn (Fence.wide.inRound l) (n - 1 - 1) P (Exit.then K (fun _ _ _ => False)) { tmps := a.tmps.setIfInBounds p (.int .i64 x), defers := [] } W)
    (hbody : ∀ (l : Nat) (pre : List Int) (x s1 : Int) (W : World), I pre W → pre ++ [x] <+: xs → Box W b s1 Z → body.wpIn (Fence.wide.inRound l) (n - 1 - 1) P (roundEnd b I Ix (pre ++ [x]) W) (a₁ x) W)
    (hdone : ∀ (D : Nat) (W : World), I xs W → W.heap[D]? = some (.deferred (some [])) → B ≤ D → Q .normal { a with defers := { target := .collected D, args := #[] } :: a.defers } W)
    (hstop : ∀ (D : Nat) (c : Code) (pre : List Int) (W : World), pre <+: xs → Ix c pre W → W.heap[D]? = some (.deferred (some [])) → B ≤ D → c.wpIn Fence.wide n P Q { a with defers := { target := .collected D, args := #[] } :: a.defers } W) :
    (Code.rangeFunc g #[p] assign body).wpIn Fence.wide n P Q a w := by
  refine wpIn_rangeFunc fun fn hfn => ?_
  let rc : LoopState → Option Code → Loop := fun st pe => { state := st, pending := pe, fn := fn, tmps := a.tmps, params := #[p], assign := assign, body := body, defers := w.heap.size }
  obtain ⟨W1, hW1⟩ : ∃ W1, W1 = (w.alloc (.deferred (some []))).alloc (.loop (rc .ready none)) := ⟨_, rfl⟩
  have hL : W1.heap[w.heap.size + 1]? = some (.loop (rc .ready none)) := by
    have := World.alloc_heap_new (w.alloc (.deferred (some []))) (.loop (rc .ready none))
    rw [World.size_alloc] at this
    rw [hW1]
    exact this
  have hD : W1.heap[w.heap.size]? = some (.deferred (some [])) := by
    rw [hW1]
    exact alloc_keeps (World.alloc_heap_new w _)
  have hb1 : Box W1 b s Z := by
    refine hbox.kept (.of_below (B := w.heap.size) ?_ hbox.lt)
    rw [hW1]
    exact ((Below.refl w.heap.size w).alloc (Nat.le_refl _) _).alloc (by simp) _
  have hI1 : I [] W1 := by
    rw [hW1]
    exact hI.alloc _ (hI.alloc _ h0)
  have hlb : w.heap.size + 1 ≠ b := by have := hbox.lt; omega
  have hdb : w.heap.size ≠ b := by have := hbox.lt; omega
  refine ⟨w.heap.size + 1, [{ target := .collected w.heap.size, args := #[] }], W1, { target := .fn (.func gf) #[.pointer (some ⟨b, 0, none⟩)], args := #[.func (.yield (w.heap.size + 1)) #[] #[]] }, W1, gf,
    #[.func (.yield (w.heap.size + 1)) #[] #[], .pointer (some ⟨b, 0, none⟩)], W1, ?_, ?_, fun _ _ => trivial, ?_, fun h => by simp [Fence.wide] at h, ?_⟩
  · rw [hW1]
    exact run_enterLoop_outer _ _ _ _ _
  · simp only [resolve, hg]
    simp [go_sem]
  · simp [invoke, go_sem, eg]
  refine (hseq (w.heap.size + 1)
    (fun pre W => I pre W ∧ W.heap[w.heap.size + 1]? = some (.loop (rc .ready none)) ∧ W.heap[w.heap.size]? = some (.deferred (some [])))
    (fun pre W => ∃ c, Ix c pre W ∧ W.heap[w.heap.size + 1]? = some (.loop (rc .done (some c))) ∧ W.heap[w.heap.size]? = some (.deferred (some [])))
    W1 ⟨fun pre W v h => ⟨hIb.store pre W v h.1, putObj_set hlb h.2.1, putObj_set hdb h.2.2⟩, fun pre W o h => ⟨hIb.alloc pre W o h.1, alloc_keeps h.2.1, alloc_keeps h.2.2⟩, fun pre W k h => ⟨hIb.drew pre W k h.1, h.2.1, h.2.2⟩⟩ ?_ ⟨hI1, hL, hD⟩ hb1).mono ?_
  · rintro pre x s1 W ⟨hi, hl, hk⟩ hpx hbx
    have hlt : w.heap.size + 1 < W.heap.size := (Array.getElem?_eq_some_iff.1 hl).1
    have hy : (Instr.yield (w.heap.size + 1) #[.int .i64 x]).run P W = .ok (.round (w.heap.size + 1) fn (a.tmps.setIfInBounds p (.int .i64 x)) assign body) W := by
      have h := run_yield (P := P) (args := #[.int .i64 x]) hl rfl
      simpa [rc] using h
    refine ⟨fn, a.tmps.setIfInBounds p (.int .i64 x), assign, body, hy, roundIn_of_wpIn hfn (hassign _ x W _ ⟨_, run_beginRound hl rfl, ?_⟩)⟩
    have hbusy : (W.putObj (w.heap.size + 1) (.loop (rc .busy none))).heap[w.heap.size + 1]? = some (.loop (rc .busy none)) := World.putObj_heap_same hlt
    have hdef : (W.putObj (w.heap.size + 1) (.loop (rc .busy none))).heap[w.heap.size]? = some (.deferred (some [])) := (World.putObj_heap_other (by omega)).trans hk
    have hkept : Kept b W (W.putObj (w.heap.size + 1) (.loop (rc .busy none))) := ⟨World.putObj_heap_other (fun e => hlb e.symm), World.putObj_heap_other (by omega)⟩
    refine wpIn_mono (hbody _ pre x s1 _ (hI.putObj _ hi (by omega) hl rfl) hpx (hbx.kept hkept)) ?_
    have fin : ∀ (jump : Option Code) (W3 : World), KeepsOthers (W.putObj (w.heap.size + 1) (.loop (rc .busy none))) W3 →
        (Instr.endRound (w.heap.size + 1) jump).run P W3 = .ok (.bool jump.isNone) (W3.putObj (w.heap.size + 1) (.loop (rc (if jump.isNone then .ready else .done) jump))) ∧
        W3.heap[w.heap.size + 1]? = some (.loop (rc .busy none)) ∧
        (W3.putObj (w.heap.size + 1) (.loop (rc (if jump.isNone then .ready else .done) jump))).heap[w.heap.size + 1]? = some (.loop (rc (if jump.isNone then .ready else .done) jump)) ∧
        (W3.putObj (w.heap.size + 1) (.loop (rc (if jump.isNone then .ready else .done) jump))).heap[w.heap.size]? = some (.deferred (some [])) := fun jump W3 hk3 => by
      have hl3 := hk3.same _ _ hbusy rfl
      exact ⟨run_endRound (P := P) jump hl3, hl3, World.putObj_heap_same (Array.getElem?_eq_some_iff.1 hl3).1, (World.putObj_heap_other (by omega)).trans (hk3.same _ _ hdef rfl)⟩
    rintro e a3 W3 hp
    cases e with
    | normal =>
      obtain ⟨hk3, hkb, hi3⟩ := hp
      obtain ⟨hr, hl3, hl4, hk4⟩ := fin none W3 hk3
      refine ⟨_, _, hr, .inl ⟨rfl, ⟨hI.putObj _ hi3 (by omega) hl3 rfl, hl4, hk4⟩, ?_⟩⟩
      exact ⟨((World.putObj_heap_other (fun e => hlb e.symm)).trans hkb.box).trans hkept.box, ((World.putObj_heap_other (by omega)).trans hkb.tab).trans hkept.tab⟩
    | ret =>
      obtain ⟨hk3, hi3⟩ := hp
      obtain ⟨hr, hl3, hl4, hk4⟩ := fin (some .ret) W3 hk3
      exact ⟨_, _, hr, .inr ⟨rfl, .ret, (hIx _).putObj _ hi3 (by omega) hl3 rfl, hl4, hk4⟩⟩
    | exit id =>
      obtain ⟨hk3, hi3⟩ := hp
      obtain ⟨hr, hl3, hl4, hk4⟩ := fin (some (.exit id)) W3 hk3
      exact ⟨_, _, hr, .inr ⟨rfl, .exit id, (hIx _).putObj _ hi3 (by omega) hl3 rfl, hl4, hk4⟩⟩
    | goto t =>
      obtain ⟨hk3, hi3⟩ := hp
      obtain ⟨hr, hl3, hl4, hk4⟩ := fin (some (.goto t)) W3 hk3
      exact ⟨_, _, hr, .inr ⟨rfl, .goto t, (hIx _).putObj _ hi3 (by omega) hl3 rfl, hl4, hk4⟩⟩
    | panic ch => exact hp.elim
    | outgrown => exact hp.elim
  · rintro e W2 ⟨⟨v, rfl⟩, (⟨hi, hl, hk⟩ | ⟨pre, hpre, c, hi, hl, hk⟩)⟩
    · exact ⟨none, _, run_endLoop (P := P) hl (by simp [rc]), hdone _ _ (hI.putObj _ hi (by omega) hl rfl) ((World.putObj_heap_other (by omega)).trans hk) hB⟩
    · exact ⟨some c, _, run_endLoop (P := P) hl (by simp [rc]), hstop _ c pre _ hpre ((hIx c).putObj _ hi (by omega) hl rfl) ((World.putObj_heap_other (by omega)).trans hk) hB⟩
end Go.Proofs.YtimodbkfjaknhaaDoor.Seq
