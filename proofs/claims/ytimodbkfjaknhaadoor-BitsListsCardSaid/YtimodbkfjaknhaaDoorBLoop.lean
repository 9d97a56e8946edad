/- A range over an iterator with a box of its own, left by its end or by a break: what follows is shown once. And the round of a loop that counts. -/
import Derived.Test.YtimodbkfjaknhaaDoorBList
namespace Go.Proofs.YtimodbkfjaknhaaDoor.Seq
open Go Go.RowKit Go.Proofs Go.Shelf BPlain Go.Proofs.YtimodbkfjaknhaaDoorW.PrintWords Go.Proofs.YtimodbkfjaknhaaDoorW.PrintLast Go.Proofs.YtimodbkfjaknhaaDoorW.PrintMore
set_option linter.unusedVariables false
theorem range_break {n : Nat} {P : Program} {g : Operand} {p : Tmp} {assign body : Code} {id : Nat} {Q : Exit → Act → World → Prop} {a : Act} {w : World} {gf b B : Nat} {s : Int} {Z : Option Obj} {xs : List Int}
    (hg : a.eval g = .func (.func gf) #[] #[.pointer (some ⟨b, 0, none⟩)]) (eg : ∀ args w, (callFunc gf args).run P w = .ok (.enter gf args) w)
    (hseq : Gives (n - 1) P gf b s Z xs) (hbox : Box w b s Z) (hB : B ≤ w.heap.size)
    (I : List Int → World → Prop) (Ix : List Int → World → Prop) (End : World → Prop) (hI : OwnFrom B I) (hIx : OwnFrom B Ix) (hIb : Bears b I) (h0 : I [] w) (a₁ : Int → Act)
    (hend : ∀ (D : Nat) (W : World), End W → W.heap[D]? = some (.deferred (some [])) → B ≤ D → Q .normal { a with defers := { target := .collected D, args := #[] } :: a.defers } W)
    (hassign : ∀ (l : Nat) (x : Int) (W : World) (K : Act → World → Prop), K (a₁ x) W → assign.wpIn (Fence.wide.inRound l) (n - 1 - 1) P (Exit.then K (fun _ _ _ => False)) { tmps := a.tmps.setIfInBounds p (.int .i64 x), defers := [] } W)
    (hbody : ∀ (l : Nat) (pre : List Int) (x s1 : Int) (W : World), I pre W → pre ++ [x] <+: xs → Box W b s1 Z → body.wpIn (Fence.wide.inRound l) (n - 1 - 1) P (roundEnd b I (fun c pre W => c = .exit id ∧ Ix pre W) (pre ++ [x]) W) (a₁ x) W)
    (hall : ∀ W, I xs W → End W) (hbrk : ∀ pre W, pre <+: xs → Ix pre W → End W) :
    (Code.rangeFunc g #[p] assign body).wpIn Fence.wide n P (Exit.inBlock id Q) a w := by
  refine range_box hg eg hseq hbox hB I (fun c pre W => c = .exit id ∧ Ix pre W) hI ?_ hIb h0 a₁ hassign hbody ?_ ?_
  · rintro c st W W' row ⟨hc, h⟩ hgr hr
    exact ⟨hc, hIx st W W' row h hgr hr⟩
  · intro D W h hD hBD
    have := hend D W (hall W h) hD hBD
    exact this
  · rintro D c pre W hp ⟨rfl, h⟩ hD hBD
    have := hend D W (hbrk pre W hp h) hD hBD
    gi_wp2
    exact this
/-- What a counting loop has: its counter's box, nothing that lay was changed. -/
def Cnt (w : World) (b : Nat) (stop : Int) (pre : List Int) (W : World) : Prop :=
  Boxed W b 3 (.int .i64 (pre.length : Int)) ∧ Below b w W ∧ ∀ c : Nat, 1 ≤ c → c ≤ pre.length → (c : Int) ≠ stop
def CntX (w : World) (b : Nat) (stop : Int) (pre : List Int) (W : World) : Prop :=
  Boxed W b 3 (.int .i64 (pre.length : Int)) ∧ Below b w W ∧ 1 ≤ pre.length ∧ (pre.length : Int) = stop
theorem boxed_grown {W W' : World} {b t : Nat} {v : Value} {row : Option Nat} (h : Boxed W b t v) (hg : W.grownBy W' row) (hr : ∀ r, row = some r → ∃ o : Obj, W.heap[r]? = some o ∧ o.isCells = false) : Boxed W' b t v := by
  refine h.kept hg (fun e => ?_)
  obtain ⟨o, ho, hc⟩ := hr b e.symm
  have hb : W.heap[b]? = some (.cells #[v] t) := h
  rw [hb] at ho
  cases ho
  cases hc
theorem cnt_own (w : World) (b : Nat) (stop : Int) (C : Nat) (hC : b ≤ C) (hz : w.heap.size = b) : OwnFrom C (Cnt w b stop) := by
  rintro pre W W' row ⟨h1, h2, h3⟩ hg hr
  refine ⟨boxed_grown h1 hg (fun r e => (hr r e).2), h2.grown hg (by have := h2.size; omega) (fun k e => by have := (hr k e).1; omega), h3⟩
theorem cntx_own (w : World) (b : Nat) (stop : Int) (C : Nat) (hC : b ≤ C) (hz : w.heap.size = b) : OwnFrom C (CntX w b stop) := by
  rintro pre W W' row ⟨h1, h2, h3⟩ hg hr
  refine ⟨boxed_grown h1 hg (fun r e => (hr r e).2), h2.grown hg (by have := h2.size; omega) (fun k e => by have := (hr k e).1; omega), h3⟩
theorem cnt_bears (w : World) (b c : Nat) (stop : Int) (hz : w.heap.size = b) (hbc : b < c) : Bears c (Cnt w b stop) where
  store := by
    rintro pre W u ⟨h1, h2, h3⟩
    exact ⟨h1.kept (grownBy_setCell' W c u) (fun e => by injection e; omega), h2.setCell (p := ⟨c, 0, none⟩) (by change b ≤ c; omega) u, h3⟩
  alloc := by
    rintro pre W o ⟨h1, h2, h3⟩
    exact ⟨h1.alloc o, h2.alloc (by have := h2.size; omega) o, h3⟩
  drew := by
    rintro pre W n ⟨h1, h2, h3⟩
    exact ⟨h1, ⟨h2.os, h2.tape, h2.output, h2.size, h2.block⟩, h3⟩
/-- The count that such a loop ends with. -/
def fin (len : Nat) (stop : Int) : Int := if 1 ≤ stop ∧ stop ≤ (len : Int) then stop else (len : Int)
theorem fin_all {w W : World} {b : Nat} {stop : Int} {xs : List Int} (h : Cnt w b stop xs W) : Boxed W b 3 (.int .i64 (fin xs.length stop)) ∧ Below b w W := by
  refine ⟨?_, h.2.1⟩
  have e : fin xs.length stop = (xs.length : Int) := by
    unfold fin
    split
    · rename_i hs
      exact absurd (by omega) (h.2.2 stop.toNat (by omega) (by omega))
    · rfl
  rw [e]
  exact h.1
theorem fin_brk {w W : World} {b : Nat} {stop : Int} {xs pre : List Int} (hp : pre <+: xs) (h : CntX w b stop pre W) : Boxed W b 3 (.int .i64 (fin xs.length stop)) ∧ Below b w W := by
  refine ⟨?_, h.2.1⟩
  have hl := hp.length_le
  have h1 := h.2.2.1
  have h2 := h.2.2.2
  have e : fin xs.length stop = (pre.length : Int) := by
    unfold fin
    rw [if_pos (by omega), h2]
  rw [e]
  exact h.1
theorem results_box (tmps : Array Value) (w : World) (g : Nat) (b : Bool) (hp : tmps.getD 4 undef = .pointer (some ⟨g, 0, none⟩)) (hc : w.cell? ⟨g, 0, none⟩ = some (.bool b)) :
    (results Tryd.f3 tmps).run Tryd.prog w = .ok (.bool b) w := by
  have hp' : tmps[4]?.getD undef = .pointer (some ⟨g, 0, none⟩) := by simpa using hp
  simp [results, hp', asAddr, loadVar, hc]
/-- What the function leaves: the result in its box, both loops' lists taken. -/
theorem leaves_two {w wE : World} {D D2 r : Nat} {tmps : Array Value} (hp : tmps.getD 4 undef = .pointer (some ⟨r, 0, none⟩)) (hr : w.heap.size ≤ r) (hB : Below w.heap.size w wE) (bR : Boxed wE r 4 (.bool true))
    (h1 : wE.heap[D]? = some (.deferred (some []))) (h2 : wE.heap[D2]? = some (.deferred (some []))) (hD : w.heap.size ≤ D) (hD2 : w.heap.size ≤ D2) (hne : D ≠ D2) :
    bodyPostM Fence.wide 9 Tryd.prog Tryd.f3 (fun e w' => e = Ending.returned (Value.bool true) ∧ Below w.heap.size w w') .ret { tmps := tmps, defers := [{ target := .collected D2, args := #[] }, { target := .collected D, args := #[] }] } wE := by
  have hb : wE.heap[r]? = some (.cells #[.bool true] 4) := bR
  have r1 : r ≠ D := fun e => by rw [e, h1] at hb; cases hb
  have r2 : r ≠ D2 := fun e => by rw [e, h2] at hb; cases hb
  have h1' : (wE.putObj D2 (.deferred none)).heap[D]? = some (.deferred (some [])) := (World.putObj_heap_other hne).trans h1
  have bR2 : Boxed ((wE.putObj D2 (.deferred none)).putObj D (.deferred none)) r 4 (.bool true) := (World.putObj_heap_other r1).trans ((World.putObj_heap_other r2).trans hb)
  refine ⟨by simp, .inl ⟨_, _, rfl, run_takeDeferred h2, ?_⟩⟩
  refine ⟨by simp, .inl ⟨_, _, rfl, run_takeDeferred h1', ?_⟩⟩
  exact ⟨_, results_box tmps _ r true hp bR2.cell, rfl, (hB.trans (belowK_b (w := w) (Nat.le_refl _) wE D2 _ _ hD2 h2 rfl rfl)).trans (belowK_b (w := w) (Nat.le_refl _) _ D _ _ hD h1' rfl rfl)⟩
/-- A piece of code that ends where it ends, and nowhere else. -/
theorem only_normal {P : Program} {c : Code} {K : Act → World → Prop} {Q : Exit → Act → World → Prop} {a : Act} {w : World} (h : c.wp P (Exit.then K (fun _ _ _ => False)) a w) : c.wp P (Exit.then K Q) a w :=
  wp_mono h (fun e a w h => by cases e <;> first | exact h | exact h.elim)
/-- A guarded operation whose guard lets it go, in a fence. -/
theorem gi_guard {F : Fence} {n : Nat} {P : Program} {ops : Array Oper} {Q : Exit → Act → World → Prop} {o : Oper} {rest : List Oper} {a : Act} {W : World} (hw : Region.wanted o (yielded ops a.tmps) = true) (h : wpListIn F n P ops Q ({ o with guard := none } :: rest) a W) : wpListIn F n P ops Q (o :: rest) a W := by
  have h1 : Region.wanted { o with guard := none } (yielded ops a.tmps) = true := rfl
  unfold wpListIn at h ⊢
  rw [if_pos h1] at h
  rw [if_pos hw]
  exact h
theorem sub_m (a m : Nat) : a + m + 1 - 1 - a = m := by omega
theorem back_first (a m : Nat) (h : a + m + 1 ≤ 64) : wrap64 (((a + m + 1 : Nat) : Int) - 1) = ((a + m + 1 : Nat) : Int) - 1 := by unfold wrap64; omega
theorem back_next (a m : Nat) (h : a + m + 1 ≤ 64) : wrap64 (((a + m + 1 : Nat) : Int) - 1 - (a : Int)) = (m : Int) := by unfold wrap64; omega
theorem fin_two (i : Nat) (stop : Int) : fin i stop = (i : Int) ∨ fin i stop = stop := by
  unfold fin
  split
  · exact .inr rfl
  · exact .inl rfl
/-- The same, where the round begins by handing the number to a slot. -/
theorem range_count {n : Nat} {P : Program} {g : Operand} {p q : Tmp} {assign body : Code} {id : Nat} {Q : Exit → Act → World → Prop} {tmps : Array Value} {ds : List Deferred} {w : World} {gf b B : Nat} {s : Int} {Z : Option Obj} {xs : List Int}
    (hg : ({ tmps := tmps, defers := ds } : Act).eval g = .func (.func gf) #[] #[.pointer (some ⟨b, 0, none⟩)]) (eg : ∀ args w, (callFunc gf args).run P w = .ok (.enter gf args) w)
    (hseq : Gives (n - 1) P gf b s Z xs) (hbox : Box w b s Z) (hB : B ≤ w.heap.size)
    (I : List Int → World → Prop) (Ix : List Int → World → Prop) (End : World → Prop) (hI : OwnFrom B I) (hIx : OwnFrom B Ix) (hIb : Bears b I) (h0 : I [] w)
    (hend : ∀ (D : Nat) (W : World), End W → W.heap[D]? = some (.deferred (some [])) → B ≤ D → Q .normal { tmps := tmps, defers := { target := .collected D, args := #[] } :: ds } W)
    (hassign : ∀ (l : Nat) (x : Int) (W : World) (K : Act → World → Prop), K { tmps := (tmps.setIfInBounds p (.int .i64 x)).setIfInBounds q (.int .i64 x), defers := [] } W → assign.wpIn (Fence.wide.inRound l) (n - 1 - 1) P (Exit.then K (fun _ _ _ => False)) { tmps := tmps.setIfInBounds p (.int .i64 x), defers := [] } W)
    (hbody : ∀ (l : Nat) (pre : List Int) (x s1 : Int) (W : World), I pre W → pre ++ [x] <+: xs → Box W b s1 Z → body.wpIn (Fence.wide.inRound l) (n - 1 - 1) P (roundEnd b I (fun c pre W => c = .exit id ∧ Ix pre W) (pre ++ [x]) W) { tmps := (tmps.setIfInBounds p (.int .i64 x)).setIfInBounds q (.int .i64 x), defers := [] } W)
    (hall : ∀ W, I xs W → End W) (hbrk : ∀ pre W, pre <+: xs → Ix pre W → End W) :
    (Code.rangeFunc g #[p] assign body).wp P (Exit.inBlock id Q) { tmps := tmps, defers := ds } w :=
  wpIn_wide.1 (range_break (n := n) (a := { tmps := tmps, defers := ds }) hg eg hseq hbox hB I Ix End hI hIx hIb h0 (fun x => { tmps := (tmps.setIfInBounds p (.int .i64 x)).setIfInBounds q (.int .i64 x), defers := [] }) hend hassign hbody hall hbrk)
end Go.Proofs.YtimodbkfjaknhaaDoor.Seq
