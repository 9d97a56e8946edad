/- The map from places to clocks, as a function. -/
import Derived.Test.YthadibmgahlpfaaDBase
import Derived.Maps.Own
import Derived.Maps.Views
namespace Go.Proofs.Ythadibmgahlpfaa.MD
open Go Go.RowKit Go.Proofs Go.Maps
set_option linter.unusedVariables false
/-- Block M holds a map of at most n entries that gives F. -/
def IMap (w : World) (M : Nat) (F : Int → Int) (n : Nat) : Prop :=
  ∃ D : DataW Unit, w.ownsMap Try.prog 3 (plainElem Try.prog 2) M n D ∧ IsMap D ∧ ∀ a, (Lit.int .i64 a).wf = true → D.atKey (.int .i64 a) (.lit (.int .i64 0)) = .lit (.int .i64 (F a))
theorem IMap.made (w : World) : IMap (w.alloc (.map #[] 0)) w.heap.size (fun _ => 0) 0 := ⟨.map [], World.ownsMap_made w _ _ _, ⟨[], rfl⟩, fun a _ => rfl⟩
theorem IMap.kept {w w' : World} {M n : Nat} {F : Int → Int} (h : IMap w M F n) {row : Option Nat} (hg : w.grownBy w' row) (hne : some M ≠ row) : IMap w' M F n := by
  obtain ⟨D, h1, h2, h3⟩ := h
  exact ⟨D, h1.kept hg hne, h2, h3⟩
theorem IMap.lt {w : World} {M n : Nat} {F : Int → Int} (h : IMap w M F n) : M < w.heap.size := by
  obtain ⟨D, h1, _⟩ := h
  exact h1.lt
theorem zero2 (w : World) : (zeroValue 2).run Try.prog w = .ok (.int .i64 0) w := by kernel_rfl
set_option maxRecDepth 100000 in
theorem IMap.lookup {w : World} {M n : Nat} {F : Int → Int} (h : IMap w M F n) {a : Int} (ha : (Lit.int .i64 a).wf = true) : (Instr.lookup 44 (.map (some M)) (.int .i64 a) false).run Try.prog w = .ok (.int .i64 (F a)) w := by
  obtain ⟨D, h1, h2, h3⟩ := h
  obtain ⟨c, hr, hc, _⟩ := h1.lookup_int (int_keyed Try.underlying3) Try.underlying44 Try.underlying2 (zero2 w) (keyOf_int_mk Try.underlying3 ha)
  rw [h3 a ha] at hc
  injection hc with hc
  injection hc with _ hc
  rw [hr, hc]
set_option maxRecDepth 100000 in
theorem IMap.update {w : World} {M n : Nat} {F : Int → Int} (h : IMap w M F n) (hn : n < maxLen) {a c : Int} (ha : (Lit.int .i64 a).wf = true) (hc : (Lit.int .i64 c).wf = true) :
    ∃ w', (Instr.mapUpdate 44 (.map (some M)) (.int .i64 a) (.int .i64 c)).run Try.prog w = .ok () w' ∧ IMap w' M (fun k => if k = a then c else F k) (n + 1) ∧ w.grownBy w' (some M) := by
  obtain ⟨D, h1, h2, h3⟩ := h
  obtain ⟨w', hr, ho, hg⟩ := h1.update (int_keyed Try.underlying3) Try.underlying44 hn (keyOf_int_mk Try.underlying3 ha) (plainElem_int Try.underlying2 hc)
  refine ⟨w', hr, ⟨_, ho, h2.put _ _, fun k hk => ?_⟩, hg⟩
  show _ = DataW.lit (Lit.int .i64 (if k = a then c else F k))
  by_cases e : k = a
  · subst e
    rw [if_pos rfl]
    exact atKey_put_same h2 (by first | exact ha | exact True.intro | simp [WideAt.IsKeyLit]) _ _
  · rw [if_neg e]
    exact (atKey_put_other (fun e2 => by injection e2 with _ e2; exact e e2) _ _).trans (h3 k hk)
end Go.Proofs.Ythadibmgahlpfaa.MD
