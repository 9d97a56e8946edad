/- What an argument reads as, opened into what a walk asks: a value's cells, as a kind of values reads them. -/
import Derived.Test.YthadibmgahlpfaaWWords
import Derived.Deep.Slices
import Derived.WideShapes
import Derived.ChangeShapes
import Derived.SizedLaws
import Derived.SliceStrings
import Derived.Test.YthadibmgahlpfaaKPlay
section
namespace Go.Proofs.Ythadibmgahlpfaa.Open
open Go.ChangeShapes Go.WideShapes Go.RowKit Go.Proofs.YthadibmgahlpfaaW.PrintWords
set_option linter.unusedVariables false

/-- Whatever reads as a datum of type t reads as a value of this kind. -/
def Opens {α : Type} (P : Program) (t : TypeId) (d : Kd α) (wf : α → Prop) : Prop :=
  ∀ (H : Type) (enc : TypeId × Value → H) (W : World) (fuel : Nat) (cs : List Value) (x : DataW H × List MemPlace),
    DataW.trod enc P W 0 (fun _ => true) true fuel t cs = some x → ∃ a : α, d.K W a cs ∧ wf a
theorem opens_int {P : Program} {t : TypeId} {k : IntKind} (ht : P.underlying t = some (.int k)) : Opens P t (Kd.int k) (fun a => (Lit.int k a).wf = true) := by
  intro H enc W fuel cs x h
  obtain ⟨n, rfl, _, hw⟩ := DataW.trod_int ht h
  exact ⟨n, rfl, hw⟩
theorem opens_string {P : Program} {t : TypeId} (ht : P.underlying t = some .string) : Opens P t Kd.string (fun a => a.size ≤ maxLen) := by
  intro H enc W fuel cs x h
  obtain ⟨s, rfl, _, hs⟩ := DataW.trod_string ht h
  exact ⟨s, rfl, hs⟩
theorem opens_slice {α : Type} {P : Program} {t e : TypeId} {d : Kd α} {wf : α → Prop} (ht : P.underlying t = some (.slice e)) (hc : P.cellsOf e = d.sz) (he : Opens P e d wf) :
    Opens P t (Kd.slice e d) (fun l => ∀ a ∈ l, wf a) := by
  intro H enc W fuel cs x h
  rcases Go.Deep.open_slice ht h with ⟨rfl, _⟩ | ⟨a, len, cap, m, n, D, Pl, rfl, _, hl, hm, hmm, _, hx⟩
  · exact ⟨[], ⟨none, 0, rfl, Nat.le_refl _, Kd.C_nil _ _⟩, by simp⟩
  · simp only [if_true] at hmm
    subst hmm
    have hel : ∀ i, i < len → ∃ b : α, wf b ∧ ∃ c, c.length = d.sz ∧ d.K W b c ∧ ∀ j u, c[j]? = some u → W.cell? (a.add (i * d.sz + j)) = some u := by
      intro i hi
      obtain ⟨cs', h1, h2⟩ := hx i (by omega)
      obtain ⟨b, hb, hw⟩ := he H enc W n cs' _ h2
      obtain ⟨_, hcl, hcell⟩ := World.cells?_some h1
      refine ⟨b, hw, cs', by rw [hcl, hc], hb, fun j u hu => ?_⟩
      have hj : j < cs'.length := (List.getElem?_eq_some_iff.1 hu).1
      have hcj := hcell j (by omega)
      have e1 : (a.add (i * P.cellsOf e)).add j = a.add (i * d.sz + j) := by
        rw [hc]
        exact Addr.add_add a _ j
      rw [e1] at hcj
      rw [hcj]
      exact hu
    have key : ∀ m, m ≤ len → ∃ l : List α, l.length = m ∧ ∀ j p, l[j]? = some p → wf p ∧ ∃ c, c.length = d.sz ∧ d.K W p c ∧ ∀ i u, c[i]? = some u → W.cell? (a.add (j * d.sz + i)) = some u := by
      intro m
      induction m with
      | zero => exact fun _ => ⟨[], rfl, fun j p hj => by simp at hj⟩
      | succ m ih =>
        intro hm
        obtain ⟨l, hll, hl2⟩ := ih (by omega)
        obtain ⟨b, hw, hb⟩ := hel m (by omega)
        refine ⟨l ++ [b], by rw [List.length_append, hll]; rfl, fun j p hj => ?_⟩
        by_cases hjm : j < m
        · rw [List.getElem?_append_left (by omega)] at hj
          exact hl2 j p hj
        · have hj1 : j < (l ++ [b]).length := (List.getElem?_eq_some_iff.1 hj).1
          rw [List.length_append, hll] at hj1
          simp only [List.length_cons, List.length_nil] at hj1
          obtain rfl : j = m := by omega
          rw [List.getElem?_append_right (by omega), hll, Nat.sub_self] at hj
          injection hj with hj
          subst hj
          exact ⟨hw, hb⟩
    obtain ⟨l, rfl, hl2⟩ := key len (Nat.le_refl _)
    refine ⟨l, ⟨some a, _, rfl, hl, rfl, by unfold maxLen at *; omega, fun _ => ⟨a, rfl, fun j p hj => (hl2 j p hj).2⟩⟩, fun b hb => ?_⟩
    obtain ⟨j, hj⟩ := List.mem_iff_getElem?.1 hb
    exact (hl2 j b hj).1

/-- A struct's fields in line, from a place on. -/
def OpensL {α : Type} (P : Program) (fs : List Field) (off : Nat) (d : Kd α) (wf : α → Prop) : Prop :=
  ∀ (H : Type) (enc : TypeId × Value → H) (W : World) (n : Nat) (cs : List Value), cs.length = off + d.sz →
    (∀ f, f ∈ fs → ∃ y, DataW.trod enc P W 0 (fun _ => true) true n f.type ((cs.drop f.offset).take (P.cellsOf f.type)) = some y) → ∃ a : α, d.K W a (cs.drop off) ∧ wf a
theorem opens_last {α : Type} {P : Program} {f : Field} {off : Nat} {d : Kd α} {wf : α → Prop} (h : Opens P f.type d wf) (ho : f.offset = off) (hc : P.cellsOf f.type = d.sz) : OpensL P [f] off d wf := by
  intro H enc W n cs hl hf
  obtain ⟨y, hy⟩ := hf f (by simp)
  rw [ho, hc, List.take_of_length_le (by rw [List.length_drop]; omega)] at hy
  exact h H enc W n _ _ hy
theorem opens_cons {α β : Type} {P : Program} {f : Field} {fs : List Field} {off : Nat} {d : Kd α} {d' : Kd β} {wf : α → Prop} {wf' : β → Prop} (h : Opens P f.type d wf) (ho : f.offset = off) (hc : P.cellsOf f.type = d.sz)
    (h' : OpensL P fs (off + d.sz) d' wf') : OpensL P (f :: fs) off (Kd.pair d d') (fun a => wf a.1 ∧ wf' a.2) := by
  intro H enc W n cs hl hf
  obtain ⟨y, hy⟩ := hf f (by simp)
  rw [ho, hc] at hy
  obtain ⟨a, ha, hw⟩ := h H enc W n _ _ hy
  have hl' : cs.length = off + (d.sz + d'.sz) := hl
  obtain ⟨b, hb, hw'⟩ := h' H enc W n cs (by omega) (fun g hg => hf g (by simp [hg]))
  refine ⟨(a, b), ⟨_, _, ?_, ha, hb⟩, hw, hw'⟩
  rw [← List.drop_drop, List.take_append_drop]
theorem opens_struct {α β : Type} {P : Program} {t : TypeId} {fs : Array Field} {d : Kd α} {wf : α → Prop} (f : β → α) (g : α → β) (hfg : ∀ a, f (g a) = a) (ht : P.underlying t = some (.struct fs)) (h : OpensL P fs.toList 0 d wf) (hc : P.cellsOf t = d.sz) :
    Opens P t (Kd.iso d f) (fun b => wf (f b)) := by
  intro H enc W fuel cs x hx
  obtain ⟨xs, n, _, _, hl, hlen, hf⟩ := DataW.trod_struct ht hx
  obtain ⟨a, ha, hw⟩ := h H enc W n cs (by rw [hl, hc]; omega) (fun fd hfd => by
    obtain ⟨i, hi⟩ := List.mem_iff_getElem?.1 hfd
    have hi' : fs[i]? = some fd := by simpa using hi
    have h1 := hf i fd hi'
    have h2 : i < xs.length := by rw [hlen]; exact (Array.getElem?_eq_some_iff.1 hi').1
    exact ⟨xs[i], by rw [h1, List.getElem?_eq_getElem h2]⟩)
  exact ⟨g a, by show d.K W (f (g a)) cs; rw [hfg]; exact ha, by show wf (f (g a)); rw [hfg]; exact hw⟩
/-- An argument that is a slice. -/
theorem open_arg_slice {α : Type} {P : Program} {t e : TypeId} {d : Kd α} {wf : List α → Prop} (h : Opens P t (Kd.slice e d) wf) {H : Type} {enc : TypeId × Value → H} {W : World} {A : Option Addr} {L C : Nat} {x : DataW H} {ps : List MemPlace}
    (ht : DataW.Trod enc P W 0 (fun _ => true) true t (.slice A L C) x ps) : ∃ l : List α, l.length = L ∧ L ≤ C ∧ d.C W A L l ∧ wf l := by
  obtain ⟨fuel, hf⟩ := ht
  obtain ⟨l, ⟨A', c, e1, hl, hC⟩, hw⟩ := h H enc W fuel _ _ hf
  have e2 : [Value.slice A L C] = [.slice A' l.length c] := e1
  injection e2 with e2
  injection e2 with e3 e4 e5
  subst e3 e4 e5
  exact ⟨l, rfl, hl, hC, hw⟩
/-- A cell that is a slice. -/
theorem open_cell_slice {α : Type} {P : Program} {t e : TypeId} {d : Kd α} {wf : List α → Prop} (h : Opens P t (Kd.slice e d) wf) {H : Type} {enc : TypeId × Value → H} {W : World} {n : Nat} {v : Value} {x : DataW H × List MemPlace}
    (ht : DataW.trod enc P W 0 (fun _ => true) true n t [v] = some x) : ∃ A c, ∃ l : List α, v = .slice A l.length c ∧ l.length ≤ c ∧ d.C W A l.length l ∧ wf l := by
  obtain ⟨l, ⟨A, c, e1, hl, hC⟩, hw⟩ := h H enc W n _ _ ht
  injection e1 with e1
  exact ⟨A, c, l, e1, hl, hC, hw⟩
end Go.Proofs.Ythadibmgahlpfaa.Open
end
section
namespace Go.Proofs.Ythadibmgahlpfaa.Open
open Go.RowKit Go.Proofs Go.Proofs.YthadibmgahlpfaaW.PrintWords Go.Proofs.Ythadibmgahlpfaa.MD
theorem ops : Opens Try.prog 43 (Kd.slice 46 kOp) (fun l : List Op3 => ∀ a ∈ l, (Lit.int .i64 a.1).wf = true ∧ (Lit.int .i64 a.2.1).wf = true ∧ (Lit.int .i64 a.2.2).wf = true) := by
  have hi := opens_int (P := Try.prog) (t := 3) (k := .i64) Try.underlying3
  have h64 := opens_int (P := Try.prog) (t := 2) (k := .i64) Try.underlying2
  have h1 := opens_last (P := Try.prog) (f := ⟨ "Clock", 2, 2, false, "", "", 16⟩) (off := 0 + (Kd.int .i64).sz + (Kd.int .i64).sz) h64 rfl (by kernel_rfl)
  have h2 := opens_cons (P := Try.prog) (f := ⟨ "At", 3, 1, false, "", "", 8⟩) (off := 0 + (Kd.int .i64).sz) hi rfl (by kernel_rfl) h1
  have h3 := opens_cons (P := Try.prog) (f := ⟨ "Kind", 3, 0, false, "", "", 0⟩) (off := 0) hi rfl (by kernel_rfl) h2
  have h4 := opens_struct (P := Try.prog) (t := 46) (fun x : Op3 => x) (fun x => x) (fun _ => rfl) Try.underlying46 h3 (by kernel_rfl)
  exact opens_slice Try.underlying43 (by kernel_rfl) h4
end Go.Proofs.Ythadibmgahlpfaa.Open
namespace Go.Proofs.Ythadibmgahlpfaa.MD
open Go.RowKit Go.Proofs Go.Proofs.YthadibmgahlpfaaW.PrintWords
theorem play_row (ev mo : Int) (A : Option Addr) (c : Nat) (xs : List Op3) (at_ : Int) (w : World) (_h0 : (Lit.int .i64 ev).wf = true) (_h1 : (Lit.int .i64 mo).wf = true) (hr : Kd.C kOp w A xs.length xs) (_hc : xs.length ≤ c)
    (hw : ∀ a ∈ xs, (Lit.int .i64 a.1).wf = true ∧ (Lit.int .i64 a.2.1).wf = true ∧ (Lit.int .i64 a.2.2).wf = true) (_h3 : (Lit.int .i64 at_).wf = true) :
    Calls Try.prog 4 #[.int .i64 ev, .int .i64 mo, .slice A xs.length c, .int .i64 at_] w fun e w' => e = .returned (.bool true) ∧ Below w.heap.size w w' := by
  by_cases hl : 200 < xs.length
  · exact play_long w ev mo at_ A c xs hl
  · by_cases hb : ev < 1 ∨ ev > 64 ∨ mo < 1 ∨ mo > 64
    · exact play_bad w ev mo at_ A c xs (by omega) hb
    · exact play_good w ev mo at_ A c xs hr hw (by omega) (by omega)
end Go.Proofs.Ythadibmgahlpfaa.MD
end
