/- What an argument reads as, opened into what a walk asks: a value's cells, as a kind of values reads them. -/
import Derived.Test.YtfpbohfefliljaaWWords
import Derived.Deep.Slices
import Derived.WideShapes
import Derived.ChangeShapes
import Derived.SizedLaws
import Derived.SliceStrings
import Derived.Test.YtfpbohfefliljaaDSnap
section
namespace Go.Proofs.Ytfpbohfefliljaa.OpenW
open Go.ChangeShapes Go.WideShapes Go.RowKit Go.Proofs.YtfpbohfefliljaaW.PrintWords
set_option linter.unusedVariables false

/-- Whatever reads as a datum of type t reads as a value of this kind. -/
def Opens {α : Type} (P : Program) (t : TypeId) (d : Kd α) (wf : α → Prop) : Prop :=
  ∀ (H : Type) (enc : TypeId × Value → H) (W : World) (fuel : Nat) (cs : List Value) (x : DataW H × List MemPlace),
    DataW.trod enc P W 0 (fun _ => true) true fuel t cs = some x → (x.1.weights P t).all (· ≤ reachBytes) = true → ∃ a : α, d.K W a cs ∧ wf a
theorem all_mem {H : Type} {P : Program} {e : TypeId} {ds : List (DataW H)} {p : Nat → Bool} (h : (DataW.weightsAll P e ds).all p = true) : ∀ d ∈ ds, (d.weights P e).all p = true := by
  induction ds with
  | nil => intro d hd; simp at hd
  | cons x r ih =>
    simp only [DataW.weightsAll, List.all_append, Bool.and_eq_true] at h
    intro d hd
    rcases List.mem_cons.1 hd with rfl | hd
    · exact h.1
    · exact ih h.2 d hd
theorem each_mem {H : Type} {P : Program} {ts : List TypeId} {ds : List (DataW H)} {p : Nat → Bool} (h : (DataW.weightsEach P ts ds).all p = true) {j : Nat} {t : TypeId} {d : DataW H} (ht : ts[j]? = some t) (hd : ds[j]? = some d) : (d.weights P t).all p = true :=
  List.all_eq_true.2 fun n hn => List.all_eq_true.1 h n (DataW.weights_mem_each ht hd n hn)
theorem opens_int {P : Program} {t : TypeId} {k : IntKind} (ht : P.underlying t = some (.int k)) : Opens P t (Kd.int k) (fun a => (Lit.int k a).wf = true) := by
  intro H enc W fuel cs x h hw0
  obtain ⟨n, rfl, _, hw⟩ := DataW.trod_int ht h
  exact ⟨n, rfl, hw⟩
theorem opens_string {P : Program} {t : TypeId} (ht : P.underlying t = some .string) : Opens P t Kd.string (fun a => a.size ≤ maxLen) := by
  intro H enc W fuel cs x h hw0
  obtain ⟨s, rfl, _, hs⟩ := DataW.trod_string ht h
  exact ⟨s, rfl, hs⟩
theorem opens_slice {α : Type} {P : Program} {t e : TypeId} {d : Kd α} {wf : α → Prop} (ht : P.underlying t = some (.slice e)) (hc : P.cellsOf e = d.sz) (hb1 : 1 ≤ P.bytesOf e) (he : Opens P e d wf) :
    Opens P t (Kd.slice e d) (fun l => l.length ≤ reachBytes ∧ ∀ a ∈ l, wf a) := by
  intro H enc W fuel cs x h hw0
  rcases Go.Deep.open_slice ht h with ⟨rfl, _⟩ | ⟨a, len, cap, m, n, D, Pl, rfl, _, hl, hm, hmm, hxe, hx⟩
  · exact ⟨[], ⟨none, 0, rfl, Nat.le_refl _, Kd.C_nil _ _⟩, by simp⟩
  · subst hxe
    simp only [DataW.weights, ht, List.all_cons, List.all_append, Bool.and_eq_true, decide_eq_true_eq, List.length_map, List.length_range] at hw0
    obtain ⟨hw1, hw2, _⟩ := hw0
    have hlen : len ≤ reachBytes := Nat.le_trans (Nat.le_trans (Nat.le_mul_of_pos_right len (by omega)) (Nat.mul_le_mul_right _ (Nat.le_add_right len _))) hw1
    simp only [if_true] at hmm
    subst hmm
    have hel : ∀ i, i < len → ∃ b : α, wf b ∧ ∃ c, c.length = d.sz ∧ d.K W b c ∧ ∀ j u, c[j]? = some u → W.cell? (a.add (i * d.sz + j)) = some u := by
      intro i hi
      obtain ⟨cs', h1, h2⟩ := hx i (by omega)
      obtain ⟨b, hb, hw⟩ := he H enc W n cs' _ h2 (all_mem hw2 _ (List.mem_map.2 ⟨i, List.mem_range.2 hi, rfl⟩))
      obtain ⟨_, hcl, hcell⟩ := World.cells?_some h1
      refine ⟨b, hw, cs', by rw [hcl, hc], hb, fun j u hu => ?_⟩
      have hj : j < cs'.length := (List.getElem?_eq_some_iff.1 hu).1
      have hcj := hcell j (by omega)
      have e1 : (a.add (i * P.cellsOf e)).add j = a.add (i * d.sz + j) := by
        rw [hc]
        exact Addr.add_add a _ j
      rw [e1] at hcj
      rw [hcj]
      exact hu
    have key : ∀ m, m ≤ len → ∃ l : List α, l.length = m ∧ ∀ j p, l[j]? = some p → wf p ∧ ∃ c, c.length = d.sz ∧ d.K W p c ∧ ∀ i u, c[i]? = some u → W.cell? (a.add (j * d.sz + i)) = some u := by
      intro m
      induction m with
      | zero => exact fun _ => ⟨[], rfl, fun j p hj => by simp at hj⟩
      | succ m ih =>
        intro hm
        obtain ⟨l, hll, hl2⟩ := ih (by omega)
        obtain ⟨b, hw, hb⟩ := hel m (by omega)
        refine ⟨l ++ [b], by rw [List.length_append, hll]; rfl, fun j p hj => ?_⟩
        by_cases hjm : j < m
        · rw [List.getElem?_append_left (by omega)] at hj
          exact hl2 j p hj
        · have hj1 : j < (l ++ [b]).length := (List.getElem?_eq_some_iff.1 hj).1
          rw [List.length_append, hll] at hj1
          simp only [List.length_cons, List.length_nil] at hj1
          obtain rfl : j = m := by omega
          rw [List.getElem?_append_right (by omega), hll, Nat.sub_self] at hj
          injection hj with hj
          subst hj
          exact ⟨hw, hb⟩
    obtain ⟨l, rfl, hl2⟩ := key len (Nat.le_refl _)
    refine ⟨l, ⟨some a, _, rfl, hl, rfl, by unfold maxLen at *; omega, fun _ => ⟨a, rfl, fun j p hj => (hl2 j p hj).2⟩⟩, hlen, fun b hb => ?_⟩
    obtain ⟨j, hj⟩ := List.mem_iff_getElem?.1 hb
    exact (hl2 j b hj).1

/-- A struct's fields in line, from a place on. -/
def OpensL {α : Type} (P : Program) (fs : List Field) (off : Nat) (d : Kd α) (wf : α → Prop) : Prop :=
  ∀ (H : Type) (enc : TypeId × Value → H) (W : World) (n : Nat) (cs : List Value), cs.length = off + d.sz →
    (∀ f, f ∈ fs → ∃ y, DataW.trod enc P W 0 (fun _ => true) true n f.type ((cs.drop f.offset).take (P.cellsOf f.type)) = some y ∧ (y.1.weights P f.type).all (· ≤ reachBytes) = true) → ∃ a : α, d.K W a (cs.drop off) ∧ wf a
theorem opens_last {α : Type} {P : Program} {f : Field} {off : Nat} {d : Kd α} {wf : α → Prop} (h : Opens P f.type d wf) (ho : f.offset = off) (hc : P.cellsOf f.type = d.sz) : OpensL P [f] off d wf := by
  intro H enc W n cs hl hf
  obtain ⟨y, hy, hyw⟩ := hf f (by simp)
  rw [ho, hc, List.take_of_length_le (by rw [List.length_drop]; omega)] at hy
  exact h H enc W n _ _ hy hyw
theorem opens_cons {α β : Type} {P : Program} {f : Field} {fs : List Field} {off : Nat} {d : Kd α} {d' : Kd β} {wf : α → Prop} {wf' : β → Prop} (h : Opens P f.type d wf) (ho : f.offset = off) (hc : P.cellsOf f.type = d.sz)
    (h' : OpensL P fs (off + d.sz) d' wf') : OpensL P (f :: fs) off (Kd.pair d d') (fun a => wf a.1 ∧ wf' a.2) := by
  intro H enc W n cs hl hf
  obtain ⟨y, hy, hyw⟩ := hf f (by simp)
  rw [ho, hc] at hy
  obtain ⟨a, ha, hw⟩ := h H enc W n _ _ hy hyw
  have hl' : cs.length = off + (d.sz + d'.sz) := hl
  obtain ⟨b, hb, hw'⟩ := h' H enc W n cs (by omega) (fun g hg => hf g (by simp [hg]))
  refine ⟨(a, b), ⟨_, _, ?_, ha, hb⟩, hw, hw'⟩
  rw [← List.drop_drop, List.take_append_drop]
theorem opens_struct {α β : Type} {P : Program} {t : TypeId} {fs : Array Field} {d : Kd α} {wf : α → Prop} (f : β → α) (g : α → β) (hfg : ∀ a, f (g a) = a) (ht : P.underlying t = some (.struct fs)) (h : OpensL P fs.toList 0 d wf) (hc : P.cellsOf t = d.sz) :
    Opens P t (Kd.iso d f) (fun b => wf (f b)) := by
  intro H enc W fuel cs x hx hw0
  obtain ⟨xs, n, _, hxe, hl, hlen, hf⟩ := DataW.trod_struct ht hx
  subst hxe
  simp only [DataW.weights, ht] at hw0
  obtain ⟨a, ha, hw⟩ := h H enc W n cs (by rw [hl, hc]; omega) (fun fd hfd => by
    obtain ⟨i, hi⟩ := List.mem_iff_getElem?.1 hfd
    have hi' : fs[i]? = some fd := by simpa using hi
    have h1 := hf i fd hi'
    have h2 : i < xs.length := by rw [hlen]; exact (Array.getElem?_eq_some_iff.1 hi').1
    exact ⟨xs[i], by rw [h1, List.getElem?_eq_getElem h2], each_mem hw0 (j := i) (by rw [List.getElem?_map, hi]; rfl) (by rw [List.getElem?_map, List.getElem?_eq_getElem h2]; rfl)⟩)
  exact ⟨g a, by show d.K W (f (g a)) cs; rw [hfg]; exact ha, by show wf (f (g a)); rw [hfg]; exact hw⟩
/-- An argument that is a slice. -/
theorem open_arg_slice {α : Type} {P : Program} {t e : TypeId} {d : Kd α} {wf : List α → Prop} (h : Opens P t (Kd.slice e d) wf) {H : Type} {enc : TypeId × Value → H} {W : World} {A : Option Addr} {L C : Nat} {x : DataW H} {ps : List MemPlace}
    (ht : DataW.Trod enc P W 0 (fun _ => true) true t (.slice A L C) x ps) (hw0 : (x.weights P t).all (· ≤ reachBytes) = true) : ∃ l : List α, l.length = L ∧ L ≤ C ∧ d.C W A L l ∧ wf l := by
  obtain ⟨fuel, hf⟩ := ht
  obtain ⟨l, ⟨A', c, e1, hl, hC⟩, hw⟩ := h H enc W fuel _ _ hf hw0
  have e2 : [Value.slice A L C] = [.slice A' l.length c] := e1
  injection e2 with e2
  injection e2 with e3 e4 e5
  subst e3 e4 e5
  exact ⟨l, rfl, hl, hC, hw⟩
end Go.Proofs.Ytfpbohfefliljaa.OpenW
end
section
namespace Go.Proofs.Ytfpbohfefliljaa.OpenW
open Go Go.RowKit Go.Proofs Go.Proofs.YtfpbohfefliljaaW.PrintWords Go.Proofs.Ytfpbohfefliljaa.MD
theorem snap : Opens Try.prog 46 k46 (fun s => tot s ≤ 1152921504606846975) := by
  have i3 := opens_int (P := Try.prog) (t := 3) (k := .i64) Try.underlying3
  have i2 := opens_int (P := Try.prog) (t := 2) (k := .i64) Try.underlying2
  have u38 := opens_int (P := Try.prog) (t := 38) (k := .u64) Try.underlying38
  have st := opens_string (P := Try.prog) (t := 9) Try.underlying9
  have v2 := opens_last (P := Try.prog) (f := ⟨ "S", 9, 2, false, "", "", 16⟩) (off := 2) st rfl (by kernel_rfl)
  have v1 := opens_cons (P := Try.prog) (f := ⟨ "N", 2, 1, false, "", "", 8⟩) (off := 1) i2 rfl (by kernel_rfl) v2
  have v0 := opens_cons (P := Try.prog) (f := ⟨ "Kind", 3, 0, false, "", "", 0⟩) (off := 0) i3 rfl (by kernel_rfl) v1
  have o68 := opens_struct (P := Try.prog) (t := 68) (fun x : S68 => (x.f0, x.f1, x.f2)) (fun y => ⟨y.1, y.2.1, y.2.2⟩) (fun _ => rfl) Try.underlying68 v0 (by kernel_rfl)
  have t2 := opens_last (P := Try.prog) (f := ⟨ "Name", 9, 2, false, "", "", 16⟩) (off := 2) st rfl (by kernel_rfl)
  have t1 := opens_cons (P := Try.prog) (f := ⟨ "Seq", 3, 1, false, "", "", 8⟩) (off := 1) i3 rfl (by kernel_rfl) t2
  have t0 := opens_cons (P := Try.prog) (f := ⟨ "Due", 2, 0, false, "", "", 0⟩) (off := 0) i2 rfl (by kernel_rfl) t1
  have o71 := opens_struct (P := Try.prog) (t := 71) (fun x : S71 => (x.f0, x.f1, x.f2)) (fun y => ⟨y.1, y.2.1, y.2.2⟩) (fun _ => rfl) Try.underlying71 t0 (by kernel_rfl)
  have s39 := opens_slice (P := Try.prog) (t := 39) (e := 38) Try.underlying39 (by kernel_rfl) (of_decide_eq_true (by kernel_rfl)) u38
  have s40 := opens_slice (P := Try.prog) (t := 40) (e := 68) Try.underlying40 (by kernel_rfl) (of_decide_eq_true (by kernel_rfl)) o68
  have s41 := opens_slice (P := Try.prog) (t := 41) (e := 71) Try.underlying41 (by kernel_rfl) (of_decide_eq_true (by kernel_rfl)) o71
  have s42 := opens_slice (P := Try.prog) (t := 42) (e := 3) Try.underlying42 (by kernel_rfl) (of_decide_eq_true (by kernel_rfl)) i3
  have s22 := opens_slice (P := Try.prog) (t := 22) (e := 9) Try.underlying22 (by kernel_rfl) (of_decide_eq_true (by kernel_rfl)) st
  have l3 := opens_last (P := Try.prog) (f := ⟨ "Out", 22, 3, false, "", "", 48⟩) (off := 3) s22 rfl (by kernel_rfl)
  have l2 := opens_cons (P := Try.prog) (f := ⟨ "Entered", 38, 2, false, "", "", 40⟩) (off := 2) u38 rfl (by kernel_rfl) l3
  have l1 := opens_cons (P := Try.prog) (f := ⟨ "Taken", 42, 1, false, "", "", 16⟩) (off := 1) s42 rfl (by kernel_rfl) l2
  have l0 := opens_cons (P := Try.prog) (f := ⟨ "Event", 9, 0, false, "", "", 0⟩) (off := 0) st rfl (by kernel_rfl) l1
  have o44 := opens_struct (P := Try.prog) (t := 44) (fun x : S44 => (x.f0, x.f1, x.f2, x.f3)) (fun y => ⟨y.1, y.2.1, y.2.2.1, y.2.2.2⟩) (fun _ => rfl) Try.underlying44 l0 (by kernel_rfl)
  have s10 := opens_last (P := Try.prog) (f := ⟨ "Last", 44, 10, true, "", "", 160⟩) (off := 10) o44 rfl (by kernel_rfl)
  have s9 := opens_cons (P := Try.prog) (f := ⟨ "Timers", 41, 9, false, "", "", 136⟩) (off := 9) s41 rfl (by kernel_rfl) s10
  have s8 := opens_cons (P := Try.prog) (f := ⟨ "Outer", 22, 8, false, "", "", 112⟩) (off := 8) s22 rfl (by kernel_rfl) s9
  have s7 := opens_cons (P := Try.prog) (f := ⟨ "Inner", 22, 7, false, "", "", 88⟩) (off := 7) s22 rfl (by kernel_rfl) s8
  have s6 := opens_cons (P := Try.prog) (f := ⟨ "Data", 40, 6, false, "", "", 64⟩) (off := 6) s40 rfl (by kernel_rfl) s7
  have s5 := opens_cons (P := Try.prog) (f := ⟨ "Past", 39, 5, false, "", "", 40⟩) (off := 5) s39 rfl (by kernel_rfl) s6
  have s4 := opens_cons (P := Try.prog) (f := ⟨ "In", 38, 4, false, "", "", 32⟩) (off := 4) u38 rfl (by kernel_rfl) s5
  have s3 := opens_cons (P := Try.prog) (f := ⟨ "Seq", 3, 3, false, "", "", 24⟩) (off := 3) i3 rfl (by kernel_rfl) s4
  have s2 := opens_cons (P := Try.prog) (f := ⟨ "Clock", 2, 2, false, "", "", 16⟩) (off := 2) i2 rfl (by kernel_rfl) s3
  have s1 := opens_cons (P := Try.prog) (f := ⟨ "Moves", 3, 1, false, "", "", 8⟩) (off := 1) i3 rfl (by kernel_rfl) s2
  have s0 := opens_cons (P := Try.prog) (f := ⟨ "Status", 3, 0, false, "", "", 0⟩) (off := 0) i3 rfl (by kernel_rfl) s1
  have o46 := opens_struct (P := Try.prog) (t := 46) (fun x : S46 => (x.f0, x.f1, x.f2, x.f3, x.f4, x.f5, x.f6, x.f7, x.f8, x.f9, x.f10)) (fun y => ⟨y.1, y.2.1, y.2.2.1, y.2.2.2.1, y.2.2.2.2.1, y.2.2.2.2.2.1, y.2.2.2.2.2.2.1, y.2.2.2.2.2.2.2.1, y.2.2.2.2.2.2.2.2.1, y.2.2.2.2.2.2.2.2.2.1, y.2.2.2.2.2.2.2.2.2.2⟩) (fun _ => rfl) Try.underlying46 s0 (by kernel_rfl)
  intro H enc W fuel cs x hx hw0
  obtain ⟨a, hK, hwf⟩ := o46 H enc W fuel cs x hx hw0
  refine ⟨a, hK, ?_⟩
  obtain ⟨_, _, _, _, _, w5, w6, w7, w8, w9, _, w11, _, w13⟩ := hwf
  have b5 := w5.1; have b6 := w6.1; have b7 := w7.1; have b8 := w8.1; have b9 := w9.1; have b11 := w11.1; have b13 := w13.1
  simp only [] at b5 b6 b7 b8 b9 b11 b13
  unfold tot
  have hr : reachBytes = 140737488351232 := by decide
  rw [hr] at b5 b6 b7 b8 b9 b11 b13
  omega
theorem snaps : Opens Try.prog 36 (Kd.slice 46 k46) (fun l => l.length ≤ reachBytes ∧ ∀ s ∈ l, tot s ≤ 1152921504606846975) := opens_slice Try.underlying36 (by kernel_rfl) (of_decide_eq_true (by kernel_rfl)) snap
end Go.Proofs.Ytfpbohfefliljaa.OpenW
end
section
namespace Go.Proofs.Ytfpbohfefliljaa.MD
open Go Go.RowKit Go.Proofs Go.Proofs.YtfpbohfefliljaaW.PrintWords Go.WideShapes
set_option maxRecDepth 100000 in
theorem arg_snap {H : Type} {enc : TypeId × Value → H} {W : World} {r : Reach} {b0 : Nat} {v : Value} {d : DataW H} {ps : List MemPlace} (hv : Value.okWide Try.prog W r b0 46 v) (ht : DataW.Trod enc Try.prog W 0 (fun _ => true) true 46 v d ps)
    (hw0 : (d.weights Try.prog 46).all (· ≤ reachBytes) = true) : ∃ s : S46, SnapC W v s ∧ tot s ≤ 1152921504606846975 := by
  obtain ⟨cs, rfl, hsz⟩ := okWide_struct Try.underlying46 hv
  obtain ⟨fuel, hf⟩ := ht
  obtain ⟨s, hK, hs⟩ := OpenW.snap H enc W fuel _ _ hf hw0
  exact ⟨s, ⟨_, by simp [Value.cells], hK⟩, hs⟩
end Go.Proofs.Ytfpbohfefliljaa.MD
end
