/- The document's example. -/
import Derived.Test.YtlnllcgepplneaaFOne
import Derived.Lib.SlBytesConst
namespace Go.Proofs.Ytlnllcgepplneaa.MFrameLines
open Go.RowKit Go.Proofs Go.Proofs.YtlnllcgepplneaaW.PrintWords Go.Proofs.YtlnllcgepplneaaW.PrintLast Go.Proofs.YtlnllcgepplneaaW.PrintMore
set_option linter.unusedVariables false
set_option linter.unusedSimpArgs false
theorem doc_a : linesOf [] [97] = ([], [97]) := rfl
theorem doc_b : linesOf [97] [98, 10, 99] = ([⟨⟨#[97, 98]⟩, 0⟩], [99]) := by
  have e : lineOf [97, 98] = ⟨⟨#[97, 98]⟩, 0⟩ := by
    unfold lineOf
    rw [if_neg (by decide), if_neg (by decide)]
    rfl
  rw [← e]
  rfl
/-- The bytes of a constant text, in a block of their own. -/
theorem const_F (W : World) (l : List Int) (fr : Nat × Nat) (hl : l.length ≤ 1000) : Kd.F (Kd.int .u8) (W.alloc (.cells (l.map (Value.int .u8)).toArray 5 fr)) (fun k => k = W.heap.size) (some ⟨W.heap.size, 0, none⟩) l.length l := by
  have hn : (W.alloc (.cells (l.map (Value.int .u8)).toArray 5 fr)).heap[W.heap.size]? = some (.cells (l.map (Value.int .u8)).toArray 5 fr) := blk_new W _
  refine Kd.F_mono (F_scalar (Kd.C_of_reads (d := (0 : Int)) (h1 := fun _ => rfl) ⟨rfl, by omega, fun _ => ⟨_, rfl, fun j hj => ?_⟩⟩)) ?_
  · rw [add_plain, cell_of_row _ _ _ _ _ _ hn, List.getElem?_toArray, List.getElem?_map, List.getElem?_eq_getElem hj, List.getD_eq_getElem?_getD, List.getElem?_eq_getElem hj]
    rfl
  · rintro k ⟨⟨ad, e, rfl⟩, _⟩
    injection e with e
    rw [← e]
theorem byt_a : Byt [97] := by intro x hx; simp at hx; omega
theorem byt_b : Byt [98, 10, 99] := by intro x hx; simp at hx; omega
set_option maxHeartbeats 4000000 in
set_option maxRecDepth 100000 in
theorem anchor_any (w : World) : Calls Try.prog 5 #[] w fun e w' => e = .returned (.bool true) ∧ Below w.heap.size w w' := by
  have kc := fun (W : World) (C : Array Value) (n c : Nat) => Lib.run_convert_bytes_const (P := Try.prog) W 24 5 C n c Try.underlying24 Try.underlying5
  have hs0 := Sc.new w w.heap.size (Nat.le_refl _)
  generalize hW0 : w.alloc (.cells #[.slice none 0 0, .bool false, .bool false, .bool false] 31) = W0 at hs0
  have hb0 : Below w.heap.size w W0 := by rw [← hW0]; exact below_alloc (Below.refl _ _) _
  have hz0 : W0.heap.size = w.heap.size + 1 := by rw [← hW0]; simp
  have hb1 : Below W0.heap.size W0 (W0.alloc (.cells #[.int .u8 97] 5 (1, 2))) := below_alloc (Below.refl _ _) _
  have hf1 := feed_one (W0.alloc (.cells #[.int .u8 97] 5 (1, 2))) w.heap.size w.heap.size (.slice none 0 0) [] (some ⟨W0.heap.size, 0, none⟩) 1 [97] (fun k => k = W0.heap.size) (hs0.below hb1) (const_F W0 [97] (1, 2) (by decide)) (fun k hk _ => ⟨by omega, fun e => by cases e⟩) (by decide) (by decide) byt_a
  rw [doc_a, World.size_alloc] at hf1
  simp only [List.length_cons, List.length_nil, Nat.zero_add] at hf1
  have HF1 := Aside0.mk hf1
  have HB0 := Aside0.mk hb0
  have HZ0 := Aside0.mk hz0
  have hz0' : w.heap.size + 1 = W0.heap.size := hz0.symm
  clear hf1 hb0 hz0 hb1 hs0
  go_enter Try.func5, Try.ntmps5
  go_wp2_with fail
  refine HF1.out.mono ?_
  rintro e w1 ⟨vo, v1, rfl, hI⟩
  have hst := hI.st
  have hlg := hst.lg
  have hlt : ∀ k, v1.ownBlock = some k → k < w1.heap.size := by
    obtain ⟨p, lo, od, so, h1, h2⟩ := hst
    exact h1.own_lt
  have hob : ∀ k, v1.ownBlock = some k → w.heap.size ≤ k := by
    obtain ⟨p, lo, od, so, h1, h2⟩ := hst
    exact h1.own_base
  have HOB := Aside0.mk hob
  clear hob
  obtain ⟨Aa, ca, hvo, _⟩ := Kd.R_reads hI.out
  have hbw1 : Below w.heap.size w w1 := hI.oth.below ((HB0.out.alloc HB0.out.size _).alloc (by simp; have := HB0.out.size; omega) _) (Nat.le_refl _) (fun b e => by cases e) (by simp; have := HB0.out.size; omega)
  subst hvo
  have hb2 : Below w1.heap.size w1 (w1.alloc (.cells #[.int .u8 98, .int .u8 10, .int .u8 99] 5 (3, 4))) := below_alloc (Below.refl _ _) _
  have hf2 := feed_one (w1.alloc (.cells #[.int .u8 98, .int .u8 10, .int .u8 99] 5 (3, 4))) w.heap.size w.heap.size v1 [97] (some ⟨w1.heap.size, 0, none⟩) 3 [98, 10, 99] (fun k => k = w1.heap.size) (hst.below hb2) (const_F w1 [98, 10, 99] (3, 4) (by decide)) (fun k hk _ => ⟨by omega, fun e => by have := hlt _ e.symm; omega⟩) (by decide) (by decide) byt_b
  rw [doc_b, World.size_alloc] at hf2
  simp only [List.length_cons, List.length_nil, Nat.zero_add, Nat.reduceAdd] at hf2
  have HF2 := Aside0.mk hf2
  have HB1 := Aside0.mk hbw1
  clear hf2 hb2 hbw1 hlt hlg hst hI HF1 HB0 HZ0
  go_wp2_with fail
  refine HF2.out.mono ?_
  rintro e w2 ⟨vb, v2, rfl, hI⟩
  have hst := Aside0.mk hI.st
  have hbw2 : Below w.heap.size w w2 := hI.oth.below ((HB1.out.alloc HB1.out.size _).alloc (by simp; have := HB1.out.size; omega) _) (Nat.le_refl _) (fun b e => HOB.out b e) (by simp; have := HB1.out.size; omega)
  obtain ⟨Ab, cb, hvo, _, hC⟩ := Kd.R_reads hI.out
  obtain ⟨ad, hA, hx0, hx1⟩ := at_T35 hC 0 (by decide) (by decide)
  have e0 : (rd_T35 [(⟨⟨#[97, 98]⟩, 0⟩ : S35)] 0).f0 = ⟨#[97, 98]⟩ := rfl
  have e1 : (rd_T35 [(⟨⟨#[97, 98]⟩, 0⟩ : S35)] 0).f1 = 0 := rfl
  rw [e0] at hx0
  rw [e1] at hx1
  change w2.cell? ad = _ at hx0
  change w2.cell? ⟨ad.block, ad.off + 1, none⟩ = _ at hx1
  subst hA hvo
  have HB2 := Aside0.mk hbw2
  clear hI hC hbw2 HF2 HB1 e0 e1
  go_wp2_with (go_at_call 10; refine hst.out.left.mono ?_; rintro e w' ⟨rfl, rfl⟩)
  go_ret
  exact ⟨rfl, HB2.out⟩
end Go.Proofs.Ytlnllcgepplneaa.MFrameLines
