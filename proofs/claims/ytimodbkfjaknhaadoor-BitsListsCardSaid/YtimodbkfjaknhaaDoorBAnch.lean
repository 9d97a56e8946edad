/- The document's example. -/
import Derived.Test.YtimodbkfjaknhaaDoorBShow
import Derived.Test.YtimodbkfjaknhaaDoorMBitsOfx1
namespace Go.Proofs.YtimodbkfjaknhaaDoor.Seq
open Go Go.RowKit Go.Proofs BPlain MBitsOf Go.Proofs.YtimodbkfjaknhaaDoorW.PrintWords Go.Proofs.YtimodbkfjaknhaaDoorW.PrintLast Go.Proofs.YtimodbkfjaknhaaDoorW.PrintMore
set_option linter.unusedVariables false
set_option linter.unusedSimpArgs false
theorem of_doc : bits_Of.f 10 [5, 1, 64] = some 34 := by decide +kernel
theorem of_seven : bits_Of.f 10 [7] = some 128 := by decide +kernel
theorem show_doc : joined (lst 34) = ⟨#[49, 44, 53]⟩ := by decide +kernel
/-- Numbers in a block of their own. -/
theorem nums_C (W : World) (l : List Int) (hl : l.length ≤ 1000) : Kd.C (Kd.int .i64) (W.alloc (.cells (l.map (Value.int .i64)).toArray 3)) (some ⟨W.heap.size, 0, none⟩) l.length l := by
  have hn : (W.alloc (.cells (l.map (Value.int .i64)).toArray 3)).heap[W.heap.size]? = some (.cells (l.map (Value.int .i64)).toArray 3 (0, 0)) := blk_new W _
  refine Kd.C_of_reads (d := (0 : Int)) (h1 := fun _ => rfl) ⟨rfl, by omega, fun _ => ⟨_, rfl, fun j hj => ?_⟩⟩
  rw [add_plain, cell_of_row _ _ _ _ _ _ hn, List.getElem?_toArray, List.getElem?_map, List.getElem?_eq_getElem hj, List.getD_eq_getElem?_getD, List.getElem?_eq_getElem hj]
  rfl
set_option maxHeartbeats 4000000 in
set_option maxRecDepth 100000 in
theorem anchor_any (w : World) (ht : Tab w) : Calls Tryd.prog 6 #[] w fun e w' => e = .returned (.bool true) ∧ Below w.heap.size w w' := by
  have hof := fun W : World => bits_Of.calls 10 (some ⟨W.heap.size, 0, none⟩) 3 [5, 1, 64] 34 _ (nums_C W [5, 1, 64] (by decide)) (Nat.le_refl _) of_doc
  have hof7 := fun W : World => bits_Of.calls 10 (some ⟨W.heap.size, 0, none⟩) 1 [7] 128 _ (nums_C W [7] (by decide)) (Nat.le_refl _) of_seven
  have hshow := fun (W : World) (h : Tab W) => show_any 34 (by decide) W h
  rw [show_doc] at hshow
  have hfirst := fun (W : World) (h : Tab W) => first_calls 7 0 (by decide) W h
  have HT := Aside0.mk ht
  have HB := Aside0.mk (Below.refl w.heap.size w)
  clear ht
  go_enter Tryd.func6, Tryd.ntmps6
  go_wp2_with fail
  refine (hof w).mono ?_
  rintro e w1 ⟨rfl, hd⟩
  have HB1 := Aside0.mk (below_step (below_alloc HB.out (.cells #[.int .i64 5, .int .i64 1, .int .i64 64] 3)) hd.below)
  have HT1 := Aside0.mk (HT.out.below HB1.out)
  clear hd
  go_wp2_with fail
  refine (hshow w1 HT1.out).mono ?_
  rintro e w2 ⟨rfl, hb⟩
  have HB2 := Aside0.mk (below_step HB1.out hb)
  clear hb
  go_wp2_with fail
  refine (hof7 w2).mono ?_
  rintro e w3 ⟨rfl, hd⟩
  have HB3 := Aside0.mk (below_step (below_alloc HB2.out (.cells #[.int .i64 7] 3)) hd.below)
  have HT3 := Aside0.mk (HT.out.below HB3.out)
  clear hd
  go_wp2_with fail
  refine (hfirst w3 HT3.out).mono ?_
  rintro e w4 ⟨rfl, rfl⟩
  go_wp2_with fail
  go_ret
  exact ⟨rfl, HB3.out⟩
end Go.Proofs.YtimodbkfjaknhaaDoor.Seq
