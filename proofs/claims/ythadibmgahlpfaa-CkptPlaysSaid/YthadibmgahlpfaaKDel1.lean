/- Go's slices.Delete of the first mark of a row of one's own. -/
import Derived.Test.YthadibmgahlpfaaKRow
namespace Go.Proofs.Ythadibmgahlpfaa.MD
open Go Go.RowKit Go.Proofs Go.Proofs.YthadibmgahlpfaaW.PrintWords Go.Proofs.YthadibmgahlpfaaW.PrintLast Go.Proofs.YthadibmgahlpfaaW.PrintMore
set_option linter.unusedVariables false
set_option linter.unusedSimpArgs false
set_option maxHeartbeats 4000000 in
set_option maxRecDepth 100000 in
theorem del_first (base g cap : Nat) (l : List E) (w : World) (hR : Kd.R kE 64 w base (fun _ => True) (.slice (some ⟨g, 0, none⟩) l.length cap) l) (h1 : 2 ≤ l.length) (hn : l.length ≤ 1000) (hbase : base ≤ w.heap.size) :
    Calls Try.prog 20 #[.slice (some ⟨g, 0, none⟩) l.length cap, .int .i64 0, .int .i64 1] w fun e w' => e = .returned (.slice (some ⟨g, 0, none⟩) (l.drop 1).length cap) ∧ Kd.R kE 64 w' base (fun _ => True) (.slice (some ⟨g, 0, none⟩) (l.drop 1).length cap) (l.drop 1) ∧ w.grownBy w' (some g) := by
  have hu57 := Try.underlying57
  have hgb : base ≤ g := Kd.R_base hR g rfl
  rcases (own_of_R hR).2 with ⟨e1, _⟩ | ⟨g', cap', cur, e1, hbg, hg, hnc, hcm, hcs, htake⟩
  · cases e1
  injection e1 with e2 e3 e4
  injection e2 with e2
  injection e2 with e2
  subst e2 e4
  clear e3
  obtain ⟨i0, hi0, hzz⟩ := Option.map_eq_some_iff.1 infoM
  simp only [Prod.mk.injEq] at hzz
  obtain ⟨hz0, hz1, hz2⟩ := hzz
  obtain ⟨n, hn1⟩ : ∃ n, l.length = n + 1 := ⟨l.length - 1, by omega⟩
  have hdl : (l.drop 1).length = n := by rw [List.length_drop]; omega
  have hlen : (cellsE (l.drop 1)).length = n * 15 := by rw [cellsE_length, hdl]
  have hsrc : ∀ j u, (cellsE (l.drop 1))[j]? = some u → w.drew.cell? ((⟨g, 15, none⟩ : Addr).add j) = some u := fun j u hu => by
    have hlt : j < n * 15 := by have := (List.getElem?_eq_some_iff.1 hu).1; rwa [hlen] at this
    rw [Addr.add_lit]
    show w.cell? _ = _
    rw [cell_of_row w g (15 + j) cur 64 (0, 0) hg, ← Array.getElem?_toList]
    have hsp : cellsE l = cellsE (l.take 1) ++ cellsE (l.drop 1) := by rw [← cellsE_append, List.take_append_drop]
    have hA : (cellsE (l.take 1)).length = 15 := by rw [cellsE_length, List.length_take, Nat.min_eq_left (by omega)]
    have h2 : (cur.toList.take (l.length * 15))[15 + j]? = some u := by
      rw [htake, hsp, List.getElem?_append_right (by omega), hA, Nat.add_sub_cancel_left]
      exact hu
    rw [List.getElem?_take_of_lt (by omega)] at h2
    exact h2
  have hspare : ∀ t, t < (cellsE (l.drop 1)).length → (w.drew.cell? ⟨g, 0 + 0 * 15 + t, none⟩).isSome = true ∧ w.drew.frozen? ⟨g, 0 + 0 * 15 + t, none⟩ = false := fun t ht => by
    rw [hlen] at ht
    rw [show 0 + 0 * 15 + t = t by omega]
    refine ⟨?_, blk_frozen hg t⟩
    show (w.cell? _).isSome = true
    rw [blk_cell hg t, Array.getElem?_eq_getElem (by omega)]
    rfl
  obtain ⟨cur1, r1, r2, r3⟩ := setCells_row (cellsE (l.drop 1)) (0 + 0 * 15) w.drew cur hg (by rw [hlen, hcs]; omega)
  have r3' : cur1.toList.take (n * 15) = cellsE (l.drop 1) := by
    rw [r3, Nat.zero_mul, Nat.zero_add, List.take_zero, List.nil_append, ← hlen, List.take_left]
  obtain ⟨W1, hW1⟩ : ∃ W1, W1 = w.drew.setCells g (0 + 0 * 15) (cellsE (l.drop 1)) := ⟨_, rfl⟩
  have hG1 : w.grownBy W1 (some g) := by rw [hW1]; exact grown_setCells _ _ _ (grown_drew (grown_refl _ _))
  rw [← hW1] at r1
  have hcl0 := fun ty => run_clear_rows W1 g (n * 15) 1 (cap - n) ty cur1 r1 (by decide) (by rw [r2, hcs]; omega)
  obtain ⟨C2, hC2⟩ : ∃ C2, C2 = (cur1.toList.take (n * 15) ++ cellsE (List.replicate 1 zE) ++ cur1.toList.drop (n * 15 + 1 * 15)).toArray := ⟨_, rfl⟩
  rw [← hC2] at hcl0
  have hC2s : C2.size = cap * 15 := by
    rw [hC2, List.size_toArray, List.length_append, List.length_append, List.length_take, List.length_drop, cellsE_length, List.length_replicate, Array.length_toList, r2, hcs]
    omega
  have hC2t : C2.toList.take (n * 15) = cellsE (l.drop 1) := by
    rw [hC2, r3', List.append_assoc, ← hlen]
    exact List.take_left
  have HE : Aside0 (Kd.R kE 64 (W1.setRow g C2) base (fun _ => True) (.slice (some ⟨g, 0, none⟩) (l.drop 1).length cap) (l.drop 1)) := ⟨R_of_ownE ⟨cellsE_length _, .inr ⟨g, cap, C2, rfl, hbg, setRow_heap W1 g cur1 C2 64 (0, 0) r1, by omega, hcm, hC2s, by rw [hdl]; exact hC2t⟩⟩⟩
  have HGW : Aside0 (w.grownBy (W1.setRow g C2) (some g)) := ⟨grown_row hG1 _⟩
  have hll : l.length = n + 1 := hn1
  rw [hdl] at HE ⊢
  have S1 := Aside0.mk hlen
  have S2 := Aside0.mk hsrc
  have S3 := Aside0.mk hspare
  have HW1 := Aside0.mk hW1
  have HDL := Aside0.mk hdl
  clear hC2 hC2s hC2t r1 r2 r3 r3' hG1 hW1 hsrc hspare hlen hdl htake hcs hg hR
  rw [hn1]
  have hnc' : n + 1 ≤ cap := by omega
  have hn999 : n ≤ 1000 := by omega
  have hn1p : 1 ≤ n := by omega
  clear hn1 hll h1 hn hnc
  have b1 : (1 : Int) ≤ (n : Int) + 1 := by omega
  have b2 : ¬ (cap = 1) := by omega
  have b3 : ¬ (cap = n) := by omega
  have b4 : ((n : Int) + 1).toNat = n + 1 := by omega
  have b5 : (0 : Int) ≤ (n : Int) + 1 := by omega
  have b6 : n + 1 - n = 1 := by omega
  go_enter Try.func20, Try.ntmps20
  go_upto_region 5 with (fail)
  go_region_law (refine step_append_room rfl (.tmp 22) (.tmp 25) 57 rfl 64 i0 15 hu57 hi0 hz1 g 0 0 cap (by simp [Act.eval, Act.put]) ⟨g, 15, none⟩ n (cap - 1) (cellsE (l.drop 1)) (by simp [Act.eval, Act.put]) S1.out S2.out (cellsE_one _) (by omega) S3.out ?_; rw [← HW1.out])
  go_wp2
  go_ret
  exact ⟨rfl, by rw [← List.drop_one]; exact HE.out, HGW.out⟩
end Go.Proofs.Ythadibmgahlpfaa.MD
