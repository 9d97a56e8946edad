/- ValMakes walked: for any number, truth and text the call answers true. -/
import Derived.Test.YtbbdlcmcndhhkaaDoorAnchor
import Derived.Test.YtbbdlcmcndhhkaaDoorMValReckonsx8
namespace Go.Proofs.YtbbdlcmcndhhkaaDoor.MValReckons
open Go.RowKit Go.Proofs.YtbbdlcmcndhhkaaDoorW.PrintWords Go.Proofs.YtbbdlcmcndhhkaaDoorW.PrintLast Go.Proofs.YtbbdlcmcndhhkaaDoorW.PrintMore
set_option linter.unusedVariables false
set_option linter.unusedSimpArgs false
attribute [local go_sem high] eqA24

set_option maxHeartbeats 2000000 in
set_option maxRecDepth 100000 in
theorem yes_any (k n : Int) (s : ByteArray) (w : World) : Calls Tryd.prog 16 #[.agg #[.int .i64 k, .int .i64 n, .string s]] w fun e w' => e = .returned (.bool (k == 2 && n != 0)) ∧ Below w.heap.size w w' := by
  have hb := (Below.refl w.heap.size w).alloc (Nat.le_refl _) (.cells #[.int .i64 k, .int .i64 n, .string s] 24)
  by_cases h : k = 2
  · subst h
    go_enter Tryd.func16, Tryd.ntmps16
    go_wp2
    go_ret
    exact ⟨by simp, hb⟩
  · have hk : (k == 2) = false := beq_eq_false_iff_ne.2 h
    go_enter Tryd.func16, Tryd.ntmps16
    go_wp2
    go_ret
    exact ⟨by simp [h], hb⟩

set_option maxHeartbeats 4000000 in
set_option maxRecDepth 100000 in
theorem makes_any (n : Int) (b : Bool) (s : ByteArray) (w : World) : Calls Tryd.prog 8 #[.int .i64 n, .bool b, .string s] w fun e w' => e = .returned (.bool true) ∧ Below w.heap.size w w' := by
  obtain ⟨v, hv, hr, hy⟩ : ∃ v : Int, val_Truth.f b = some (2, v, ⟨#[]⟩) ∧ val_Value_Right.f 2 v ⟨#[]⟩ = some true ∧ ((2 : Int) == 2 && v != 0) = b := by
    cases b
    · exact ⟨0, rfl, by decide +kernel, rfl⟩
    · exact ⟨1, rfl, by decide +kernel, rfl⟩
  have hbb : (b == b) = true := by cases b <;> rfl
  have HV := Aside0.mk hv
  have HR := Aside0.mk hr
  have HY := Aside0.mk hy
  clear hv hr hy
  go_enter Tryd.func8, Tryd.ntmps8
  go_wp2_with fail
  refine (whirligiglaw01_anchor.calls 30 true w anchor_f).mono ?_
  rintro e w1 ⟨rfl, h1⟩
  go_wp2_with fail
  refine (val_Truth.calls b 2 v ⟨#[]⟩ _ HV.out).mono ?_
  rintro e w2 ⟨rfl, h2⟩
  have hb2 : Below w.heap.size w w2 := h1.trans (h2.mono h1.size)
  have bk := blk_new w2 (.cells #[.int .i64 2, .int .i64 v, .string ⟨#[]⟩] 24)
  have hb3 := hb2.alloc hb2.size (.cells #[.int .i64 2, .int .i64 v, .string ⟨#[]⟩] 24)
  go_wp2_with fail
  generalize w2.alloc (.cells #[.int .i64 2, .int .i64 v, .string ⟨#[]⟩] 24) = w3 at bk hb3 ⊢
  refine (val_Of.calls n 1 n ⟨#[]⟩ _ rfl).mono ?_
  rintro e w4 ⟨rfl, h4⟩
  replace bk := blk_below bk h4
  have hb4 := hb3.trans (h4.mono hb3.size)
  have c0 : w4.cell? ⟨w2.heap.size, 0, none⟩ = some (.int .i64 2) := blk_cell bk 0
  have c1 : w4.cell? ⟨w2.heap.size, 1, none⟩ = some (.int .i64 v) := blk_cell bk 1
  have c2 : w4.cell? ⟨w2.heap.size, 2, none⟩ = some (.string ⟨#[]⟩) := blk_cell bk 2
  go_wp2_with fail
  refine (yes_any 2 v ⟨#[]⟩ _).mono ?_
  rintro e w5 ⟨he, h5⟩
  rw [HY.out] at he
  subst he
  replace bk := blk_below bk h5
  have hb5 := hb4.trans (h5.mono hb4.size)
  clear c0 c1 c2
  have c0 : w5.cell? ⟨w2.heap.size, 0, none⟩ = some (.int .i64 2) := blk_cell bk 0
  have c1 : w5.cell? ⟨w2.heap.size, 1, none⟩ = some (.int .i64 v) := blk_cell bk 1
  have c2 : w5.cell? ⟨w2.heap.size, 2, none⟩ = some (.string ⟨#[]⟩) := blk_cell bk 2
  go_wp2_with fail
  refine (val_Value_Right.calls 2 v ⟨#[]⟩ true _ HR.out).mono ?_
  rintro e w6 ⟨rfl, h6⟩
  replace bk := blk_below bk h6
  have hb6 := hb5.trans (h6.mono hb5.size)
  clear c0 c1 c2
  have c0 : w6.cell? ⟨w2.heap.size, 0, none⟩ = some (.int .i64 2) := blk_cell bk 0
  go_wp2_with fail
  refine (val_Word.calls s 3 0 s _ rfl).mono ?_
  rintro e w7 ⟨rfl, h7⟩
  have hb7 := hb6.trans (h7.mono hb6.size)
  go_wp2_with fail
  go_ret
  exact ⟨by simp, hb7⟩
theorem makes_walk (n : Int) (b : Bool) (s : ByteArray) (w : World) (_ : (Lit.int .i64 n).wf = true) (_ : s.size ≤ 140737488351232) :
    Calls Tryd.prog 8 #[.int .i64 n, .bool b, .string s] w fun e w' => e = .returned (.bool true) ∧ Below w.heap.size w w' := makes_any n b s w
end Go.Proofs.YtbbdlcmcndhhkaaDoor.MValReckons
