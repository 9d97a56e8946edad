/- ValLaws walked (printed by laws.py). -/
import Derived.Test.YtbbdlcmcndhhkaaDoorNums
import Derived.Test.YtbbdlcmcndhhkaaDoorMakes
import Derived.Deep.RegionHeld3
namespace Go.Proofs.YtbbdlcmcndhhkaaDoor.MValReckons
open Go.RowKit Go.Proofs.YtbbdlcmcndhhkaaDoorW.PrintWords Go.Proofs.YtbbdlcmcndhhkaaDoorW.PrintLast Go.Proofs.YtbbdlcmcndhhkaaDoorW.PrintMore
set_option linter.unusedVariables false
set_option linter.unusedSimpArgs false
attribute [local go_sem high] eqA24

theorem yes_bit5 (b : Bool) (s : ByteArray) (w : World) : Calls Tryd.prog 16 #[.agg #[.int .i64 2, .int .i64 (bit b), .string s]] w fun e w' => e = .returned (.bool b) ∧ Below w.heap.size w w' :=
  (yes_any 2 (bit b) s w).mono fun e w' h => ⟨h.1.trans (by cases b <;> rfl), h.2⟩
theorem laws_less (k n1 : Int) (s1 : ByteArray) (n2 : Int) (s2 : ByteArray) (h1 : Rt k n1 s1) (h2 : Rt k n2 s2) :
    ∃ kx nx ex, val_Reckon.f 20 8 k n1 s1 [⟨k, n2, s2⟩] = some (kx, nx, ⟨#[]⟩, ex) ∧ val_Reckon.f 20 10 k n2 s2 [⟨k, n1, s1⟩] = some (kx, nx, ⟨#[]⟩, ex) := by
  by_cases hk : k = 2
  · subst hk
    exact ⟨_, _, _, reckon_bool 8 (.inl rfl) _ _ _ _, reckon_bool 10 (.inr rfl) _ _ _ _⟩
  · have hk' : k = 1 ∨ k = 3 := by rcases h1 with ⟨h, _⟩ | ⟨h, _⟩ | ⟨h, _⟩ <;> omega
    refine ⟨_, _, _, reckon_less k n1 s1 n2 s2 hk', ?_⟩
    rw [reckon_more k n2 s2 n1 s1 hk', cmpV_swap]

set_option maxHeartbeats 40000000 in
set_option maxRecDepth 100000 in
theorem laws_any (k1 n1 : Int) (s1 : ByteArray) (k2 n2 : Int) (s2 : ByteArray) (w : World) (hn1 : InR n1) (hn2 : InR n2) :
    Calls Tryd.prog 5 #[.agg #[.int .i64 k1, .int .i64 n1, .string s1], .agg #[.int .i64 k2, .int .i64 n2, .string s2]] w fun e w' => e = .returned (.bool true) ∧ Below w.heap.size w w' := by
  obtain ⟨b1, R1, F1⟩ := right_some k1 n1 s1
  obtain ⟨b2, R2, F2⟩ := right_some k2 n2 s2
  replace R1 := Aside0.mk R1
  replace R2 := Aside0.mk R2
  replace F1 := Aside0.mk F1
  replace F2 := Aside0.mk F2
  replace hn1 := Aside0.mk hn1
  replace hn2 := Aside0.mk hn2
  go_enter Tryd.func5, Tryd.ntmps5
  go_wp2_with fail
  obtain ⟨bka, bkb, hb⟩ := two_new w (.cells #[.int .i64 k1, .int .i64 n1, .string s1] 24) (.cells #[.int .i64 k2, .int .i64 n2, .string s2] 24)
  generalize ((w.alloc (.cells #[.int .i64 k1, .int .i64 n1, .string s1] 24)).alloc (.cells #[.int .i64 k2, .int .i64 n2, .string s2] 24)) = w0 at *
  have ca0 : w0.cell? ⟨w.heap.size, 0, none⟩ = some (.int .i64 k1) := blk_cell bka 0
  have ca1 : w0.cell? ⟨w.heap.size, 1, none⟩ = some (.int .i64 n1) := blk_cell bka 1
  have ca2 : w0.cell? ⟨w.heap.size, 2, none⟩ = some (.string s1) := blk_cell bka 2
  have cb0 : w0.cell? ⟨w.heap.size + 1, 0, none⟩ = some (.int .i64 k2) := blk_cell bkb 0
  have cb1 : w0.cell? ⟨w.heap.size + 1, 1, none⟩ = some (.int .i64 n2) := blk_cell bkb 1
  have cb2 : w0.cell? ⟨w.heap.size + 1, 2, none⟩ = some (.string s2) := blk_cell bkb 2
  refine (whirligiglaw01_anchor.calls 30 true _ anchor_f).mono ?_
  rintro e w1 ⟨rfl, h1⟩
  replace bka := blk_below bka h1
  replace bkb := blk_below bkb h1
  replace hb := hb.trans (h1.mono hb.size)
  clear ca0
  clear ca1
  clear ca2
  clear cb0
  clear cb1
  clear cb2
  have ca0 : w1.cell? ⟨w.heap.size, 0, none⟩ = some (.int .i64 k1) := blk_cell bka 0
  have ca1 : w1.cell? ⟨w.heap.size, 1, none⟩ = some (.int .i64 n1) := blk_cell bka 1
  have ca2 : w1.cell? ⟨w.heap.size, 2, none⟩ = some (.string s1) := blk_cell bka 2
  have cb0 : w1.cell? ⟨w.heap.size + 1, 0, none⟩ = some (.int .i64 k2) := blk_cell bkb 0
  have cb1 : w1.cell? ⟨w.heap.size + 1, 1, none⟩ = some (.int .i64 n2) := blk_cell bkb 1
  have cb2 : w1.cell? ⟨w.heap.size + 1, 2, none⟩ = some (.string s2) := blk_cell bkb 2
  go_wp2_with fail
  refine (whirligiglaw01_ref.calls k1 n1 s1 k1 n1 s1 _ rfl).mono ?_
  rintro e w2 ⟨rfl, h2⟩
  replace bka := blk_below bka h2
  replace bkb := blk_below bkb h2
  replace hb := hb.trans (h2.mono hb.size)
  clear ca0
  clear ca1
  clear ca2
  clear cb0
  clear cb1
  clear cb2
  have ca0 : w2.cell? ⟨w.heap.size, 0, none⟩ = some (.int .i64 k1) := blk_cell bka 0
  have ca1 : w2.cell? ⟨w.heap.size, 1, none⟩ = some (.int .i64 n1) := blk_cell bka 1
  have ca2 : w2.cell? ⟨w.heap.size, 2, none⟩ = some (.string s1) := blk_cell bka 2
  have cb0 : w2.cell? ⟨w.heap.size + 1, 0, none⟩ = some (.int .i64 k2) := blk_cell bkb 0
  have cb1 : w2.cell? ⟨w.heap.size + 1, 1, none⟩ = some (.int .i64 n2) := blk_cell bkb 1
  have cb2 : w2.cell? ⟨w.heap.size + 1, 2, none⟩ = some (.string s2) := blk_cell bkb 2
  go_wp2_with fail
  refine (whirligigref01_Right.calls 50 k1 n1 s1 b1 _ R1.out).mono ?_
  rintro e w3 ⟨rfl, h3⟩
  replace bka := blk_below bka h3
  replace bkb := blk_below bkb h3
  replace hb := hb.trans (h3.mono hb.size)
  clear ca0
  clear ca1
  clear ca2
  clear cb0
  clear cb1
  clear cb2
  have ca0 : w3.cell? ⟨w.heap.size, 0, none⟩ = some (.int .i64 k1) := blk_cell bka 0
  have ca1 : w3.cell? ⟨w.heap.size, 1, none⟩ = some (.int .i64 n1) := blk_cell bka 1
  have ca2 : w3.cell? ⟨w.heap.size, 2, none⟩ = some (.string s1) := blk_cell bka 2
  have cb0 : w3.cell? ⟨w.heap.size + 1, 0, none⟩ = some (.int .i64 k2) := blk_cell bkb 0
  have cb1 : w3.cell? ⟨w.heap.size + 1, 1, none⟩ = some (.int .i64 n2) := blk_cell bkb 1
  have cb2 : w3.cell? ⟨w.heap.size + 1, 2, none⟩ = some (.string s2) := blk_cell bkb 2
  cases b1
  · go_wp2_with fail
    go_ret
    exact ⟨by simp, hb⟩
  go_wp2_with fail
  refine (whirligiglaw01_ref.calls k2 n2 s2 k2 n2 s2 _ rfl).mono ?_
  rintro e w4 ⟨rfl, h4⟩
  replace bka := blk_below bka h4
  replace bkb := blk_below bkb h4
  replace hb := hb.trans (h4.mono hb.size)
  clear ca0
  clear ca1
  clear ca2
  clear cb0
  clear cb1
  clear cb2
  have ca0 : w4.cell? ⟨w.heap.size, 0, none⟩ = some (.int .i64 k1) := blk_cell bka 0
  have ca1 : w4.cell? ⟨w.heap.size, 1, none⟩ = some (.int .i64 n1) := blk_cell bka 1
  have ca2 : w4.cell? ⟨w.heap.size, 2, none⟩ = some (.string s1) := blk_cell bka 2
  have cb0 : w4.cell? ⟨w.heap.size + 1, 0, none⟩ = some (.int .i64 k2) := blk_cell bkb 0
  have cb1 : w4.cell? ⟨w.heap.size + 1, 1, none⟩ = some (.int .i64 n2) := blk_cell bkb 1
  have cb2 : w4.cell? ⟨w.heap.size + 1, 2, none⟩ = some (.string s2) := blk_cell bkb 2
  go_wp2_with fail
  refine (whirligigref01_Right.calls 50 k2 n2 s2 b2 _ R2.out).mono ?_
  rintro e w5 ⟨rfl, h5⟩
  replace bka := blk_below bka h5
  replace bkb := blk_below bkb h5
  replace hb := hb.trans (h5.mono hb.size)
  clear ca0
  clear ca1
  clear ca2
  clear cb0
  clear cb1
  clear cb2
  have ca0 : w5.cell? ⟨w.heap.size, 0, none⟩ = some (.int .i64 k1) := blk_cell bka 0
  have ca1 : w5.cell? ⟨w.heap.size, 1, none⟩ = some (.int .i64 n1) := blk_cell bka 1
  have ca2 : w5.cell? ⟨w.heap.size, 2, none⟩ = some (.string s1) := blk_cell bka 2
  have cb0 : w5.cell? ⟨w.heap.size + 1, 0, none⟩ = some (.int .i64 k2) := blk_cell bkb 0
  have cb1 : w5.cell? ⟨w.heap.size + 1, 1, none⟩ = some (.int .i64 n2) := blk_cell bkb 1
  have cb2 : w5.cell? ⟨w.heap.size + 1, 2, none⟩ = some (.string s2) := blk_cell bkb 2
  cases b2
  · go_wp2_with fail
    go_ret
    exact ⟨by simp, hb⟩
  by_cases e12 : k1 = k2
  rotate_left
  · have e := bne_iff_ne.2 e12
    go_wp2_with fail
    all_goals (go_ret; exact ⟨by simp, hb⟩)
  obtain rfl := e12.symm
  obtain ⟨kx, nx, ex, RX, RY⟩ := laws_less k2 n1 s1 n2 s2 (F1.out (by simp)) (F2.out (by simp))
  have RS := reckon_same k2 n1 s1 n2 s2 (by rcases F1.out (by simp) with ⟨h, _⟩ | ⟨h, _⟩ | ⟨h, _⟩ <;> omega)
  replace RX := Aside0.mk RX
  replace RY := Aside0.mk RY
  replace RS := Aside0.mk RS
  generalize hq : (n1 == n2 && s1.toList == s2.toList) = q at RS
  replace hq := Aside0.mk hq
  clear R1 R2
  go_wp2_with fail
  replace bka := blk_alloc bka (.cells #[.int .i64 k2, .int .i64 n2, .string s2] 24)
  replace bkb := blk_alloc bkb (.cells #[.int .i64 k2, .int .i64 n2, .string s2] 24)
  have bkxt := blk_new w5 (.cells #[.int .i64 k2, .int .i64 n2, .string s2] 24)
  replace hb := hb.alloc hb.size (.cells #[.int .i64 k2, .int .i64 n2, .string s2] 24)
  clear ca0
  clear ca1
  clear ca2
  clear cb0
  clear cb1
  clear cb2
  generalize w5.alloc (.cells #[.int .i64 k2, .int .i64 n2, .string s2] 24) = w6 at *
  have ca0 : w6.cell? ⟨w.heap.size, 0, none⟩ = some (.int .i64 k2) := blk_cell bka 0
  have ca1 : w6.cell? ⟨w.heap.size, 1, none⟩ = some (.int .i64 n1) := blk_cell bka 1
  have ca2 : w6.cell? ⟨w.heap.size, 2, none⟩ = some (.string s1) := blk_cell bka 2
  have cb0 : w6.cell? ⟨w.heap.size + 1, 0, none⟩ = some (.int .i64 k2) := blk_cell bkb 0
  have cb1 : w6.cell? ⟨w.heap.size + 1, 1, none⟩ = some (.int .i64 n2) := blk_cell bkb 1
  have cb2 : w6.cell? ⟨w.heap.size + 1, 2, none⟩ = some (.string s2) := blk_cell bkb 2
  have cxt0 : w6.cell? ⟨w5.heap.size, 0, none⟩ = some (.int .i64 k2) := blk_cell bkxt 0
  have cxt1 : w6.cell? ⟨w5.heap.size, 1, none⟩ = some (.int .i64 n2) := blk_cell bkxt 1
  have cxt2 : w6.cell? ⟨w5.heap.size, 2, none⟩ = some (.string s2) := blk_cell bkxt 2
  refine (val_Reckon.calls 20 8 k2 n1 s1 (some ⟨w5.heap.size, 0, none⟩) 1 [⟨k2, n2, s2⟩] kx nx ⟨#[]⟩ ex _ (one_C bkxt) (Nat.le_refl _) RX.out).mono ?_
  rintro e w7 ⟨rfl, h7⟩
  replace bka := blk_below bka h7
  replace bkb := blk_below bkb h7
  replace bkxt := blk_below bkxt h7
  replace hb := hb.trans (h7.mono hb.size)
  clear ca0
  clear ca1
  clear ca2
  clear cb0
  clear cb1
  clear cb2
  clear cxt0
  clear cxt1
  clear cxt2
  have ca0 : w7.cell? ⟨w.heap.size, 0, none⟩ = some (.int .i64 k2) := blk_cell bka 0
  have ca1 : w7.cell? ⟨w.heap.size, 1, none⟩ = some (.int .i64 n1) := blk_cell bka 1
  have ca2 : w7.cell? ⟨w.heap.size, 2, none⟩ = some (.string s1) := blk_cell bka 2
  have cb0 : w7.cell? ⟨w.heap.size + 1, 0, none⟩ = some (.int .i64 k2) := blk_cell bkb 0
  have cb1 : w7.cell? ⟨w.heap.size + 1, 1, none⟩ = some (.int .i64 n2) := blk_cell bkb 1
  have cb2 : w7.cell? ⟨w.heap.size + 1, 2, none⟩ = some (.string s2) := blk_cell bkb 2
  have cxt0 : w7.cell? ⟨w5.heap.size, 0, none⟩ = some (.int .i64 k2) := blk_cell bkxt 0
  have cxt1 : w7.cell? ⟨w5.heap.size, 1, none⟩ = some (.int .i64 n2) := blk_cell bkxt 1
  have cxt2 : w7.cell? ⟨w5.heap.size, 2, none⟩ = some (.string s2) := blk_cell bkxt 2
  clear cxt0
  clear cxt1
  clear cxt2
  clear bkxt
  replace bka := blk_alloc bka (.cells #[.int .i64 kx, .int .i64 nx, .string ⟨#[]⟩] 24)
  replace bkb := blk_alloc bkb (.cells #[.int .i64 kx, .int .i64 nx, .string ⟨#[]⟩] 24)
  have bkx := blk_new w7 (.cells #[.int .i64 kx, .int .i64 nx, .string ⟨#[]⟩] 24)
  replace hb := hb.alloc hb.size (.cells #[.int .i64 kx, .int .i64 nx, .string ⟨#[]⟩] 24)
  have da0 : (w7.alloc (.cells #[.int .i64 kx, .int .i64 nx, .string ⟨#[]⟩] 24)).cell? ⟨w.heap.size, 0, none⟩ = some (.int .i64 k2) := blk_cell bka 0
  have da1 : (w7.alloc (.cells #[.int .i64 kx, .int .i64 nx, .string ⟨#[]⟩] 24)).cell? ⟨w.heap.size, 1, none⟩ = some (.int .i64 n1) := blk_cell bka 1
  have da2 : (w7.alloc (.cells #[.int .i64 kx, .int .i64 nx, .string ⟨#[]⟩] 24)).cell? ⟨w.heap.size, 2, none⟩ = some (.string s1) := blk_cell bka 2
  have db0 : (w7.alloc (.cells #[.int .i64 kx, .int .i64 nx, .string ⟨#[]⟩] 24)).cell? ⟨w.heap.size + 1, 0, none⟩ = some (.int .i64 k2) := blk_cell bkb 0
  have db1 : (w7.alloc (.cells #[.int .i64 kx, .int .i64 nx, .string ⟨#[]⟩] 24)).cell? ⟨w.heap.size + 1, 1, none⟩ = some (.int .i64 n2) := blk_cell bkb 1
  have db2 : (w7.alloc (.cells #[.int .i64 kx, .int .i64 nx, .string ⟨#[]⟩] 24)).cell? ⟨w.heap.size + 1, 2, none⟩ = some (.string s2) := blk_cell bkb 2
  have dx0 : (w7.alloc (.cells #[.int .i64 kx, .int .i64 nx, .string ⟨#[]⟩] 24)).cell? ⟨w7.heap.size, 0, none⟩ = some (.int .i64 kx) := blk_cell bkx 0
  have dx1 : (w7.alloc (.cells #[.int .i64 kx, .int .i64 nx, .string ⟨#[]⟩] 24)).cell? ⟨w7.heap.size, 1, none⟩ = some (.int .i64 nx) := blk_cell bkx 1
  have dx2 : (w7.alloc (.cells #[.int .i64 kx, .int .i64 nx, .string ⟨#[]⟩] 24)).cell? ⟨w7.heap.size, 2, none⟩ = some (.string ⟨#[]⟩) := blk_cell bkx 2
  go_wp2_with fail
  clear da0
  clear da1
  clear da2
  clear db0
  clear db1
  clear db2
  clear dx0
  clear dx1
  clear dx2
  clear ca0
  clear ca1
  clear ca2
  clear cb0
  clear cb1
  clear cb2
  have hs8 := size_alloc w7 (.cells #[.int .i64 kx, .int .i64 nx, .string ⟨#[]⟩] 24)
  generalize (w7.alloc (.cells #[.int .i64 kx, .int .i64 nx, .string ⟨#[]⟩] 24)) = w8 at *
  have ca0 : w8.cell? ⟨w.heap.size, 0, none⟩ = some (.int .i64 k2) := blk_cell bka 0
  have ca1 : w8.cell? ⟨w.heap.size, 1, none⟩ = some (.int .i64 n1) := blk_cell bka 1
  have ca2 : w8.cell? ⟨w.heap.size, 2, none⟩ = some (.string s1) := blk_cell bka 2
  have cb0 : w8.cell? ⟨w.heap.size + 1, 0, none⟩ = some (.int .i64 k2) := blk_cell bkb 0
  have cb1 : w8.cell? ⟨w.heap.size + 1, 1, none⟩ = some (.int .i64 n2) := blk_cell bkb 1
  have cb2 : w8.cell? ⟨w.heap.size + 1, 2, none⟩ = some (.string s2) := blk_cell bkb 2
  have cx0 : w8.cell? ⟨w7.heap.size, 0, none⟩ = some (.int .i64 kx) := blk_cell bkx 0
  have cx1 : w8.cell? ⟨w7.heap.size, 1, none⟩ = some (.int .i64 nx) := blk_cell bkx 1
  have cx2 : w8.cell? ⟨w7.heap.size, 2, none⟩ = some (.string ⟨#[]⟩) := blk_cell bkx 2
  replace bka := blk_alloc bka (.cells #[.int .i64 k2, .int .i64 n1, .string s1] 24)
  replace bkb := blk_alloc bkb (.cells #[.int .i64 k2, .int .i64 n1, .string s1] 24)
  replace bkx := blk_alloc bkx (.cells #[.int .i64 k2, .int .i64 n1, .string s1] 24)
  have bkyt := blk_new w8 (.cells #[.int .i64 k2, .int .i64 n1, .string s1] 24)
  rw [hs8] at bkyt
  replace hb := hb.alloc hb.size (.cells #[.int .i64 k2, .int .i64 n1, .string s1] 24)
  clear ca0
  clear ca1
  clear ca2
  clear cb0
  clear cb1
  clear cb2
  clear cx0
  clear cx1
  clear cx2
  generalize w8.alloc (.cells #[.int .i64 k2, .int .i64 n1, .string s1] 24) = w9 at *
  have ca0 : w9.cell? ⟨w.heap.size, 0, none⟩ = some (.int .i64 k2) := blk_cell bka 0
  have ca1 : w9.cell? ⟨w.heap.size, 1, none⟩ = some (.int .i64 n1) := blk_cell bka 1
  have ca2 : w9.cell? ⟨w.heap.size, 2, none⟩ = some (.string s1) := blk_cell bka 2
  have cb0 : w9.cell? ⟨w.heap.size + 1, 0, none⟩ = some (.int .i64 k2) := blk_cell bkb 0
  have cb1 : w9.cell? ⟨w.heap.size + 1, 1, none⟩ = some (.int .i64 n2) := blk_cell bkb 1
  have cb2 : w9.cell? ⟨w.heap.size + 1, 2, none⟩ = some (.string s2) := blk_cell bkb 2
  have cx0 : w9.cell? ⟨w7.heap.size, 0, none⟩ = some (.int .i64 kx) := blk_cell bkx 0
  have cx1 : w9.cell? ⟨w7.heap.size, 1, none⟩ = some (.int .i64 nx) := blk_cell bkx 1
  have cx2 : w9.cell? ⟨w7.heap.size, 2, none⟩ = some (.string ⟨#[]⟩) := blk_cell bkx 2
  have cyt0 : w9.cell? ⟨w7.heap.size + 1, 0, none⟩ = some (.int .i64 k2) := blk_cell bkyt 0
  have cyt1 : w9.cell? ⟨w7.heap.size + 1, 1, none⟩ = some (.int .i64 n1) := blk_cell bkyt 1
  have cyt2 : w9.cell? ⟨w7.heap.size + 1, 2, none⟩ = some (.string s1) := blk_cell bkyt 2
  refine (val_Reckon.calls 20 10 k2 n2 s2 (some ⟨w7.heap.size + 1, 0, none⟩) 1 [⟨k2, n1, s1⟩] kx nx ⟨#[]⟩ ex _ (one_C bkyt) (Nat.le_refl _) RY.out).mono ?_
  rintro e w10 ⟨rfl, h10⟩
  replace bka := blk_below bka h10
  replace bkb := blk_below bkb h10
  replace bkx := blk_below bkx h10
  replace bkyt := blk_below bkyt h10
  replace hb := hb.trans (h10.mono hb.size)
  clear ca0
  clear ca1
  clear ca2
  clear cb0
  clear cb1
  clear cb2
  clear cx0
  clear cx1
  clear cx2
  clear cyt0
  clear cyt1
  clear cyt2
  have ca0 : w10.cell? ⟨w.heap.size, 0, none⟩ = some (.int .i64 k2) := blk_cell bka 0
  have ca1 : w10.cell? ⟨w.heap.size, 1, none⟩ = some (.int .i64 n1) := blk_cell bka 1
  have ca2 : w10.cell? ⟨w.heap.size, 2, none⟩ = some (.string s1) := blk_cell bka 2
  have cb0 : w10.cell? ⟨w.heap.size + 1, 0, none⟩ = some (.int .i64 k2) := blk_cell bkb 0
  have cb1 : w10.cell? ⟨w.heap.size + 1, 1, none⟩ = some (.int .i64 n2) := blk_cell bkb 1
  have cb2 : w10.cell? ⟨w.heap.size + 1, 2, none⟩ = some (.string s2) := blk_cell bkb 2
  have cx0 : w10.cell? ⟨w7.heap.size, 0, none⟩ = some (.int .i64 kx) := blk_cell bkx 0
  have cx1 : w10.cell? ⟨w7.heap.size, 1, none⟩ = some (.int .i64 nx) := blk_cell bkx 1
  have cx2 : w10.cell? ⟨w7.heap.size, 2, none⟩ = some (.string ⟨#[]⟩) := blk_cell bkx 2
  have cyt0 : w10.cell? ⟨w7.heap.size + 1, 0, none⟩ = some (.int .i64 k2) := blk_cell bkyt 0
  have cyt1 : w10.cell? ⟨w7.heap.size + 1, 1, none⟩ = some (.int .i64 n1) := blk_cell bkyt 1
  have cyt2 : w10.cell? ⟨w7.heap.size + 1, 2, none⟩ = some (.string s1) := blk_cell bkyt 2
  clear cyt0
  clear cyt1
  clear cyt2
  clear bkyt
  replace bka := blk_alloc bka (.cells #[.int .i64 kx, .int .i64 nx, .string ⟨#[]⟩] 24)
  replace bkb := blk_alloc bkb (.cells #[.int .i64 kx, .int .i64 nx, .string ⟨#[]⟩] 24)
  replace bkx := blk_alloc bkx (.cells #[.int .i64 kx, .int .i64 nx, .string ⟨#[]⟩] 24)
  have bky := blk_new w10 (.cells #[.int .i64 kx, .int .i64 nx, .string ⟨#[]⟩] 24)
  replace hb := hb.alloc hb.size (.cells #[.int .i64 kx, .int .i64 nx, .string ⟨#[]⟩] 24)
  have da0 : (w10.alloc (.cells #[.int .i64 kx, .int .i64 nx, .string ⟨#[]⟩] 24)).cell? ⟨w.heap.size, 0, none⟩ = some (.int .i64 k2) := blk_cell bka 0
  have da1 : (w10.alloc (.cells #[.int .i64 kx, .int .i64 nx, .string ⟨#[]⟩] 24)).cell? ⟨w.heap.size, 1, none⟩ = some (.int .i64 n1) := blk_cell bka 1
  have da2 : (w10.alloc (.cells #[.int .i64 kx, .int .i64 nx, .string ⟨#[]⟩] 24)).cell? ⟨w.heap.size, 2, none⟩ = some (.string s1) := blk_cell bka 2
  have db0 : (w10.alloc (.cells #[.int .i64 kx, .int .i64 nx, .string ⟨#[]⟩] 24)).cell? ⟨w.heap.size + 1, 0, none⟩ = some (.int .i64 k2) := blk_cell bkb 0
  have db1 : (w10.alloc (.cells #[.int .i64 kx, .int .i64 nx, .string ⟨#[]⟩] 24)).cell? ⟨w.heap.size + 1, 1, none⟩ = some (.int .i64 n2) := blk_cell bkb 1
  have db2 : (w10.alloc (.cells #[.int .i64 kx, .int .i64 nx, .string ⟨#[]⟩] 24)).cell? ⟨w.heap.size + 1, 2, none⟩ = some (.string s2) := blk_cell bkb 2
  have dx0 : (w10.alloc (.cells #[.int .i64 kx, .int .i64 nx, .string ⟨#[]⟩] 24)).cell? ⟨w7.heap.size, 0, none⟩ = some (.int .i64 kx) := blk_cell bkx 0
  have dx1 : (w10.alloc (.cells #[.int .i64 kx, .int .i64 nx, .string ⟨#[]⟩] 24)).cell? ⟨w7.heap.size, 1, none⟩ = some (.int .i64 nx) := blk_cell bkx 1
  have dx2 : (w10.alloc (.cells #[.int .i64 kx, .int .i64 nx, .string ⟨#[]⟩] 24)).cell? ⟨w7.heap.size, 2, none⟩ = some (.string ⟨#[]⟩) := blk_cell bkx 2
  have dy0 : (w10.alloc (.cells #[.int .i64 kx, .int .i64 nx, .string ⟨#[]⟩] 24)).cell? ⟨w10.heap.size, 0, none⟩ = some (.int .i64 kx) := blk_cell bky 0
  have dy1 : (w10.alloc (.cells #[.int .i64 kx, .int .i64 nx, .string ⟨#[]⟩] 24)).cell? ⟨w10.heap.size, 1, none⟩ = some (.int .i64 nx) := blk_cell bky 1
  have dy2 : (w10.alloc (.cells #[.int .i64 kx, .int .i64 nx, .string ⟨#[]⟩] 24)).cell? ⟨w10.heap.size, 2, none⟩ = some (.string ⟨#[]⟩) := blk_cell bky 2
  go_wp2_with fail
  clear da0
  clear da1
  clear da2
  clear db0
  clear db1
  clear db2
  clear dx0
  clear dx1
  clear dx2
  clear dy0
  clear dy1
  clear dy2
  clear ca0
  clear ca1
  clear ca2
  clear cb0
  clear cb1
  clear cb2
  clear cx0
  clear cx1
  clear cx2
  have hs11 := size_alloc w10 (.cells #[.int .i64 kx, .int .i64 nx, .string ⟨#[]⟩] 24)
  generalize (w10.alloc (.cells #[.int .i64 kx, .int .i64 nx, .string ⟨#[]⟩] 24)) = w11 at *
  have ca0 : w11.cell? ⟨w.heap.size, 0, none⟩ = some (.int .i64 k2) := blk_cell bka 0
  have ca1 : w11.cell? ⟨w.heap.size, 1, none⟩ = some (.int .i64 n1) := blk_cell bka 1
  have ca2 : w11.cell? ⟨w.heap.size, 2, none⟩ = some (.string s1) := blk_cell bka 2
  have cb0 : w11.cell? ⟨w.heap.size + 1, 0, none⟩ = some (.int .i64 k2) := blk_cell bkb 0
  have cb1 : w11.cell? ⟨w.heap.size + 1, 1, none⟩ = some (.int .i64 n2) := blk_cell bkb 1
  have cb2 : w11.cell? ⟨w.heap.size + 1, 2, none⟩ = some (.string s2) := blk_cell bkb 2
  have cx0 : w11.cell? ⟨w7.heap.size, 0, none⟩ = some (.int .i64 kx) := blk_cell bkx 0
  have cx1 : w11.cell? ⟨w7.heap.size, 1, none⟩ = some (.int .i64 nx) := blk_cell bkx 1
  have cx2 : w11.cell? ⟨w7.heap.size, 2, none⟩ = some (.string ⟨#[]⟩) := blk_cell bkx 2
  have cy0 : w11.cell? ⟨w10.heap.size, 0, none⟩ = some (.int .i64 kx) := blk_cell bky 0
  have cy1 : w11.cell? ⟨w10.heap.size, 1, none⟩ = some (.int .i64 nx) := blk_cell bky 1
  have cy2 : w11.cell? ⟨w10.heap.size, 2, none⟩ = some (.string ⟨#[]⟩) := blk_cell bky 2
  clear cx0
  clear cx1
  clear cx2
  clear bkx
  clear cy0
  clear cy1
  clear cy2
  clear bky
  replace bka := blk_alloc bka (.cells #[.int .i64 k2, .int .i64 n2, .string s2] 24)
  replace bkb := blk_alloc bkb (.cells #[.int .i64 k2, .int .i64 n2, .string s2] 24)
  have bkst := blk_new w11 (.cells #[.int .i64 k2, .int .i64 n2, .string s2] 24)
  rw [hs11] at bkst
  replace hb := hb.alloc hb.size (.cells #[.int .i64 k2, .int .i64 n2, .string s2] 24)
  clear ca0
  clear ca1
  clear ca2
  clear cb0
  clear cb1
  clear cb2
  generalize w11.alloc (.cells #[.int .i64 k2, .int .i64 n2, .string s2] 24) = w12 at *
  have ca0 : w12.cell? ⟨w.heap.size, 0, none⟩ = some (.int .i64 k2) := blk_cell bka 0
  have ca1 : w12.cell? ⟨w.heap.size, 1, none⟩ = some (.int .i64 n1) := blk_cell bka 1
  have ca2 : w12.cell? ⟨w.heap.size, 2, none⟩ = some (.string s1) := blk_cell bka 2
  have cb0 : w12.cell? ⟨w.heap.size + 1, 0, none⟩ = some (.int .i64 k2) := blk_cell bkb 0
  have cb1 : w12.cell? ⟨w.heap.size + 1, 1, none⟩ = some (.int .i64 n2) := blk_cell bkb 1
  have cb2 : w12.cell? ⟨w.heap.size + 1, 2, none⟩ = some (.string s2) := blk_cell bkb 2
  have cst0 : w12.cell? ⟨w10.heap.size + 1, 0, none⟩ = some (.int .i64 k2) := blk_cell bkst 0
  have cst1 : w12.cell? ⟨w10.heap.size + 1, 1, none⟩ = some (.int .i64 n2) := blk_cell bkst 1
  have cst2 : w12.cell? ⟨w10.heap.size + 1, 2, none⟩ = some (.string s2) := blk_cell bkst 2
  refine (val_Reckon.calls 20 12 k2 n1 s1 (some ⟨w10.heap.size + 1, 0, none⟩) 1 [⟨k2, n2, s2⟩] 2 (bit q) ⟨#[]⟩ 0 _ (one_C bkst) (Nat.le_refl _) RS.out).mono ?_
  rintro e w13 ⟨rfl, h13⟩
  replace bka := blk_below bka h13
  replace bkb := blk_below bkb h13
  replace bkst := blk_below bkst h13
  replace hb := hb.trans (h13.mono hb.size)
  clear ca0
  clear ca1
  clear ca2
  clear cb0
  clear cb1
  clear cb2
  clear cst0
  clear cst1
  clear cst2
  have ca0 : w13.cell? ⟨w.heap.size, 0, none⟩ = some (.int .i64 k2) := blk_cell bka 0
  have ca1 : w13.cell? ⟨w.heap.size, 1, none⟩ = some (.int .i64 n1) := blk_cell bka 1
  have ca2 : w13.cell? ⟨w.heap.size, 2, none⟩ = some (.string s1) := blk_cell bka 2
  have cb0 : w13.cell? ⟨w.heap.size + 1, 0, none⟩ = some (.int .i64 k2) := blk_cell bkb 0
  have cb1 : w13.cell? ⟨w.heap.size + 1, 1, none⟩ = some (.int .i64 n2) := blk_cell bkb 1
  have cb2 : w13.cell? ⟨w.heap.size + 1, 2, none⟩ = some (.string s2) := blk_cell bkb 2
  have cst0 : w13.cell? ⟨w10.heap.size + 1, 0, none⟩ = some (.int .i64 k2) := blk_cell bkst 0
  have cst1 : w13.cell? ⟨w10.heap.size + 1, 1, none⟩ = some (.int .i64 n2) := blk_cell bkst 1
  have cst2 : w13.cell? ⟨w10.heap.size + 1, 2, none⟩ = some (.string s2) := blk_cell bkst 2
  clear cst0
  clear cst1
  clear cst2
  clear bkst
  replace bka := blk_alloc bka (.cells #[.int .i64 2, .int .i64 (bit q), .string ⟨#[]⟩] 24)
  replace bkb := blk_alloc bkb (.cells #[.int .i64 2, .int .i64 (bit q), .string ⟨#[]⟩] 24)
  have bks := blk_new w13 (.cells #[.int .i64 2, .int .i64 (bit q), .string ⟨#[]⟩] 24)
  replace hb := hb.alloc hb.size (.cells #[.int .i64 2, .int .i64 (bit q), .string ⟨#[]⟩] 24)
  have da0 : (w13.alloc (.cells #[.int .i64 2, .int .i64 (bit q), .string ⟨#[]⟩] 24)).cell? ⟨w.heap.size, 0, none⟩ = some (.int .i64 k2) := blk_cell bka 0
  have da1 : (w13.alloc (.cells #[.int .i64 2, .int .i64 (bit q), .string ⟨#[]⟩] 24)).cell? ⟨w.heap.size, 1, none⟩ = some (.int .i64 n1) := blk_cell bka 1
  have da2 : (w13.alloc (.cells #[.int .i64 2, .int .i64 (bit q), .string ⟨#[]⟩] 24)).cell? ⟨w.heap.size, 2, none⟩ = some (.string s1) := blk_cell bka 2
  have db0 : (w13.alloc (.cells #[.int .i64 2, .int .i64 (bit q), .string ⟨#[]⟩] 24)).cell? ⟨w.heap.size + 1, 0, none⟩ = some (.int .i64 k2) := blk_cell bkb 0
  have db1 : (w13.alloc (.cells #[.int .i64 2, .int .i64 (bit q), .string ⟨#[]⟩] 24)).cell? ⟨w.heap.size + 1, 1, none⟩ = some (.int .i64 n2) := blk_cell bkb 1
  have db2 : (w13.alloc (.cells #[.int .i64 2, .int .i64 (bit q), .string ⟨#[]⟩] 24)).cell? ⟨w.heap.size + 1, 2, none⟩ = some (.string s2) := blk_cell bkb 2
  have ds0 : (w13.alloc (.cells #[.int .i64 2, .int .i64 (bit q), .string ⟨#[]⟩] 24)).cell? ⟨w13.heap.size, 0, none⟩ = some (.int .i64 2) := blk_cell bks 0
  have ds1 : (w13.alloc (.cells #[.int .i64 2, .int .i64 (bit q), .string ⟨#[]⟩] 24)).cell? ⟨w13.heap.size, 1, none⟩ = some (.int .i64 (bit q)) := blk_cell bks 1
  have ds2 : (w13.alloc (.cells #[.int .i64 2, .int .i64 (bit q), .string ⟨#[]⟩] 24)).cell? ⟨w13.heap.size, 2, none⟩ = some (.string ⟨#[]⟩) := blk_cell bks 2
  go_wp2_with fail
  clear da0
  clear da1
  clear da2
  clear db0
  clear db1
  clear db2
  clear ds0
  clear ds1
  clear ds2
  clear ca0
  clear ca1
  clear ca2
  clear cb0
  clear cb1
  clear cb2
  have hs14 := size_alloc w13 (.cells #[.int .i64 2, .int .i64 (bit q), .string ⟨#[]⟩] 24)
  generalize (w13.alloc (.cells #[.int .i64 2, .int .i64 (bit q), .string ⟨#[]⟩] 24)) = w14 at *
  have ca0 : w14.cell? ⟨w.heap.size, 0, none⟩ = some (.int .i64 k2) := blk_cell bka 0
  have ca1 : w14.cell? ⟨w.heap.size, 1, none⟩ = some (.int .i64 n1) := blk_cell bka 1
  have ca2 : w14.cell? ⟨w.heap.size, 2, none⟩ = some (.string s1) := blk_cell bka 2
  have cb0 : w14.cell? ⟨w.heap.size + 1, 0, none⟩ = some (.int .i64 k2) := blk_cell bkb 0
  have cb1 : w14.cell? ⟨w.heap.size + 1, 1, none⟩ = some (.int .i64 n2) := blk_cell bkb 1
  have cb2 : w14.cell? ⟨w.heap.size + 1, 2, none⟩ = some (.string s2) := blk_cell bkb 2
  have cs0 : w14.cell? ⟨w13.heap.size, 0, none⟩ = some (.int .i64 2) := blk_cell bks 0
  have cs1 : w14.cell? ⟨w13.heap.size, 1, none⟩ = some (.int .i64 (bit q)) := blk_cell bks 1
  have cs2 : w14.cell? ⟨w13.heap.size, 2, none⟩ = some (.string ⟨#[]⟩) := blk_cell bks 2
  go_region_held3 (fun w' => w'.cell? ⟨w.heap.size, 0, none⟩ = some (.int .i64 k2) ∧ w'.cell? ⟨w.heap.size, 1, none⟩ = some (.int .i64 n1) ∧ w'.cell? ⟨w.heap.size, 2, none⟩ = some (.string s1) ∧ w'.cell? ⟨w.heap.size + 1, 0, none⟩ = some (.int .i64 k2) ∧ w'.cell? ⟨w.heap.size + 1, 1, none⟩ = some (.int .i64 n2) ∧ w'.cell? ⟨w.heap.size + 1, 2, none⟩ = some (.string s2) ∧ w'.cell? ⟨w13.heap.size, 0, none⟩ = some (.int .i64 2) ∧ w'.cell? ⟨w13.heap.size, 1, none⟩ = some (.int .i64 (bit q)) ∧ w'.cell? ⟨w13.heap.size, 2, none⟩ = some (.string ⟨#[]⟩))
    (first | exact ⟨ca0, ca1, ca2, cb0, cb1, cb2, cs0, cs1, cs2⟩ | exact ⟨ea0, ea1, ea2, eb0, eb1, eb2, es0, es1, es2⟩)
    ((go_at_call 16; refine (yes_bit5 q ⟨#[]⟩ _).mono ?_; rintro e w15 ⟨rfl, h15⟩; have ea0 : w15.cell? ⟨w.heap.size, 0, none⟩ = some (.int .i64 k2) := (blk_cell (blk_below (by first | exact bka | exact blk_drewN bka 1) h15) 0); have ea1 : w15.cell? ⟨w.heap.size, 1, none⟩ = some (.int .i64 n1) := (blk_cell (blk_below (by first | exact bka | exact blk_drewN bka 1) h15) 1); have ea2 : w15.cell? ⟨w.heap.size, 2, none⟩ = some (.string s1) := (blk_cell (blk_below (by first | exact bka | exact blk_drewN bka 1) h15) 2); have eb0 : w15.cell? ⟨w.heap.size + 1, 0, none⟩ = some (.int .i64 k2) := (blk_cell (blk_below (by first | exact bkb | exact blk_drewN bkb 1) h15) 0); have eb1 : w15.cell? ⟨w.heap.size + 1, 1, none⟩ = some (.int .i64 n2) := (blk_cell (blk_below (by first | exact bkb | exact blk_drewN bkb 1) h15) 1); have eb2 : w15.cell? ⟨w.heap.size + 1, 2, none⟩ = some (.string s2) := (blk_cell (blk_below (by first | exact bkb | exact blk_drewN bkb 1) h15) 2); have es0 : w15.cell? ⟨w13.heap.size, 0, none⟩ = some (.int .i64 2) := (blk_cell (blk_below (by first | exact bks | exact blk_drewN bks 1) h15) 0); have es1 : w15.cell? ⟨w13.heap.size, 1, none⟩ = some (.int .i64 (bit q)) := (blk_cell (blk_below (by first | exact bks | exact blk_drewN bks 1) h15) 1); have es2 : w15.cell? ⟨w13.heap.size, 2, none⟩ = some (.string ⟨#[]⟩) := (blk_cell (blk_below (by first | exact bks | exact blk_drewN bks 1) h15) 2)))
  clear ca0 ea0
  clear ca1 ea1
  clear ca2 ea2
  replace bka := blk_below (by first | exact bka | exact blk_drewN bka 1) h15
  clear cb0 eb0
  clear cb1 eb1
  clear cb2 eb2
  replace bkb := blk_below (by first | exact bkb | exact blk_drewN bkb 1) h15
  clear cs0 es0
  clear cs1 es1
  clear cs2 es2
  replace bks := blk_below (by first | exact bks | exact blk_drewN bks 1) h15
  replace hb := (below_drew1 hb).trans (h15.mono hb.size)
  obtain rfl := hq.out
  have hX : (!(n1 == n2 && s1.toList == s2.toList) == (n1 == n2 && s1.toList == s2.toList)) = false := by simp
  clear RX RY RS hq
  clear bks
  have ca0 : w15.cell? ⟨w.heap.size, 0, none⟩ = some (.int .i64 k2) := blk_cell bka 0
  have ca1 : w15.cell? ⟨w.heap.size, 1, none⟩ = some (.int .i64 n1) := blk_cell bka 1
  have ca2 : w15.cell? ⟨w.heap.size, 2, none⟩ = some (.string s1) := blk_cell bka 2
  have cb0 : w15.cell? ⟨w.heap.size + 1, 0, none⟩ = some (.int .i64 k2) := blk_cell bkb 0
  have cb1 : w15.cell? ⟨w.heap.size + 1, 1, none⟩ = some (.int .i64 n2) := blk_cell bkb 1
  have cb2 : w15.cell? ⟨w.heap.size + 1, 2, none⟩ = some (.string s2) := blk_cell bkb 2
  by_cases e1 : k2 = 1
  rotate_left
  · have e := bne_iff_ne.2 e1
    go_wp2_with fail
    all_goals (try (rename_i hh; rw [hX] at hh; cases hh))
    all_goals (go_ret; exact ⟨by simp, hb⟩)
  subst e1
  obtain rfl : s1 = ⟨#[]⟩ := by rcases F1.out (by simp) with ⟨h, _⟩ | ⟨_, h⟩ | ⟨h, _⟩ <;> first | exact h | (exfalso; omega)
  obtain rfl : s2 = ⟨#[]⟩ := by rcases F2.out (by simp) with ⟨h, _⟩ | ⟨_, h⟩ | ⟨h, _⟩ <;> first | exact h | (exfalso; omega)
  clear F1 F2
  obtain ⟨kp, vp, ep, RP, RQ⟩ := num_mul_comm hn1.out hn2.out
  replace RP := Aside0.mk RP
  replace RQ := Aside0.mk RQ
  obtain ⟨ks, vs, es, RS, RT⟩ := num_add_comm hn1.out hn2.out
  replace RS := Aside0.mk RS
  replace RT := Aside0.mk RT
  go_wp2_with fail
  all_goals (try (rename_i hh; rw [hX] at hh; cases hh))
  replace bka := blk_alloc bka (.cells #[.int .i64 1, .int .i64 n2, .string ⟨#[]⟩] 24)
  replace bkb := blk_alloc bkb (.cells #[.int .i64 1, .int .i64 n2, .string ⟨#[]⟩] 24)
  have bkpt := blk_new w15 (.cells #[.int .i64 1, .int .i64 n2, .string ⟨#[]⟩] 24)
  replace hb := hb.alloc hb.size (.cells #[.int .i64 1, .int .i64 n2, .string ⟨#[]⟩] 24)
  clear ca0
  clear ca1
  clear ca2
  clear cb0
  clear cb1
  clear cb2
  generalize w15.alloc (.cells #[.int .i64 1, .int .i64 n2, .string ⟨#[]⟩] 24) = w16 at *
  have ca0 : w16.cell? ⟨w.heap.size, 0, none⟩ = some (.int .i64 1) := blk_cell bka 0
  have ca1 : w16.cell? ⟨w.heap.size, 1, none⟩ = some (.int .i64 n1) := blk_cell bka 1
  have ca2 : w16.cell? ⟨w.heap.size, 2, none⟩ = some (.string ⟨#[]⟩) := blk_cell bka 2
  have cb0 : w16.cell? ⟨w.heap.size + 1, 0, none⟩ = some (.int .i64 1) := blk_cell bkb 0
  have cb1 : w16.cell? ⟨w.heap.size + 1, 1, none⟩ = some (.int .i64 n2) := blk_cell bkb 1
  have cb2 : w16.cell? ⟨w.heap.size + 1, 2, none⟩ = some (.string ⟨#[]⟩) := blk_cell bkb 2
  have cpt0 : w16.cell? ⟨w15.heap.size, 0, none⟩ = some (.int .i64 1) := blk_cell bkpt 0
  have cpt1 : w16.cell? ⟨w15.heap.size, 1, none⟩ = some (.int .i64 n2) := blk_cell bkpt 1
  have cpt2 : w16.cell? ⟨w15.heap.size, 2, none⟩ = some (.string ⟨#[]⟩) := blk_cell bkpt 2
  refine (val_Reckon.calls 20 3 1 n1 ⟨#[]⟩ (some ⟨w15.heap.size, 0, none⟩) 1 [⟨1, n2, ⟨#[]⟩⟩] kp vp ⟨#[]⟩ ep _ (one_C bkpt) (Nat.le_refl _) (reckon_num 3 (by decide) n1 ⟨#[]⟩ n2 ⟨#[]⟩ _ RP.out)).mono ?_
  rintro e w17 ⟨rfl, h17⟩
  replace bka := blk_below bka h17
  replace bkb := blk_below bkb h17
  replace bkpt := blk_below bkpt h17
  replace hb := hb.trans (h17.mono hb.size)
  clear ca0
  clear ca1
  clear ca2
  clear cb0
  clear cb1
  clear cb2
  clear cpt0
  clear cpt1
  clear cpt2
  have ca0 : w17.cell? ⟨w.heap.size, 0, none⟩ = some (.int .i64 1) := blk_cell bka 0
  have ca1 : w17.cell? ⟨w.heap.size, 1, none⟩ = some (.int .i64 n1) := blk_cell bka 1
  have ca2 : w17.cell? ⟨w.heap.size, 2, none⟩ = some (.string ⟨#[]⟩) := blk_cell bka 2
  have cb0 : w17.cell? ⟨w.heap.size + 1, 0, none⟩ = some (.int .i64 1) := blk_cell bkb 0
  have cb1 : w17.cell? ⟨w.heap.size + 1, 1, none⟩ = some (.int .i64 n2) := blk_cell bkb 1
  have cb2 : w17.cell? ⟨w.heap.size + 1, 2, none⟩ = some (.string ⟨#[]⟩) := blk_cell bkb 2
  have cpt0 : w17.cell? ⟨w15.heap.size, 0, none⟩ = some (.int .i64 1) := blk_cell bkpt 0
  have cpt1 : w17.cell? ⟨w15.heap.size, 1, none⟩ = some (.int .i64 n2) := blk_cell bkpt 1
  have cpt2 : w17.cell? ⟨w15.heap.size, 2, none⟩ = some (.string ⟨#[]⟩) := blk_cell bkpt 2
  clear cpt0
  clear cpt1
  clear cpt2
  clear bkpt
  replace bka := blk_alloc bka (.cells #[.int .i64 kp, .int .i64 vp, .string ⟨#[]⟩] 24)
  replace bkb := blk_alloc bkb (.cells #[.int .i64 kp, .int .i64 vp, .string ⟨#[]⟩] 24)
  have bkp := blk_new w17 (.cells #[.int .i64 kp, .int .i64 vp, .string ⟨#[]⟩] 24)
  replace hb := hb.alloc hb.size (.cells #[.int .i64 kp, .int .i64 vp, .string ⟨#[]⟩] 24)
  have da0 : (w17.alloc (.cells #[.int .i64 kp, .int .i64 vp, .string ⟨#[]⟩] 24)).cell? ⟨w.heap.size, 0, none⟩ = some (.int .i64 1) := blk_cell bka 0
  have da1 : (w17.alloc (.cells #[.int .i64 kp, .int .i64 vp, .string ⟨#[]⟩] 24)).cell? ⟨w.heap.size, 1, none⟩ = some (.int .i64 n1) := blk_cell bka 1
  have da2 : (w17.alloc (.cells #[.int .i64 kp, .int .i64 vp, .string ⟨#[]⟩] 24)).cell? ⟨w.heap.size, 2, none⟩ = some (.string ⟨#[]⟩) := blk_cell bka 2
  have db0 : (w17.alloc (.cells #[.int .i64 kp, .int .i64 vp, .string ⟨#[]⟩] 24)).cell? ⟨w.heap.size + 1, 0, none⟩ = some (.int .i64 1) := blk_cell bkb 0
  have db1 : (w17.alloc (.cells #[.int .i64 kp, .int .i64 vp, .string ⟨#[]⟩] 24)).cell? ⟨w.heap.size + 1, 1, none⟩ = some (.int .i64 n2) := blk_cell bkb 1
  have db2 : (w17.alloc (.cells #[.int .i64 kp, .int .i64 vp, .string ⟨#[]⟩] 24)).cell? ⟨w.heap.size + 1, 2, none⟩ = some (.string ⟨#[]⟩) := blk_cell bkb 2
  have dp0 : (w17.alloc (.cells #[.int .i64 kp, .int .i64 vp, .string ⟨#[]⟩] 24)).cell? ⟨w17.heap.size, 0, none⟩ = some (.int .i64 kp) := blk_cell bkp 0
  have dp1 : (w17.alloc (.cells #[.int .i64 kp, .int .i64 vp, .string ⟨#[]⟩] 24)).cell? ⟨w17.heap.size, 1, none⟩ = some (.int .i64 vp) := blk_cell bkp 1
  have dp2 : (w17.alloc (.cells #[.int .i64 kp, .int .i64 vp, .string ⟨#[]⟩] 24)).cell? ⟨w17.heap.size, 2, none⟩ = some (.string ⟨#[]⟩) := blk_cell bkp 2
  go_wp2_with fail
  clear da0
  clear da1
  clear da2
  clear db0
  clear db1
  clear db2
  clear dp0
  clear dp1
  clear dp2
  clear ca0
  clear ca1
  clear ca2
  clear cb0
  clear cb1
  clear cb2
  have hs18 := size_alloc w17 (.cells #[.int .i64 kp, .int .i64 vp, .string ⟨#[]⟩] 24)
  generalize (w17.alloc (.cells #[.int .i64 kp, .int .i64 vp, .string ⟨#[]⟩] 24)) = w18 at *
  have ca0 : w18.cell? ⟨w.heap.size, 0, none⟩ = some (.int .i64 1) := blk_cell bka 0
  have ca1 : w18.cell? ⟨w.heap.size, 1, none⟩ = some (.int .i64 n1) := blk_cell bka 1
  have ca2 : w18.cell? ⟨w.heap.size, 2, none⟩ = some (.string ⟨#[]⟩) := blk_cell bka 2
  have cb0 : w18.cell? ⟨w.heap.size + 1, 0, none⟩ = some (.int .i64 1) := blk_cell bkb 0
  have cb1 : w18.cell? ⟨w.heap.size + 1, 1, none⟩ = some (.int .i64 n2) := blk_cell bkb 1
  have cb2 : w18.cell? ⟨w.heap.size + 1, 2, none⟩ = some (.string ⟨#[]⟩) := blk_cell bkb 2
  have cp0 : w18.cell? ⟨w17.heap.size, 0, none⟩ = some (.int .i64 kp) := blk_cell bkp 0
  have cp1 : w18.cell? ⟨w17.heap.size, 1, none⟩ = some (.int .i64 vp) := blk_cell bkp 1
  have cp2 : w18.cell? ⟨w17.heap.size, 2, none⟩ = some (.string ⟨#[]⟩) := blk_cell bkp 2
  replace bka := blk_alloc bka (.cells #[.int .i64 1, .int .i64 n1, .string ⟨#[]⟩] 24)
  replace bkb := blk_alloc bkb (.cells #[.int .i64 1, .int .i64 n1, .string ⟨#[]⟩] 24)
  replace bkp := blk_alloc bkp (.cells #[.int .i64 1, .int .i64 n1, .string ⟨#[]⟩] 24)
  have bkqt := blk_new w18 (.cells #[.int .i64 1, .int .i64 n1, .string ⟨#[]⟩] 24)
  rw [hs18] at bkqt
  replace hb := hb.alloc hb.size (.cells #[.int .i64 1, .int .i64 n1, .string ⟨#[]⟩] 24)
  clear ca0
  clear ca1
  clear ca2
  clear cb0
  clear cb1
  clear cb2
  clear cp0
  clear cp1
  clear cp2
  generalize w18.alloc (.cells #[.int .i64 1, .int .i64 n1, .string ⟨#[]⟩] 24) = w19 at *
  have ca0 : w19.cell? ⟨w.heap.size, 0, none⟩ = some (.int .i64 1) := blk_cell bka 0
  have ca1 : w19.cell? ⟨w.heap.size, 1, none⟩ = some (.int .i64 n1) := blk_cell bka 1
  have ca2 : w19.cell? ⟨w.heap.size, 2, none⟩ = some (.string ⟨#[]⟩) := blk_cell bka 2
  have cb0 : w19.cell? ⟨w.heap.size + 1, 0, none⟩ = some (.int .i64 1) := blk_cell bkb 0
  have cb1 : w19.cell? ⟨w.heap.size + 1, 1, none⟩ = some (.int .i64 n2) := blk_cell bkb 1
  have cb2 : w19.cell? ⟨w.heap.size + 1, 2, none⟩ = some (.string ⟨#[]⟩) := blk_cell bkb 2
  have cp0 : w19.cell? ⟨w17.heap.size, 0, none⟩ = some (.int .i64 kp) := blk_cell bkp 0
  have cp1 : w19.cell? ⟨w17.heap.size, 1, none⟩ = some (.int .i64 vp) := blk_cell bkp 1
  have cp2 : w19.cell? ⟨w17.heap.size, 2, none⟩ = some (.string ⟨#[]⟩) := blk_cell bkp 2
  have cqt0 : w19.cell? ⟨w17.heap.size + 1, 0, none⟩ = some (.int .i64 1) := blk_cell bkqt 0
  have cqt1 : w19.cell? ⟨w17.heap.size + 1, 1, none⟩ = some (.int .i64 n1) := blk_cell bkqt 1
  have cqt2 : w19.cell? ⟨w17.heap.size + 1, 2, none⟩ = some (.string ⟨#[]⟩) := blk_cell bkqt 2
  refine (val_Reckon.calls 20 3 1 n2 ⟨#[]⟩ (some ⟨w17.heap.size + 1, 0, none⟩) 1 [⟨1, n1, ⟨#[]⟩⟩] kp vp ⟨#[]⟩ ep _ (one_C bkqt) (Nat.le_refl _) (reckon_num 3 (by decide) n2 ⟨#[]⟩ n1 ⟨#[]⟩ _ RQ.out)).mono ?_
  rintro e w20 ⟨rfl, h20⟩
  replace bka := blk_below bka h20
  replace bkb := blk_below bkb h20
  replace bkp := blk_below bkp h20
  replace bkqt := blk_below bkqt h20
  replace hb := hb.trans (h20.mono hb.size)
  clear ca0
  clear ca1
  clear ca2
  clear cb0
  clear cb1
  clear cb2
  clear cp0
  clear cp1
  clear cp2
  clear cqt0
  clear cqt1
  clear cqt2
  have ca0 : w20.cell? ⟨w.heap.size, 0, none⟩ = some (.int .i64 1) := blk_cell bka 0
  have ca1 : w20.cell? ⟨w.heap.size, 1, none⟩ = some (.int .i64 n1) := blk_cell bka 1
  have ca2 : w20.cell? ⟨w.heap.size, 2, none⟩ = some (.string ⟨#[]⟩) := blk_cell bka 2
  have cb0 : w20.cell? ⟨w.heap.size + 1, 0, none⟩ = some (.int .i64 1) := blk_cell bkb 0
  have cb1 : w20.cell? ⟨w.heap.size + 1, 1, none⟩ = some (.int .i64 n2) := blk_cell bkb 1
  have cb2 : w20.cell? ⟨w.heap.size + 1, 2, none⟩ = some (.string ⟨#[]⟩) := blk_cell bkb 2
  have cp0 : w20.cell? ⟨w17.heap.size, 0, none⟩ = some (.int .i64 kp) := blk_cell bkp 0
  have cp1 : w20.cell? ⟨w17.heap.size, 1, none⟩ = some (.int .i64 vp) := blk_cell bkp 1
  have cp2 : w20.cell? ⟨w17.heap.size, 2, none⟩ = some (.string ⟨#[]⟩) := blk_cell bkp 2
  have cqt0 : w20.cell? ⟨w17.heap.size + 1, 0, none⟩ = some (.int .i64 1) := blk_cell bkqt 0
  have cqt1 : w20.cell? ⟨w17.heap.size + 1, 1, none⟩ = some (.int .i64 n1) := blk_cell bkqt 1
  have cqt2 : w20.cell? ⟨w17.heap.size + 1, 2, none⟩ = some (.string ⟨#[]⟩) := blk_cell bkqt 2
  clear cqt0
  clear cqt1
  clear cqt2
  clear bkqt
  replace bka := blk_alloc bka (.cells #[.int .i64 kp, .int .i64 vp, .string ⟨#[]⟩] 24)
  replace bkb := blk_alloc bkb (.cells #[.int .i64 kp, .int .i64 vp, .string ⟨#[]⟩] 24)
  replace bkp := blk_alloc bkp (.cells #[.int .i64 kp, .int .i64 vp, .string ⟨#[]⟩] 24)
  have bkq := blk_new w20 (.cells #[.int .i64 kp, .int .i64 vp, .string ⟨#[]⟩] 24)
  replace hb := hb.alloc hb.size (.cells #[.int .i64 kp, .int .i64 vp, .string ⟨#[]⟩] 24)
  have da0 : (w20.alloc (.cells #[.int .i64 kp, .int .i64 vp, .string ⟨#[]⟩] 24)).cell? ⟨w.heap.size, 0, none⟩ = some (.int .i64 1) := blk_cell bka 0
  have da1 : (w20.alloc (.cells #[.int .i64 kp, .int .i64 vp, .string ⟨#[]⟩] 24)).cell? ⟨w.heap.size, 1, none⟩ = some (.int .i64 n1) := blk_cell bka 1
  have da2 : (w20.alloc (.cells #[.int .i64 kp, .int .i64 vp, .string ⟨#[]⟩] 24)).cell? ⟨w.heap.size, 2, none⟩ = some (.string ⟨#[]⟩) := blk_cell bka 2
  have db0 : (w20.alloc (.cells #[.int .i64 kp, .int .i64 vp, .string ⟨#[]⟩] 24)).cell? ⟨w.heap.size + 1, 0, none⟩ = some (.int .i64 1) := blk_cell bkb 0
  have db1 : (w20.alloc (.cells #[.int .i64 kp, .int .i64 vp, .string ⟨#[]⟩] 24)).cell? ⟨w.heap.size + 1, 1, none⟩ = some (.int .i64 n2) := blk_cell bkb 1
  have db2 : (w20.alloc (.cells #[.int .i64 kp, .int .i64 vp, .string ⟨#[]⟩] 24)).cell? ⟨w.heap.size + 1, 2, none⟩ = some (.string ⟨#[]⟩) := blk_cell bkb 2
  have dp0 : (w20.alloc (.cells #[.int .i64 kp, .int .i64 vp, .string ⟨#[]⟩] 24)).cell? ⟨w17.heap.size, 0, none⟩ = some (.int .i64 kp) := blk_cell bkp 0
  have dp1 : (w20.alloc (.cells #[.int .i64 kp, .int .i64 vp, .string ⟨#[]⟩] 24)).cell? ⟨w17.heap.size, 1, none⟩ = some (.int .i64 vp) := blk_cell bkp 1
  have dp2 : (w20.alloc (.cells #[.int .i64 kp, .int .i64 vp, .string ⟨#[]⟩] 24)).cell? ⟨w17.heap.size, 2, none⟩ = some (.string ⟨#[]⟩) := blk_cell bkp 2
  have dq0 : (w20.alloc (.cells #[.int .i64 kp, .int .i64 vp, .string ⟨#[]⟩] 24)).cell? ⟨w20.heap.size, 0, none⟩ = some (.int .i64 kp) := blk_cell bkq 0
  have dq1 : (w20.alloc (.cells #[.int .i64 kp, .int .i64 vp, .string ⟨#[]⟩] 24)).cell? ⟨w20.heap.size, 1, none⟩ = some (.int .i64 vp) := blk_cell bkq 1
  have dq2 : (w20.alloc (.cells #[.int .i64 kp, .int .i64 vp, .string ⟨#[]⟩] 24)).cell? ⟨w20.heap.size, 2, none⟩ = some (.string ⟨#[]⟩) := blk_cell bkq 2
  go_wp2_with fail
  clear da0
  clear da1
  clear da2
  clear db0
  clear db1
  clear db2
  clear dp0
  clear dp1
  clear dp2
  clear dq0
  clear dq1
  clear dq2
  clear ca0
  clear ca1
  clear ca2
  clear cb0
  clear cb1
  clear cb2
  clear cp0
  clear cp1
  clear cp2
  have hs21 := size_alloc w20 (.cells #[.int .i64 kp, .int .i64 vp, .string ⟨#[]⟩] 24)
  generalize (w20.alloc (.cells #[.int .i64 kp, .int .i64 vp, .string ⟨#[]⟩] 24)) = w21 at *
  have ca0 : w21.cell? ⟨w.heap.size, 0, none⟩ = some (.int .i64 1) := blk_cell bka 0
  have ca1 : w21.cell? ⟨w.heap.size, 1, none⟩ = some (.int .i64 n1) := blk_cell bka 1
  have ca2 : w21.cell? ⟨w.heap.size, 2, none⟩ = some (.string ⟨#[]⟩) := blk_cell bka 2
  have cb0 : w21.cell? ⟨w.heap.size + 1, 0, none⟩ = some (.int .i64 1) := blk_cell bkb 0
  have cb1 : w21.cell? ⟨w.heap.size + 1, 1, none⟩ = some (.int .i64 n2) := blk_cell bkb 1
  have cb2 : w21.cell? ⟨w.heap.size + 1, 2, none⟩ = some (.string ⟨#[]⟩) := blk_cell bkb 2
  have cp0 : w21.cell? ⟨w17.heap.size, 0, none⟩ = some (.int .i64 kp) := blk_cell bkp 0
  have cp1 : w21.cell? ⟨w17.heap.size, 1, none⟩ = some (.int .i64 vp) := blk_cell bkp 1
  have cp2 : w21.cell? ⟨w17.heap.size, 2, none⟩ = some (.string ⟨#[]⟩) := blk_cell bkp 2
  have cq0 : w21.cell? ⟨w20.heap.size, 0, none⟩ = some (.int .i64 kp) := blk_cell bkq 0
  have cq1 : w21.cell? ⟨w20.heap.size, 1, none⟩ = some (.int .i64 vp) := blk_cell bkq 1
  have cq2 : w21.cell? ⟨w20.heap.size, 2, none⟩ = some (.string ⟨#[]⟩) := blk_cell bkq 2
  replace bka := blk_alloc bka (.cells #[.int .i64 1, .int .i64 n2, .string ⟨#[]⟩] 24)
  replace bkb := blk_alloc bkb (.cells #[.int .i64 1, .int .i64 n2, .string ⟨#[]⟩] 24)
  replace bkp := blk_alloc bkp (.cells #[.int .i64 1, .int .i64 n2, .string ⟨#[]⟩] 24)
  replace bkq := blk_alloc bkq (.cells #[.int .i64 1, .int .i64 n2, .string ⟨#[]⟩] 24)
  have bkst := blk_new w21 (.cells #[.int .i64 1, .int .i64 n2, .string ⟨#[]⟩] 24)
  rw [hs21] at bkst
  replace hb := hb.alloc hb.size (.cells #[.int .i64 1, .int .i64 n2, .string ⟨#[]⟩] 24)
  clear ca0
  clear ca1
  clear ca2
  clear cb0
  clear cb1
  clear cb2
  clear cp0
  clear cp1
  clear cp2
  clear cq0
  clear cq1
  clear cq2
  generalize w21.alloc (.cells #[.int .i64 1, .int .i64 n2, .string ⟨#[]⟩] 24) = w22 at *
  have ca0 : w22.cell? ⟨w.heap.size, 0, none⟩ = some (.int .i64 1) := blk_cell bka 0
  have ca1 : w22.cell? ⟨w.heap.size, 1, none⟩ = some (.int .i64 n1) := blk_cell bka 1
  have ca2 : w22.cell? ⟨w.heap.size, 2, none⟩ = some (.string ⟨#[]⟩) := blk_cell bka 2
  have cb0 : w22.cell? ⟨w.heap.size + 1, 0, none⟩ = some (.int .i64 1) := blk_cell bkb 0
  have cb1 : w22.cell? ⟨w.heap.size + 1, 1, none⟩ = some (.int .i64 n2) := blk_cell bkb 1
  have cb2 : w22.cell? ⟨w.heap.size + 1, 2, none⟩ = some (.string ⟨#[]⟩) := blk_cell bkb 2
  have cp0 : w22.cell? ⟨w17.heap.size, 0, none⟩ = some (.int .i64 kp) := blk_cell bkp 0
  have cp1 : w22.cell? ⟨w17.heap.size, 1, none⟩ = some (.int .i64 vp) := blk_cell bkp 1
  have cp2 : w22.cell? ⟨w17.heap.size, 2, none⟩ = some (.string ⟨#[]⟩) := blk_cell bkp 2
  have cq0 : w22.cell? ⟨w20.heap.size, 0, none⟩ = some (.int .i64 kp) := blk_cell bkq 0
  have cq1 : w22.cell? ⟨w20.heap.size, 1, none⟩ = some (.int .i64 vp) := blk_cell bkq 1
  have cq2 : w22.cell? ⟨w20.heap.size, 2, none⟩ = some (.string ⟨#[]⟩) := blk_cell bkq 2
  have cst0 : w22.cell? ⟨w20.heap.size + 1, 0, none⟩ = some (.int .i64 1) := blk_cell bkst 0
  have cst1 : w22.cell? ⟨w20.heap.size + 1, 1, none⟩ = some (.int .i64 n2) := blk_cell bkst 1
  have cst2 : w22.cell? ⟨w20.heap.size + 1, 2, none⟩ = some (.string ⟨#[]⟩) := blk_cell bkst 2
  refine (val_Reckon.calls 20 6 1 n1 ⟨#[]⟩ (some ⟨w20.heap.size + 1, 0, none⟩) 1 [⟨1, n2, ⟨#[]⟩⟩] ks vs ⟨#[]⟩ es _ (one_C bkst) (Nat.le_refl _) (reckon_num 6 (by decide) n1 ⟨#[]⟩ n2 ⟨#[]⟩ _ RS.out)).mono ?_
  rintro e w23 ⟨rfl, h23⟩
  replace bka := blk_below bka h23
  replace bkb := blk_below bkb h23
  replace bkp := blk_below bkp h23
  replace bkq := blk_below bkq h23
  replace bkst := blk_below bkst h23
  replace hb := hb.trans (h23.mono hb.size)
  clear ca0
  clear ca1
  clear ca2
  clear cb0
  clear cb1
  clear cb2
  clear cp0
  clear cp1
  clear cp2
  clear cq0
  clear cq1
  clear cq2
  clear cst0
  clear cst1
  clear cst2
  have ca0 : w23.cell? ⟨w.heap.size, 0, none⟩ = some (.int .i64 1) := blk_cell bka 0
  have ca1 : w23.cell? ⟨w.heap.size, 1, none⟩ = some (.int .i64 n1) := blk_cell bka 1
  have ca2 : w23.cell? ⟨w.heap.size, 2, none⟩ = some (.string ⟨#[]⟩) := blk_cell bka 2
  have cb0 : w23.cell? ⟨w.heap.size + 1, 0, none⟩ = some (.int .i64 1) := blk_cell bkb 0
  have cb1 : w23.cell? ⟨w.heap.size + 1, 1, none⟩ = some (.int .i64 n2) := blk_cell bkb 1
  have cb2 : w23.cell? ⟨w.heap.size + 1, 2, none⟩ = some (.string ⟨#[]⟩) := blk_cell bkb 2
  have cp0 : w23.cell? ⟨w17.heap.size, 0, none⟩ = some (.int .i64 kp) := blk_cell bkp 0
  have cp1 : w23.cell? ⟨w17.heap.size, 1, none⟩ = some (.int .i64 vp) := blk_cell bkp 1
  have cp2 : w23.cell? ⟨w17.heap.size, 2, none⟩ = some (.string ⟨#[]⟩) := blk_cell bkp 2
  have cq0 : w23.cell? ⟨w20.heap.size, 0, none⟩ = some (.int .i64 kp) := blk_cell bkq 0
  have cq1 : w23.cell? ⟨w20.heap.size, 1, none⟩ = some (.int .i64 vp) := blk_cell bkq 1
  have cq2 : w23.cell? ⟨w20.heap.size, 2, none⟩ = some (.string ⟨#[]⟩) := blk_cell bkq 2
  have cst0 : w23.cell? ⟨w20.heap.size + 1, 0, none⟩ = some (.int .i64 1) := blk_cell bkst 0
  have cst1 : w23.cell? ⟨w20.heap.size + 1, 1, none⟩ = some (.int .i64 n2) := blk_cell bkst 1
  have cst2 : w23.cell? ⟨w20.heap.size + 1, 2, none⟩ = some (.string ⟨#[]⟩) := blk_cell bkst 2
  clear cst0
  clear cst1
  clear cst2
  clear bkst
  replace bka := blk_alloc bka (.cells #[.int .i64 ks, .int .i64 vs, .string ⟨#[]⟩] 24)
  replace bkb := blk_alloc bkb (.cells #[.int .i64 ks, .int .i64 vs, .string ⟨#[]⟩] 24)
  replace bkp := blk_alloc bkp (.cells #[.int .i64 ks, .int .i64 vs, .string ⟨#[]⟩] 24)
  replace bkq := blk_alloc bkq (.cells #[.int .i64 ks, .int .i64 vs, .string ⟨#[]⟩] 24)
  have bks := blk_new w23 (.cells #[.int .i64 ks, .int .i64 vs, .string ⟨#[]⟩] 24)
  replace hb := hb.alloc hb.size (.cells #[.int .i64 ks, .int .i64 vs, .string ⟨#[]⟩] 24)
  have da0 : (w23.alloc (.cells #[.int .i64 ks, .int .i64 vs, .string ⟨#[]⟩] 24)).cell? ⟨w.heap.size, 0, none⟩ = some (.int .i64 1) := blk_cell bka 0
  have da1 : (w23.alloc (.cells #[.int .i64 ks, .int .i64 vs, .string ⟨#[]⟩] 24)).cell? ⟨w.heap.size, 1, none⟩ = some (.int .i64 n1) := blk_cell bka 1
  have da2 : (w23.alloc (.cells #[.int .i64 ks, .int .i64 vs, .string ⟨#[]⟩] 24)).cell? ⟨w.heap.size, 2, none⟩ = some (.string ⟨#[]⟩) := blk_cell bka 2
  have db0 : (w23.alloc (.cells #[.int .i64 ks, .int .i64 vs, .string ⟨#[]⟩] 24)).cell? ⟨w.heap.size + 1, 0, none⟩ = some (.int .i64 1) := blk_cell bkb 0
  have db1 : (w23.alloc (.cells #[.int .i64 ks, .int .i64 vs, .string ⟨#[]⟩] 24)).cell? ⟨w.heap.size + 1, 1, none⟩ = some (.int .i64 n2) := blk_cell bkb 1
  have db2 : (w23.alloc (.cells #[.int .i64 ks, .int .i64 vs, .string ⟨#[]⟩] 24)).cell? ⟨w.heap.size + 1, 2, none⟩ = some (.string ⟨#[]⟩) := blk_cell bkb 2
  have dp0 : (w23.alloc (.cells #[.int .i64 ks, .int .i64 vs, .string ⟨#[]⟩] 24)).cell? ⟨w17.heap.size, 0, none⟩ = some (.int .i64 kp) := blk_cell bkp 0
  have dp1 : (w23.alloc (.cells #[.int .i64 ks, .int .i64 vs, .string ⟨#[]⟩] 24)).cell? ⟨w17.heap.size, 1, none⟩ = some (.int .i64 vp) := blk_cell bkp 1
  have dp2 : (w23.alloc (.cells #[.int .i64 ks, .int .i64 vs, .string ⟨#[]⟩] 24)).cell? ⟨w17.heap.size, 2, none⟩ = some (.string ⟨#[]⟩) := blk_cell bkp 2
  have dq0 : (w23.alloc (.cells #[.int .i64 ks, .int .i64 vs, .string ⟨#[]⟩] 24)).cell? ⟨w20.heap.size, 0, none⟩ = some (.int .i64 kp) := blk_cell bkq 0
  have dq1 : (w23.alloc (.cells #[.int .i64 ks, .int .i64 vs, .string ⟨#[]⟩] 24)).cell? ⟨w20.heap.size, 1, none⟩ = some (.int .i64 vp) := blk_cell bkq 1
  have dq2 : (w23.alloc (.cells #[.int .i64 ks, .int .i64 vs, .string ⟨#[]⟩] 24)).cell? ⟨w20.heap.size, 2, none⟩ = some (.string ⟨#[]⟩) := blk_cell bkq 2
  have ds0 : (w23.alloc (.cells #[.int .i64 ks, .int .i64 vs, .string ⟨#[]⟩] 24)).cell? ⟨w23.heap.size, 0, none⟩ = some (.int .i64 ks) := blk_cell bks 0
  have ds1 : (w23.alloc (.cells #[.int .i64 ks, .int .i64 vs, .string ⟨#[]⟩] 24)).cell? ⟨w23.heap.size, 1, none⟩ = some (.int .i64 vs) := blk_cell bks 1
  have ds2 : (w23.alloc (.cells #[.int .i64 ks, .int .i64 vs, .string ⟨#[]⟩] 24)).cell? ⟨w23.heap.size, 2, none⟩ = some (.string ⟨#[]⟩) := blk_cell bks 2
  go_wp2_with fail
  clear da0
  clear da1
  clear da2
  clear db0
  clear db1
  clear db2
  clear dp0
  clear dp1
  clear dp2
  clear dq0
  clear dq1
  clear dq2
  clear ds0
  clear ds1
  clear ds2
  clear ca0
  clear ca1
  clear ca2
  clear cb0
  clear cb1
  clear cb2
  clear cp0
  clear cp1
  clear cp2
  clear cq0
  clear cq1
  clear cq2
  have hs24 := size_alloc w23 (.cells #[.int .i64 ks, .int .i64 vs, .string ⟨#[]⟩] 24)
  generalize (w23.alloc (.cells #[.int .i64 ks, .int .i64 vs, .string ⟨#[]⟩] 24)) = w24 at *
  have ca0 : w24.cell? ⟨w.heap.size, 0, none⟩ = some (.int .i64 1) := blk_cell bka 0
  have ca1 : w24.cell? ⟨w.heap.size, 1, none⟩ = some (.int .i64 n1) := blk_cell bka 1
  have ca2 : w24.cell? ⟨w.heap.size, 2, none⟩ = some (.string ⟨#[]⟩) := blk_cell bka 2
  have cb0 : w24.cell? ⟨w.heap.size + 1, 0, none⟩ = some (.int .i64 1) := blk_cell bkb 0
  have cb1 : w24.cell? ⟨w.heap.size + 1, 1, none⟩ = some (.int .i64 n2) := blk_cell bkb 1
  have cb2 : w24.cell? ⟨w.heap.size + 1, 2, none⟩ = some (.string ⟨#[]⟩) := blk_cell bkb 2
  have cp0 : w24.cell? ⟨w17.heap.size, 0, none⟩ = some (.int .i64 kp) := blk_cell bkp 0
  have cp1 : w24.cell? ⟨w17.heap.size, 1, none⟩ = some (.int .i64 vp) := blk_cell bkp 1
  have cp2 : w24.cell? ⟨w17.heap.size, 2, none⟩ = some (.string ⟨#[]⟩) := blk_cell bkp 2
  have cq0 : w24.cell? ⟨w20.heap.size, 0, none⟩ = some (.int .i64 kp) := blk_cell bkq 0
  have cq1 : w24.cell? ⟨w20.heap.size, 1, none⟩ = some (.int .i64 vp) := blk_cell bkq 1
  have cq2 : w24.cell? ⟨w20.heap.size, 2, none⟩ = some (.string ⟨#[]⟩) := blk_cell bkq 2
  have cs0 : w24.cell? ⟨w23.heap.size, 0, none⟩ = some (.int .i64 ks) := blk_cell bks 0
  have cs1 : w24.cell? ⟨w23.heap.size, 1, none⟩ = some (.int .i64 vs) := blk_cell bks 1
  have cs2 : w24.cell? ⟨w23.heap.size, 2, none⟩ = some (.string ⟨#[]⟩) := blk_cell bks 2
  replace bka := blk_alloc bka (.cells #[.int .i64 1, .int .i64 n1, .string ⟨#[]⟩] 24)
  replace bkb := blk_alloc bkb (.cells #[.int .i64 1, .int .i64 n1, .string ⟨#[]⟩] 24)
  replace bkp := blk_alloc bkp (.cells #[.int .i64 1, .int .i64 n1, .string ⟨#[]⟩] 24)
  replace bkq := blk_alloc bkq (.cells #[.int .i64 1, .int .i64 n1, .string ⟨#[]⟩] 24)
  replace bks := blk_alloc bks (.cells #[.int .i64 1, .int .i64 n1, .string ⟨#[]⟩] 24)
  have bktt := blk_new w24 (.cells #[.int .i64 1, .int .i64 n1, .string ⟨#[]⟩] 24)
  rw [hs24] at bktt
  replace hb := hb.alloc hb.size (.cells #[.int .i64 1, .int .i64 n1, .string ⟨#[]⟩] 24)
  clear ca0
  clear ca1
  clear ca2
  clear cb0
  clear cb1
  clear cb2
  clear cp0
  clear cp1
  clear cp2
  clear cq0
  clear cq1
  clear cq2
  clear cs0
  clear cs1
  clear cs2
  generalize w24.alloc (.cells #[.int .i64 1, .int .i64 n1, .string ⟨#[]⟩] 24) = w25 at *
  have ca0 : w25.cell? ⟨w.heap.size, 0, none⟩ = some (.int .i64 1) := blk_cell bka 0
  have ca1 : w25.cell? ⟨w.heap.size, 1, none⟩ = some (.int .i64 n1) := blk_cell bka 1
  have ca2 : w25.cell? ⟨w.heap.size, 2, none⟩ = some (.string ⟨#[]⟩) := blk_cell bka 2
  have cb0 : w25.cell? ⟨w.heap.size + 1, 0, none⟩ = some (.int .i64 1) := blk_cell bkb 0
  have cb1 : w25.cell? ⟨w.heap.size + 1, 1, none⟩ = some (.int .i64 n2) := blk_cell bkb 1
  have cb2 : w25.cell? ⟨w.heap.size + 1, 2, none⟩ = some (.string ⟨#[]⟩) := blk_cell bkb 2
  have cp0 : w25.cell? ⟨w17.heap.size, 0, none⟩ = some (.int .i64 kp) := blk_cell bkp 0
  have cp1 : w25.cell? ⟨w17.heap.size, 1, none⟩ = some (.int .i64 vp) := blk_cell bkp 1
  have cp2 : w25.cell? ⟨w17.heap.size, 2, none⟩ = some (.string ⟨#[]⟩) := blk_cell bkp 2
  have cq0 : w25.cell? ⟨w20.heap.size, 0, none⟩ = some (.int .i64 kp) := blk_cell bkq 0
  have cq1 : w25.cell? ⟨w20.heap.size, 1, none⟩ = some (.int .i64 vp) := blk_cell bkq 1
  have cq2 : w25.cell? ⟨w20.heap.size, 2, none⟩ = some (.string ⟨#[]⟩) := blk_cell bkq 2
  have cs0 : w25.cell? ⟨w23.heap.size, 0, none⟩ = some (.int .i64 ks) := blk_cell bks 0
  have cs1 : w25.cell? ⟨w23.heap.size, 1, none⟩ = some (.int .i64 vs) := blk_cell bks 1
  have cs2 : w25.cell? ⟨w23.heap.size, 2, none⟩ = some (.string ⟨#[]⟩) := blk_cell bks 2
  have ctt0 : w25.cell? ⟨w23.heap.size + 1, 0, none⟩ = some (.int .i64 1) := blk_cell bktt 0
  have ctt1 : w25.cell? ⟨w23.heap.size + 1, 1, none⟩ = some (.int .i64 n1) := blk_cell bktt 1
  have ctt2 : w25.cell? ⟨w23.heap.size + 1, 2, none⟩ = some (.string ⟨#[]⟩) := blk_cell bktt 2
  refine (val_Reckon.calls 20 6 1 n2 ⟨#[]⟩ (some ⟨w23.heap.size + 1, 0, none⟩) 1 [⟨1, n1, ⟨#[]⟩⟩] ks vs ⟨#[]⟩ es _ (one_C bktt) (Nat.le_refl _) (reckon_num 6 (by decide) n2 ⟨#[]⟩ n1 ⟨#[]⟩ _ RT.out)).mono ?_
  rintro e w26 ⟨rfl, h26⟩
  replace bka := blk_below bka h26
  replace bkb := blk_below bkb h26
  replace bkp := blk_below bkp h26
  replace bkq := blk_below bkq h26
  replace bks := blk_below bks h26
  replace bktt := blk_below bktt h26
  replace hb := hb.trans (h26.mono hb.size)
  clear ca0
  clear ca1
  clear ca2
  clear cb0
  clear cb1
  clear cb2
  clear cp0
  clear cp1
  clear cp2
  clear cq0
  clear cq1
  clear cq2
  clear cs0
  clear cs1
  clear cs2
  clear ctt0
  clear ctt1
  clear ctt2
  have ca0 : w26.cell? ⟨w.heap.size, 0, none⟩ = some (.int .i64 1) := blk_cell bka 0
  have ca1 : w26.cell? ⟨w.heap.size, 1, none⟩ = some (.int .i64 n1) := blk_cell bka 1
  have ca2 : w26.cell? ⟨w.heap.size, 2, none⟩ = some (.string ⟨#[]⟩) := blk_cell bka 2
  have cb0 : w26.cell? ⟨w.heap.size + 1, 0, none⟩ = some (.int .i64 1) := blk_cell bkb 0
  have cb1 : w26.cell? ⟨w.heap.size + 1, 1, none⟩ = some (.int .i64 n2) := blk_cell bkb 1
  have cb2 : w26.cell? ⟨w.heap.size + 1, 2, none⟩ = some (.string ⟨#[]⟩) := blk_cell bkb 2
  have cp0 : w26.cell? ⟨w17.heap.size, 0, none⟩ = some (.int .i64 kp) := blk_cell bkp 0
  have cp1 : w26.cell? ⟨w17.heap.size, 1, none⟩ = some (.int .i64 vp) := blk_cell bkp 1
  have cp2 : w26.cell? ⟨w17.heap.size, 2, none⟩ = some (.string ⟨#[]⟩) := blk_cell bkp 2
  have cq0 : w26.cell? ⟨w20.heap.size, 0, none⟩ = some (.int .i64 kp) := blk_cell bkq 0
  have cq1 : w26.cell? ⟨w20.heap.size, 1, none⟩ = some (.int .i64 vp) := blk_cell bkq 1
  have cq2 : w26.cell? ⟨w20.heap.size, 2, none⟩ = some (.string ⟨#[]⟩) := blk_cell bkq 2
  have cs0 : w26.cell? ⟨w23.heap.size, 0, none⟩ = some (.int .i64 ks) := blk_cell bks 0
  have cs1 : w26.cell? ⟨w23.heap.size, 1, none⟩ = some (.int .i64 vs) := blk_cell bks 1
  have cs2 : w26.cell? ⟨w23.heap.size, 2, none⟩ = some (.string ⟨#[]⟩) := blk_cell bks 2
  have ctt0 : w26.cell? ⟨w23.heap.size + 1, 0, none⟩ = some (.int .i64 1) := blk_cell bktt 0
  have ctt1 : w26.cell? ⟨w23.heap.size + 1, 1, none⟩ = some (.int .i64 n1) := blk_cell bktt 1
  have ctt2 : w26.cell? ⟨w23.heap.size + 1, 2, none⟩ = some (.string ⟨#[]⟩) := blk_cell bktt 2
  clear ctt0
  clear ctt1
  clear ctt2
  clear bktt
  replace bka := blk_alloc bka (.cells #[.int .i64 ks, .int .i64 vs, .string ⟨#[]⟩] 24)
  replace bkb := blk_alloc bkb (.cells #[.int .i64 ks, .int .i64 vs, .string ⟨#[]⟩] 24)
  replace bkp := blk_alloc bkp (.cells #[.int .i64 ks, .int .i64 vs, .string ⟨#[]⟩] 24)
  replace bkq := blk_alloc bkq (.cells #[.int .i64 ks, .int .i64 vs, .string ⟨#[]⟩] 24)
  replace bks := blk_alloc bks (.cells #[.int .i64 ks, .int .i64 vs, .string ⟨#[]⟩] 24)
  have bkt := blk_new w26 (.cells #[.int .i64 ks, .int .i64 vs, .string ⟨#[]⟩] 24)
  replace hb := hb.alloc hb.size (.cells #[.int .i64 ks, .int .i64 vs, .string ⟨#[]⟩] 24)
  have da0 : (w26.alloc (.cells #[.int .i64 ks, .int .i64 vs, .string ⟨#[]⟩] 24)).cell? ⟨w.heap.size, 0, none⟩ = some (.int .i64 1) := blk_cell bka 0
  have da1 : (w26.alloc (.cells #[.int .i64 ks, .int .i64 vs, .string ⟨#[]⟩] 24)).cell? ⟨w.heap.size, 1, none⟩ = some (.int .i64 n1) := blk_cell bka 1
  have da2 : (w26.alloc (.cells #[.int .i64 ks, .int .i64 vs, .string ⟨#[]⟩] 24)).cell? ⟨w.heap.size, 2, none⟩ = some (.string ⟨#[]⟩) := blk_cell bka 2
  have db0 : (w26.alloc (.cells #[.int .i64 ks, .int .i64 vs, .string ⟨#[]⟩] 24)).cell? ⟨w.heap.size + 1, 0, none⟩ = some (.int .i64 1) := blk_cell bkb 0
  have db1 : (w26.alloc (.cells #[.int .i64 ks, .int .i64 vs, .string ⟨#[]⟩] 24)).cell? ⟨w.heap.size + 1, 1, none⟩ = some (.int .i64 n2) := blk_cell bkb 1
  have db2 : (w26.alloc (.cells #[.int .i64 ks, .int .i64 vs, .string ⟨#[]⟩] 24)).cell? ⟨w.heap.size + 1, 2, none⟩ = some (.string ⟨#[]⟩) := blk_cell bkb 2
  have dp0 : (w26.alloc (.cells #[.int .i64 ks, .int .i64 vs, .string ⟨#[]⟩] 24)).cell? ⟨w17.heap.size, 0, none⟩ = some (.int .i64 kp) := blk_cell bkp 0
  have dp1 : (w26.alloc (.cells #[.int .i64 ks, .int .i64 vs, .string ⟨#[]⟩] 24)).cell? ⟨w17.heap.size, 1, none⟩ = some (.int .i64 vp) := blk_cell bkp 1
  have dp2 : (w26.alloc (.cells #[.int .i64 ks, .int .i64 vs, .string ⟨#[]⟩] 24)).cell? ⟨w17.heap.size, 2, none⟩ = some (.string ⟨#[]⟩) := blk_cell bkp 2
  have dq0 : (w26.alloc (.cells #[.int .i64 ks, .int .i64 vs, .string ⟨#[]⟩] 24)).cell? ⟨w20.heap.size, 0, none⟩ = some (.int .i64 kp) := blk_cell bkq 0
  have dq1 : (w26.alloc (.cells #[.int .i64 ks, .int .i64 vs, .string ⟨#[]⟩] 24)).cell? ⟨w20.heap.size, 1, none⟩ = some (.int .i64 vp) := blk_cell bkq 1
  have dq2 : (w26.alloc (.cells #[.int .i64 ks, .int .i64 vs, .string ⟨#[]⟩] 24)).cell? ⟨w20.heap.size, 2, none⟩ = some (.string ⟨#[]⟩) := blk_cell bkq 2
  have ds0 : (w26.alloc (.cells #[.int .i64 ks, .int .i64 vs, .string ⟨#[]⟩] 24)).cell? ⟨w23.heap.size, 0, none⟩ = some (.int .i64 ks) := blk_cell bks 0
  have ds1 : (w26.alloc (.cells #[.int .i64 ks, .int .i64 vs, .string ⟨#[]⟩] 24)).cell? ⟨w23.heap.size, 1, none⟩ = some (.int .i64 vs) := blk_cell bks 1
  have ds2 : (w26.alloc (.cells #[.int .i64 ks, .int .i64 vs, .string ⟨#[]⟩] 24)).cell? ⟨w23.heap.size, 2, none⟩ = some (.string ⟨#[]⟩) := blk_cell bks 2
  have dt0 : (w26.alloc (.cells #[.int .i64 ks, .int .i64 vs, .string ⟨#[]⟩] 24)).cell? ⟨w26.heap.size, 0, none⟩ = some (.int .i64 ks) := blk_cell bkt 0
  have dt1 : (w26.alloc (.cells #[.int .i64 ks, .int .i64 vs, .string ⟨#[]⟩] 24)).cell? ⟨w26.heap.size, 1, none⟩ = some (.int .i64 vs) := blk_cell bkt 1
  have dt2 : (w26.alloc (.cells #[.int .i64 ks, .int .i64 vs, .string ⟨#[]⟩] 24)).cell? ⟨w26.heap.size, 2, none⟩ = some (.string ⟨#[]⟩) := blk_cell bkt 2
  go_wp2_with fail
  clear da0
  clear da1
  clear da2
  clear db0
  clear db1
  clear db2
  clear dp0
  clear dp1
  clear dp2
  clear dq0
  clear dq1
  clear dq2
  clear ds0
  clear ds1
  clear ds2
  clear dt0
  clear dt1
  clear dt2
  clear ca0
  clear ca1
  clear ca2
  clear cb0
  clear cb1
  clear cb2
  clear cp0
  clear cp1
  clear cp2
  clear cq0
  clear cq1
  clear cq2
  clear cs0
  clear cs1
  clear cs2
  have hs27 := size_alloc w26 (.cells #[.int .i64 ks, .int .i64 vs, .string ⟨#[]⟩] 24)
  generalize (w26.alloc (.cells #[.int .i64 ks, .int .i64 vs, .string ⟨#[]⟩] 24)) = w27 at *
  have ca0 : w27.cell? ⟨w.heap.size, 0, none⟩ = some (.int .i64 1) := blk_cell bka 0
  have ca1 : w27.cell? ⟨w.heap.size, 1, none⟩ = some (.int .i64 n1) := blk_cell bka 1
  have ca2 : w27.cell? ⟨w.heap.size, 2, none⟩ = some (.string ⟨#[]⟩) := blk_cell bka 2
  have cb0 : w27.cell? ⟨w.heap.size + 1, 0, none⟩ = some (.int .i64 1) := blk_cell bkb 0
  have cb1 : w27.cell? ⟨w.heap.size + 1, 1, none⟩ = some (.int .i64 n2) := blk_cell bkb 1
  have cb2 : w27.cell? ⟨w.heap.size + 1, 2, none⟩ = some (.string ⟨#[]⟩) := blk_cell bkb 2
  have cp0 : w27.cell? ⟨w17.heap.size, 0, none⟩ = some (.int .i64 kp) := blk_cell bkp 0
  have cp1 : w27.cell? ⟨w17.heap.size, 1, none⟩ = some (.int .i64 vp) := blk_cell bkp 1
  have cp2 : w27.cell? ⟨w17.heap.size, 2, none⟩ = some (.string ⟨#[]⟩) := blk_cell bkp 2
  have cq0 : w27.cell? ⟨w20.heap.size, 0, none⟩ = some (.int .i64 kp) := blk_cell bkq 0
  have cq1 : w27.cell? ⟨w20.heap.size, 1, none⟩ = some (.int .i64 vp) := blk_cell bkq 1
  have cq2 : w27.cell? ⟨w20.heap.size, 2, none⟩ = some (.string ⟨#[]⟩) := blk_cell bkq 2
  have cs0 : w27.cell? ⟨w23.heap.size, 0, none⟩ = some (.int .i64 ks) := blk_cell bks 0
  have cs1 : w27.cell? ⟨w23.heap.size, 1, none⟩ = some (.int .i64 vs) := blk_cell bks 1
  have cs2 : w27.cell? ⟨w23.heap.size, 2, none⟩ = some (.string ⟨#[]⟩) := blk_cell bks 2
  have ct0 : w27.cell? ⟨w26.heap.size, 0, none⟩ = some (.int .i64 ks) := blk_cell bkt 0
  have ct1 : w27.cell? ⟨w26.heap.size, 1, none⟩ = some (.int .i64 vs) := blk_cell bkt 1
  have ct2 : w27.cell? ⟨w26.heap.size, 2, none⟩ = some (.string ⟨#[]⟩) := blk_cell bkt 2
  clear cp0
  clear cp1
  clear cp2
  clear bkp
  clear cq0
  clear cq1
  clear cq2
  clear bkq
  clear cs0
  clear cs1
  clear cs2
  clear bks
  clear ct0
  clear ct1
  clear ct2
  clear bkt
  clear RP RQ RS RT
  obtain ⟨e0, RD, RR⟩ | ⟨e0, RD, RR⟩ | ⟨d, r, p, RD, RR, RM, RB⟩ := laws_num hn1.out hn2.out
  ·   -- zero
    subst e0
    replace RD := Aside0.mk RD
    replace RR := Aside0.mk RR
    replace bka := blk_alloc bka (.cells #[.int .i64 1, .int .i64 0, .string ⟨#[]⟩] 24)
    replace bkb := blk_alloc bkb (.cells #[.int .i64 1, .int .i64 0, .string ⟨#[]⟩] 24)
    have bkdt := blk_new w27 (.cells #[.int .i64 1, .int .i64 0, .string ⟨#[]⟩] 24)
    rw [hs27] at bkdt
    replace hb := hb.alloc hb.size (.cells #[.int .i64 1, .int .i64 0, .string ⟨#[]⟩] 24)
    clear ca0
    clear ca1
    clear ca2
    clear cb0
    clear cb1
    clear cb2
    generalize w27.alloc (.cells #[.int .i64 1, .int .i64 0, .string ⟨#[]⟩] 24) = w28 at *
    have ca0 : w28.cell? ⟨w.heap.size, 0, none⟩ = some (.int .i64 1) := blk_cell bka 0
    have ca1 : w28.cell? ⟨w.heap.size, 1, none⟩ = some (.int .i64 n1) := blk_cell bka 1
    have ca2 : w28.cell? ⟨w.heap.size, 2, none⟩ = some (.string ⟨#[]⟩) := blk_cell bka 2
    have cb0 : w28.cell? ⟨w.heap.size + 1, 0, none⟩ = some (.int .i64 1) := blk_cell bkb 0
    have cb1 : w28.cell? ⟨w.heap.size + 1, 1, none⟩ = some (.int .i64 0) := blk_cell bkb 1
    have cb2 : w28.cell? ⟨w.heap.size + 1, 2, none⟩ = some (.string ⟨#[]⟩) := blk_cell bkb 2
    have cdt0 : w28.cell? ⟨w26.heap.size + 1, 0, none⟩ = some (.int .i64 1) := blk_cell bkdt 0
    have cdt1 : w28.cell? ⟨w26.heap.size + 1, 1, none⟩ = some (.int .i64 0) := blk_cell bkdt 1
    have cdt2 : w28.cell? ⟨w26.heap.size + 1, 2, none⟩ = some (.string ⟨#[]⟩) := blk_cell bkdt 2
    refine (val_Reckon.calls 20 4 1 n1 ⟨#[]⟩ (some ⟨w26.heap.size + 1, 0, none⟩) 1 [⟨1, 0, ⟨#[]⟩⟩] 0 0 ⟨#[]⟩ 22 _ (one_C bkdt) (Nat.le_refl _) (reckon_num 4 (by decide) n1 ⟨#[]⟩ 0 ⟨#[]⟩ _ RD.out)).mono ?_
    rintro e w29 ⟨rfl, h29⟩
    replace bka := blk_below bka h29
    replace bkb := blk_below bkb h29
    replace bkdt := blk_below bkdt h29
    replace hb := hb.trans (h29.mono hb.size)
    clear ca0
    clear ca1
    clear ca2
    clear cb0
    clear cb1
    clear cb2
    clear cdt0
    clear cdt1
    clear cdt2
    have ca0 : w29.cell? ⟨w.heap.size, 0, none⟩ = some (.int .i64 1) := blk_cell bka 0
    have ca1 : w29.cell? ⟨w.heap.size, 1, none⟩ = some (.int .i64 n1) := blk_cell bka 1
    have ca2 : w29.cell? ⟨w.heap.size, 2, none⟩ = some (.string ⟨#[]⟩) := blk_cell bka 2
    have cb0 : w29.cell? ⟨w.heap.size + 1, 0, none⟩ = some (.int .i64 1) := blk_cell bkb 0
    have cb1 : w29.cell? ⟨w.heap.size + 1, 1, none⟩ = some (.int .i64 0) := blk_cell bkb 1
    have cb2 : w29.cell? ⟨w.heap.size + 1, 2, none⟩ = some (.string ⟨#[]⟩) := blk_cell bkb 2
    have cdt0 : w29.cell? ⟨w26.heap.size + 1, 0, none⟩ = some (.int .i64 1) := blk_cell bkdt 0
    have cdt1 : w29.cell? ⟨w26.heap.size + 1, 1, none⟩ = some (.int .i64 0) := blk_cell bkdt 1
    have cdt2 : w29.cell? ⟨w26.heap.size + 1, 2, none⟩ = some (.string ⟨#[]⟩) := blk_cell bkdt 2
    clear cdt0
    clear cdt1
    clear cdt2
    clear bkdt
    replace bka := blk_alloc bka (.cells #[.int .i64 0, .int .i64 0, .string ⟨#[]⟩] 24)
    replace bkb := blk_alloc bkb (.cells #[.int .i64 0, .int .i64 0, .string ⟨#[]⟩] 24)
    have bkd := blk_new w29 (.cells #[.int .i64 0, .int .i64 0, .string ⟨#[]⟩] 24)
    replace hb := hb.alloc hb.size (.cells #[.int .i64 0, .int .i64 0, .string ⟨#[]⟩] 24)
    have da0 : (w29.alloc (.cells #[.int .i64 0, .int .i64 0, .string ⟨#[]⟩] 24)).cell? ⟨w.heap.size, 0, none⟩ = some (.int .i64 1) := blk_cell bka 0
    have da1 : (w29.alloc (.cells #[.int .i64 0, .int .i64 0, .string ⟨#[]⟩] 24)).cell? ⟨w.heap.size, 1, none⟩ = some (.int .i64 n1) := blk_cell bka 1
    have da2 : (w29.alloc (.cells #[.int .i64 0, .int .i64 0, .string ⟨#[]⟩] 24)).cell? ⟨w.heap.size, 2, none⟩ = some (.string ⟨#[]⟩) := blk_cell bka 2
    have db0 : (w29.alloc (.cells #[.int .i64 0, .int .i64 0, .string ⟨#[]⟩] 24)).cell? ⟨w.heap.size + 1, 0, none⟩ = some (.int .i64 1) := blk_cell bkb 0
    have db1 : (w29.alloc (.cells #[.int .i64 0, .int .i64 0, .string ⟨#[]⟩] 24)).cell? ⟨w.heap.size + 1, 1, none⟩ = some (.int .i64 0) := blk_cell bkb 1
    have db2 : (w29.alloc (.cells #[.int .i64 0, .int .i64 0, .string ⟨#[]⟩] 24)).cell? ⟨w.heap.size + 1, 2, none⟩ = some (.string ⟨#[]⟩) := blk_cell bkb 2
    have dd0 : (w29.alloc (.cells #[.int .i64 0, .int .i64 0, .string ⟨#[]⟩] 24)).cell? ⟨w29.heap.size, 0, none⟩ = some (.int .i64 0) := blk_cell bkd 0
    have dd1 : (w29.alloc (.cells #[.int .i64 0, .int .i64 0, .string ⟨#[]⟩] 24)).cell? ⟨w29.heap.size, 1, none⟩ = some (.int .i64 0) := blk_cell bkd 1
    have dd2 : (w29.alloc (.cells #[.int .i64 0, .int .i64 0, .string ⟨#[]⟩] 24)).cell? ⟨w29.heap.size, 2, none⟩ = some (.string ⟨#[]⟩) := blk_cell bkd 2
    go_wp2_with fail
    clear da0
    clear da1
    clear da2
    clear db0
    clear db1
    clear db2
    clear dd0
    clear dd1
    clear dd2
    clear ca0
    clear ca1
    clear ca2
    clear cb0
    clear cb1
    clear cb2
    have hs30 := size_alloc w29 (.cells #[.int .i64 0, .int .i64 0, .string ⟨#[]⟩] 24)
    generalize (w29.alloc (.cells #[.int .i64 0, .int .i64 0, .string ⟨#[]⟩] 24)) = w30 at *
    have ca0 : w30.cell? ⟨w.heap.size, 0, none⟩ = some (.int .i64 1) := blk_cell bka 0
    have ca1 : w30.cell? ⟨w.heap.size, 1, none⟩ = some (.int .i64 n1) := blk_cell bka 1
    have ca2 : w30.cell? ⟨w.heap.size, 2, none⟩ = some (.string ⟨#[]⟩) := blk_cell bka 2
    have cb0 : w30.cell? ⟨w.heap.size + 1, 0, none⟩ = some (.int .i64 1) := blk_cell bkb 0
    have cb1 : w30.cell? ⟨w.heap.size + 1, 1, none⟩ = some (.int .i64 0) := blk_cell bkb 1
    have cb2 : w30.cell? ⟨w.heap.size + 1, 2, none⟩ = some (.string ⟨#[]⟩) := blk_cell bkb 2
    have cd0 : w30.cell? ⟨w29.heap.size, 0, none⟩ = some (.int .i64 0) := blk_cell bkd 0
    have cd1 : w30.cell? ⟨w29.heap.size, 1, none⟩ = some (.int .i64 0) := blk_cell bkd 1
    have cd2 : w30.cell? ⟨w29.heap.size, 2, none⟩ = some (.string ⟨#[]⟩) := blk_cell bkd 2
    replace bka := blk_alloc bka (.cells #[.int .i64 1, .int .i64 0, .string ⟨#[]⟩] 24)
    replace bkb := blk_alloc bkb (.cells #[.int .i64 1, .int .i64 0, .string ⟨#[]⟩] 24)
    replace bkd := blk_alloc bkd (.cells #[.int .i64 1, .int .i64 0, .string ⟨#[]⟩] 24)
    have bkrt := blk_new w30 (.cells #[.int .i64 1, .int .i64 0, .string ⟨#[]⟩] 24)
    rw [hs30] at bkrt
    replace hb := hb.alloc hb.size (.cells #[.int .i64 1, .int .i64 0, .string ⟨#[]⟩] 24)
    clear ca0
    clear ca1
    clear ca2
    clear cb0
    clear cb1
    clear cb2
    clear cd0
    clear cd1
    clear cd2
    generalize w30.alloc (.cells #[.int .i64 1, .int .i64 0, .string ⟨#[]⟩] 24) = w31 at *
    have ca0 : w31.cell? ⟨w.heap.size, 0, none⟩ = some (.int .i64 1) := blk_cell bka 0
    have ca1 : w31.cell? ⟨w.heap.size, 1, none⟩ = some (.int .i64 n1) := blk_cell bka 1
    have ca2 : w31.cell? ⟨w.heap.size, 2, none⟩ = some (.string ⟨#[]⟩) := blk_cell bka 2
    have cb0 : w31.cell? ⟨w.heap.size + 1, 0, none⟩ = some (.int .i64 1) := blk_cell bkb 0
    have cb1 : w31.cell? ⟨w.heap.size + 1, 1, none⟩ = some (.int .i64 0) := blk_cell bkb 1
    have cb2 : w31.cell? ⟨w.heap.size + 1, 2, none⟩ = some (.string ⟨#[]⟩) := blk_cell bkb 2
    have cd0 : w31.cell? ⟨w29.heap.size, 0, none⟩ = some (.int .i64 0) := blk_cell bkd 0
    have cd1 : w31.cell? ⟨w29.heap.size, 1, none⟩ = some (.int .i64 0) := blk_cell bkd 1
    have cd2 : w31.cell? ⟨w29.heap.size, 2, none⟩ = some (.string ⟨#[]⟩) := blk_cell bkd 2
    have crt0 : w31.cell? ⟨w29.heap.size + 1, 0, none⟩ = some (.int .i64 1) := blk_cell bkrt 0
    have crt1 : w31.cell? ⟨w29.heap.size + 1, 1, none⟩ = some (.int .i64 0) := blk_cell bkrt 1
    have crt2 : w31.cell? ⟨w29.heap.size + 1, 2, none⟩ = some (.string ⟨#[]⟩) := blk_cell bkrt 2
    refine (val_Reckon.calls 20 5 1 n1 ⟨#[]⟩ (some ⟨w29.heap.size + 1, 0, none⟩) 1 [⟨1, 0, ⟨#[]⟩⟩] 0 0 ⟨#[]⟩ 22 _ (one_C bkrt) (Nat.le_refl _) (reckon_num 5 (by decide) n1 ⟨#[]⟩ 0 ⟨#[]⟩ _ RR.out)).mono ?_
    rintro e w32 ⟨rfl, h32⟩
    replace bka := blk_below bka h32
    replace bkb := blk_below bkb h32
    replace bkd := blk_below bkd h32
    replace bkrt := blk_below bkrt h32
    replace hb := hb.trans (h32.mono hb.size)
    clear ca0
    clear ca1
    clear ca2
    clear cb0
    clear cb1
    clear cb2
    clear cd0
    clear cd1
    clear cd2
    clear crt0
    clear crt1
    clear crt2
    have ca0 : w32.cell? ⟨w.heap.size, 0, none⟩ = some (.int .i64 1) := blk_cell bka 0
    have ca1 : w32.cell? ⟨w.heap.size, 1, none⟩ = some (.int .i64 n1) := blk_cell bka 1
    have ca2 : w32.cell? ⟨w.heap.size, 2, none⟩ = some (.string ⟨#[]⟩) := blk_cell bka 2
    have cb0 : w32.cell? ⟨w.heap.size + 1, 0, none⟩ = some (.int .i64 1) := blk_cell bkb 0
    have cb1 : w32.cell? ⟨w.heap.size + 1, 1, none⟩ = some (.int .i64 0) := blk_cell bkb 1
    have cb2 : w32.cell? ⟨w.heap.size + 1, 2, none⟩ = some (.string ⟨#[]⟩) := blk_cell bkb 2
    have cd0 : w32.cell? ⟨w29.heap.size, 0, none⟩ = some (.int .i64 0) := blk_cell bkd 0
    have cd1 : w32.cell? ⟨w29.heap.size, 1, none⟩ = some (.int .i64 0) := blk_cell bkd 1
    have cd2 : w32.cell? ⟨w29.heap.size, 2, none⟩ = some (.string ⟨#[]⟩) := blk_cell bkd 2
    have crt0 : w32.cell? ⟨w29.heap.size + 1, 0, none⟩ = some (.int .i64 1) := blk_cell bkrt 0
    have crt1 : w32.cell? ⟨w29.heap.size + 1, 1, none⟩ = some (.int .i64 0) := blk_cell bkrt 1
    have crt2 : w32.cell? ⟨w29.heap.size + 1, 2, none⟩ = some (.string ⟨#[]⟩) := blk_cell bkrt 2
    clear crt0
    clear crt1
    clear crt2
    clear bkrt
    replace bka := blk_alloc bka (.cells #[.int .i64 0, .int .i64 0, .string ⟨#[]⟩] 24)
    replace bkb := blk_alloc bkb (.cells #[.int .i64 0, .int .i64 0, .string ⟨#[]⟩] 24)
    replace bkd := blk_alloc bkd (.cells #[.int .i64 0, .int .i64 0, .string ⟨#[]⟩] 24)
    have bkr := blk_new w32 (.cells #[.int .i64 0, .int .i64 0, .string ⟨#[]⟩] 24)
    replace hb := hb.alloc hb.size (.cells #[.int .i64 0, .int .i64 0, .string ⟨#[]⟩] 24)
    have da0 : (w32.alloc (.cells #[.int .i64 0, .int .i64 0, .string ⟨#[]⟩] 24)).cell? ⟨w.heap.size, 0, none⟩ = some (.int .i64 1) := blk_cell bka 0
    have da1 : (w32.alloc (.cells #[.int .i64 0, .int .i64 0, .string ⟨#[]⟩] 24)).cell? ⟨w.heap.size, 1, none⟩ = some (.int .i64 n1) := blk_cell bka 1
    have da2 : (w32.alloc (.cells #[.int .i64 0, .int .i64 0, .string ⟨#[]⟩] 24)).cell? ⟨w.heap.size, 2, none⟩ = some (.string ⟨#[]⟩) := blk_cell bka 2
    have db0 : (w32.alloc (.cells #[.int .i64 0, .int .i64 0, .string ⟨#[]⟩] 24)).cell? ⟨w.heap.size + 1, 0, none⟩ = some (.int .i64 1) := blk_cell bkb 0
    have db1 : (w32.alloc (.cells #[.int .i64 0, .int .i64 0, .string ⟨#[]⟩] 24)).cell? ⟨w.heap.size + 1, 1, none⟩ = some (.int .i64 0) := blk_cell bkb 1
    have db2 : (w32.alloc (.cells #[.int .i64 0, .int .i64 0, .string ⟨#[]⟩] 24)).cell? ⟨w.heap.size + 1, 2, none⟩ = some (.string ⟨#[]⟩) := blk_cell bkb 2
    have dd0 : (w32.alloc (.cells #[.int .i64 0, .int .i64 0, .string ⟨#[]⟩] 24)).cell? ⟨w29.heap.size, 0, none⟩ = some (.int .i64 0) := blk_cell bkd 0
    have dd1 : (w32.alloc (.cells #[.int .i64 0, .int .i64 0, .string ⟨#[]⟩] 24)).cell? ⟨w29.heap.size, 1, none⟩ = some (.int .i64 0) := blk_cell bkd 1
    have dd2 : (w32.alloc (.cells #[.int .i64 0, .int .i64 0, .string ⟨#[]⟩] 24)).cell? ⟨w29.heap.size, 2, none⟩ = some (.string ⟨#[]⟩) := blk_cell bkd 2
    have dr0 : (w32.alloc (.cells #[.int .i64 0, .int .i64 0, .string ⟨#[]⟩] 24)).cell? ⟨w32.heap.size, 0, none⟩ = some (.int .i64 0) := blk_cell bkr 0
    have dr1 : (w32.alloc (.cells #[.int .i64 0, .int .i64 0, .string ⟨#[]⟩] 24)).cell? ⟨w32.heap.size, 1, none⟩ = some (.int .i64 0) := blk_cell bkr 1
    have dr2 : (w32.alloc (.cells #[.int .i64 0, .int .i64 0, .string ⟨#[]⟩] 24)).cell? ⟨w32.heap.size, 2, none⟩ = some (.string ⟨#[]⟩) := blk_cell bkr 2
    go_wp2_with fail
    clear da0
    clear da1
    clear da2
    clear db0
    clear db1
    clear db2
    clear dd0
    clear dd1
    clear dd2
    clear dr0
    clear dr1
    clear dr2
    clear ca0
    clear ca1
    clear ca2
    clear cb0
    clear cb1
    clear cb2
    clear cd0
    clear cd1
    clear cd2
    have hs33 := size_alloc w32 (.cells #[.int .i64 0, .int .i64 0, .string ⟨#[]⟩] 24)
    generalize (w32.alloc (.cells #[.int .i64 0, .int .i64 0, .string ⟨#[]⟩] 24)) = w33 at *
    have ca0 : w33.cell? ⟨w.heap.size, 0, none⟩ = some (.int .i64 1) := blk_cell bka 0
    have ca1 : w33.cell? ⟨w.heap.size, 1, none⟩ = some (.int .i64 n1) := blk_cell bka 1
    have ca2 : w33.cell? ⟨w.heap.size, 2, none⟩ = some (.string ⟨#[]⟩) := blk_cell bka 2
    have cb0 : w33.cell? ⟨w.heap.size + 1, 0, none⟩ = some (.int .i64 1) := blk_cell bkb 0
    have cb1 : w33.cell? ⟨w.heap.size + 1, 1, none⟩ = some (.int .i64 0) := blk_cell bkb 1
    have cb2 : w33.cell? ⟨w.heap.size + 1, 2, none⟩ = some (.string ⟨#[]⟩) := blk_cell bkb 2
    have cd0 : w33.cell? ⟨w29.heap.size, 0, none⟩ = some (.int .i64 0) := blk_cell bkd 0
    have cd1 : w33.cell? ⟨w29.heap.size, 1, none⟩ = some (.int .i64 0) := blk_cell bkd 1
    have cd2 : w33.cell? ⟨w29.heap.size, 2, none⟩ = some (.string ⟨#[]⟩) := blk_cell bkd 2
    have cr0 : w33.cell? ⟨w32.heap.size, 0, none⟩ = some (.int .i64 0) := blk_cell bkr 0
    have cr1 : w33.cell? ⟨w32.heap.size, 1, none⟩ = some (.int .i64 0) := blk_cell bkr 1
    have cr2 : w33.cell? ⟨w32.heap.size, 2, none⟩ = some (.string ⟨#[]⟩) := blk_cell bkr 2
    go_ret
    exact ⟨by simp, hb⟩
  ·   -- minus one
    subst e0
    replace RD := Aside0.mk RD
    replace RR := Aside0.mk RR
    replace bka := blk_alloc bka (.cells #[.int .i64 1, .int .i64 (-1), .string ⟨#[]⟩] 24)
    replace bkb := blk_alloc bkb (.cells #[.int .i64 1, .int .i64 (-1), .string ⟨#[]⟩] 24)
    have bkdt := blk_new w27 (.cells #[.int .i64 1, .int .i64 (-1), .string ⟨#[]⟩] 24)
    rw [hs27] at bkdt
    replace hb := hb.alloc hb.size (.cells #[.int .i64 1, .int .i64 (-1), .string ⟨#[]⟩] 24)
    clear ca0
    clear ca1
    clear ca2
    clear cb0
    clear cb1
    clear cb2
    generalize w27.alloc (.cells #[.int .i64 1, .int .i64 (-1), .string ⟨#[]⟩] 24) = w28 at *
    have ca0 : w28.cell? ⟨w.heap.size, 0, none⟩ = some (.int .i64 1) := blk_cell bka 0
    have ca1 : w28.cell? ⟨w.heap.size, 1, none⟩ = some (.int .i64 n1) := blk_cell bka 1
    have ca2 : w28.cell? ⟨w.heap.size, 2, none⟩ = some (.string ⟨#[]⟩) := blk_cell bka 2
    have cb0 : w28.cell? ⟨w.heap.size + 1, 0, none⟩ = some (.int .i64 1) := blk_cell bkb 0
    have cb1 : w28.cell? ⟨w.heap.size + 1, 1, none⟩ = some (.int .i64 (-1)) := blk_cell bkb 1
    have cb2 : w28.cell? ⟨w.heap.size + 1, 2, none⟩ = some (.string ⟨#[]⟩) := blk_cell bkb 2
    have cdt0 : w28.cell? ⟨w26.heap.size + 1, 0, none⟩ = some (.int .i64 1) := blk_cell bkdt 0
    have cdt1 : w28.cell? ⟨w26.heap.size + 1, 1, none⟩ = some (.int .i64 (-1)) := blk_cell bkdt 1
    have cdt2 : w28.cell? ⟨w26.heap.size + 1, 2, none⟩ = some (.string ⟨#[]⟩) := blk_cell bkdt 2
    refine (val_Reckon.calls 20 4 1 n1 ⟨#[]⟩ (some ⟨w26.heap.size + 1, 0, none⟩) 1 [⟨1, (-1), ⟨#[]⟩⟩] 0 0 ⟨#[]⟩ 21 _ (one_C bkdt) (Nat.le_refl _) (reckon_num 4 (by decide) n1 ⟨#[]⟩ (-1) ⟨#[]⟩ _ RD.out)).mono ?_
    rintro e w29 ⟨rfl, h29⟩
    replace bka := blk_below bka h29
    replace bkb := blk_below bkb h29
    replace bkdt := blk_below bkdt h29
    replace hb := hb.trans (h29.mono hb.size)
    clear ca0
    clear ca1
    clear ca2
    clear cb0
    clear cb1
    clear cb2
    clear cdt0
    clear cdt1
    clear cdt2
    have ca0 : w29.cell? ⟨w.heap.size, 0, none⟩ = some (.int .i64 1) := blk_cell bka 0
    have ca1 : w29.cell? ⟨w.heap.size, 1, none⟩ = some (.int .i64 n1) := blk_cell bka 1
    have ca2 : w29.cell? ⟨w.heap.size, 2, none⟩ = some (.string ⟨#[]⟩) := blk_cell bka 2
    have cb0 : w29.cell? ⟨w.heap.size + 1, 0, none⟩ = some (.int .i64 1) := blk_cell bkb 0
    have cb1 : w29.cell? ⟨w.heap.size + 1, 1, none⟩ = some (.int .i64 (-1)) := blk_cell bkb 1
    have cb2 : w29.cell? ⟨w.heap.size + 1, 2, none⟩ = some (.string ⟨#[]⟩) := blk_cell bkb 2
    have cdt0 : w29.cell? ⟨w26.heap.size + 1, 0, none⟩ = some (.int .i64 1) := blk_cell bkdt 0
    have cdt1 : w29.cell? ⟨w26.heap.size + 1, 1, none⟩ = some (.int .i64 (-1)) := blk_cell bkdt 1
    have cdt2 : w29.cell? ⟨w26.heap.size + 1, 2, none⟩ = some (.string ⟨#[]⟩) := blk_cell bkdt 2
    clear cdt0
    clear cdt1
    clear cdt2
    clear bkdt
    replace bka := blk_alloc bka (.cells #[.int .i64 0, .int .i64 0, .string ⟨#[]⟩] 24)
    replace bkb := blk_alloc bkb (.cells #[.int .i64 0, .int .i64 0, .string ⟨#[]⟩] 24)
    have bkd := blk_new w29 (.cells #[.int .i64 0, .int .i64 0, .string ⟨#[]⟩] 24)
    replace hb := hb.alloc hb.size (.cells #[.int .i64 0, .int .i64 0, .string ⟨#[]⟩] 24)
    have da0 : (w29.alloc (.cells #[.int .i64 0, .int .i64 0, .string ⟨#[]⟩] 24)).cell? ⟨w.heap.size, 0, none⟩ = some (.int .i64 1) := blk_cell bka 0
    have da1 : (w29.alloc (.cells #[.int .i64 0, .int .i64 0, .string ⟨#[]⟩] 24)).cell? ⟨w.heap.size, 1, none⟩ = some (.int .i64 n1) := blk_cell bka 1
    have da2 : (w29.alloc (.cells #[.int .i64 0, .int .i64 0, .string ⟨#[]⟩] 24)).cell? ⟨w.heap.size, 2, none⟩ = some (.string ⟨#[]⟩) := blk_cell bka 2
    have db0 : (w29.alloc (.cells #[.int .i64 0, .int .i64 0, .string ⟨#[]⟩] 24)).cell? ⟨w.heap.size + 1, 0, none⟩ = some (.int .i64 1) := blk_cell bkb 0
    have db1 : (w29.alloc (.cells #[.int .i64 0, .int .i64 0, .string ⟨#[]⟩] 24)).cell? ⟨w.heap.size + 1, 1, none⟩ = some (.int .i64 (-1)) := blk_cell bkb 1
    have db2 : (w29.alloc (.cells #[.int .i64 0, .int .i64 0, .string ⟨#[]⟩] 24)).cell? ⟨w.heap.size + 1, 2, none⟩ = some (.string ⟨#[]⟩) := blk_cell bkb 2
    have dd0 : (w29.alloc (.cells #[.int .i64 0, .int .i64 0, .string ⟨#[]⟩] 24)).cell? ⟨w29.heap.size, 0, none⟩ = some (.int .i64 0) := blk_cell bkd 0
    have dd1 : (w29.alloc (.cells #[.int .i64 0, .int .i64 0, .string ⟨#[]⟩] 24)).cell? ⟨w29.heap.size, 1, none⟩ = some (.int .i64 0) := blk_cell bkd 1
    have dd2 : (w29.alloc (.cells #[.int .i64 0, .int .i64 0, .string ⟨#[]⟩] 24)).cell? ⟨w29.heap.size, 2, none⟩ = some (.string ⟨#[]⟩) := blk_cell bkd 2
    go_wp2_with fail
    clear da0
    clear da1
    clear da2
    clear db0
    clear db1
    clear db2
    clear dd0
    clear dd1
    clear dd2
    clear ca0
    clear ca1
    clear ca2
    clear cb0
    clear cb1
    clear cb2
    have hs30 := size_alloc w29 (.cells #[.int .i64 0, .int .i64 0, .string ⟨#[]⟩] 24)
    generalize (w29.alloc (.cells #[.int .i64 0, .int .i64 0, .string ⟨#[]⟩] 24)) = w30 at *
    have ca0 : w30.cell? ⟨w.heap.size, 0, none⟩ = some (.int .i64 1) := blk_cell bka 0
    have ca1 : w30.cell? ⟨w.heap.size, 1, none⟩ = some (.int .i64 n1) := blk_cell bka 1
    have ca2 : w30.cell? ⟨w.heap.size, 2, none⟩ = some (.string ⟨#[]⟩) := blk_cell bka 2
    have cb0 : w30.cell? ⟨w.heap.size + 1, 0, none⟩ = some (.int .i64 1) := blk_cell bkb 0
    have cb1 : w30.cell? ⟨w.heap.size + 1, 1, none⟩ = some (.int .i64 (-1)) := blk_cell bkb 1
    have cb2 : w30.cell? ⟨w.heap.size + 1, 2, none⟩ = some (.string ⟨#[]⟩) := blk_cell bkb 2
    have cd0 : w30.cell? ⟨w29.heap.size, 0, none⟩ = some (.int .i64 0) := blk_cell bkd 0
    have cd1 : w30.cell? ⟨w29.heap.size, 1, none⟩ = some (.int .i64 0) := blk_cell bkd 1
    have cd2 : w30.cell? ⟨w29.heap.size, 2, none⟩ = some (.string ⟨#[]⟩) := blk_cell bkd 2
    replace bka := blk_alloc bka (.cells #[.int .i64 1, .int .i64 (-1), .string ⟨#[]⟩] 24)
    replace bkb := blk_alloc bkb (.cells #[.int .i64 1, .int .i64 (-1), .string ⟨#[]⟩] 24)
    replace bkd := blk_alloc bkd (.cells #[.int .i64 1, .int .i64 (-1), .string ⟨#[]⟩] 24)
    have bkrt := blk_new w30 (.cells #[.int .i64 1, .int .i64 (-1), .string ⟨#[]⟩] 24)
    rw [hs30] at bkrt
    replace hb := hb.alloc hb.size (.cells #[.int .i64 1, .int .i64 (-1), .string ⟨#[]⟩] 24)
    clear ca0
    clear ca1
    clear ca2
    clear cb0
    clear cb1
    clear cb2
    clear cd0
    clear cd1
    clear cd2
    generalize w30.alloc (.cells #[.int .i64 1, .int .i64 (-1), .string ⟨#[]⟩] 24) = w31 at *
    have ca0 : w31.cell? ⟨w.heap.size, 0, none⟩ = some (.int .i64 1) := blk_cell bka 0
    have ca1 : w31.cell? ⟨w.heap.size, 1, none⟩ = some (.int .i64 n1) := blk_cell bka 1
    have ca2 : w31.cell? ⟨w.heap.size, 2, none⟩ = some (.string ⟨#[]⟩) := blk_cell bka 2
    have cb0 : w31.cell? ⟨w.heap.size + 1, 0, none⟩ = some (.int .i64 1) := blk_cell bkb 0
    have cb1 : w31.cell? ⟨w.heap.size + 1, 1, none⟩ = some (.int .i64 (-1)) := blk_cell bkb 1
    have cb2 : w31.cell? ⟨w.heap.size + 1, 2, none⟩ = some (.string ⟨#[]⟩) := blk_cell bkb 2
    have cd0 : w31.cell? ⟨w29.heap.size, 0, none⟩ = some (.int .i64 0) := blk_cell bkd 0
    have cd1 : w31.cell? ⟨w29.heap.size, 1, none⟩ = some (.int .i64 0) := blk_cell bkd 1
    have cd2 : w31.cell? ⟨w29.heap.size, 2, none⟩ = some (.string ⟨#[]⟩) := blk_cell bkd 2
    have crt0 : w31.cell? ⟨w29.heap.size + 1, 0, none⟩ = some (.int .i64 1) := blk_cell bkrt 0
    have crt1 : w31.cell? ⟨w29.heap.size + 1, 1, none⟩ = some (.int .i64 (-1)) := blk_cell bkrt 1
    have crt2 : w31.cell? ⟨w29.heap.size + 1, 2, none⟩ = some (.string ⟨#[]⟩) := blk_cell bkrt 2
    refine (val_Reckon.calls 20 5 1 n1 ⟨#[]⟩ (some ⟨w29.heap.size + 1, 0, none⟩) 1 [⟨1, (-1), ⟨#[]⟩⟩] 1 0 ⟨#[]⟩ 0 _ (one_C bkrt) (Nat.le_refl _) (reckon_num 5 (by decide) n1 ⟨#[]⟩ (-1) ⟨#[]⟩ _ RR.out)).mono ?_
    rintro e w32 ⟨rfl, h32⟩
    replace bka := blk_below bka h32
    replace bkb := blk_below bkb h32
    replace bkd := blk_below bkd h32
    replace bkrt := blk_below bkrt h32
    replace hb := hb.trans (h32.mono hb.size)
    clear ca0
    clear ca1
    clear ca2
    clear cb0
    clear cb1
    clear cb2
    clear cd0
    clear cd1
    clear cd2
    clear crt0
    clear crt1
    clear crt2
    have ca0 : w32.cell? ⟨w.heap.size, 0, none⟩ = some (.int .i64 1) := blk_cell bka 0
    have ca1 : w32.cell? ⟨w.heap.size, 1, none⟩ = some (.int .i64 n1) := blk_cell bka 1
    have ca2 : w32.cell? ⟨w.heap.size, 2, none⟩ = some (.string ⟨#[]⟩) := blk_cell bka 2
    have cb0 : w32.cell? ⟨w.heap.size + 1, 0, none⟩ = some (.int .i64 1) := blk_cell bkb 0
    have cb1 : w32.cell? ⟨w.heap.size + 1, 1, none⟩ = some (.int .i64 (-1)) := blk_cell bkb 1
    have cb2 : w32.cell? ⟨w.heap.size + 1, 2, none⟩ = some (.string ⟨#[]⟩) := blk_cell bkb 2
    have cd0 : w32.cell? ⟨w29.heap.size, 0, none⟩ = some (.int .i64 0) := blk_cell bkd 0
    have cd1 : w32.cell? ⟨w29.heap.size, 1, none⟩ = some (.int .i64 0) := blk_cell bkd 1
    have cd2 : w32.cell? ⟨w29.heap.size, 2, none⟩ = some (.string ⟨#[]⟩) := blk_cell bkd 2
    have crt0 : w32.cell? ⟨w29.heap.size + 1, 0, none⟩ = some (.int .i64 1) := blk_cell bkrt 0
    have crt1 : w32.cell? ⟨w29.heap.size + 1, 1, none⟩ = some (.int .i64 (-1)) := blk_cell bkrt 1
    have crt2 : w32.cell? ⟨w29.heap.size + 1, 2, none⟩ = some (.string ⟨#[]⟩) := blk_cell bkrt 2
    clear crt0
    clear crt1
    clear crt2
    clear bkrt
    replace bka := blk_alloc bka (.cells #[.int .i64 1, .int .i64 0, .string ⟨#[]⟩] 24)
    replace bkb := blk_alloc bkb (.cells #[.int .i64 1, .int .i64 0, .string ⟨#[]⟩] 24)
    replace bkd := blk_alloc bkd (.cells #[.int .i64 1, .int .i64 0, .string ⟨#[]⟩] 24)
    have bkr := blk_new w32 (.cells #[.int .i64 1, .int .i64 0, .string ⟨#[]⟩] 24)
    replace hb := hb.alloc hb.size (.cells #[.int .i64 1, .int .i64 0, .string ⟨#[]⟩] 24)
    have da0 : (w32.alloc (.cells #[.int .i64 1, .int .i64 0, .string ⟨#[]⟩] 24)).cell? ⟨w.heap.size, 0, none⟩ = some (.int .i64 1) := blk_cell bka 0
    have da1 : (w32.alloc (.cells #[.int .i64 1, .int .i64 0, .string ⟨#[]⟩] 24)).cell? ⟨w.heap.size, 1, none⟩ = some (.int .i64 n1) := blk_cell bka 1
    have da2 : (w32.alloc (.cells #[.int .i64 1, .int .i64 0, .string ⟨#[]⟩] 24)).cell? ⟨w.heap.size, 2, none⟩ = some (.string ⟨#[]⟩) := blk_cell bka 2
    have db0 : (w32.alloc (.cells #[.int .i64 1, .int .i64 0, .string ⟨#[]⟩] 24)).cell? ⟨w.heap.size + 1, 0, none⟩ = some (.int .i64 1) := blk_cell bkb 0
    have db1 : (w32.alloc (.cells #[.int .i64 1, .int .i64 0, .string ⟨#[]⟩] 24)).cell? ⟨w.heap.size + 1, 1, none⟩ = some (.int .i64 (-1)) := blk_cell bkb 1
    have db2 : (w32.alloc (.cells #[.int .i64 1, .int .i64 0, .string ⟨#[]⟩] 24)).cell? ⟨w.heap.size + 1, 2, none⟩ = some (.string ⟨#[]⟩) := blk_cell bkb 2
    have dd0 : (w32.alloc (.cells #[.int .i64 1, .int .i64 0, .string ⟨#[]⟩] 24)).cell? ⟨w29.heap.size, 0, none⟩ = some (.int .i64 0) := blk_cell bkd 0
    have dd1 : (w32.alloc (.cells #[.int .i64 1, .int .i64 0, .string ⟨#[]⟩] 24)).cell? ⟨w29.heap.size, 1, none⟩ = some (.int .i64 0) := blk_cell bkd 1
    have dd2 : (w32.alloc (.cells #[.int .i64 1, .int .i64 0, .string ⟨#[]⟩] 24)).cell? ⟨w29.heap.size, 2, none⟩ = some (.string ⟨#[]⟩) := blk_cell bkd 2
    have dr0 : (w32.alloc (.cells #[.int .i64 1, .int .i64 0, .string ⟨#[]⟩] 24)).cell? ⟨w32.heap.size, 0, none⟩ = some (.int .i64 1) := blk_cell bkr 0
    have dr1 : (w32.alloc (.cells #[.int .i64 1, .int .i64 0, .string ⟨#[]⟩] 24)).cell? ⟨w32.heap.size, 1, none⟩ = some (.int .i64 0) := blk_cell bkr 1
    have dr2 : (w32.alloc (.cells #[.int .i64 1, .int .i64 0, .string ⟨#[]⟩] 24)).cell? ⟨w32.heap.size, 2, none⟩ = some (.string ⟨#[]⟩) := blk_cell bkr 2
    go_wp2_with fail
    clear da0
    clear da1
    clear da2
    clear db0
    clear db1
    clear db2
    clear dd0
    clear dd1
    clear dd2
    clear dr0
    clear dr1
    clear dr2
    clear ca0
    clear ca1
    clear ca2
    clear cb0
    clear cb1
    clear cb2
    clear cd0
    clear cd1
    clear cd2
    have hs33 := size_alloc w32 (.cells #[.int .i64 1, .int .i64 0, .string ⟨#[]⟩] 24)
    generalize (w32.alloc (.cells #[.int .i64 1, .int .i64 0, .string ⟨#[]⟩] 24)) = w33 at *
    have ca0 : w33.cell? ⟨w.heap.size, 0, none⟩ = some (.int .i64 1) := blk_cell bka 0
    have ca1 : w33.cell? ⟨w.heap.size, 1, none⟩ = some (.int .i64 n1) := blk_cell bka 1
    have ca2 : w33.cell? ⟨w.heap.size, 2, none⟩ = some (.string ⟨#[]⟩) := blk_cell bka 2
    have cb0 : w33.cell? ⟨w.heap.size + 1, 0, none⟩ = some (.int .i64 1) := blk_cell bkb 0
    have cb1 : w33.cell? ⟨w.heap.size + 1, 1, none⟩ = some (.int .i64 (-1)) := blk_cell bkb 1
    have cb2 : w33.cell? ⟨w.heap.size + 1, 2, none⟩ = some (.string ⟨#[]⟩) := blk_cell bkb 2
    have cd0 : w33.cell? ⟨w29.heap.size, 0, none⟩ = some (.int .i64 0) := blk_cell bkd 0
    have cd1 : w33.cell? ⟨w29.heap.size, 1, none⟩ = some (.int .i64 0) := blk_cell bkd 1
    have cd2 : w33.cell? ⟨w29.heap.size, 2, none⟩ = some (.string ⟨#[]⟩) := blk_cell bkd 2
    have cr0 : w33.cell? ⟨w32.heap.size, 0, none⟩ = some (.int .i64 1) := blk_cell bkr 0
    have cr1 : w33.cell? ⟨w32.heap.size, 1, none⟩ = some (.int .i64 0) := blk_cell bkr 1
    have cr2 : w33.cell? ⟨w32.heap.size, 2, none⟩ = some (.string ⟨#[]⟩) := blk_cell bkr 2
    go_ret
    exact ⟨by simp, hb⟩
  ·   -- else
    replace RD := Aside0.mk RD
    replace RR := Aside0.mk RR
    replace RM := Aside0.mk RM
    replace RB := Aside0.mk RB
    replace bka := blk_alloc bka (.cells #[.int .i64 1, .int .i64 n2, .string ⟨#[]⟩] 24)
    replace bkb := blk_alloc bkb (.cells #[.int .i64 1, .int .i64 n2, .string ⟨#[]⟩] 24)
    have bkdt := blk_new w27 (.cells #[.int .i64 1, .int .i64 n2, .string ⟨#[]⟩] 24)
    rw [hs27] at bkdt
    replace hb := hb.alloc hb.size (.cells #[.int .i64 1, .int .i64 n2, .string ⟨#[]⟩] 24)
    clear ca0
    clear ca1
    clear ca2
    clear cb0
    clear cb1
    clear cb2
    generalize w27.alloc (.cells #[.int .i64 1, .int .i64 n2, .string ⟨#[]⟩] 24) = w28 at *
    have ca0 : w28.cell? ⟨w.heap.size, 0, none⟩ = some (.int .i64 1) := blk_cell bka 0
    have ca1 : w28.cell? ⟨w.heap.size, 1, none⟩ = some (.int .i64 n1) := blk_cell bka 1
    have ca2 : w28.cell? ⟨w.heap.size, 2, none⟩ = some (.string ⟨#[]⟩) := blk_cell bka 2
    have cb0 : w28.cell? ⟨w.heap.size + 1, 0, none⟩ = some (.int .i64 1) := blk_cell bkb 0
    have cb1 : w28.cell? ⟨w.heap.size + 1, 1, none⟩ = some (.int .i64 n2) := blk_cell bkb 1
    have cb2 : w28.cell? ⟨w.heap.size + 1, 2, none⟩ = some (.string ⟨#[]⟩) := blk_cell bkb 2
    have cdt0 : w28.cell? ⟨w26.heap.size + 1, 0, none⟩ = some (.int .i64 1) := blk_cell bkdt 0
    have cdt1 : w28.cell? ⟨w26.heap.size + 1, 1, none⟩ = some (.int .i64 n2) := blk_cell bkdt 1
    have cdt2 : w28.cell? ⟨w26.heap.size + 1, 2, none⟩ = some (.string ⟨#[]⟩) := blk_cell bkdt 2
    refine (val_Reckon.calls 20 4 1 n1 ⟨#[]⟩ (some ⟨w26.heap.size + 1, 0, none⟩) 1 [⟨1, n2, ⟨#[]⟩⟩] 1 d ⟨#[]⟩ 0 _ (one_C bkdt) (Nat.le_refl _) (reckon_num 4 (by decide) n1 ⟨#[]⟩ n2 ⟨#[]⟩ _ RD.out)).mono ?_
    rintro e w29 ⟨rfl, h29⟩
    replace bka := blk_below bka h29
    replace bkb := blk_below bkb h29
    replace bkdt := blk_below bkdt h29
    replace hb := hb.trans (h29.mono hb.size)
    clear ca0
    clear ca1
    clear ca2
    clear cb0
    clear cb1
    clear cb2
    clear cdt0
    clear cdt1
    clear cdt2
    have ca0 : w29.cell? ⟨w.heap.size, 0, none⟩ = some (.int .i64 1) := blk_cell bka 0
    have ca1 : w29.cell? ⟨w.heap.size, 1, none⟩ = some (.int .i64 n1) := blk_cell bka 1
    have ca2 : w29.cell? ⟨w.heap.size, 2, none⟩ = some (.string ⟨#[]⟩) := blk_cell bka 2
    have cb0 : w29.cell? ⟨w.heap.size + 1, 0, none⟩ = some (.int .i64 1) := blk_cell bkb 0
    have cb1 : w29.cell? ⟨w.heap.size + 1, 1, none⟩ = some (.int .i64 n2) := blk_cell bkb 1
    have cb2 : w29.cell? ⟨w.heap.size + 1, 2, none⟩ = some (.string ⟨#[]⟩) := blk_cell bkb 2
    have cdt0 : w29.cell? ⟨w26.heap.size + 1, 0, none⟩ = some (.int .i64 1) := blk_cell bkdt 0
    have cdt1 : w29.cell? ⟨w26.heap.size + 1, 1, none⟩ = some (.int .i64 n2) := blk_cell bkdt 1
    have cdt2 : w29.cell? ⟨w26.heap.size + 1, 2, none⟩ = some (.string ⟨#[]⟩) := blk_cell bkdt 2
    clear cdt0
    clear cdt1
    clear cdt2
    clear bkdt
    replace bka := blk_alloc bka (.cells #[.int .i64 1, .int .i64 d, .string ⟨#[]⟩] 24)
    replace bkb := blk_alloc bkb (.cells #[.int .i64 1, .int .i64 d, .string ⟨#[]⟩] 24)
    have bkd := blk_new w29 (.cells #[.int .i64 1, .int .i64 d, .string ⟨#[]⟩] 24)
    replace hb := hb.alloc hb.size (.cells #[.int .i64 1, .int .i64 d, .string ⟨#[]⟩] 24)
    have da0 : (w29.alloc (.cells #[.int .i64 1, .int .i64 d, .string ⟨#[]⟩] 24)).cell? ⟨w.heap.size, 0, none⟩ = some (.int .i64 1) := blk_cell bka 0
    have da1 : (w29.alloc (.cells #[.int .i64 1, .int .i64 d, .string ⟨#[]⟩] 24)).cell? ⟨w.heap.size, 1, none⟩ = some (.int .i64 n1) := blk_cell bka 1
    have da2 : (w29.alloc (.cells #[.int .i64 1, .int .i64 d, .string ⟨#[]⟩] 24)).cell? ⟨w.heap.size, 2, none⟩ = some (.string ⟨#[]⟩) := blk_cell bka 2
    have db0 : (w29.alloc (.cells #[.int .i64 1, .int .i64 d, .string ⟨#[]⟩] 24)).cell? ⟨w.heap.size + 1, 0, none⟩ = some (.int .i64 1) := blk_cell bkb 0
    have db1 : (w29.alloc (.cells #[.int .i64 1, .int .i64 d, .string ⟨#[]⟩] 24)).cell? ⟨w.heap.size + 1, 1, none⟩ = some (.int .i64 n2) := blk_cell bkb 1
    have db2 : (w29.alloc (.cells #[.int .i64 1, .int .i64 d, .string ⟨#[]⟩] 24)).cell? ⟨w.heap.size + 1, 2, none⟩ = some (.string ⟨#[]⟩) := blk_cell bkb 2
    have dd0 : (w29.alloc (.cells #[.int .i64 1, .int .i64 d, .string ⟨#[]⟩] 24)).cell? ⟨w29.heap.size, 0, none⟩ = some (.int .i64 1) := blk_cell bkd 0
    have dd1 : (w29.alloc (.cells #[.int .i64 1, .int .i64 d, .string ⟨#[]⟩] 24)).cell? ⟨w29.heap.size, 1, none⟩ = some (.int .i64 d) := blk_cell bkd 1
    have dd2 : (w29.alloc (.cells #[.int .i64 1, .int .i64 d, .string ⟨#[]⟩] 24)).cell? ⟨w29.heap.size, 2, none⟩ = some (.string ⟨#[]⟩) := blk_cell bkd 2
    go_wp2_with fail
    clear da0
    clear da1
    clear da2
    clear db0
    clear db1
    clear db2
    clear dd0
    clear dd1
    clear dd2
    clear ca0
    clear ca1
    clear ca2
    clear cb0
    clear cb1
    clear cb2
    have hs30 := size_alloc w29 (.cells #[.int .i64 1, .int .i64 d, .string ⟨#[]⟩] 24)
    generalize (w29.alloc (.cells #[.int .i64 1, .int .i64 d, .string ⟨#[]⟩] 24)) = w30 at *
    have ca0 : w30.cell? ⟨w.heap.size, 0, none⟩ = some (.int .i64 1) := blk_cell bka 0
    have ca1 : w30.cell? ⟨w.heap.size, 1, none⟩ = some (.int .i64 n1) := blk_cell bka 1
    have ca2 : w30.cell? ⟨w.heap.size, 2, none⟩ = some (.string ⟨#[]⟩) := blk_cell bka 2
    have cb0 : w30.cell? ⟨w.heap.size + 1, 0, none⟩ = some (.int .i64 1) := blk_cell bkb 0
    have cb1 : w30.cell? ⟨w.heap.size + 1, 1, none⟩ = some (.int .i64 n2) := blk_cell bkb 1
    have cb2 : w30.cell? ⟨w.heap.size + 1, 2, none⟩ = some (.string ⟨#[]⟩) := blk_cell bkb 2
    have cd0 : w30.cell? ⟨w29.heap.size, 0, none⟩ = some (.int .i64 1) := blk_cell bkd 0
    have cd1 : w30.cell? ⟨w29.heap.size, 1, none⟩ = some (.int .i64 d) := blk_cell bkd 1
    have cd2 : w30.cell? ⟨w29.heap.size, 2, none⟩ = some (.string ⟨#[]⟩) := blk_cell bkd 2
    replace bka := blk_alloc bka (.cells #[.int .i64 1, .int .i64 n2, .string ⟨#[]⟩] 24)
    replace bkb := blk_alloc bkb (.cells #[.int .i64 1, .int .i64 n2, .string ⟨#[]⟩] 24)
    replace bkd := blk_alloc bkd (.cells #[.int .i64 1, .int .i64 n2, .string ⟨#[]⟩] 24)
    have bkrt := blk_new w30 (.cells #[.int .i64 1, .int .i64 n2, .string ⟨#[]⟩] 24)
    rw [hs30] at bkrt
    replace hb := hb.alloc hb.size (.cells #[.int .i64 1, .int .i64 n2, .string ⟨#[]⟩] 24)
    clear ca0
    clear ca1
    clear ca2
    clear cb0
    clear cb1
    clear cb2
    clear cd0
    clear cd1
    clear cd2
    generalize w30.alloc (.cells #[.int .i64 1, .int .i64 n2, .string ⟨#[]⟩] 24) = w31 at *
    have ca0 : w31.cell? ⟨w.heap.size, 0, none⟩ = some (.int .i64 1) := blk_cell bka 0
    have ca1 : w31.cell? ⟨w.heap.size, 1, none⟩ = some (.int .i64 n1) := blk_cell bka 1
    have ca2 : w31.cell? ⟨w.heap.size, 2, none⟩ = some (.string ⟨#[]⟩) := blk_cell bka 2
    have cb0 : w31.cell? ⟨w.heap.size + 1, 0, none⟩ = some (.int .i64 1) := blk_cell bkb 0
    have cb1 : w31.cell? ⟨w.heap.size + 1, 1, none⟩ = some (.int .i64 n2) := blk_cell bkb 1
    have cb2 : w31.cell? ⟨w.heap.size + 1, 2, none⟩ = some (.string ⟨#[]⟩) := blk_cell bkb 2
    have cd0 : w31.cell? ⟨w29.heap.size, 0, none⟩ = some (.int .i64 1) := blk_cell bkd 0
    have cd1 : w31.cell? ⟨w29.heap.size, 1, none⟩ = some (.int .i64 d) := blk_cell bkd 1
    have cd2 : w31.cell? ⟨w29.heap.size, 2, none⟩ = some (.string ⟨#[]⟩) := blk_cell bkd 2
    have crt0 : w31.cell? ⟨w29.heap.size + 1, 0, none⟩ = some (.int .i64 1) := blk_cell bkrt 0
    have crt1 : w31.cell? ⟨w29.heap.size + 1, 1, none⟩ = some (.int .i64 n2) := blk_cell bkrt 1
    have crt2 : w31.cell? ⟨w29.heap.size + 1, 2, none⟩ = some (.string ⟨#[]⟩) := blk_cell bkrt 2
    refine (val_Reckon.calls 20 5 1 n1 ⟨#[]⟩ (some ⟨w29.heap.size + 1, 0, none⟩) 1 [⟨1, n2, ⟨#[]⟩⟩] 1 r ⟨#[]⟩ 0 _ (one_C bkrt) (Nat.le_refl _) (reckon_num 5 (by decide) n1 ⟨#[]⟩ n2 ⟨#[]⟩ _ RR.out)).mono ?_
    rintro e w32 ⟨rfl, h32⟩
    replace bka := blk_below bka h32
    replace bkb := blk_below bkb h32
    replace bkd := blk_below bkd h32
    replace bkrt := blk_below bkrt h32
    replace hb := hb.trans (h32.mono hb.size)
    clear ca0
    clear ca1
    clear ca2
    clear cb0
    clear cb1
    clear cb2
    clear cd0
    clear cd1
    clear cd2
    clear crt0
    clear crt1
    clear crt2
    have ca0 : w32.cell? ⟨w.heap.size, 0, none⟩ = some (.int .i64 1) := blk_cell bka 0
    have ca1 : w32.cell? ⟨w.heap.size, 1, none⟩ = some (.int .i64 n1) := blk_cell bka 1
    have ca2 : w32.cell? ⟨w.heap.size, 2, none⟩ = some (.string ⟨#[]⟩) := blk_cell bka 2
    have cb0 : w32.cell? ⟨w.heap.size + 1, 0, none⟩ = some (.int .i64 1) := blk_cell bkb 0
    have cb1 : w32.cell? ⟨w.heap.size + 1, 1, none⟩ = some (.int .i64 n2) := blk_cell bkb 1
    have cb2 : w32.cell? ⟨w.heap.size + 1, 2, none⟩ = some (.string ⟨#[]⟩) := blk_cell bkb 2
    have cd0 : w32.cell? ⟨w29.heap.size, 0, none⟩ = some (.int .i64 1) := blk_cell bkd 0
    have cd1 : w32.cell? ⟨w29.heap.size, 1, none⟩ = some (.int .i64 d) := blk_cell bkd 1
    have cd2 : w32.cell? ⟨w29.heap.size, 2, none⟩ = some (.string ⟨#[]⟩) := blk_cell bkd 2
    have crt0 : w32.cell? ⟨w29.heap.size + 1, 0, none⟩ = some (.int .i64 1) := blk_cell bkrt 0
    have crt1 : w32.cell? ⟨w29.heap.size + 1, 1, none⟩ = some (.int .i64 n2) := blk_cell bkrt 1
    have crt2 : w32.cell? ⟨w29.heap.size + 1, 2, none⟩ = some (.string ⟨#[]⟩) := blk_cell bkrt 2
    clear crt0
    clear crt1
    clear crt2
    clear bkrt
    replace bka := blk_alloc bka (.cells #[.int .i64 1, .int .i64 r, .string ⟨#[]⟩] 24)
    replace bkb := blk_alloc bkb (.cells #[.int .i64 1, .int .i64 r, .string ⟨#[]⟩] 24)
    replace bkd := blk_alloc bkd (.cells #[.int .i64 1, .int .i64 r, .string ⟨#[]⟩] 24)
    have bkr := blk_new w32 (.cells #[.int .i64 1, .int .i64 r, .string ⟨#[]⟩] 24)
    replace hb := hb.alloc hb.size (.cells #[.int .i64 1, .int .i64 r, .string ⟨#[]⟩] 24)
    have da0 : (w32.alloc (.cells #[.int .i64 1, .int .i64 r, .string ⟨#[]⟩] 24)).cell? ⟨w.heap.size, 0, none⟩ = some (.int .i64 1) := blk_cell bka 0
    have da1 : (w32.alloc (.cells #[.int .i64 1, .int .i64 r, .string ⟨#[]⟩] 24)).cell? ⟨w.heap.size, 1, none⟩ = some (.int .i64 n1) := blk_cell bka 1
    have da2 : (w32.alloc (.cells #[.int .i64 1, .int .i64 r, .string ⟨#[]⟩] 24)).cell? ⟨w.heap.size, 2, none⟩ = some (.string ⟨#[]⟩) := blk_cell bka 2
    have db0 : (w32.alloc (.cells #[.int .i64 1, .int .i64 r, .string ⟨#[]⟩] 24)).cell? ⟨w.heap.size + 1, 0, none⟩ = some (.int .i64 1) := blk_cell bkb 0
    have db1 : (w32.alloc (.cells #[.int .i64 1, .int .i64 r, .string ⟨#[]⟩] 24)).cell? ⟨w.heap.size + 1, 1, none⟩ = some (.int .i64 n2) := blk_cell bkb 1
    have db2 : (w32.alloc (.cells #[.int .i64 1, .int .i64 r, .string ⟨#[]⟩] 24)).cell? ⟨w.heap.size + 1, 2, none⟩ = some (.string ⟨#[]⟩) := blk_cell bkb 2
    have dd0 : (w32.alloc (.cells #[.int .i64 1, .int .i64 r, .string ⟨#[]⟩] 24)).cell? ⟨w29.heap.size, 0, none⟩ = some (.int .i64 1) := blk_cell bkd 0
    have dd1 : (w32.alloc (.cells #[.int .i64 1, .int .i64 r, .string ⟨#[]⟩] 24)).cell? ⟨w29.heap.size, 1, none⟩ = some (.int .i64 d) := blk_cell bkd 1
    have dd2 : (w32.alloc (.cells #[.int .i64 1, .int .i64 r, .string ⟨#[]⟩] 24)).cell? ⟨w29.heap.size, 2, none⟩ = some (.string ⟨#[]⟩) := blk_cell bkd 2
    have dr0 : (w32.alloc (.cells #[.int .i64 1, .int .i64 r, .string ⟨#[]⟩] 24)).cell? ⟨w32.heap.size, 0, none⟩ = some (.int .i64 1) := blk_cell bkr 0
    have dr1 : (w32.alloc (.cells #[.int .i64 1, .int .i64 r, .string ⟨#[]⟩] 24)).cell? ⟨w32.heap.size, 1, none⟩ = some (.int .i64 r) := blk_cell bkr 1
    have dr2 : (w32.alloc (.cells #[.int .i64 1, .int .i64 r, .string ⟨#[]⟩] 24)).cell? ⟨w32.heap.size, 2, none⟩ = some (.string ⟨#[]⟩) := blk_cell bkr 2
    go_wp2_with fail
    clear da0
    clear da1
    clear da2
    clear db0
    clear db1
    clear db2
    clear dd0
    clear dd1
    clear dd2
    clear dr0
    clear dr1
    clear dr2
    clear ca0
    clear ca1
    clear ca2
    clear cb0
    clear cb1
    clear cb2
    clear cd0
    clear cd1
    clear cd2
    have hs33 := size_alloc w32 (.cells #[.int .i64 1, .int .i64 r, .string ⟨#[]⟩] 24)
    generalize (w32.alloc (.cells #[.int .i64 1, .int .i64 r, .string ⟨#[]⟩] 24)) = w33 at *
    have ca0 : w33.cell? ⟨w.heap.size, 0, none⟩ = some (.int .i64 1) := blk_cell bka 0
    have ca1 : w33.cell? ⟨w.heap.size, 1, none⟩ = some (.int .i64 n1) := blk_cell bka 1
    have ca2 : w33.cell? ⟨w.heap.size, 2, none⟩ = some (.string ⟨#[]⟩) := blk_cell bka 2
    have cb0 : w33.cell? ⟨w.heap.size + 1, 0, none⟩ = some (.int .i64 1) := blk_cell bkb 0
    have cb1 : w33.cell? ⟨w.heap.size + 1, 1, none⟩ = some (.int .i64 n2) := blk_cell bkb 1
    have cb2 : w33.cell? ⟨w.heap.size + 1, 2, none⟩ = some (.string ⟨#[]⟩) := blk_cell bkb 2
    have cd0 : w33.cell? ⟨w29.heap.size, 0, none⟩ = some (.int .i64 1) := blk_cell bkd 0
    have cd1 : w33.cell? ⟨w29.heap.size, 1, none⟩ = some (.int .i64 d) := blk_cell bkd 1
    have cd2 : w33.cell? ⟨w29.heap.size, 2, none⟩ = some (.string ⟨#[]⟩) := blk_cell bkd 2
    have cr0 : w33.cell? ⟨w32.heap.size, 0, none⟩ = some (.int .i64 1) := blk_cell bkr 0
    have cr1 : w33.cell? ⟨w32.heap.size, 1, none⟩ = some (.int .i64 r) := blk_cell bkr 1
    have cr2 : w33.cell? ⟨w32.heap.size, 2, none⟩ = some (.string ⟨#[]⟩) := blk_cell bkr 2
    replace bka := blk_alloc bka (.cells #[.int .i64 1, .int .i64 n2, .string ⟨#[]⟩] 24)
    replace bkb := blk_alloc bkb (.cells #[.int .i64 1, .int .i64 n2, .string ⟨#[]⟩] 24)
    replace bkd := blk_alloc bkd (.cells #[.int .i64 1, .int .i64 n2, .string ⟨#[]⟩] 24)
    replace bkr := blk_alloc bkr (.cells #[.int .i64 1, .int .i64 n2, .string ⟨#[]⟩] 24)
    have bkmt := blk_new w33 (.cells #[.int .i64 1, .int .i64 n2, .string ⟨#[]⟩] 24)
    rw [hs33] at bkmt
    replace hb := hb.alloc hb.size (.cells #[.int .i64 1, .int .i64 n2, .string ⟨#[]⟩] 24)
    clear ca0
    clear ca1
    clear ca2
    clear cb0
    clear cb1
    clear cb2
    clear cd0
    clear cd1
    clear cd2
    clear cr0
    clear cr1
    clear cr2
    generalize w33.alloc (.cells #[.int .i64 1, .int .i64 n2, .string ⟨#[]⟩] 24) = w34 at *
    have ca0 : w34.cell? ⟨w.heap.size, 0, none⟩ = some (.int .i64 1) := blk_cell bka 0
    have ca1 : w34.cell? ⟨w.heap.size, 1, none⟩ = some (.int .i64 n1) := blk_cell bka 1
    have ca2 : w34.cell? ⟨w.heap.size, 2, none⟩ = some (.string ⟨#[]⟩) := blk_cell bka 2
    have cb0 : w34.cell? ⟨w.heap.size + 1, 0, none⟩ = some (.int .i64 1) := blk_cell bkb 0
    have cb1 : w34.cell? ⟨w.heap.size + 1, 1, none⟩ = some (.int .i64 n2) := blk_cell bkb 1
    have cb2 : w34.cell? ⟨w.heap.size + 1, 2, none⟩ = some (.string ⟨#[]⟩) := blk_cell bkb 2
    have cd0 : w34.cell? ⟨w29.heap.size, 0, none⟩ = some (.int .i64 1) := blk_cell bkd 0
    have cd1 : w34.cell? ⟨w29.heap.size, 1, none⟩ = some (.int .i64 d) := blk_cell bkd 1
    have cd2 : w34.cell? ⟨w29.heap.size, 2, none⟩ = some (.string ⟨#[]⟩) := blk_cell bkd 2
    have cr0 : w34.cell? ⟨w32.heap.size, 0, none⟩ = some (.int .i64 1) := blk_cell bkr 0
    have cr1 : w34.cell? ⟨w32.heap.size, 1, none⟩ = some (.int .i64 r) := blk_cell bkr 1
    have cr2 : w34.cell? ⟨w32.heap.size, 2, none⟩ = some (.string ⟨#[]⟩) := blk_cell bkr 2
    have cmt0 : w34.cell? ⟨w32.heap.size + 1, 0, none⟩ = some (.int .i64 1) := blk_cell bkmt 0
    have cmt1 : w34.cell? ⟨w32.heap.size + 1, 1, none⟩ = some (.int .i64 n2) := blk_cell bkmt 1
    have cmt2 : w34.cell? ⟨w32.heap.size + 1, 2, none⟩ = some (.string ⟨#[]⟩) := blk_cell bkmt 2
    refine (val_Reckon.calls 20 3 1 d ⟨#[]⟩ (some ⟨w32.heap.size + 1, 0, none⟩) 1 [⟨1, n2, ⟨#[]⟩⟩] 1 p ⟨#[]⟩ 0 _ (one_C bkmt) (Nat.le_refl _) (reckon_num 3 (by decide) d ⟨#[]⟩ n2 ⟨#[]⟩ _ RM.out)).mono ?_
    rintro e w35 ⟨rfl, h35⟩
    replace bka := blk_below bka h35
    replace bkb := blk_below bkb h35
    replace bkd := blk_below bkd h35
    replace bkr := blk_below bkr h35
    replace bkmt := blk_below bkmt h35
    replace hb := hb.trans (h35.mono hb.size)
    clear ca0
    clear ca1
    clear ca2
    clear cb0
    clear cb1
    clear cb2
    clear cd0
    clear cd1
    clear cd2
    clear cr0
    clear cr1
    clear cr2
    clear cmt0
    clear cmt1
    clear cmt2
    have ca0 : w35.cell? ⟨w.heap.size, 0, none⟩ = some (.int .i64 1) := blk_cell bka 0
    have ca1 : w35.cell? ⟨w.heap.size, 1, none⟩ = some (.int .i64 n1) := blk_cell bka 1
    have ca2 : w35.cell? ⟨w.heap.size, 2, none⟩ = some (.string ⟨#[]⟩) := blk_cell bka 2
    have cb0 : w35.cell? ⟨w.heap.size + 1, 0, none⟩ = some (.int .i64 1) := blk_cell bkb 0
    have cb1 : w35.cell? ⟨w.heap.size + 1, 1, none⟩ = some (.int .i64 n2) := blk_cell bkb 1
    have cb2 : w35.cell? ⟨w.heap.size + 1, 2, none⟩ = some (.string ⟨#[]⟩) := blk_cell bkb 2
    have cd0 : w35.cell? ⟨w29.heap.size, 0, none⟩ = some (.int .i64 1) := blk_cell bkd 0
    have cd1 : w35.cell? ⟨w29.heap.size, 1, none⟩ = some (.int .i64 d) := blk_cell bkd 1
    have cd2 : w35.cell? ⟨w29.heap.size, 2, none⟩ = some (.string ⟨#[]⟩) := blk_cell bkd 2
    have cr0 : w35.cell? ⟨w32.heap.size, 0, none⟩ = some (.int .i64 1) := blk_cell bkr 0
    have cr1 : w35.cell? ⟨w32.heap.size, 1, none⟩ = some (.int .i64 r) := blk_cell bkr 1
    have cr2 : w35.cell? ⟨w32.heap.size, 2, none⟩ = some (.string ⟨#[]⟩) := blk_cell bkr 2
    have cmt0 : w35.cell? ⟨w32.heap.size + 1, 0, none⟩ = some (.int .i64 1) := blk_cell bkmt 0
    have cmt1 : w35.cell? ⟨w32.heap.size + 1, 1, none⟩ = some (.int .i64 n2) := blk_cell bkmt 1
    have cmt2 : w35.cell? ⟨w32.heap.size + 1, 2, none⟩ = some (.string ⟨#[]⟩) := blk_cell bkmt 2
    clear cmt0
    clear cmt1
    clear cmt2
    clear bkmt
    replace bka := blk_alloc bka (.cells #[.int .i64 1, .int .i64 p, .string ⟨#[]⟩] 24)
    replace bkb := blk_alloc bkb (.cells #[.int .i64 1, .int .i64 p, .string ⟨#[]⟩] 24)
    replace bkd := blk_alloc bkd (.cells #[.int .i64 1, .int .i64 p, .string ⟨#[]⟩] 24)
    replace bkr := blk_alloc bkr (.cells #[.int .i64 1, .int .i64 p, .string ⟨#[]⟩] 24)
    have bkm := blk_new w35 (.cells #[.int .i64 1, .int .i64 p, .string ⟨#[]⟩] 24)
    replace hb := hb.alloc hb.size (.cells #[.int .i64 1, .int .i64 p, .string ⟨#[]⟩] 24)
    have da0 : (w35.alloc (.cells #[.int .i64 1, .int .i64 p, .string ⟨#[]⟩] 24)).cell? ⟨w.heap.size, 0, none⟩ = some (.int .i64 1) := blk_cell bka 0
    have da1 : (w35.alloc (.cells #[.int .i64 1, .int .i64 p, .string ⟨#[]⟩] 24)).cell? ⟨w.heap.size, 1, none⟩ = some (.int .i64 n1) := blk_cell bka 1
    have da2 : (w35.alloc (.cells #[.int .i64 1, .int .i64 p, .string ⟨#[]⟩] 24)).cell? ⟨w.heap.size, 2, none⟩ = some (.string ⟨#[]⟩) := blk_cell bka 2
    have db0 : (w35.alloc (.cells #[.int .i64 1, .int .i64 p, .string ⟨#[]⟩] 24)).cell? ⟨w.heap.size + 1, 0, none⟩ = some (.int .i64 1) := blk_cell bkb 0
    have db1 : (w35.alloc (.cells #[.int .i64 1, .int .i64 p, .string ⟨#[]⟩] 24)).cell? ⟨w.heap.size + 1, 1, none⟩ = some (.int .i64 n2) := blk_cell bkb 1
    have db2 : (w35.alloc (.cells #[.int .i64 1, .int .i64 p, .string ⟨#[]⟩] 24)).cell? ⟨w.heap.size + 1, 2, none⟩ = some (.string ⟨#[]⟩) := blk_cell bkb 2
    have dd0 : (w35.alloc (.cells #[.int .i64 1, .int .i64 p, .string ⟨#[]⟩] 24)).cell? ⟨w29.heap.size, 0, none⟩ = some (.int .i64 1) := blk_cell bkd 0
    have dd1 : (w35.alloc (.cells #[.int .i64 1, .int .i64 p, .string ⟨#[]⟩] 24)).cell? ⟨w29.heap.size, 1, none⟩ = some (.int .i64 d) := blk_cell bkd 1
    have dd2 : (w35.alloc (.cells #[.int .i64 1, .int .i64 p, .string ⟨#[]⟩] 24)).cell? ⟨w29.heap.size, 2, none⟩ = some (.string ⟨#[]⟩) := blk_cell bkd 2
    have dr0 : (w35.alloc (.cells #[.int .i64 1, .int .i64 p, .string ⟨#[]⟩] 24)).cell? ⟨w32.heap.size, 0, none⟩ = some (.int .i64 1) := blk_cell bkr 0
    have dr1 : (w35.alloc (.cells #[.int .i64 1, .int .i64 p, .string ⟨#[]⟩] 24)).cell? ⟨w32.heap.size, 1, none⟩ = some (.int .i64 r) := blk_cell bkr 1
    have dr2 : (w35.alloc (.cells #[.int .i64 1, .int .i64 p, .string ⟨#[]⟩] 24)).cell? ⟨w32.heap.size, 2, none⟩ = some (.string ⟨#[]⟩) := blk_cell bkr 2
    have dm0 : (w35.alloc (.cells #[.int .i64 1, .int .i64 p, .string ⟨#[]⟩] 24)).cell? ⟨w35.heap.size, 0, none⟩ = some (.int .i64 1) := blk_cell bkm 0
    have dm1 : (w35.alloc (.cells #[.int .i64 1, .int .i64 p, .string ⟨#[]⟩] 24)).cell? ⟨w35.heap.size, 1, none⟩ = some (.int .i64 p) := blk_cell bkm 1
    have dm2 : (w35.alloc (.cells #[.int .i64 1, .int .i64 p, .string ⟨#[]⟩] 24)).cell? ⟨w35.heap.size, 2, none⟩ = some (.string ⟨#[]⟩) := blk_cell bkm 2
    go_wp2_with fail
    clear da0
    clear da1
    clear da2
    clear db0
    clear db1
    clear db2
    clear dd0
    clear dd1
    clear dd2
    clear dr0
    clear dr1
    clear dr2
    clear dm0
    clear dm1
    clear dm2
    clear ca0
    clear ca1
    clear ca2
    clear cb0
    clear cb1
    clear cb2
    clear cd0
    clear cd1
    clear cd2
    clear cr0
    clear cr1
    clear cr2
    have hs36 := size_alloc w35 (.cells #[.int .i64 1, .int .i64 p, .string ⟨#[]⟩] 24)
    generalize (w35.alloc (.cells #[.int .i64 1, .int .i64 p, .string ⟨#[]⟩] 24)) = w36 at *
    have ca0 : w36.cell? ⟨w.heap.size, 0, none⟩ = some (.int .i64 1) := blk_cell bka 0
    have ca1 : w36.cell? ⟨w.heap.size, 1, none⟩ = some (.int .i64 n1) := blk_cell bka 1
    have ca2 : w36.cell? ⟨w.heap.size, 2, none⟩ = some (.string ⟨#[]⟩) := blk_cell bka 2
    have cb0 : w36.cell? ⟨w.heap.size + 1, 0, none⟩ = some (.int .i64 1) := blk_cell bkb 0
    have cb1 : w36.cell? ⟨w.heap.size + 1, 1, none⟩ = some (.int .i64 n2) := blk_cell bkb 1
    have cb2 : w36.cell? ⟨w.heap.size + 1, 2, none⟩ = some (.string ⟨#[]⟩) := blk_cell bkb 2
    have cd0 : w36.cell? ⟨w29.heap.size, 0, none⟩ = some (.int .i64 1) := blk_cell bkd 0
    have cd1 : w36.cell? ⟨w29.heap.size, 1, none⟩ = some (.int .i64 d) := blk_cell bkd 1
    have cd2 : w36.cell? ⟨w29.heap.size, 2, none⟩ = some (.string ⟨#[]⟩) := blk_cell bkd 2
    have cr0 : w36.cell? ⟨w32.heap.size, 0, none⟩ = some (.int .i64 1) := blk_cell bkr 0
    have cr1 : w36.cell? ⟨w32.heap.size, 1, none⟩ = some (.int .i64 r) := blk_cell bkr 1
    have cr2 : w36.cell? ⟨w32.heap.size, 2, none⟩ = some (.string ⟨#[]⟩) := blk_cell bkr 2
    have cm0 : w36.cell? ⟨w35.heap.size, 0, none⟩ = some (.int .i64 1) := blk_cell bkm 0
    have cm1 : w36.cell? ⟨w35.heap.size, 1, none⟩ = some (.int .i64 p) := blk_cell bkm 1
    have cm2 : w36.cell? ⟨w35.heap.size, 2, none⟩ = some (.string ⟨#[]⟩) := blk_cell bkm 2
    clear cd0
    clear cd1
    clear cd2
    clear bkd
    replace bka := blk_alloc bka (.cells #[.int .i64 1, .int .i64 r, .string ⟨#[]⟩] 24)
    replace bkb := blk_alloc bkb (.cells #[.int .i64 1, .int .i64 r, .string ⟨#[]⟩] 24)
    replace bkr := blk_alloc bkr (.cells #[.int .i64 1, .int .i64 r, .string ⟨#[]⟩] 24)
    replace bkm := blk_alloc bkm (.cells #[.int .i64 1, .int .i64 r, .string ⟨#[]⟩] 24)
    have bkkt := blk_new w36 (.cells #[.int .i64 1, .int .i64 r, .string ⟨#[]⟩] 24)
    rw [hs36] at bkkt
    replace hb := hb.alloc hb.size (.cells #[.int .i64 1, .int .i64 r, .string ⟨#[]⟩] 24)
    clear ca0
    clear ca1
    clear ca2
    clear cb0
    clear cb1
    clear cb2
    clear cr0
    clear cr1
    clear cr2
    clear cm0
    clear cm1
    clear cm2
    generalize w36.alloc (.cells #[.int .i64 1, .int .i64 r, .string ⟨#[]⟩] 24) = w37 at *
    have ca0 : w37.cell? ⟨w.heap.size, 0, none⟩ = some (.int .i64 1) := blk_cell bka 0
    have ca1 : w37.cell? ⟨w.heap.size, 1, none⟩ = some (.int .i64 n1) := blk_cell bka 1
    have ca2 : w37.cell? ⟨w.heap.size, 2, none⟩ = some (.string ⟨#[]⟩) := blk_cell bka 2
    have cb0 : w37.cell? ⟨w.heap.size + 1, 0, none⟩ = some (.int .i64 1) := blk_cell bkb 0
    have cb1 : w37.cell? ⟨w.heap.size + 1, 1, none⟩ = some (.int .i64 n2) := blk_cell bkb 1
    have cb2 : w37.cell? ⟨w.heap.size + 1, 2, none⟩ = some (.string ⟨#[]⟩) := blk_cell bkb 2
    have cr0 : w37.cell? ⟨w32.heap.size, 0, none⟩ = some (.int .i64 1) := blk_cell bkr 0
    have cr1 : w37.cell? ⟨w32.heap.size, 1, none⟩ = some (.int .i64 r) := blk_cell bkr 1
    have cr2 : w37.cell? ⟨w32.heap.size, 2, none⟩ = some (.string ⟨#[]⟩) := blk_cell bkr 2
    have cm0 : w37.cell? ⟨w35.heap.size, 0, none⟩ = some (.int .i64 1) := blk_cell bkm 0
    have cm1 : w37.cell? ⟨w35.heap.size, 1, none⟩ = some (.int .i64 p) := blk_cell bkm 1
    have cm2 : w37.cell? ⟨w35.heap.size, 2, none⟩ = some (.string ⟨#[]⟩) := blk_cell bkm 2
    have ckt0 : w37.cell? ⟨w35.heap.size + 1, 0, none⟩ = some (.int .i64 1) := blk_cell bkkt 0
    have ckt1 : w37.cell? ⟨w35.heap.size + 1, 1, none⟩ = some (.int .i64 r) := blk_cell bkkt 1
    have ckt2 : w37.cell? ⟨w35.heap.size + 1, 2, none⟩ = some (.string ⟨#[]⟩) := blk_cell bkkt 2
    refine (val_Reckon.calls 20 6 1 p ⟨#[]⟩ (some ⟨w35.heap.size + 1, 0, none⟩) 1 [⟨1, r, ⟨#[]⟩⟩] 1 n1 ⟨#[]⟩ 0 _ (one_C bkkt) (Nat.le_refl _) (reckon_num 6 (by decide) p ⟨#[]⟩ r ⟨#[]⟩ _ RB.out)).mono ?_
    rintro e w38 ⟨rfl, h38⟩
    replace bka := blk_below bka h38
    replace bkb := blk_below bkb h38
    replace bkr := blk_below bkr h38
    replace bkm := blk_below bkm h38
    replace bkkt := blk_below bkkt h38
    replace hb := hb.trans (h38.mono hb.size)
    clear ca0
    clear ca1
    clear ca2
    clear cb0
    clear cb1
    clear cb2
    clear cr0
    clear cr1
    clear cr2
    clear cm0
    clear cm1
    clear cm2
    clear ckt0
    clear ckt1
    clear ckt2
    have ca0 : w38.cell? ⟨w.heap.size, 0, none⟩ = some (.int .i64 1) := blk_cell bka 0
    have ca1 : w38.cell? ⟨w.heap.size, 1, none⟩ = some (.int .i64 n1) := blk_cell bka 1
    have ca2 : w38.cell? ⟨w.heap.size, 2, none⟩ = some (.string ⟨#[]⟩) := blk_cell bka 2
    have cb0 : w38.cell? ⟨w.heap.size + 1, 0, none⟩ = some (.int .i64 1) := blk_cell bkb 0
    have cb1 : w38.cell? ⟨w.heap.size + 1, 1, none⟩ = some (.int .i64 n2) := blk_cell bkb 1
    have cb2 : w38.cell? ⟨w.heap.size + 1, 2, none⟩ = some (.string ⟨#[]⟩) := blk_cell bkb 2
    have cr0 : w38.cell? ⟨w32.heap.size, 0, none⟩ = some (.int .i64 1) := blk_cell bkr 0
    have cr1 : w38.cell? ⟨w32.heap.size, 1, none⟩ = some (.int .i64 r) := blk_cell bkr 1
    have cr2 : w38.cell? ⟨w32.heap.size, 2, none⟩ = some (.string ⟨#[]⟩) := blk_cell bkr 2
    have cm0 : w38.cell? ⟨w35.heap.size, 0, none⟩ = some (.int .i64 1) := blk_cell bkm 0
    have cm1 : w38.cell? ⟨w35.heap.size, 1, none⟩ = some (.int .i64 p) := blk_cell bkm 1
    have cm2 : w38.cell? ⟨w35.heap.size, 2, none⟩ = some (.string ⟨#[]⟩) := blk_cell bkm 2
    have ckt0 : w38.cell? ⟨w35.heap.size + 1, 0, none⟩ = some (.int .i64 1) := blk_cell bkkt 0
    have ckt1 : w38.cell? ⟨w35.heap.size + 1, 1, none⟩ = some (.int .i64 r) := blk_cell bkkt 1
    have ckt2 : w38.cell? ⟨w35.heap.size + 1, 2, none⟩ = some (.string ⟨#[]⟩) := blk_cell bkkt 2
    clear ckt0
    clear ckt1
    clear ckt2
    clear bkkt
    replace bka := blk_alloc bka (.cells #[.int .i64 1, .int .i64 n1, .string ⟨#[]⟩] 24)
    replace bkb := blk_alloc bkb (.cells #[.int .i64 1, .int .i64 n1, .string ⟨#[]⟩] 24)
    replace bkr := blk_alloc bkr (.cells #[.int .i64 1, .int .i64 n1, .string ⟨#[]⟩] 24)
    replace bkm := blk_alloc bkm (.cells #[.int .i64 1, .int .i64 n1, .string ⟨#[]⟩] 24)
    have bkk := blk_new w38 (.cells #[.int .i64 1, .int .i64 n1, .string ⟨#[]⟩] 24)
    replace hb := hb.alloc hb.size (.cells #[.int .i64 1, .int .i64 n1, .string ⟨#[]⟩] 24)
    have da0 : (w38.alloc (.cells #[.int .i64 1, .int .i64 n1, .string ⟨#[]⟩] 24)).cell? ⟨w.heap.size, 0, none⟩ = some (.int .i64 1) := blk_cell bka 0
    have da1 : (w38.alloc (.cells #[.int .i64 1, .int .i64 n1, .string ⟨#[]⟩] 24)).cell? ⟨w.heap.size, 1, none⟩ = some (.int .i64 n1) := blk_cell bka 1
    have da2 : (w38.alloc (.cells #[.int .i64 1, .int .i64 n1, .string ⟨#[]⟩] 24)).cell? ⟨w.heap.size, 2, none⟩ = some (.string ⟨#[]⟩) := blk_cell bka 2
    have db0 : (w38.alloc (.cells #[.int .i64 1, .int .i64 n1, .string ⟨#[]⟩] 24)).cell? ⟨w.heap.size + 1, 0, none⟩ = some (.int .i64 1) := blk_cell bkb 0
    have db1 : (w38.alloc (.cells #[.int .i64 1, .int .i64 n1, .string ⟨#[]⟩] 24)).cell? ⟨w.heap.size + 1, 1, none⟩ = some (.int .i64 n2) := blk_cell bkb 1
    have db2 : (w38.alloc (.cells #[.int .i64 1, .int .i64 n1, .string ⟨#[]⟩] 24)).cell? ⟨w.heap.size + 1, 2, none⟩ = some (.string ⟨#[]⟩) := blk_cell bkb 2
    have dr0 : (w38.alloc (.cells #[.int .i64 1, .int .i64 n1, .string ⟨#[]⟩] 24)).cell? ⟨w32.heap.size, 0, none⟩ = some (.int .i64 1) := blk_cell bkr 0
    have dr1 : (w38.alloc (.cells #[.int .i64 1, .int .i64 n1, .string ⟨#[]⟩] 24)).cell? ⟨w32.heap.size, 1, none⟩ = some (.int .i64 r) := blk_cell bkr 1
    have dr2 : (w38.alloc (.cells #[.int .i64 1, .int .i64 n1, .string ⟨#[]⟩] 24)).cell? ⟨w32.heap.size, 2, none⟩ = some (.string ⟨#[]⟩) := blk_cell bkr 2
    have dm0 : (w38.alloc (.cells #[.int .i64 1, .int .i64 n1, .string ⟨#[]⟩] 24)).cell? ⟨w35.heap.size, 0, none⟩ = some (.int .i64 1) := blk_cell bkm 0
    have dm1 : (w38.alloc (.cells #[.int .i64 1, .int .i64 n1, .string ⟨#[]⟩] 24)).cell? ⟨w35.heap.size, 1, none⟩ = some (.int .i64 p) := blk_cell bkm 1
    have dm2 : (w38.alloc (.cells #[.int .i64 1, .int .i64 n1, .string ⟨#[]⟩] 24)).cell? ⟨w35.heap.size, 2, none⟩ = some (.string ⟨#[]⟩) := blk_cell bkm 2
    have dk0 : (w38.alloc (.cells #[.int .i64 1, .int .i64 n1, .string ⟨#[]⟩] 24)).cell? ⟨w38.heap.size, 0, none⟩ = some (.int .i64 1) := blk_cell bkk 0
    have dk1 : (w38.alloc (.cells #[.int .i64 1, .int .i64 n1, .string ⟨#[]⟩] 24)).cell? ⟨w38.heap.size, 1, none⟩ = some (.int .i64 n1) := blk_cell bkk 1
    have dk2 : (w38.alloc (.cells #[.int .i64 1, .int .i64 n1, .string ⟨#[]⟩] 24)).cell? ⟨w38.heap.size, 2, none⟩ = some (.string ⟨#[]⟩) := blk_cell bkk 2
    go_wp2_with fail
    clear da0
    clear da1
    clear da2
    clear db0
    clear db1
    clear db2
    clear dr0
    clear dr1
    clear dr2
    clear dm0
    clear dm1
    clear dm2
    clear dk0
    clear dk1
    clear dk2
    clear ca0
    clear ca1
    clear ca2
    clear cb0
    clear cb1
    clear cb2
    clear cr0
    clear cr1
    clear cr2
    clear cm0
    clear cm1
    clear cm2
    have hs39 := size_alloc w38 (.cells #[.int .i64 1, .int .i64 n1, .string ⟨#[]⟩] 24)
    generalize (w38.alloc (.cells #[.int .i64 1, .int .i64 n1, .string ⟨#[]⟩] 24)) = w39 at *
    have ca0 : w39.cell? ⟨w.heap.size, 0, none⟩ = some (.int .i64 1) := blk_cell bka 0
    have ca1 : w39.cell? ⟨w.heap.size, 1, none⟩ = some (.int .i64 n1) := blk_cell bka 1
    have ca2 : w39.cell? ⟨w.heap.size, 2, none⟩ = some (.string ⟨#[]⟩) := blk_cell bka 2
    have cb0 : w39.cell? ⟨w.heap.size + 1, 0, none⟩ = some (.int .i64 1) := blk_cell bkb 0
    have cb1 : w39.cell? ⟨w.heap.size + 1, 1, none⟩ = some (.int .i64 n2) := blk_cell bkb 1
    have cb2 : w39.cell? ⟨w.heap.size + 1, 2, none⟩ = some (.string ⟨#[]⟩) := blk_cell bkb 2
    have cr0 : w39.cell? ⟨w32.heap.size, 0, none⟩ = some (.int .i64 1) := blk_cell bkr 0
    have cr1 : w39.cell? ⟨w32.heap.size, 1, none⟩ = some (.int .i64 r) := blk_cell bkr 1
    have cr2 : w39.cell? ⟨w32.heap.size, 2, none⟩ = some (.string ⟨#[]⟩) := blk_cell bkr 2
    have cm0 : w39.cell? ⟨w35.heap.size, 0, none⟩ = some (.int .i64 1) := blk_cell bkm 0
    have cm1 : w39.cell? ⟨w35.heap.size, 1, none⟩ = some (.int .i64 p) := blk_cell bkm 1
    have cm2 : w39.cell? ⟨w35.heap.size, 2, none⟩ = some (.string ⟨#[]⟩) := blk_cell bkm 2
    have ck0 : w39.cell? ⟨w38.heap.size, 0, none⟩ = some (.int .i64 1) := blk_cell bkk 0
    have ck1 : w39.cell? ⟨w38.heap.size, 1, none⟩ = some (.int .i64 n1) := blk_cell bkk 1
    have ck2 : w39.cell? ⟨w38.heap.size, 2, none⟩ = some (.string ⟨#[]⟩) := blk_cell bkk 2
    go_ret
    exact ⟨by simp, hb⟩
theorem laws_walk (k1 n1 : Int) (s1 : ByteArray) (k2 n2 : Int) (s2 : ByteArray) (w : World)
    (_ : (Lit.int .i64 k1).wf = true) (h1 : (Lit.int .i64 n1).wf = true) (_ : s1.size ≤ maxLen)
    (_ : (Lit.int .i64 k2).wf = true) (h2 : (Lit.int .i64 n2).wf = true) (_ : s2.size ≤ maxLen) :
    Calls Tryd.prog 5 #[.agg #[.int .i64 k1, .int .i64 n1, .string s1], .agg #[.int .i64 k2, .int .i64 n2, .string s2]] w fun e w' => e = .returned (.bool true) ∧ Below w.heap.size w w' :=
  laws_any k1 n1 s1 k2 n2 s2 w (inR_of h1) (inR_of h2)
end Go.Proofs.YtbbdlcmcndhhkaaDoor.MValReckons
