/- ValOrders walked (printed by orders.py). -/
import Derived.Test.YtbbdlcmcndhhkaaDoorForms
import Derived.Test.YtbbdlcmcndhhkaaDoorMakes
namespace Go.Proofs.YtbbdlcmcndhhkaaDoor.MValReckons
open Go.RowKit Go.Proofs.YtbbdlcmcndhhkaaDoorW.PrintWords Go.Proofs.YtbbdlcmcndhhkaaDoorW.PrintLast Go.Proofs.YtbbdlcmcndhhkaaDoorW.PrintMore
set_option linter.unusedVariables false
set_option linter.unusedSimpArgs false
attribute [local go_sem high] eqA24

theorem yes_bit (b : Bool) (s : ByteArray) (w : World) : Calls Tryd.prog 16 #[.agg #[.int .i64 2, .int .i64 (bit b), .string s]] w fun e w' => e = .returned (.bool b) ∧ Below w.heap.size w w' :=
  (yes_any 2 (bit b) s w).mono fun e w' h => ⟨h.1.trans (by cases b <;> rfl), h.2⟩

theorem orders_law (k n1 : Int) (s1 : ByteArray) (n2 : Int) (s2 : ByteArray) (n3 : Int) (s3 : ByteArray) (hk : k = 1 ∨ k = 3) :
    ∃ bx by_ bz bw bs : Bool, val_Reckon.f 20 8 k n1 s1 [⟨k, n2, s2⟩] = some (2, bit bx, ⟨#[]⟩, 0) ∧ val_Reckon.f 20 8 k n2 s2 [⟨k, n3, s3⟩] = some (2, bit by_, ⟨#[]⟩, 0) ∧
      val_Reckon.f 20 8 k n1 s1 [⟨k, n3, s3⟩] = some (2, bit bz, ⟨#[]⟩, 0) ∧ val_Reckon.f 20 10 k n1 s1 [⟨k, n2, s2⟩] = some (2, bit bw, ⟨#[]⟩, 0) ∧
      val_Reckon.f 20 12 k n1 s1 [⟨k, n2, s2⟩] = some (2, bit bs, ⟨#[]⟩, 0) ∧ ((bx, bw, bs) = (true, false, false) ∨ (bx, bw, bs) = (false, true, false) ∨ (bx, bw, bs) = (false, false, true)) ∧ (bx = true → by_ = true → bz = true) := by
  refine ⟨_, _, _, _, _, reckon_less k n1 s1 n2 s2 hk, reckon_less k n2 s2 n3 s3 hk, reckon_less k n1 s1 n3 s3 hk, reckon_more k n1 s1 n2 s2 hk, reckon_same k n1 s1 n2 s2 (by omega), ?_, ?_⟩
  · rcases cmpV_three n1 s1 n2 s2 with ⟨h, e⟩ | ⟨h, e⟩ | ⟨h, e⟩ <;> simp [h, e]
  · intro h g
    exact decide_eq_true (cmpV_trans (of_decide_eq_true h) (of_decide_eq_true g))

set_option maxHeartbeats 40000000 in
set_option maxRecDepth 100000 in
theorem orders_any (k1 n1 : Int) (s1 : ByteArray) (k2 n2 : Int) (s2 : ByteArray) (k3 n3 : Int) (s3 : ByteArray) (w : World) :
    Calls Tryd.prog 6 #[.agg #[.int .i64 k1, .int .i64 n1, .string s1], .agg #[.int .i64 k2, .int .i64 n2, .string s2], .agg #[.int .i64 k3, .int .i64 n3, .string s3]] w fun e w' => e = .returned (.bool true) ∧ Below w.heap.size w w' := by
  obtain ⟨b1, R1, F1⟩ := right_some k1 n1 s1
  obtain ⟨b2, R2, F2⟩ := right_some k2 n2 s2
  obtain ⟨b3, R3, F3⟩ := right_some k3 n3 s3
  replace R1 := Aside0.mk R1
  replace R2 := Aside0.mk R2
  replace R3 := Aside0.mk R3
  replace F1 := Aside0.mk F1
  replace F2 := Aside0.mk F2
  replace F3 := Aside0.mk F3
  go_enter Tryd.func6, Tryd.ntmps6
  go_wp2_with fail
  obtain ⟨bka, bkb, bkc, hb⟩ := three_new w (.cells #[.int .i64 k1, .int .i64 n1, .string s1] 24) (.cells #[.int .i64 k2, .int .i64 n2, .string s2] 24) (.cells #[.int .i64 k3, .int .i64 n3, .string s3] 24)
  generalize (((w.alloc (.cells #[.int .i64 k1, .int .i64 n1, .string s1] 24)).alloc (.cells #[.int .i64 k2, .int .i64 n2, .string s2] 24)).alloc (.cells #[.int .i64 k3, .int .i64 n3, .string s3] 24)) = w0 at *
  have ca0 : w0.cell? ⟨w.heap.size, 0, none⟩ = some (.int .i64 k1) := blk_cell bka 0
  have ca1 : w0.cell? ⟨w.heap.size, 1, none⟩ = some (.int .i64 n1) := blk_cell bka 1
  have ca2 : w0.cell? ⟨w.heap.size, 2, none⟩ = some (.string s1) := blk_cell bka 2
  have cb0 : w0.cell? ⟨w.heap.size + 1, 0, none⟩ = some (.int .i64 k2) := blk_cell bkb 0
  have cb1 : w0.cell? ⟨w.heap.size + 1, 1, none⟩ = some (.int .i64 n2) := blk_cell bkb 1
  have cb2 : w0.cell? ⟨w.heap.size + 1, 2, none⟩ = some (.string s2) := blk_cell bkb 2
  have cc0 : w0.cell? ⟨w.heap.size + 1 + 1, 0, none⟩ = some (.int .i64 k3) := blk_cell bkc 0
  have cc1 : w0.cell? ⟨w.heap.size + 1 + 1, 1, none⟩ = some (.int .i64 n3) := blk_cell bkc 1
  have cc2 : w0.cell? ⟨w.heap.size + 1 + 1, 2, none⟩ = some (.string s3) := blk_cell bkc 2
  refine (whirligiglaw01_anchor.calls 30 true _ anchor_f).mono ?_
  rintro e w1 ⟨rfl, h1⟩
  replace bka := blk_below bka h1
  replace bkb := blk_below bkb h1
  replace bkc := blk_below bkc h1
  replace hb := hb.trans (h1.mono hb.size)
  clear ca0
  clear ca1
  clear ca2
  clear cb0
  clear cb1
  clear cb2
  clear cc0
  clear cc1
  clear cc2
  have ca0 : w1.cell? ⟨w.heap.size, 0, none⟩ = some (.int .i64 k1) := blk_cell bka 0
  have ca1 : w1.cell? ⟨w.heap.size, 1, none⟩ = some (.int .i64 n1) := blk_cell bka 1
  have ca2 : w1.cell? ⟨w.heap.size, 2, none⟩ = some (.string s1) := blk_cell bka 2
  have cb0 : w1.cell? ⟨w.heap.size + 1, 0, none⟩ = some (.int .i64 k2) := blk_cell bkb 0
  have cb1 : w1.cell? ⟨w.heap.size + 1, 1, none⟩ = some (.int .i64 n2) := blk_cell bkb 1
  have cb2 : w1.cell? ⟨w.heap.size + 1, 2, none⟩ = some (.string s2) := blk_cell bkb 2
  have cc0 : w1.cell? ⟨w.heap.size + 1 + 1, 0, none⟩ = some (.int .i64 k3) := blk_cell bkc 0
  have cc1 : w1.cell? ⟨w.heap.size + 1 + 1, 1, none⟩ = some (.int .i64 n3) := blk_cell bkc 1
  have cc2 : w1.cell? ⟨w.heap.size + 1 + 1, 2, none⟩ = some (.string s3) := blk_cell bkc 2
  go_wp2_with fail
  refine (whirligiglaw01_ref.calls k1 n1 s1 k1 n1 s1 _ rfl).mono ?_
  rintro e w2 ⟨rfl, h2⟩
  replace bka := blk_below bka h2
  replace bkb := blk_below bkb h2
  replace bkc := blk_below bkc h2
  replace hb := hb.trans (h2.mono hb.size)
  clear ca0
  clear ca1
  clear ca2
  clear cb0
  clear cb1
  clear cb2
  clear cc0
  clear cc1
  clear cc2
  have ca0 : w2.cell? ⟨w.heap.size, 0, none⟩ = some (.int .i64 k1) := blk_cell bka 0
  have ca1 : w2.cell? ⟨w.heap.size, 1, none⟩ = some (.int .i64 n1) := blk_cell bka 1
  have ca2 : w2.cell? ⟨w.heap.size, 2, none⟩ = some (.string s1) := blk_cell bka 2
  have cb0 : w2.cell? ⟨w.heap.size + 1, 0, none⟩ = some (.int .i64 k2) := blk_cell bkb 0
  have cb1 : w2.cell? ⟨w.heap.size + 1, 1, none⟩ = some (.int .i64 n2) := blk_cell bkb 1
  have cb2 : w2.cell? ⟨w.heap.size + 1, 2, none⟩ = some (.string s2) := blk_cell bkb 2
  have cc0 : w2.cell? ⟨w.heap.size + 1 + 1, 0, none⟩ = some (.int .i64 k3) := blk_cell bkc 0
  have cc1 : w2.cell? ⟨w.heap.size + 1 + 1, 1, none⟩ = some (.int .i64 n3) := blk_cell bkc 1
  have cc2 : w2.cell? ⟨w.heap.size + 1 + 1, 2, none⟩ = some (.string s3) := blk_cell bkc 2
  go_wp2_with fail
  refine (whirligigref01_Right.calls 50 k1 n1 s1 b1 _ R1.out).mono ?_
  rintro e w3 ⟨rfl, h3⟩
  replace bka := blk_below bka h3
  replace bkb := blk_below bkb h3
  replace bkc := blk_below bkc h3
  replace hb := hb.trans (h3.mono hb.size)
  clear ca0
  clear ca1
  clear ca2
  clear cb0
  clear cb1
  clear cb2
  clear cc0
  clear cc1
  clear cc2
  have ca0 : w3.cell? ⟨w.heap.size, 0, none⟩ = some (.int .i64 k1) := blk_cell bka 0
  have ca1 : w3.cell? ⟨w.heap.size, 1, none⟩ = some (.int .i64 n1) := blk_cell bka 1
  have ca2 : w3.cell? ⟨w.heap.size, 2, none⟩ = some (.string s1) := blk_cell bka 2
  have cb0 : w3.cell? ⟨w.heap.size + 1, 0, none⟩ = some (.int .i64 k2) := blk_cell bkb 0
  have cb1 : w3.cell? ⟨w.heap.size + 1, 1, none⟩ = some (.int .i64 n2) := blk_cell bkb 1
  have cb2 : w3.cell? ⟨w.heap.size + 1, 2, none⟩ = some (.string s2) := blk_cell bkb 2
  have cc0 : w3.cell? ⟨w.heap.size + 1 + 1, 0, none⟩ = some (.int .i64 k3) := blk_cell bkc 0
  have cc1 : w3.cell? ⟨w.heap.size + 1 + 1, 1, none⟩ = some (.int .i64 n3) := blk_cell bkc 1
  have cc2 : w3.cell? ⟨w.heap.size + 1 + 1, 2, none⟩ = some (.string s3) := blk_cell bkc 2
  cases b1
  · go_wp2_with fail
    go_ret
    exact ⟨by simp, hb⟩
  go_wp2_with fail
  refine (whirligiglaw01_ref.calls k2 n2 s2 k2 n2 s2 _ rfl).mono ?_
  rintro e w4 ⟨rfl, h4⟩
  replace bka := blk_below bka h4
  replace bkb := blk_below bkb h4
  replace bkc := blk_below bkc h4
  replace hb := hb.trans (h4.mono hb.size)
  clear ca0
  clear ca1
  clear ca2
  clear cb0
  clear cb1
  clear cb2
  clear cc0
  clear cc1
  clear cc2
  have ca0 : w4.cell? ⟨w.heap.size, 0, none⟩ = some (.int .i64 k1) := blk_cell bka 0
  have ca1 : w4.cell? ⟨w.heap.size, 1, none⟩ = some (.int .i64 n1) := blk_cell bka 1
  have ca2 : w4.cell? ⟨w.heap.size, 2, none⟩ = some (.string s1) := blk_cell bka 2
  have cb0 : w4.cell? ⟨w.heap.size + 1, 0, none⟩ = some (.int .i64 k2) := blk_cell bkb 0
  have cb1 : w4.cell? ⟨w.heap.size + 1, 1, none⟩ = some (.int .i64 n2) := blk_cell bkb 1
  have cb2 : w4.cell? ⟨w.heap.size + 1, 2, none⟩ = some (.string s2) := blk_cell bkb 2
  have cc0 : w4.cell? ⟨w.heap.size + 1 + 1, 0, none⟩ = some (.int .i64 k3) := blk_cell bkc 0
  have cc1 : w4.cell? ⟨w.heap.size + 1 + 1, 1, none⟩ = some (.int .i64 n3) := blk_cell bkc 1
  have cc2 : w4.cell? ⟨w.heap.size + 1 + 1, 2, none⟩ = some (.string s3) := blk_cell bkc 2
  go_wp2_with fail
  refine (whirligigref01_Right.calls 50 k2 n2 s2 b2 _ R2.out).mono ?_
  rintro e w5 ⟨rfl, h5⟩
  replace bka := blk_below bka h5
  replace bkb := blk_below bkb h5
  replace bkc := blk_below bkc h5
  replace hb := hb.trans (h5.mono hb.size)
  clear ca0
  clear ca1
  clear ca2
  clear cb0
  clear cb1
  clear cb2
  clear cc0
  clear cc1
  clear cc2
  have ca0 : w5.cell? ⟨w.heap.size, 0, none⟩ = some (.int .i64 k1) := blk_cell bka 0
  have ca1 : w5.cell? ⟨w.heap.size, 1, none⟩ = some (.int .i64 n1) := blk_cell bka 1
  have ca2 : w5.cell? ⟨w.heap.size, 2, none⟩ = some (.string s1) := blk_cell bka 2
  have cb0 : w5.cell? ⟨w.heap.size + 1, 0, none⟩ = some (.int .i64 k2) := blk_cell bkb 0
  have cb1 : w5.cell? ⟨w.heap.size + 1, 1, none⟩ = some (.int .i64 n2) := blk_cell bkb 1
  have cb2 : w5.cell? ⟨w.heap.size + 1, 2, none⟩ = some (.string s2) := blk_cell bkb 2
  have cc0 : w5.cell? ⟨w.heap.size + 1 + 1, 0, none⟩ = some (.int .i64 k3) := blk_cell bkc 0
  have cc1 : w5.cell? ⟨w.heap.size + 1 + 1, 1, none⟩ = some (.int .i64 n3) := blk_cell bkc 1
  have cc2 : w5.cell? ⟨w.heap.size + 1 + 1, 2, none⟩ = some (.string s3) := blk_cell bkc 2
  cases b2
  · go_wp2_with fail
    go_ret
    exact ⟨by simp, hb⟩
  go_wp2_with fail
  refine (whirligiglaw01_ref.calls k3 n3 s3 k3 n3 s3 _ rfl).mono ?_
  rintro e w6 ⟨rfl, h6⟩
  replace bka := blk_below bka h6
  replace bkb := blk_below bkb h6
  replace bkc := blk_below bkc h6
  replace hb := hb.trans (h6.mono hb.size)
  clear ca0
  clear ca1
  clear ca2
  clear cb0
  clear cb1
  clear cb2
  clear cc0
  clear cc1
  clear cc2
  have ca0 : w6.cell? ⟨w.heap.size, 0, none⟩ = some (.int .i64 k1) := blk_cell bka 0
  have ca1 : w6.cell? ⟨w.heap.size, 1, none⟩ = some (.int .i64 n1) := blk_cell bka 1
  have ca2 : w6.cell? ⟨w.heap.size, 2, none⟩ = some (.string s1) := blk_cell bka 2
  have cb0 : w6.cell? ⟨w.heap.size + 1, 0, none⟩ = some (.int .i64 k2) := blk_cell bkb 0
  have cb1 : w6.cell? ⟨w.heap.size + 1, 1, none⟩ = some (.int .i64 n2) := blk_cell bkb 1
  have cb2 : w6.cell? ⟨w.heap.size + 1, 2, none⟩ = some (.string s2) := blk_cell bkb 2
  have cc0 : w6.cell? ⟨w.heap.size + 1 + 1, 0, none⟩ = some (.int .i64 k3) := blk_cell bkc 0
  have cc1 : w6.cell? ⟨w.heap.size + 1 + 1, 1, none⟩ = some (.int .i64 n3) := blk_cell bkc 1
  have cc2 : w6.cell? ⟨w.heap.size + 1 + 1, 2, none⟩ = some (.string s3) := blk_cell bkc 2
  go_wp2_with fail
  refine (whirligigref01_Right.calls 50 k3 n3 s3 b3 _ R3.out).mono ?_
  rintro e w7 ⟨rfl, h7⟩
  replace bka := blk_below bka h7
  replace bkb := blk_below bkb h7
  replace bkc := blk_below bkc h7
  replace hb := hb.trans (h7.mono hb.size)
  clear ca0
  clear ca1
  clear ca2
  clear cb0
  clear cb1
  clear cb2
  clear cc0
  clear cc1
  clear cc2
  have ca0 : w7.cell? ⟨w.heap.size, 0, none⟩ = some (.int .i64 k1) := blk_cell bka 0
  have ca1 : w7.cell? ⟨w.heap.size, 1, none⟩ = some (.int .i64 n1) := blk_cell bka 1
  have ca2 : w7.cell? ⟨w.heap.size, 2, none⟩ = some (.string s1) := blk_cell bka 2
  have cb0 : w7.cell? ⟨w.heap.size + 1, 0, none⟩ = some (.int .i64 k2) := blk_cell bkb 0
  have cb1 : w7.cell? ⟨w.heap.size + 1, 1, none⟩ = some (.int .i64 n2) := blk_cell bkb 1
  have cb2 : w7.cell? ⟨w.heap.size + 1, 2, none⟩ = some (.string s2) := blk_cell bkb 2
  have cc0 : w7.cell? ⟨w.heap.size + 1 + 1, 0, none⟩ = some (.int .i64 k3) := blk_cell bkc 0
  have cc1 : w7.cell? ⟨w.heap.size + 1 + 1, 1, none⟩ = some (.int .i64 n3) := blk_cell bkc 1
  have cc2 : w7.cell? ⟨w.heap.size + 1 + 1, 2, none⟩ = some (.string s3) := blk_cell bkc 2
  cases b3
  · go_wp2_with fail
    go_ret
    exact ⟨by simp, hb⟩
  by_cases e12 : k1 = k2
  rotate_left
  · have e := bne_iff_ne.2 e12
    go_wp2_with fail
    all_goals (go_ret; exact ⟨by simp, hb⟩)
  by_cases e23 : k2 = k3
  rotate_left
  · have e := bne_iff_ne.2 e23
    subst e12
    go_wp2_with fail
    all_goals (go_ret; exact ⟨by simp, hb⟩)
  by_cases e2 : k3 = 2
  · subst e12
    subst e23
    subst e2
    go_wp2_with fail
    all_goals (go_ret; exact ⟨by simp, hb⟩)
  have e := beq_eq_false_iff_ne.2 e2
  obtain rfl := e12.symm
  obtain rfl := e23.symm
  have hk : k3 = 1 ∨ k3 = 3 := by
    rcases F1.out (by simp) with ⟨h, _⟩ | ⟨h, _⟩ | ⟨h, _⟩
    · exact .inr h
    · exact .inl h
    · exact absurd h e2
  clear F1 F2 F3 R1 R2 R3
  obtain ⟨bx, by_, bz, bw, bs, RX, RY, RZ, RW, RS, L1, L2⟩ := orders_law k3 n1 s1 n2 s2 n3 s3 hk
  replace RX := Aside0.mk RX
  replace RY := Aside0.mk RY
  replace RZ := Aside0.mk RZ
  replace RW := Aside0.mk RW
  replace RS := Aside0.mk RS
  replace L1 := Aside0.mk L1
  replace L2 := Aside0.mk L2
  go_wp2_with fail
  replace bka := blk_alloc bka (.cells #[.int .i64 k3, .int .i64 n2, .string s2] 24)
  replace bkb := blk_alloc bkb (.cells #[.int .i64 k3, .int .i64 n2, .string s2] 24)
  replace bkc := blk_alloc bkc (.cells #[.int .i64 k3, .int .i64 n2, .string s2] 24)
  have bkxt := blk_new w7 (.cells #[.int .i64 k3, .int .i64 n2, .string s2] 24)
  replace hb := hb.alloc hb.size (.cells #[.int .i64 k3, .int .i64 n2, .string s2] 24)
  clear ca0
  clear ca1
  clear ca2
  clear cb0
  clear cb1
  clear cb2
  clear cc0
  clear cc1
  clear cc2
  generalize w7.alloc (.cells #[.int .i64 k3, .int .i64 n2, .string s2] 24) = w8 at *
  have ca0 : w8.cell? ⟨w.heap.size, 0, none⟩ = some (.int .i64 k3) := blk_cell bka 0
  have ca1 : w8.cell? ⟨w.heap.size, 1, none⟩ = some (.int .i64 n1) := blk_cell bka 1
  have ca2 : w8.cell? ⟨w.heap.size, 2, none⟩ = some (.string s1) := blk_cell bka 2
  have cb0 : w8.cell? ⟨w.heap.size + 1, 0, none⟩ = some (.int .i64 k3) := blk_cell bkb 0
  have cb1 : w8.cell? ⟨w.heap.size + 1, 1, none⟩ = some (.int .i64 n2) := blk_cell bkb 1
  have cb2 : w8.cell? ⟨w.heap.size + 1, 2, none⟩ = some (.string s2) := blk_cell bkb 2
  have cc0 : w8.cell? ⟨w.heap.size + 1 + 1, 0, none⟩ = some (.int .i64 k3) := blk_cell bkc 0
  have cc1 : w8.cell? ⟨w.heap.size + 1 + 1, 1, none⟩ = some (.int .i64 n3) := blk_cell bkc 1
  have cc2 : w8.cell? ⟨w.heap.size + 1 + 1, 2, none⟩ = some (.string s3) := blk_cell bkc 2
  have cxt0 : w8.cell? ⟨w7.heap.size, 0, none⟩ = some (.int .i64 k3) := blk_cell bkxt 0
  have cxt1 : w8.cell? ⟨w7.heap.size, 1, none⟩ = some (.int .i64 n2) := blk_cell bkxt 1
  have cxt2 : w8.cell? ⟨w7.heap.size, 2, none⟩ = some (.string s2) := blk_cell bkxt 2
  refine (val_Reckon.calls 20 8 k3 n1 s1 (some ⟨w7.heap.size, 0, none⟩) 1 [⟨k3, n2, s2⟩] 2 (bit bx) ⟨#[]⟩ 0 _ (one_C bkxt) (Nat.le_refl _) RX.out).mono ?_
  rintro e w9 ⟨rfl, h9⟩
  replace bka := blk_below bka h9
  replace bkb := blk_below bkb h9
  replace bkc := blk_below bkc h9
  replace bkxt := blk_below bkxt h9
  replace hb := hb.trans (h9.mono hb.size)
  clear ca0
  clear ca1
  clear ca2
  clear cb0
  clear cb1
  clear cb2
  clear cc0
  clear cc1
  clear cc2
  clear cxt0
  clear cxt1
  clear cxt2
  have ca0 : w9.cell? ⟨w.heap.size, 0, none⟩ = some (.int .i64 k3) := blk_cell bka 0
  have ca1 : w9.cell? ⟨w.heap.size, 1, none⟩ = some (.int .i64 n1) := blk_cell bka 1
  have ca2 : w9.cell? ⟨w.heap.size, 2, none⟩ = some (.string s1) := blk_cell bka 2
  have cb0 : w9.cell? ⟨w.heap.size + 1, 0, none⟩ = some (.int .i64 k3) := blk_cell bkb 0
  have cb1 : w9.cell? ⟨w.heap.size + 1, 1, none⟩ = some (.int .i64 n2) := blk_cell bkb 1
  have cb2 : w9.cell? ⟨w.heap.size + 1, 2, none⟩ = some (.string s2) := blk_cell bkb 2
  have cc0 : w9.cell? ⟨w.heap.size + 1 + 1, 0, none⟩ = some (.int .i64 k3) := blk_cell bkc 0
  have cc1 : w9.cell? ⟨w.heap.size + 1 + 1, 1, none⟩ = some (.int .i64 n3) := blk_cell bkc 1
  have cc2 : w9.cell? ⟨w.heap.size + 1 + 1, 2, none⟩ = some (.string s3) := blk_cell bkc 2
  have cxt0 : w9.cell? ⟨w7.heap.size, 0, none⟩ = some (.int .i64 k3) := blk_cell bkxt 0
  have cxt1 : w9.cell? ⟨w7.heap.size, 1, none⟩ = some (.int .i64 n2) := blk_cell bkxt 1
  have cxt2 : w9.cell? ⟨w7.heap.size, 2, none⟩ = some (.string s2) := blk_cell bkxt 2
  clear cxt0
  clear cxt1
  clear cxt2
  clear bkxt
  replace bka := blk_alloc bka (.cells #[.int .i64 2, .int .i64 (bit bx), .string ⟨#[]⟩] 24)
  replace bkb := blk_alloc bkb (.cells #[.int .i64 2, .int .i64 (bit bx), .string ⟨#[]⟩] 24)
  replace bkc := blk_alloc bkc (.cells #[.int .i64 2, .int .i64 (bit bx), .string ⟨#[]⟩] 24)
  have bkx := blk_new w9 (.cells #[.int .i64 2, .int .i64 (bit bx), .string ⟨#[]⟩] 24)
  replace hb := hb.alloc hb.size (.cells #[.int .i64 2, .int .i64 (bit bx), .string ⟨#[]⟩] 24)
  have da0 : (w9.alloc (.cells #[.int .i64 2, .int .i64 (bit bx), .string ⟨#[]⟩] 24)).cell? ⟨w.heap.size, 0, none⟩ = some (.int .i64 k3) := blk_cell bka 0
  have da1 : (w9.alloc (.cells #[.int .i64 2, .int .i64 (bit bx), .string ⟨#[]⟩] 24)).cell? ⟨w.heap.size, 1, none⟩ = some (.int .i64 n1) := blk_cell bka 1
  have da2 : (w9.alloc (.cells #[.int .i64 2, .int .i64 (bit bx), .string ⟨#[]⟩] 24)).cell? ⟨w.heap.size, 2, none⟩ = some (.string s1) := blk_cell bka 2
  have db0 : (w9.alloc (.cells #[.int .i64 2, .int .i64 (bit bx), .string ⟨#[]⟩] 24)).cell? ⟨w.heap.size + 1, 0, none⟩ = some (.int .i64 k3) := blk_cell bkb 0
  have db1 : (w9.alloc (.cells #[.int .i64 2, .int .i64 (bit bx), .string ⟨#[]⟩] 24)).cell? ⟨w.heap.size + 1, 1, none⟩ = some (.int .i64 n2) := blk_cell bkb 1
  have db2 : (w9.alloc (.cells #[.int .i64 2, .int .i64 (bit bx), .string ⟨#[]⟩] 24)).cell? ⟨w.heap.size + 1, 2, none⟩ = some (.string s2) := blk_cell bkb 2
  have dc0 : (w9.alloc (.cells #[.int .i64 2, .int .i64 (bit bx), .string ⟨#[]⟩] 24)).cell? ⟨w.heap.size + 1 + 1, 0, none⟩ = some (.int .i64 k3) := blk_cell bkc 0
  have dc1 : (w9.alloc (.cells #[.int .i64 2, .int .i64 (bit bx), .string ⟨#[]⟩] 24)).cell? ⟨w.heap.size + 1 + 1, 1, none⟩ = some (.int .i64 n3) := blk_cell bkc 1
  have dc2 : (w9.alloc (.cells #[.int .i64 2, .int .i64 (bit bx), .string ⟨#[]⟩] 24)).cell? ⟨w.heap.size + 1 + 1, 2, none⟩ = some (.string s3) := blk_cell bkc 2
  have dx0 : (w9.alloc (.cells #[.int .i64 2, .int .i64 (bit bx), .string ⟨#[]⟩] 24)).cell? ⟨w9.heap.size, 0, none⟩ = some (.int .i64 2) := blk_cell bkx 0
  have dx1 : (w9.alloc (.cells #[.int .i64 2, .int .i64 (bit bx), .string ⟨#[]⟩] 24)).cell? ⟨w9.heap.size, 1, none⟩ = some (.int .i64 (bit bx)) := blk_cell bkx 1
  have dx2 : (w9.alloc (.cells #[.int .i64 2, .int .i64 (bit bx), .string ⟨#[]⟩] 24)).cell? ⟨w9.heap.size, 2, none⟩ = some (.string ⟨#[]⟩) := blk_cell bkx 2
  go_wp2_with fail
  clear da0
  clear da1
  clear da2
  clear db0
  clear db1
  clear db2
  clear dc0
  clear dc1
  clear dc2
  clear dx0
  clear dx1
  clear dx2
  clear ca0
  clear ca1
  clear ca2
  clear cb0
  clear cb1
  clear cb2
  clear cc0
  clear cc1
  clear cc2
  have hs10 := size_alloc w9 (.cells #[.int .i64 2, .int .i64 (bit bx), .string ⟨#[]⟩] 24)
  generalize (w9.alloc (.cells #[.int .i64 2, .int .i64 (bit bx), .string ⟨#[]⟩] 24)) = w10 at *
  have ca0 : w10.cell? ⟨w.heap.size, 0, none⟩ = some (.int .i64 k3) := blk_cell bka 0
  have ca1 : w10.cell? ⟨w.heap.size, 1, none⟩ = some (.int .i64 n1) := blk_cell bka 1
  have ca2 : w10.cell? ⟨w.heap.size, 2, none⟩ = some (.string s1) := blk_cell bka 2
  have cb0 : w10.cell? ⟨w.heap.size + 1, 0, none⟩ = some (.int .i64 k3) := blk_cell bkb 0
  have cb1 : w10.cell? ⟨w.heap.size + 1, 1, none⟩ = some (.int .i64 n2) := blk_cell bkb 1
  have cb2 : w10.cell? ⟨w.heap.size + 1, 2, none⟩ = some (.string s2) := blk_cell bkb 2
  have cc0 : w10.cell? ⟨w.heap.size + 1 + 1, 0, none⟩ = some (.int .i64 k3) := blk_cell bkc 0
  have cc1 : w10.cell? ⟨w.heap.size + 1 + 1, 1, none⟩ = some (.int .i64 n3) := blk_cell bkc 1
  have cc2 : w10.cell? ⟨w.heap.size + 1 + 1, 2, none⟩ = some (.string s3) := blk_cell bkc 2
  have cx0 : w10.cell? ⟨w9.heap.size, 0, none⟩ = some (.int .i64 2) := blk_cell bkx 0
  have cx1 : w10.cell? ⟨w9.heap.size, 1, none⟩ = some (.int .i64 (bit bx)) := blk_cell bkx 1
  have cx2 : w10.cell? ⟨w9.heap.size, 2, none⟩ = some (.string ⟨#[]⟩) := blk_cell bkx 2
  replace bka := blk_alloc bka (.cells #[.int .i64 k3, .int .i64 n3, .string s3] 24)
  replace bkb := blk_alloc bkb (.cells #[.int .i64 k3, .int .i64 n3, .string s3] 24)
  replace bkc := blk_alloc bkc (.cells #[.int .i64 k3, .int .i64 n3, .string s3] 24)
  replace bkx := blk_alloc bkx (.cells #[.int .i64 k3, .int .i64 n3, .string s3] 24)
  have bkyt := blk_new w10 (.cells #[.int .i64 k3, .int .i64 n3, .string s3] 24)
  rw [hs10] at bkyt
  replace hb := hb.alloc hb.size (.cells #[.int .i64 k3, .int .i64 n3, .string s3] 24)
  clear ca0
  clear ca1
  clear ca2
  clear cb0
  clear cb1
  clear cb2
  clear cc0
  clear cc1
  clear cc2
  clear cx0
  clear cx1
  clear cx2
  generalize w10.alloc (.cells #[.int .i64 k3, .int .i64 n3, .string s3] 24) = w11 at *
  have ca0 : w11.cell? ⟨w.heap.size, 0, none⟩ = some (.int .i64 k3) := blk_cell bka 0
  have ca1 : w11.cell? ⟨w.heap.size, 1, none⟩ = some (.int .i64 n1) := blk_cell bka 1
  have ca2 : w11.cell? ⟨w.heap.size, 2, none⟩ = some (.string s1) := blk_cell bka 2
  have cb0 : w11.cell? ⟨w.heap.size + 1, 0, none⟩ = some (.int .i64 k3) := blk_cell bkb 0
  have cb1 : w11.cell? ⟨w.heap.size + 1, 1, none⟩ = some (.int .i64 n2) := blk_cell bkb 1
  have cb2 : w11.cell? ⟨w.heap.size + 1, 2, none⟩ = some (.string s2) := blk_cell bkb 2
  have cc0 : w11.cell? ⟨w.heap.size + 1 + 1, 0, none⟩ = some (.int .i64 k3) := blk_cell bkc 0
  have cc1 : w11.cell? ⟨w.heap.size + 1 + 1, 1, none⟩ = some (.int .i64 n3) := blk_cell bkc 1
  have cc2 : w11.cell? ⟨w.heap.size + 1 + 1, 2, none⟩ = some (.string s3) := blk_cell bkc 2
  have cx0 : w11.cell? ⟨w9.heap.size, 0, none⟩ = some (.int .i64 2) := blk_cell bkx 0
  have cx1 : w11.cell? ⟨w9.heap.size, 1, none⟩ = some (.int .i64 (bit bx)) := blk_cell bkx 1
  have cx2 : w11.cell? ⟨w9.heap.size, 2, none⟩ = some (.string ⟨#[]⟩) := blk_cell bkx 2
  have cyt0 : w11.cell? ⟨w9.heap.size + 1, 0, none⟩ = some (.int .i64 k3) := blk_cell bkyt 0
  have cyt1 : w11.cell? ⟨w9.heap.size + 1, 1, none⟩ = some (.int .i64 n3) := blk_cell bkyt 1
  have cyt2 : w11.cell? ⟨w9.heap.size + 1, 2, none⟩ = some (.string s3) := blk_cell bkyt 2
  refine (val_Reckon.calls 20 8 k3 n2 s2 (some ⟨w9.heap.size + 1, 0, none⟩) 1 [⟨k3, n3, s3⟩] 2 (bit by_) ⟨#[]⟩ 0 _ (one_C bkyt) (Nat.le_refl _) RY.out).mono ?_
  rintro e w12 ⟨rfl, h12⟩
  replace bka := blk_below bka h12
  replace bkb := blk_below bkb h12
  replace bkc := blk_below bkc h12
  replace bkx := blk_below bkx h12
  replace bkyt := blk_below bkyt h12
  replace hb := hb.trans (h12.mono hb.size)
  clear ca0
  clear ca1
  clear ca2
  clear cb0
  clear cb1
  clear cb2
  clear cc0
  clear cc1
  clear cc2
  clear cx0
  clear cx1
  clear cx2
  clear cyt0
  clear cyt1
  clear cyt2
  have ca0 : w12.cell? ⟨w.heap.size, 0, none⟩ = some (.int .i64 k3) := blk_cell bka 0
  have ca1 : w12.cell? ⟨w.heap.size, 1, none⟩ = some (.int .i64 n1) := blk_cell bka 1
  have ca2 : w12.cell? ⟨w.heap.size, 2, none⟩ = some (.string s1) := blk_cell bka 2
  have cb0 : w12.cell? ⟨w.heap.size + 1, 0, none⟩ = some (.int .i64 k3) := blk_cell bkb 0
  have cb1 : w12.cell? ⟨w.heap.size + 1, 1, none⟩ = some (.int .i64 n2) := blk_cell bkb 1
  have cb2 : w12.cell? ⟨w.heap.size + 1, 2, none⟩ = some (.string s2) := blk_cell bkb 2
  have cc0 : w12.cell? ⟨w.heap.size + 1 + 1, 0, none⟩ = some (.int .i64 k3) := blk_cell bkc 0
  have cc1 : w12.cell? ⟨w.heap.size + 1 + 1, 1, none⟩ = some (.int .i64 n3) := blk_cell bkc 1
  have cc2 : w12.cell? ⟨w.heap.size + 1 + 1, 2, none⟩ = some (.string s3) := blk_cell bkc 2
  have cx0 : w12.cell? ⟨w9.heap.size, 0, none⟩ = some (.int .i64 2) := blk_cell bkx 0
  have cx1 : w12.cell? ⟨w9.heap.size, 1, none⟩ = some (.int .i64 (bit bx)) := blk_cell bkx 1
  have cx2 : w12.cell? ⟨w9.heap.size, 2, none⟩ = some (.string ⟨#[]⟩) := blk_cell bkx 2
  have cyt0 : w12.cell? ⟨w9.heap.size + 1, 0, none⟩ = some (.int .i64 k3) := blk_cell bkyt 0
  have cyt1 : w12.cell? ⟨w9.heap.size + 1, 1, none⟩ = some (.int .i64 n3) := blk_cell bkyt 1
  have cyt2 : w12.cell? ⟨w9.heap.size + 1, 2, none⟩ = some (.string s3) := blk_cell bkyt 2
  clear cyt0
  clear cyt1
  clear cyt2
  clear bkyt
  replace bka := blk_alloc bka (.cells #[.int .i64 2, .int .i64 (bit by_), .string ⟨#[]⟩] 24)
  replace bkb := blk_alloc bkb (.cells #[.int .i64 2, .int .i64 (bit by_), .string ⟨#[]⟩] 24)
  replace bkc := blk_alloc bkc (.cells #[.int .i64 2, .int .i64 (bit by_), .string ⟨#[]⟩] 24)
  replace bkx := blk_alloc bkx (.cells #[.int .i64 2, .int .i64 (bit by_), .string ⟨#[]⟩] 24)
  have bky := blk_new w12 (.cells #[.int .i64 2, .int .i64 (bit by_), .string ⟨#[]⟩] 24)
  replace hb := hb.alloc hb.size (.cells #[.int .i64 2, .int .i64 (bit by_), .string ⟨#[]⟩] 24)
  have da0 : (w12.alloc (.cells #[.int .i64 2, .int .i64 (bit by_), .string ⟨#[]⟩] 24)).cell? ⟨w.heap.size, 0, none⟩ = some (.int .i64 k3) := blk_cell bka 0
  have da1 : (w12.alloc (.cells #[.int .i64 2, .int .i64 (bit by_), .string ⟨#[]⟩] 24)).cell? ⟨w.heap.size, 1, none⟩ = some (.int .i64 n1) := blk_cell bka 1
  have da2 : (w12.alloc (.cells #[.int .i64 2, .int .i64 (bit by_), .string ⟨#[]⟩] 24)).cell? ⟨w.heap.size, 2, none⟩ = some (.string s1) := blk_cell bka 2
  have db0 : (w12.alloc (.cells #[.int .i64 2, .int .i64 (bit by_), .string ⟨#[]⟩] 24)).cell? ⟨w.heap.size + 1, 0, none⟩ = some (.int .i64 k3) := blk_cell bkb 0
  have db1 : (w12.alloc (.cells #[.int .i64 2, .int .i64 (bit by_), .string ⟨#[]⟩] 24)).cell? ⟨w.heap.size + 1, 1, none⟩ = some (.int .i64 n2) := blk_cell bkb 1
  have db2 : (w12.alloc (.cells #[.int .i64 2, .int .i64 (bit by_), .string ⟨#[]⟩] 24)).cell? ⟨w.heap.size + 1, 2, none⟩ = some (.string s2) := blk_cell bkb 2
  have dc0 : (w12.alloc (.cells #[.int .i64 2, .int .i64 (bit by_), .string ⟨#[]⟩] 24)).cell? ⟨w.heap.size + 1 + 1, 0, none⟩ = some (.int .i64 k3) := blk_cell bkc 0
  have dc1 : (w12.alloc (.cells #[.int .i64 2, .int .i64 (bit by_), .string ⟨#[]⟩] 24)).cell? ⟨w.heap.size + 1 + 1, 1, none⟩ = some (.int .i64 n3) := blk_cell bkc 1
  have dc2 : (w12.alloc (.cells #[.int .i64 2, .int .i64 (bit by_), .string ⟨#[]⟩] 24)).cell? ⟨w.heap.size + 1 + 1, 2, none⟩ = some (.string s3) := blk_cell bkc 2
  have dx0 : (w12.alloc (.cells #[.int .i64 2, .int .i64 (bit by_), .string ⟨#[]⟩] 24)).cell? ⟨w9.heap.size, 0, none⟩ = some (.int .i64 2) := blk_cell bkx 0
  have dx1 : (w12.alloc (.cells #[.int .i64 2, .int .i64 (bit by_), .string ⟨#[]⟩] 24)).cell? ⟨w9.heap.size, 1, none⟩ = some (.int .i64 (bit bx)) := blk_cell bkx 1
  have dx2 : (w12.alloc (.cells #[.int .i64 2, .int .i64 (bit by_), .string ⟨#[]⟩] 24)).cell? ⟨w9.heap.size, 2, none⟩ = some (.string ⟨#[]⟩) := blk_cell bkx 2
  have dy0 : (w12.alloc (.cells #[.int .i64 2, .int .i64 (bit by_), .string ⟨#[]⟩] 24)).cell? ⟨w12.heap.size, 0, none⟩ = some (.int .i64 2) := blk_cell bky 0
  have dy1 : (w12.alloc (.cells #[.int .i64 2, .int .i64 (bit by_), .string ⟨#[]⟩] 24)).cell? ⟨w12.heap.size, 1, none⟩ = some (.int .i64 (bit by_)) := blk_cell bky 1
  have dy2 : (w12.alloc (.cells #[.int .i64 2, .int .i64 (bit by_), .string ⟨#[]⟩] 24)).cell? ⟨w12.heap.size, 2, none⟩ = some (.string ⟨#[]⟩) := blk_cell bky 2
  go_wp2_with fail
  clear da0
  clear da1
  clear da2
  clear db0
  clear db1
  clear db2
  clear dc0
  clear dc1
  clear dc2
  clear dx0
  clear dx1
  clear dx2
  clear dy0
  clear dy1
  clear dy2
  clear ca0
  clear ca1
  clear ca2
  clear cb0
  clear cb1
  clear cb2
  clear cc0
  clear cc1
  clear cc2
  clear cx0
  clear cx1
  clear cx2
  have hs13 := size_alloc w12 (.cells #[.int .i64 2, .int .i64 (bit by_), .string ⟨#[]⟩] 24)
  generalize (w12.alloc (.cells #[.int .i64 2, .int .i64 (bit by_), .string ⟨#[]⟩] 24)) = w13 at *
  have ca0 : w13.cell? ⟨w.heap.size, 0, none⟩ = some (.int .i64 k3) := blk_cell bka 0
  have ca1 : w13.cell? ⟨w.heap.size, 1, none⟩ = some (.int .i64 n1) := blk_cell bka 1
  have ca2 : w13.cell? ⟨w.heap.size, 2, none⟩ = some (.string s1) := blk_cell bka 2
  have cb0 : w13.cell? ⟨w.heap.size + 1, 0, none⟩ = some (.int .i64 k3) := blk_cell bkb 0
  have cb1 : w13.cell? ⟨w.heap.size + 1, 1, none⟩ = some (.int .i64 n2) := blk_cell bkb 1
  have cb2 : w13.cell? ⟨w.heap.size + 1, 2, none⟩ = some (.string s2) := blk_cell bkb 2
  have cc0 : w13.cell? ⟨w.heap.size + 1 + 1, 0, none⟩ = some (.int .i64 k3) := blk_cell bkc 0
  have cc1 : w13.cell? ⟨w.heap.size + 1 + 1, 1, none⟩ = some (.int .i64 n3) := blk_cell bkc 1
  have cc2 : w13.cell? ⟨w.heap.size + 1 + 1, 2, none⟩ = some (.string s3) := blk_cell bkc 2
  have cx0 : w13.cell? ⟨w9.heap.size, 0, none⟩ = some (.int .i64 2) := blk_cell bkx 0
  have cx1 : w13.cell? ⟨w9.heap.size, 1, none⟩ = some (.int .i64 (bit bx)) := blk_cell bkx 1
  have cx2 : w13.cell? ⟨w9.heap.size, 2, none⟩ = some (.string ⟨#[]⟩) := blk_cell bkx 2
  have cy0 : w13.cell? ⟨w12.heap.size, 0, none⟩ = some (.int .i64 2) := blk_cell bky 0
  have cy1 : w13.cell? ⟨w12.heap.size, 1, none⟩ = some (.int .i64 (bit by_)) := blk_cell bky 1
  have cy2 : w13.cell? ⟨w12.heap.size, 2, none⟩ = some (.string ⟨#[]⟩) := blk_cell bky 2
  replace bka := blk_alloc bka (.cells #[.int .i64 k3, .int .i64 n3, .string s3] 24)
  replace bkb := blk_alloc bkb (.cells #[.int .i64 k3, .int .i64 n3, .string s3] 24)
  replace bkc := blk_alloc bkc (.cells #[.int .i64 k3, .int .i64 n3, .string s3] 24)
  replace bkx := blk_alloc bkx (.cells #[.int .i64 k3, .int .i64 n3, .string s3] 24)
  replace bky := blk_alloc bky (.cells #[.int .i64 k3, .int .i64 n3, .string s3] 24)
  have bkzt := blk_new w13 (.cells #[.int .i64 k3, .int .i64 n3, .string s3] 24)
  rw [hs13] at bkzt
  replace hb := hb.alloc hb.size (.cells #[.int .i64 k3, .int .i64 n3, .string s3] 24)
  clear ca0
  clear ca1
  clear ca2
  clear cb0
  clear cb1
  clear cb2
  clear cc0
  clear cc1
  clear cc2
  clear cx0
  clear cx1
  clear cx2
  clear cy0
  clear cy1
  clear cy2
  generalize w13.alloc (.cells #[.int .i64 k3, .int .i64 n3, .string s3] 24) = w14 at *
  have ca0 : w14.cell? ⟨w.heap.size, 0, none⟩ = some (.int .i64 k3) := blk_cell bka 0
  have ca1 : w14.cell? ⟨w.heap.size, 1, none⟩ = some (.int .i64 n1) := blk_cell bka 1
  have ca2 : w14.cell? ⟨w.heap.size, 2, none⟩ = some (.string s1) := blk_cell bka 2
  have cb0 : w14.cell? ⟨w.heap.size + 1, 0, none⟩ = some (.int .i64 k3) := blk_cell bkb 0
  have cb1 : w14.cell? ⟨w.heap.size + 1, 1, none⟩ = some (.int .i64 n2) := blk_cell bkb 1
  have cb2 : w14.cell? ⟨w.heap.size + 1, 2, none⟩ = some (.string s2) := blk_cell bkb 2
  have cc0 : w14.cell? ⟨w.heap.size + 1 + 1, 0, none⟩ = some (.int .i64 k3) := blk_cell bkc 0
  have cc1 : w14.cell? ⟨w.heap.size + 1 + 1, 1, none⟩ = some (.int .i64 n3) := blk_cell bkc 1
  have cc2 : w14.cell? ⟨w.heap.size + 1 + 1, 2, none⟩ = some (.string s3) := blk_cell bkc 2
  have cx0 : w14.cell? ⟨w9.heap.size, 0, none⟩ = some (.int .i64 2) := blk_cell bkx 0
  have cx1 : w14.cell? ⟨w9.heap.size, 1, none⟩ = some (.int .i64 (bit bx)) := blk_cell bkx 1
  have cx2 : w14.cell? ⟨w9.heap.size, 2, none⟩ = some (.string ⟨#[]⟩) := blk_cell bkx 2
  have cy0 : w14.cell? ⟨w12.heap.size, 0, none⟩ = some (.int .i64 2) := blk_cell bky 0
  have cy1 : w14.cell? ⟨w12.heap.size, 1, none⟩ = some (.int .i64 (bit by_)) := blk_cell bky 1
  have cy2 : w14.cell? ⟨w12.heap.size, 2, none⟩ = some (.string ⟨#[]⟩) := blk_cell bky 2
  have czt0 : w14.cell? ⟨w12.heap.size + 1, 0, none⟩ = some (.int .i64 k3) := blk_cell bkzt 0
  have czt1 : w14.cell? ⟨w12.heap.size + 1, 1, none⟩ = some (.int .i64 n3) := blk_cell bkzt 1
  have czt2 : w14.cell? ⟨w12.heap.size + 1, 2, none⟩ = some (.string s3) := blk_cell bkzt 2
  refine (val_Reckon.calls 20 8 k3 n1 s1 (some ⟨w12.heap.size + 1, 0, none⟩) 1 [⟨k3, n3, s3⟩] 2 (bit bz) ⟨#[]⟩ 0 _ (one_C bkzt) (Nat.le_refl _) RZ.out).mono ?_
  rintro e w15 ⟨rfl, h15⟩
  replace bka := blk_below bka h15
  replace bkb := blk_below bkb h15
  replace bkc := blk_below bkc h15
  replace bkx := blk_below bkx h15
  replace bky := blk_below bky h15
  replace bkzt := blk_below bkzt h15
  replace hb := hb.trans (h15.mono hb.size)
  clear ca0
  clear ca1
  clear ca2
  clear cb0
  clear cb1
  clear cb2
  clear cc0
  clear cc1
  clear cc2
  clear cx0
  clear cx1
  clear cx2
  clear cy0
  clear cy1
  clear cy2
  clear czt0
  clear czt1
  clear czt2
  have ca0 : w15.cell? ⟨w.heap.size, 0, none⟩ = some (.int .i64 k3) := blk_cell bka 0
  have ca1 : w15.cell? ⟨w.heap.size, 1, none⟩ = some (.int .i64 n1) := blk_cell bka 1
  have ca2 : w15.cell? ⟨w.heap.size, 2, none⟩ = some (.string s1) := blk_cell bka 2
  have cb0 : w15.cell? ⟨w.heap.size + 1, 0, none⟩ = some (.int .i64 k3) := blk_cell bkb 0
  have cb1 : w15.cell? ⟨w.heap.size + 1, 1, none⟩ = some (.int .i64 n2) := blk_cell bkb 1
  have cb2 : w15.cell? ⟨w.heap.size + 1, 2, none⟩ = some (.string s2) := blk_cell bkb 2
  have cc0 : w15.cell? ⟨w.heap.size + 1 + 1, 0, none⟩ = some (.int .i64 k3) := blk_cell bkc 0
  have cc1 : w15.cell? ⟨w.heap.size + 1 + 1, 1, none⟩ = some (.int .i64 n3) := blk_cell bkc 1
  have cc2 : w15.cell? ⟨w.heap.size + 1 + 1, 2, none⟩ = some (.string s3) := blk_cell bkc 2
  have cx0 : w15.cell? ⟨w9.heap.size, 0, none⟩ = some (.int .i64 2) := blk_cell bkx 0
  have cx1 : w15.cell? ⟨w9.heap.size, 1, none⟩ = some (.int .i64 (bit bx)) := blk_cell bkx 1
  have cx2 : w15.cell? ⟨w9.heap.size, 2, none⟩ = some (.string ⟨#[]⟩) := blk_cell bkx 2
  have cy0 : w15.cell? ⟨w12.heap.size, 0, none⟩ = some (.int .i64 2) := blk_cell bky 0
  have cy1 : w15.cell? ⟨w12.heap.size, 1, none⟩ = some (.int .i64 (bit by_)) := blk_cell bky 1
  have cy2 : w15.cell? ⟨w12.heap.size, 2, none⟩ = some (.string ⟨#[]⟩) := blk_cell bky 2
  have czt0 : w15.cell? ⟨w12.heap.size + 1, 0, none⟩ = some (.int .i64 k3) := blk_cell bkzt 0
  have czt1 : w15.cell? ⟨w12.heap.size + 1, 1, none⟩ = some (.int .i64 n3) := blk_cell bkzt 1
  have czt2 : w15.cell? ⟨w12.heap.size + 1, 2, none⟩ = some (.string s3) := blk_cell bkzt 2
  clear czt0
  clear czt1
  clear czt2
  clear bkzt
  replace bka := blk_alloc bka (.cells #[.int .i64 2, .int .i64 (bit bz), .string ⟨#[]⟩] 24)
  replace bkb := blk_alloc bkb (.cells #[.int .i64 2, .int .i64 (bit bz), .string ⟨#[]⟩] 24)
  replace bkc := blk_alloc bkc (.cells #[.int .i64 2, .int .i64 (bit bz), .string ⟨#[]⟩] 24)
  replace bkx := blk_alloc bkx (.cells #[.int .i64 2, .int .i64 (bit bz), .string ⟨#[]⟩] 24)
  replace bky := blk_alloc bky (.cells #[.int .i64 2, .int .i64 (bit bz), .string ⟨#[]⟩] 24)
  have bkz := blk_new w15 (.cells #[.int .i64 2, .int .i64 (bit bz), .string ⟨#[]⟩] 24)
  replace hb := hb.alloc hb.size (.cells #[.int .i64 2, .int .i64 (bit bz), .string ⟨#[]⟩] 24)
  have da0 : (w15.alloc (.cells #[.int .i64 2, .int .i64 (bit bz), .string ⟨#[]⟩] 24)).cell? ⟨w.heap.size, 0, none⟩ = some (.int .i64 k3) := blk_cell bka 0
  have da1 : (w15.alloc (.cells #[.int .i64 2, .int .i64 (bit bz), .string ⟨#[]⟩] 24)).cell? ⟨w.heap.size, 1, none⟩ = some (.int .i64 n1) := blk_cell bka 1
  have da2 : (w15.alloc (.cells #[.int .i64 2, .int .i64 (bit bz), .string ⟨#[]⟩] 24)).cell? ⟨w.heap.size, 2, none⟩ = some (.string s1) := blk_cell bka 2
  have db0 : (w15.alloc (.cells #[.int .i64 2, .int .i64 (bit bz), .string ⟨#[]⟩] 24)).cell? ⟨w.heap.size + 1, 0, none⟩ = some (.int .i64 k3) := blk_cell bkb 0
  have db1 : (w15.alloc (.cells #[.int .i64 2, .int .i64 (bit bz), .string ⟨#[]⟩] 24)).cell? ⟨w.heap.size + 1, 1, none⟩ = some (.int .i64 n2) := blk_cell bkb 1
  have db2 : (w15.alloc (.cells #[.int .i64 2, .int .i64 (bit bz), .string ⟨#[]⟩] 24)).cell? ⟨w.heap.size + 1, 2, none⟩ = some (.string s2) := blk_cell bkb 2
  have dc0 : (w15.alloc (.cells #[.int .i64 2, .int .i64 (bit bz), .string ⟨#[]⟩] 24)).cell? ⟨w.heap.size + 1 + 1, 0, none⟩ = some (.int .i64 k3) := blk_cell bkc 0
  have dc1 : (w15.alloc (.cells #[.int .i64 2, .int .i64 (bit bz), .string ⟨#[]⟩] 24)).cell? ⟨w.heap.size + 1 + 1, 1, none⟩ = some (.int .i64 n3) := blk_cell bkc 1
  have dc2 : (w15.alloc (.cells #[.int .i64 2, .int .i64 (bit bz), .string ⟨#[]⟩] 24)).cell? ⟨w.heap.size + 1 + 1, 2, none⟩ = some (.string s3) := blk_cell bkc 2
  have dx0 : (w15.alloc (.cells #[.int .i64 2, .int .i64 (bit bz), .string ⟨#[]⟩] 24)).cell? ⟨w9.heap.size, 0, none⟩ = some (.int .i64 2) := blk_cell bkx 0
  have dx1 : (w15.alloc (.cells #[.int .i64 2, .int .i64 (bit bz), .string ⟨#[]⟩] 24)).cell? ⟨w9.heap.size, 1, none⟩ = some (.int .i64 (bit bx)) := blk_cell bkx 1
  have dx2 : (w15.alloc (.cells #[.int .i64 2, .int .i64 (bit bz), .string ⟨#[]⟩] 24)).cell? ⟨w9.heap.size, 2, none⟩ = some (.string ⟨#[]⟩) := blk_cell bkx 2
  have dy0 : (w15.alloc (.cells #[.int .i64 2, .int .i64 (bit bz), .string ⟨#[]⟩] 24)).cell? ⟨w12.heap.size, 0, none⟩ = some (.int .i64 2) := blk_cell bky 0
  have dy1 : (w15.alloc (.cells #[.int .i64 2, .int .i64 (bit bz), .string ⟨#[]⟩] 24)).cell? ⟨w12.heap.size, 1, none⟩ = some (.int .i64 (bit by_)) := blk_cell bky 1
  have dy2 : (w15.alloc (.cells #[.int .i64 2, .int .i64 (bit bz), .string ⟨#[]⟩] 24)).cell? ⟨w12.heap.size, 2, none⟩ = some (.string ⟨#[]⟩) := blk_cell bky 2
  have dz0 : (w15.alloc (.cells #[.int .i64 2, .int .i64 (bit bz), .string ⟨#[]⟩] 24)).cell? ⟨w15.heap.size, 0, none⟩ = some (.int .i64 2) := blk_cell bkz 0
  have dz1 : (w15.alloc (.cells #[.int .i64 2, .int .i64 (bit bz), .string ⟨#[]⟩] 24)).cell? ⟨w15.heap.size, 1, none⟩ = some (.int .i64 (bit bz)) := blk_cell bkz 1
  have dz2 : (w15.alloc (.cells #[.int .i64 2, .int .i64 (bit bz), .string ⟨#[]⟩] 24)).cell? ⟨w15.heap.size, 2, none⟩ = some (.string ⟨#[]⟩) := blk_cell bkz 2
  go_wp2_with fail
  clear da0
  clear da1
  clear da2
  clear db0
  clear db1
  clear db2
  clear dc0
  clear dc1
  clear dc2
  clear dx0
  clear dx1
  clear dx2
  clear dy0
  clear dy1
  clear dy2
  clear dz0
  clear dz1
  clear dz2
  clear ca0
  clear ca1
  clear ca2
  clear cb0
  clear cb1
  clear cb2
  clear cc0
  clear cc1
  clear cc2
  clear cx0
  clear cx1
  clear cx2
  clear cy0
  clear cy1
  clear cy2
  have hs16 := size_alloc w15 (.cells #[.int .i64 2, .int .i64 (bit bz), .string ⟨#[]⟩] 24)
  generalize (w15.alloc (.cells #[.int .i64 2, .int .i64 (bit bz), .string ⟨#[]⟩] 24)) = w16 at *
  have ca0 : w16.cell? ⟨w.heap.size, 0, none⟩ = some (.int .i64 k3) := blk_cell bka 0
  have ca1 : w16.cell? ⟨w.heap.size, 1, none⟩ = some (.int .i64 n1) := blk_cell bka 1
  have ca2 : w16.cell? ⟨w.heap.size, 2, none⟩ = some (.string s1) := blk_cell bka 2
  have cb0 : w16.cell? ⟨w.heap.size + 1, 0, none⟩ = some (.int .i64 k3) := blk_cell bkb 0
  have cb1 : w16.cell? ⟨w.heap.size + 1, 1, none⟩ = some (.int .i64 n2) := blk_cell bkb 1
  have cb2 : w16.cell? ⟨w.heap.size + 1, 2, none⟩ = some (.string s2) := blk_cell bkb 2
  have cc0 : w16.cell? ⟨w.heap.size + 1 + 1, 0, none⟩ = some (.int .i64 k3) := blk_cell bkc 0
  have cc1 : w16.cell? ⟨w.heap.size + 1 + 1, 1, none⟩ = some (.int .i64 n3) := blk_cell bkc 1
  have cc2 : w16.cell? ⟨w.heap.size + 1 + 1, 2, none⟩ = some (.string s3) := blk_cell bkc 2
  have cx0 : w16.cell? ⟨w9.heap.size, 0, none⟩ = some (.int .i64 2) := blk_cell bkx 0
  have cx1 : w16.cell? ⟨w9.heap.size, 1, none⟩ = some (.int .i64 (bit bx)) := blk_cell bkx 1
  have cx2 : w16.cell? ⟨w9.heap.size, 2, none⟩ = some (.string ⟨#[]⟩) := blk_cell bkx 2
  have cy0 : w16.cell? ⟨w12.heap.size, 0, none⟩ = some (.int .i64 2) := blk_cell bky 0
  have cy1 : w16.cell? ⟨w12.heap.size, 1, none⟩ = some (.int .i64 (bit by_)) := blk_cell bky 1
  have cy2 : w16.cell? ⟨w12.heap.size, 2, none⟩ = some (.string ⟨#[]⟩) := blk_cell bky 2
  have cz0 : w16.cell? ⟨w15.heap.size, 0, none⟩ = some (.int .i64 2) := blk_cell bkz 0
  have cz1 : w16.cell? ⟨w15.heap.size, 1, none⟩ = some (.int .i64 (bit bz)) := blk_cell bkz 1
  have cz2 : w16.cell? ⟨w15.heap.size, 2, none⟩ = some (.string ⟨#[]⟩) := blk_cell bkz 2
  replace bka := blk_alloc bka (.cells #[.int .i64 k3, .int .i64 n2, .string s2] 24)
  replace bkb := blk_alloc bkb (.cells #[.int .i64 k3, .int .i64 n2, .string s2] 24)
  replace bkc := blk_alloc bkc (.cells #[.int .i64 k3, .int .i64 n2, .string s2] 24)
  replace bkx := blk_alloc bkx (.cells #[.int .i64 k3, .int .i64 n2, .string s2] 24)
  replace bky := blk_alloc bky (.cells #[.int .i64 k3, .int .i64 n2, .string s2] 24)
  replace bkz := blk_alloc bkz (.cells #[.int .i64 k3, .int .i64 n2, .string s2] 24)
  have bkqt := blk_new w16 (.cells #[.int .i64 k3, .int .i64 n2, .string s2] 24)
  rw [hs16] at bkqt
  replace hb := hb.alloc hb.size (.cells #[.int .i64 k3, .int .i64 n2, .string s2] 24)
  clear ca0
  clear ca1
  clear ca2
  clear cb0
  clear cb1
  clear cb2
  clear cc0
  clear cc1
  clear cc2
  clear cx0
  clear cx1
  clear cx2
  clear cy0
  clear cy1
  clear cy2
  clear cz0
  clear cz1
  clear cz2
  generalize w16.alloc (.cells #[.int .i64 k3, .int .i64 n2, .string s2] 24) = w17 at *
  have ca0 : w17.cell? ⟨w.heap.size, 0, none⟩ = some (.int .i64 k3) := blk_cell bka 0
  have ca1 : w17.cell? ⟨w.heap.size, 1, none⟩ = some (.int .i64 n1) := blk_cell bka 1
  have ca2 : w17.cell? ⟨w.heap.size, 2, none⟩ = some (.string s1) := blk_cell bka 2
  have cb0 : w17.cell? ⟨w.heap.size + 1, 0, none⟩ = some (.int .i64 k3) := blk_cell bkb 0
  have cb1 : w17.cell? ⟨w.heap.size + 1, 1, none⟩ = some (.int .i64 n2) := blk_cell bkb 1
  have cb2 : w17.cell? ⟨w.heap.size + 1, 2, none⟩ = some (.string s2) := blk_cell bkb 2
  have cc0 : w17.cell? ⟨w.heap.size + 1 + 1, 0, none⟩ = some (.int .i64 k3) := blk_cell bkc 0
  have cc1 : w17.cell? ⟨w.heap.size + 1 + 1, 1, none⟩ = some (.int .i64 n3) := blk_cell bkc 1
  have cc2 : w17.cell? ⟨w.heap.size + 1 + 1, 2, none⟩ = some (.string s3) := blk_cell bkc 2
  have cx0 : w17.cell? ⟨w9.heap.size, 0, none⟩ = some (.int .i64 2) := blk_cell bkx 0
  have cx1 : w17.cell? ⟨w9.heap.size, 1, none⟩ = some (.int .i64 (bit bx)) := blk_cell bkx 1
  have cx2 : w17.cell? ⟨w9.heap.size, 2, none⟩ = some (.string ⟨#[]⟩) := blk_cell bkx 2
  have cy0 : w17.cell? ⟨w12.heap.size, 0, none⟩ = some (.int .i64 2) := blk_cell bky 0
  have cy1 : w17.cell? ⟨w12.heap.size, 1, none⟩ = some (.int .i64 (bit by_)) := blk_cell bky 1
  have cy2 : w17.cell? ⟨w12.heap.size, 2, none⟩ = some (.string ⟨#[]⟩) := blk_cell bky 2
  have cz0 : w17.cell? ⟨w15.heap.size, 0, none⟩ = some (.int .i64 2) := blk_cell bkz 0
  have cz1 : w17.cell? ⟨w15.heap.size, 1, none⟩ = some (.int .i64 (bit bz)) := blk_cell bkz 1
  have cz2 : w17.cell? ⟨w15.heap.size, 2, none⟩ = some (.string ⟨#[]⟩) := blk_cell bkz 2
  have cqt0 : w17.cell? ⟨w15.heap.size + 1, 0, none⟩ = some (.int .i64 k3) := blk_cell bkqt 0
  have cqt1 : w17.cell? ⟨w15.heap.size + 1, 1, none⟩ = some (.int .i64 n2) := blk_cell bkqt 1
  have cqt2 : w17.cell? ⟨w15.heap.size + 1, 2, none⟩ = some (.string s2) := blk_cell bkqt 2
  refine (val_Reckon.calls 20 10 k3 n1 s1 (some ⟨w15.heap.size + 1, 0, none⟩) 1 [⟨k3, n2, s2⟩] 2 (bit bw) ⟨#[]⟩ 0 _ (one_C bkqt) (Nat.le_refl _) RW.out).mono ?_
  rintro e w18 ⟨rfl, h18⟩
  replace bka := blk_below bka h18
  replace bkb := blk_below bkb h18
  replace bkc := blk_below bkc h18
  replace bkx := blk_below bkx h18
  replace bky := blk_below bky h18
  replace bkz := blk_below bkz h18
  replace bkqt := blk_below bkqt h18
  replace hb := hb.trans (h18.mono hb.size)
  clear ca0
  clear ca1
  clear ca2
  clear cb0
  clear cb1
  clear cb2
  clear cc0
  clear cc1
  clear cc2
  clear cx0
  clear cx1
  clear cx2
  clear cy0
  clear cy1
  clear cy2
  clear cz0
  clear cz1
  clear cz2
  clear cqt0
  clear cqt1
  clear cqt2
  have ca0 : w18.cell? ⟨w.heap.size, 0, none⟩ = some (.int .i64 k3) := blk_cell bka 0
  have ca1 : w18.cell? ⟨w.heap.size, 1, none⟩ = some (.int .i64 n1) := blk_cell bka 1
  have ca2 : w18.cell? ⟨w.heap.size, 2, none⟩ = some (.string s1) := blk_cell bka 2
  have cb0 : w18.cell? ⟨w.heap.size + 1, 0, none⟩ = some (.int .i64 k3) := blk_cell bkb 0
  have cb1 : w18.cell? ⟨w.heap.size + 1, 1, none⟩ = some (.int .i64 n2) := blk_cell bkb 1
  have cb2 : w18.cell? ⟨w.heap.size + 1, 2, none⟩ = some (.string s2) := blk_cell bkb 2
  have cc0 : w18.cell? ⟨w.heap.size + 1 + 1, 0, none⟩ = some (.int .i64 k3) := blk_cell bkc 0
  have cc1 : w18.cell? ⟨w.heap.size + 1 + 1, 1, none⟩ = some (.int .i64 n3) := blk_cell bkc 1
  have cc2 : w18.cell? ⟨w.heap.size + 1 + 1, 2, none⟩ = some (.string s3) := blk_cell bkc 2
  have cx0 : w18.cell? ⟨w9.heap.size, 0, none⟩ = some (.int .i64 2) := blk_cell bkx 0
  have cx1 : w18.cell? ⟨w9.heap.size, 1, none⟩ = some (.int .i64 (bit bx)) := blk_cell bkx 1
  have cx2 : w18.cell? ⟨w9.heap.size, 2, none⟩ = some (.string ⟨#[]⟩) := blk_cell bkx 2
  have cy0 : w18.cell? ⟨w12.heap.size, 0, none⟩ = some (.int .i64 2) := blk_cell bky 0
  have cy1 : w18.cell? ⟨w12.heap.size, 1, none⟩ = some (.int .i64 (bit by_)) := blk_cell bky 1
  have cy2 : w18.cell? ⟨w12.heap.size, 2, none⟩ = some (.string ⟨#[]⟩) := blk_cell bky 2
  have cz0 : w18.cell? ⟨w15.heap.size, 0, none⟩ = some (.int .i64 2) := blk_cell bkz 0
  have cz1 : w18.cell? ⟨w15.heap.size, 1, none⟩ = some (.int .i64 (bit bz)) := blk_cell bkz 1
  have cz2 : w18.cell? ⟨w15.heap.size, 2, none⟩ = some (.string ⟨#[]⟩) := blk_cell bkz 2
  have cqt0 : w18.cell? ⟨w15.heap.size + 1, 0, none⟩ = some (.int .i64 k3) := blk_cell bkqt 0
  have cqt1 : w18.cell? ⟨w15.heap.size + 1, 1, none⟩ = some (.int .i64 n2) := blk_cell bkqt 1
  have cqt2 : w18.cell? ⟨w15.heap.size + 1, 2, none⟩ = some (.string s2) := blk_cell bkqt 2
  clear cqt0
  clear cqt1
  clear cqt2
  clear bkqt
  replace bka := blk_alloc bka (.cells #[.int .i64 2, .int .i64 (bit bw), .string ⟨#[]⟩] 24)
  replace bkb := blk_alloc bkb (.cells #[.int .i64 2, .int .i64 (bit bw), .string ⟨#[]⟩] 24)
  replace bkc := blk_alloc bkc (.cells #[.int .i64 2, .int .i64 (bit bw), .string ⟨#[]⟩] 24)
  replace bkx := blk_alloc bkx (.cells #[.int .i64 2, .int .i64 (bit bw), .string ⟨#[]⟩] 24)
  replace bky := blk_alloc bky (.cells #[.int .i64 2, .int .i64 (bit bw), .string ⟨#[]⟩] 24)
  replace bkz := blk_alloc bkz (.cells #[.int .i64 2, .int .i64 (bit bw), .string ⟨#[]⟩] 24)
  have bkq := blk_new w18 (.cells #[.int .i64 2, .int .i64 (bit bw), .string ⟨#[]⟩] 24)
  replace hb := hb.alloc hb.size (.cells #[.int .i64 2, .int .i64 (bit bw), .string ⟨#[]⟩] 24)
  have da0 : (w18.alloc (.cells #[.int .i64 2, .int .i64 (bit bw), .string ⟨#[]⟩] 24)).cell? ⟨w.heap.size, 0, none⟩ = some (.int .i64 k3) := blk_cell bka 0
  have da1 : (w18.alloc (.cells #[.int .i64 2, .int .i64 (bit bw), .string ⟨#[]⟩] 24)).cell? ⟨w.heap.size, 1, none⟩ = some (.int .i64 n1) := blk_cell bka 1
  have da2 : (w18.alloc (.cells #[.int .i64 2, .int .i64 (bit bw), .string ⟨#[]⟩] 24)).cell? ⟨w.heap.size, 2, none⟩ = some (.string s1) := blk_cell bka 2
  have db0 : (w18.alloc (.cells #[.int .i64 2, .int .i64 (bit bw), .string ⟨#[]⟩] 24)).cell? ⟨w.heap.size + 1, 0, none⟩ = some (.int .i64 k3) := blk_cell bkb 0
  have db1 : (w18.alloc (.cells #[.int .i64 2, .int .i64 (bit bw), .string ⟨#[]⟩] 24)).cell? ⟨w.heap.size + 1, 1, none⟩ = some (.int .i64 n2) := blk_cell bkb 1
  have db2 : (w18.alloc (.cells #[.int .i64 2, .int .i64 (bit bw), .string ⟨#[]⟩] 24)).cell? ⟨w.heap.size + 1, 2, none⟩ = some (.string s2) := blk_cell bkb 2
  have dc0 : (w18.alloc (.cells #[.int .i64 2, .int .i64 (bit bw), .string ⟨#[]⟩] 24)).cell? ⟨w.heap.size + 1 + 1, 0, none⟩ = some (.int .i64 k3) := blk_cell bkc 0
  have dc1 : (w18.alloc (.cells #[.int .i64 2, .int .i64 (bit bw), .string ⟨#[]⟩] 24)).cell? ⟨w.heap.size + 1 + 1, 1, none⟩ = some (.int .i64 n3) := blk_cell bkc 1
  have dc2 : (w18.alloc (.cells #[.int .i64 2, .int .i64 (bit bw), .string ⟨#[]⟩] 24)).cell? ⟨w.heap.size + 1 + 1, 2, none⟩ = some (.string s3) := blk_cell bkc 2
  have dx0 : (w18.alloc (.cells #[.int .i64 2, .int .i64 (bit bw), .string ⟨#[]⟩] 24)).cell? ⟨w9.heap.size, 0, none⟩ = some (.int .i64 2) := blk_cell bkx 0
  have dx1 : (w18.alloc (.cells #[.int .i64 2, .int .i64 (bit bw), .string ⟨#[]⟩] 24)).cell? ⟨w9.heap.size, 1, none⟩ = some (.int .i64 (bit bx)) := blk_cell bkx 1
  have dx2 : (w18.alloc (.cells #[.int .i64 2, .int .i64 (bit bw), .string ⟨#[]⟩] 24)).cell? ⟨w9.heap.size, 2, none⟩ = some (.string ⟨#[]⟩) := blk_cell bkx 2
  have dy0 : (w18.alloc (.cells #[.int .i64 2, .int .i64 (bit bw), .string ⟨#[]⟩] 24)).cell? ⟨w12.heap.size, 0, none⟩ = some (.int .i64 2) := blk_cell bky 0
  have dy1 : (w18.alloc (.cells #[.int .i64 2, .int .i64 (bit bw), .string ⟨#[]⟩] 24)).cell? ⟨w12.heap.size, 1, none⟩ = some (.int .i64 (bit by_)) := blk_cell bky 1
  have dy2 : (w18.alloc (.cells #[.int .i64 2, .int .i64 (bit bw), .string ⟨#[]⟩] 24)).cell? ⟨w12.heap.size, 2, none⟩ = some (.string ⟨#[]⟩) := blk_cell bky 2
  have dz0 : (w18.alloc (.cells #[.int .i64 2, .int .i64 (bit bw), .string ⟨#[]⟩] 24)).cell? ⟨w15.heap.size, 0, none⟩ = some (.int .i64 2) := blk_cell bkz 0
  have dz1 : (w18.alloc (.cells #[.int .i64 2, .int .i64 (bit bw), .string ⟨#[]⟩] 24)).cell? ⟨w15.heap.size, 1, none⟩ = some (.int .i64 (bit bz)) := blk_cell bkz 1
  have dz2 : (w18.alloc (.cells #[.int .i64 2, .int .i64 (bit bw), .string ⟨#[]⟩] 24)).cell? ⟨w15.heap.size, 2, none⟩ = some (.string ⟨#[]⟩) := blk_cell bkz 2
  have dq0 : (w18.alloc (.cells #[.int .i64 2, .int .i64 (bit bw), .string ⟨#[]⟩] 24)).cell? ⟨w18.heap.size, 0, none⟩ = some (.int .i64 2) := blk_cell bkq 0
  have dq1 : (w18.alloc (.cells #[.int .i64 2, .int .i64 (bit bw), .string ⟨#[]⟩] 24)).cell? ⟨w18.heap.size, 1, none⟩ = some (.int .i64 (bit bw)) := blk_cell bkq 1
  have dq2 : (w18.alloc (.cells #[.int .i64 2, .int .i64 (bit bw), .string ⟨#[]⟩] 24)).cell? ⟨w18.heap.size, 2, none⟩ = some (.string ⟨#[]⟩) := blk_cell bkq 2
  go_wp2_with fail
  clear da0
  clear da1
  clear da2
  clear db0
  clear db1
  clear db2
  clear dc0
  clear dc1
  clear dc2
  clear dx0
  clear dx1
  clear dx2
  clear dy0
  clear dy1
  clear dy2
  clear dz0
  clear dz1
  clear dz2
  clear dq0
  clear dq1
  clear dq2
  clear ca0
  clear ca1
  clear ca2
  clear cb0
  clear cb1
  clear cb2
  clear cc0
  clear cc1
  clear cc2
  clear cx0
  clear cx1
  clear cx2
  clear cy0
  clear cy1
  clear cy2
  clear cz0
  clear cz1
  clear cz2
  have hs19 := size_alloc w18 (.cells #[.int .i64 2, .int .i64 (bit bw), .string ⟨#[]⟩] 24)
  generalize (w18.alloc (.cells #[.int .i64 2, .int .i64 (bit bw), .string ⟨#[]⟩] 24)) = w19 at *
  have ca0 : w19.cell? ⟨w.heap.size, 0, none⟩ = some (.int .i64 k3) := blk_cell bka 0
  have ca1 : w19.cell? ⟨w.heap.size, 1, none⟩ = some (.int .i64 n1) := blk_cell bka 1
  have ca2 : w19.cell? ⟨w.heap.size, 2, none⟩ = some (.string s1) := blk_cell bka 2
  have cb0 : w19.cell? ⟨w.heap.size + 1, 0, none⟩ = some (.int .i64 k3) := blk_cell bkb 0
  have cb1 : w19.cell? ⟨w.heap.size + 1, 1, none⟩ = some (.int .i64 n2) := blk_cell bkb 1
  have cb2 : w19.cell? ⟨w.heap.size + 1, 2, none⟩ = some (.string s2) := blk_cell bkb 2
  have cc0 : w19.cell? ⟨w.heap.size + 1 + 1, 0, none⟩ = some (.int .i64 k3) := blk_cell bkc 0
  have cc1 : w19.cell? ⟨w.heap.size + 1 + 1, 1, none⟩ = some (.int .i64 n3) := blk_cell bkc 1
  have cc2 : w19.cell? ⟨w.heap.size + 1 + 1, 2, none⟩ = some (.string s3) := blk_cell bkc 2
  have cx0 : w19.cell? ⟨w9.heap.size, 0, none⟩ = some (.int .i64 2) := blk_cell bkx 0
  have cx1 : w19.cell? ⟨w9.heap.size, 1, none⟩ = some (.int .i64 (bit bx)) := blk_cell bkx 1
  have cx2 : w19.cell? ⟨w9.heap.size, 2, none⟩ = some (.string ⟨#[]⟩) := blk_cell bkx 2
  have cy0 : w19.cell? ⟨w12.heap.size, 0, none⟩ = some (.int .i64 2) := blk_cell bky 0
  have cy1 : w19.cell? ⟨w12.heap.size, 1, none⟩ = some (.int .i64 (bit by_)) := blk_cell bky 1
  have cy2 : w19.cell? ⟨w12.heap.size, 2, none⟩ = some (.string ⟨#[]⟩) := blk_cell bky 2
  have cz0 : w19.cell? ⟨w15.heap.size, 0, none⟩ = some (.int .i64 2) := blk_cell bkz 0
  have cz1 : w19.cell? ⟨w15.heap.size, 1, none⟩ = some (.int .i64 (bit bz)) := blk_cell bkz 1
  have cz2 : w19.cell? ⟨w15.heap.size, 2, none⟩ = some (.string ⟨#[]⟩) := blk_cell bkz 2
  have cq0 : w19.cell? ⟨w18.heap.size, 0, none⟩ = some (.int .i64 2) := blk_cell bkq 0
  have cq1 : w19.cell? ⟨w18.heap.size, 1, none⟩ = some (.int .i64 (bit bw)) := blk_cell bkq 1
  have cq2 : w19.cell? ⟨w18.heap.size, 2, none⟩ = some (.string ⟨#[]⟩) := blk_cell bkq 2
  replace bka := blk_alloc bka (.cells #[.int .i64 k3, .int .i64 n2, .string s2] 24)
  replace bkb := blk_alloc bkb (.cells #[.int .i64 k3, .int .i64 n2, .string s2] 24)
  replace bkc := blk_alloc bkc (.cells #[.int .i64 k3, .int .i64 n2, .string s2] 24)
  replace bkx := blk_alloc bkx (.cells #[.int .i64 k3, .int .i64 n2, .string s2] 24)
  replace bky := blk_alloc bky (.cells #[.int .i64 k3, .int .i64 n2, .string s2] 24)
  replace bkz := blk_alloc bkz (.cells #[.int .i64 k3, .int .i64 n2, .string s2] 24)
  replace bkq := blk_alloc bkq (.cells #[.int .i64 k3, .int .i64 n2, .string s2] 24)
  have bkst := blk_new w19 (.cells #[.int .i64 k3, .int .i64 n2, .string s2] 24)
  rw [hs19] at bkst
  replace hb := hb.alloc hb.size (.cells #[.int .i64 k3, .int .i64 n2, .string s2] 24)
  clear ca0
  clear ca1
  clear ca2
  clear cb0
  clear cb1
  clear cb2
  clear cc0
  clear cc1
  clear cc2
  clear cx0
  clear cx1
  clear cx2
  clear cy0
  clear cy1
  clear cy2
  clear cz0
  clear cz1
  clear cz2
  clear cq0
  clear cq1
  clear cq2
  generalize w19.alloc (.cells #[.int .i64 k3, .int .i64 n2, .string s2] 24) = w20 at *
  have ca0 : w20.cell? ⟨w.heap.size, 0, none⟩ = some (.int .i64 k3) := blk_cell bka 0
  have ca1 : w20.cell? ⟨w.heap.size, 1, none⟩ = some (.int .i64 n1) := blk_cell bka 1
  have ca2 : w20.cell? ⟨w.heap.size, 2, none⟩ = some (.string s1) := blk_cell bka 2
  have cb0 : w20.cell? ⟨w.heap.size + 1, 0, none⟩ = some (.int .i64 k3) := blk_cell bkb 0
  have cb1 : w20.cell? ⟨w.heap.size + 1, 1, none⟩ = some (.int .i64 n2) := blk_cell bkb 1
  have cb2 : w20.cell? ⟨w.heap.size + 1, 2, none⟩ = some (.string s2) := blk_cell bkb 2
  have cc0 : w20.cell? ⟨w.heap.size + 1 + 1, 0, none⟩ = some (.int .i64 k3) := blk_cell bkc 0
  have cc1 : w20.cell? ⟨w.heap.size + 1 + 1, 1, none⟩ = some (.int .i64 n3) := blk_cell bkc 1
  have cc2 : w20.cell? ⟨w.heap.size + 1 + 1, 2, none⟩ = some (.string s3) := blk_cell bkc 2
  have cx0 : w20.cell? ⟨w9.heap.size, 0, none⟩ = some (.int .i64 2) := blk_cell bkx 0
  have cx1 : w20.cell? ⟨w9.heap.size, 1, none⟩ = some (.int .i64 (bit bx)) := blk_cell bkx 1
  have cx2 : w20.cell? ⟨w9.heap.size, 2, none⟩ = some (.string ⟨#[]⟩) := blk_cell bkx 2
  have cy0 : w20.cell? ⟨w12.heap.size, 0, none⟩ = some (.int .i64 2) := blk_cell bky 0
  have cy1 : w20.cell? ⟨w12.heap.size, 1, none⟩ = some (.int .i64 (bit by_)) := blk_cell bky 1
  have cy2 : w20.cell? ⟨w12.heap.size, 2, none⟩ = some (.string ⟨#[]⟩) := blk_cell bky 2
  have cz0 : w20.cell? ⟨w15.heap.size, 0, none⟩ = some (.int .i64 2) := blk_cell bkz 0
  have cz1 : w20.cell? ⟨w15.heap.size, 1, none⟩ = some (.int .i64 (bit bz)) := blk_cell bkz 1
  have cz2 : w20.cell? ⟨w15.heap.size, 2, none⟩ = some (.string ⟨#[]⟩) := blk_cell bkz 2
  have cq0 : w20.cell? ⟨w18.heap.size, 0, none⟩ = some (.int .i64 2) := blk_cell bkq 0
  have cq1 : w20.cell? ⟨w18.heap.size, 1, none⟩ = some (.int .i64 (bit bw)) := blk_cell bkq 1
  have cq2 : w20.cell? ⟨w18.heap.size, 2, none⟩ = some (.string ⟨#[]⟩) := blk_cell bkq 2
  have cst0 : w20.cell? ⟨w18.heap.size + 1, 0, none⟩ = some (.int .i64 k3) := blk_cell bkst 0
  have cst1 : w20.cell? ⟨w18.heap.size + 1, 1, none⟩ = some (.int .i64 n2) := blk_cell bkst 1
  have cst2 : w20.cell? ⟨w18.heap.size + 1, 2, none⟩ = some (.string s2) := blk_cell bkst 2
  refine (val_Reckon.calls 20 12 k3 n1 s1 (some ⟨w18.heap.size + 1, 0, none⟩) 1 [⟨k3, n2, s2⟩] 2 (bit bs) ⟨#[]⟩ 0 _ (one_C bkst) (Nat.le_refl _) RS.out).mono ?_
  rintro e w21 ⟨rfl, h21⟩
  replace bka := blk_below bka h21
  replace bkb := blk_below bkb h21
  replace bkc := blk_below bkc h21
  replace bkx := blk_below bkx h21
  replace bky := blk_below bky h21
  replace bkz := blk_below bkz h21
  replace bkq := blk_below bkq h21
  replace bkst := blk_below bkst h21
  replace hb := hb.trans (h21.mono hb.size)
  clear ca0
  clear ca1
  clear ca2
  clear cb0
  clear cb1
  clear cb2
  clear cc0
  clear cc1
  clear cc2
  clear cx0
  clear cx1
  clear cx2
  clear cy0
  clear cy1
  clear cy2
  clear cz0
  clear cz1
  clear cz2
  clear cq0
  clear cq1
  clear cq2
  clear cst0
  clear cst1
  clear cst2
  have ca0 : w21.cell? ⟨w.heap.size, 0, none⟩ = some (.int .i64 k3) := blk_cell bka 0
  have ca1 : w21.cell? ⟨w.heap.size, 1, none⟩ = some (.int .i64 n1) := blk_cell bka 1
  have ca2 : w21.cell? ⟨w.heap.size, 2, none⟩ = some (.string s1) := blk_cell bka 2
  have cb0 : w21.cell? ⟨w.heap.size + 1, 0, none⟩ = some (.int .i64 k3) := blk_cell bkb 0
  have cb1 : w21.cell? ⟨w.heap.size + 1, 1, none⟩ = some (.int .i64 n2) := blk_cell bkb 1
  have cb2 : w21.cell? ⟨w.heap.size + 1, 2, none⟩ = some (.string s2) := blk_cell bkb 2
  have cc0 : w21.cell? ⟨w.heap.size + 1 + 1, 0, none⟩ = some (.int .i64 k3) := blk_cell bkc 0
  have cc1 : w21.cell? ⟨w.heap.size + 1 + 1, 1, none⟩ = some (.int .i64 n3) := blk_cell bkc 1
  have cc2 : w21.cell? ⟨w.heap.size + 1 + 1, 2, none⟩ = some (.string s3) := blk_cell bkc 2
  have cx0 : w21.cell? ⟨w9.heap.size, 0, none⟩ = some (.int .i64 2) := blk_cell bkx 0
  have cx1 : w21.cell? ⟨w9.heap.size, 1, none⟩ = some (.int .i64 (bit bx)) := blk_cell bkx 1
  have cx2 : w21.cell? ⟨w9.heap.size, 2, none⟩ = some (.string ⟨#[]⟩) := blk_cell bkx 2
  have cy0 : w21.cell? ⟨w12.heap.size, 0, none⟩ = some (.int .i64 2) := blk_cell bky 0
  have cy1 : w21.cell? ⟨w12.heap.size, 1, none⟩ = some (.int .i64 (bit by_)) := blk_cell bky 1
  have cy2 : w21.cell? ⟨w12.heap.size, 2, none⟩ = some (.string ⟨#[]⟩) := blk_cell bky 2
  have cz0 : w21.cell? ⟨w15.heap.size, 0, none⟩ = some (.int .i64 2) := blk_cell bkz 0
  have cz1 : w21.cell? ⟨w15.heap.size, 1, none⟩ = some (.int .i64 (bit bz)) := blk_cell bkz 1
  have cz2 : w21.cell? ⟨w15.heap.size, 2, none⟩ = some (.string ⟨#[]⟩) := blk_cell bkz 2
  have cq0 : w21.cell? ⟨w18.heap.size, 0, none⟩ = some (.int .i64 2) := blk_cell bkq 0
  have cq1 : w21.cell? ⟨w18.heap.size, 1, none⟩ = some (.int .i64 (bit bw)) := blk_cell bkq 1
  have cq2 : w21.cell? ⟨w18.heap.size, 2, none⟩ = some (.string ⟨#[]⟩) := blk_cell bkq 2
  have cst0 : w21.cell? ⟨w18.heap.size + 1, 0, none⟩ = some (.int .i64 k3) := blk_cell bkst 0
  have cst1 : w21.cell? ⟨w18.heap.size + 1, 1, none⟩ = some (.int .i64 n2) := blk_cell bkst 1
  have cst2 : w21.cell? ⟨w18.heap.size + 1, 2, none⟩ = some (.string s2) := blk_cell bkst 2
  clear cst0
  clear cst1
  clear cst2
  clear bkst
  replace bka := blk_alloc bka (.cells #[.int .i64 2, .int .i64 (bit bs), .string ⟨#[]⟩] 24)
  replace bkb := blk_alloc bkb (.cells #[.int .i64 2, .int .i64 (bit bs), .string ⟨#[]⟩] 24)
  replace bkc := blk_alloc bkc (.cells #[.int .i64 2, .int .i64 (bit bs), .string ⟨#[]⟩] 24)
  replace bkx := blk_alloc bkx (.cells #[.int .i64 2, .int .i64 (bit bs), .string ⟨#[]⟩] 24)
  replace bky := blk_alloc bky (.cells #[.int .i64 2, .int .i64 (bit bs), .string ⟨#[]⟩] 24)
  replace bkz := blk_alloc bkz (.cells #[.int .i64 2, .int .i64 (bit bs), .string ⟨#[]⟩] 24)
  replace bkq := blk_alloc bkq (.cells #[.int .i64 2, .int .i64 (bit bs), .string ⟨#[]⟩] 24)
  have bks := blk_new w21 (.cells #[.int .i64 2, .int .i64 (bit bs), .string ⟨#[]⟩] 24)
  replace hb := hb.alloc hb.size (.cells #[.int .i64 2, .int .i64 (bit bs), .string ⟨#[]⟩] 24)
  have da0 : (w21.alloc (.cells #[.int .i64 2, .int .i64 (bit bs), .string ⟨#[]⟩] 24)).cell? ⟨w.heap.size, 0, none⟩ = some (.int .i64 k3) := blk_cell bka 0
  have da1 : (w21.alloc (.cells #[.int .i64 2, .int .i64 (bit bs), .string ⟨#[]⟩] 24)).cell? ⟨w.heap.size, 1, none⟩ = some (.int .i64 n1) := blk_cell bka 1
  have da2 : (w21.alloc (.cells #[.int .i64 2, .int .i64 (bit bs), .string ⟨#[]⟩] 24)).cell? ⟨w.heap.size, 2, none⟩ = some (.string s1) := blk_cell bka 2
  have db0 : (w21.alloc (.cells #[.int .i64 2, .int .i64 (bit bs), .string ⟨#[]⟩] 24)).cell? ⟨w.heap.size + 1, 0, none⟩ = some (.int .i64 k3) := blk_cell bkb 0
  have db1 : (w21.alloc (.cells #[.int .i64 2, .int .i64 (bit bs), .string ⟨#[]⟩] 24)).cell? ⟨w.heap.size + 1, 1, none⟩ = some (.int .i64 n2) := blk_cell bkb 1
  have db2 : (w21.alloc (.cells #[.int .i64 2, .int .i64 (bit bs), .string ⟨#[]⟩] 24)).cell? ⟨w.heap.size + 1, 2, none⟩ = some (.string s2) := blk_cell bkb 2
  have dc0 : (w21.alloc (.cells #[.int .i64 2, .int .i64 (bit bs), .string ⟨#[]⟩] 24)).cell? ⟨w.heap.size + 1 + 1, 0, none⟩ = some (.int .i64 k3) := blk_cell bkc 0
  have dc1 : (w21.alloc (.cells #[.int .i64 2, .int .i64 (bit bs), .string ⟨#[]⟩] 24)).cell? ⟨w.heap.size + 1 + 1, 1, none⟩ = some (.int .i64 n3) := blk_cell bkc 1
  have dc2 : (w21.alloc (.cells #[.int .i64 2, .int .i64 (bit bs), .string ⟨#[]⟩] 24)).cell? ⟨w.heap.size + 1 + 1, 2, none⟩ = some (.string s3) := blk_cell bkc 2
  have dx0 : (w21.alloc (.cells #[.int .i64 2, .int .i64 (bit bs), .string ⟨#[]⟩] 24)).cell? ⟨w9.heap.size, 0, none⟩ = some (.int .i64 2) := blk_cell bkx 0
  have dx1 : (w21.alloc (.cells #[.int .i64 2, .int .i64 (bit bs), .string ⟨#[]⟩] 24)).cell? ⟨w9.heap.size, 1, none⟩ = some (.int .i64 (bit bx)) := blk_cell bkx 1
  have dx2 : (w21.alloc (.cells #[.int .i64 2, .int .i64 (bit bs), .string ⟨#[]⟩] 24)).cell? ⟨w9.heap.size, 2, none⟩ = some (.string ⟨#[]⟩) := blk_cell bkx 2
  have dy0 : (w21.alloc (.cells #[.int .i64 2, .int .i64 (bit bs), .string ⟨#[]⟩] 24)).cell? ⟨w12.heap.size, 0, none⟩ = some (.int .i64 2) := blk_cell bky 0
  have dy1 : (w21.alloc (.cells #[.int .i64 2, .int .i64 (bit bs), .string ⟨#[]⟩] 24)).cell? ⟨w12.heap.size, 1, none⟩ = some (.int .i64 (bit by_)) := blk_cell bky 1
  have dy2 : (w21.alloc (.cells #[.int .i64 2, .int .i64 (bit bs), .string ⟨#[]⟩] 24)).cell? ⟨w12.heap.size, 2, none⟩ = some (.string ⟨#[]⟩) := blk_cell bky 2
  have dz0 : (w21.alloc (.cells #[.int .i64 2, .int .i64 (bit bs), .string ⟨#[]⟩] 24)).cell? ⟨w15.heap.size, 0, none⟩ = some (.int .i64 2) := blk_cell bkz 0
  have dz1 : (w21.alloc (.cells #[.int .i64 2, .int .i64 (bit bs), .string ⟨#[]⟩] 24)).cell? ⟨w15.heap.size, 1, none⟩ = some (.int .i64 (bit bz)) := blk_cell bkz 1
  have dz2 : (w21.alloc (.cells #[.int .i64 2, .int .i64 (bit bs), .string ⟨#[]⟩] 24)).cell? ⟨w15.heap.size, 2, none⟩ = some (.string ⟨#[]⟩) := blk_cell bkz 2
  have dq0 : (w21.alloc (.cells #[.int .i64 2, .int .i64 (bit bs), .string ⟨#[]⟩] 24)).cell? ⟨w18.heap.size, 0, none⟩ = some (.int .i64 2) := blk_cell bkq 0
  have dq1 : (w21.alloc (.cells #[.int .i64 2, .int .i64 (bit bs), .string ⟨#[]⟩] 24)).cell? ⟨w18.heap.size, 1, none⟩ = some (.int .i64 (bit bw)) := blk_cell bkq 1
  have dq2 : (w21.alloc (.cells #[.int .i64 2, .int .i64 (bit bs), .string ⟨#[]⟩] 24)).cell? ⟨w18.heap.size, 2, none⟩ = some (.string ⟨#[]⟩) := blk_cell bkq 2
  have ds0 : (w21.alloc (.cells #[.int .i64 2, .int .i64 (bit bs), .string ⟨#[]⟩] 24)).cell? ⟨w21.heap.size, 0, none⟩ = some (.int .i64 2) := blk_cell bks 0
  have ds1 : (w21.alloc (.cells #[.int .i64 2, .int .i64 (bit bs), .string ⟨#[]⟩] 24)).cell? ⟨w21.heap.size, 1, none⟩ = some (.int .i64 (bit bs)) := blk_cell bks 1
  have ds2 : (w21.alloc (.cells #[.int .i64 2, .int .i64 (bit bs), .string ⟨#[]⟩] 24)).cell? ⟨w21.heap.size, 2, none⟩ = some (.string ⟨#[]⟩) := blk_cell bks 2
  go_wp2_with fail
  clear da0
  clear da1
  clear da2
  clear db0
  clear db1
  clear db2
  clear dc0
  clear dc1
  clear dc2
  clear dx0
  clear dx1
  clear dx2
  clear dy0
  clear dy1
  clear dy2
  clear dz0
  clear dz1
  clear dz2
  clear dq0
  clear dq1
  clear dq2
  clear ds0
  clear ds1
  clear ds2
  clear ca0
  clear ca1
  clear ca2
  clear cb0
  clear cb1
  clear cb2
  clear cc0
  clear cc1
  clear cc2
  clear cx0
  clear cx1
  clear cx2
  clear cy0
  clear cy1
  clear cy2
  clear cz0
  clear cz1
  clear cz2
  clear cq0
  clear cq1
  clear cq2
  have hs22 := size_alloc w21 (.cells #[.int .i64 2, .int .i64 (bit bs), .string ⟨#[]⟩] 24)
  generalize (w21.alloc (.cells #[.int .i64 2, .int .i64 (bit bs), .string ⟨#[]⟩] 24)) = w22 at *
  have ca0 : w22.cell? ⟨w.heap.size, 0, none⟩ = some (.int .i64 k3) := blk_cell bka 0
  have ca1 : w22.cell? ⟨w.heap.size, 1, none⟩ = some (.int .i64 n1) := blk_cell bka 1
  have ca2 : w22.cell? ⟨w.heap.size, 2, none⟩ = some (.string s1) := blk_cell bka 2
  have cb0 : w22.cell? ⟨w.heap.size + 1, 0, none⟩ = some (.int .i64 k3) := blk_cell bkb 0
  have cb1 : w22.cell? ⟨w.heap.size + 1, 1, none⟩ = some (.int .i64 n2) := blk_cell bkb 1
  have cb2 : w22.cell? ⟨w.heap.size + 1, 2, none⟩ = some (.string s2) := blk_cell bkb 2
  have cc0 : w22.cell? ⟨w.heap.size + 1 + 1, 0, none⟩ = some (.int .i64 k3) := blk_cell bkc 0
  have cc1 : w22.cell? ⟨w.heap.size + 1 + 1, 1, none⟩ = some (.int .i64 n3) := blk_cell bkc 1
  have cc2 : w22.cell? ⟨w.heap.size + 1 + 1, 2, none⟩ = some (.string s3) := blk_cell bkc 2
  have cx0 : w22.cell? ⟨w9.heap.size, 0, none⟩ = some (.int .i64 2) := blk_cell bkx 0
  have cx1 : w22.cell? ⟨w9.heap.size, 1, none⟩ = some (.int .i64 (bit bx)) := blk_cell bkx 1
  have cx2 : w22.cell? ⟨w9.heap.size, 2, none⟩ = some (.string ⟨#[]⟩) := blk_cell bkx 2
  have cy0 : w22.cell? ⟨w12.heap.size, 0, none⟩ = some (.int .i64 2) := blk_cell bky 0
  have cy1 : w22.cell? ⟨w12.heap.size, 1, none⟩ = some (.int .i64 (bit by_)) := blk_cell bky 1
  have cy2 : w22.cell? ⟨w12.heap.size, 2, none⟩ = some (.string ⟨#[]⟩) := blk_cell bky 2
  have cz0 : w22.cell? ⟨w15.heap.size, 0, none⟩ = some (.int .i64 2) := blk_cell bkz 0
  have cz1 : w22.cell? ⟨w15.heap.size, 1, none⟩ = some (.int .i64 (bit bz)) := blk_cell bkz 1
  have cz2 : w22.cell? ⟨w15.heap.size, 2, none⟩ = some (.string ⟨#[]⟩) := blk_cell bkz 2
  have cq0 : w22.cell? ⟨w18.heap.size, 0, none⟩ = some (.int .i64 2) := blk_cell bkq 0
  have cq1 : w22.cell? ⟨w18.heap.size, 1, none⟩ = some (.int .i64 (bit bw)) := blk_cell bkq 1
  have cq2 : w22.cell? ⟨w18.heap.size, 2, none⟩ = some (.string ⟨#[]⟩) := blk_cell bkq 2
  have cs0 : w22.cell? ⟨w21.heap.size, 0, none⟩ = some (.int .i64 2) := blk_cell bks 0
  have cs1 : w22.cell? ⟨w21.heap.size, 1, none⟩ = some (.int .i64 (bit bs)) := blk_cell bks 1
  have cs2 : w22.cell? ⟨w21.heap.size, 2, none⟩ = some (.string ⟨#[]⟩) := blk_cell bks 2
  replace bka := blk_alloc bka (.cells #[.int .i64 2, .int .i64 (bit bx), .string ⟨#[]⟩, .int .i64 2, .int .i64 (bit bw), .string ⟨#[]⟩, .int .i64 2, .int .i64 (bit bs), .string ⟨#[]⟩] 24)
  replace bkb := blk_alloc bkb (.cells #[.int .i64 2, .int .i64 (bit bx), .string ⟨#[]⟩, .int .i64 2, .int .i64 (bit bw), .string ⟨#[]⟩, .int .i64 2, .int .i64 (bit bs), .string ⟨#[]⟩] 24)
  replace bkc := blk_alloc bkc (.cells #[.int .i64 2, .int .i64 (bit bx), .string ⟨#[]⟩, .int .i64 2, .int .i64 (bit bw), .string ⟨#[]⟩, .int .i64 2, .int .i64 (bit bs), .string ⟨#[]⟩] 24)
  replace bkx := blk_alloc bkx (.cells #[.int .i64 2, .int .i64 (bit bx), .string ⟨#[]⟩, .int .i64 2, .int .i64 (bit bw), .string ⟨#[]⟩, .int .i64 2, .int .i64 (bit bs), .string ⟨#[]⟩] 24)
  replace bky := blk_alloc bky (.cells #[.int .i64 2, .int .i64 (bit bx), .string ⟨#[]⟩, .int .i64 2, .int .i64 (bit bw), .string ⟨#[]⟩, .int .i64 2, .int .i64 (bit bs), .string ⟨#[]⟩] 24)
  replace bkz := blk_alloc bkz (.cells #[.int .i64 2, .int .i64 (bit bx), .string ⟨#[]⟩, .int .i64 2, .int .i64 (bit bw), .string ⟨#[]⟩, .int .i64 2, .int .i64 (bit bs), .string ⟨#[]⟩] 24)
  replace bkq := blk_alloc bkq (.cells #[.int .i64 2, .int .i64 (bit bx), .string ⟨#[]⟩, .int .i64 2, .int .i64 (bit bw), .string ⟨#[]⟩, .int .i64 2, .int .i64 (bit bs), .string ⟨#[]⟩] 24)
  replace bks := blk_alloc bks (.cells #[.int .i64 2, .int .i64 (bit bx), .string ⟨#[]⟩, .int .i64 2, .int .i64 (bit bw), .string ⟨#[]⟩, .int .i64 2, .int .i64 (bit bs), .string ⟨#[]⟩] 24)
  have bkg := blk_new w22 (.cells #[.int .i64 2, .int .i64 (bit bx), .string ⟨#[]⟩, .int .i64 2, .int .i64 (bit bw), .string ⟨#[]⟩, .int .i64 2, .int .i64 (bit bs), .string ⟨#[]⟩] 24)
  rw [hs22] at bkg
  replace hb := hb.alloc hb.size (.cells #[.int .i64 2, .int .i64 (bit bx), .string ⟨#[]⟩, .int .i64 2, .int .i64 (bit bw), .string ⟨#[]⟩, .int .i64 2, .int .i64 (bit bs), .string ⟨#[]⟩] 24)
  clear ca0
  clear ca1
  clear ca2
  clear cb0
  clear cb1
  clear cb2
  clear cc0
  clear cc1
  clear cc2
  clear cx0
  clear cx1
  clear cx2
  clear cy0
  clear cy1
  clear cy2
  clear cz0
  clear cz1
  clear cz2
  clear cq0
  clear cq1
  clear cq2
  clear cs0
  clear cs1
  clear cs2
  generalize w22.alloc (.cells #[.int .i64 2, .int .i64 (bit bx), .string ⟨#[]⟩, .int .i64 2, .int .i64 (bit bw), .string ⟨#[]⟩, .int .i64 2, .int .i64 (bit bs), .string ⟨#[]⟩] 24) = w23 at *
  have ca0 : w23.cell? ⟨w.heap.size, 0, none⟩ = some (.int .i64 k3) := blk_cell bka 0
  have ca1 : w23.cell? ⟨w.heap.size, 1, none⟩ = some (.int .i64 n1) := blk_cell bka 1
  have ca2 : w23.cell? ⟨w.heap.size, 2, none⟩ = some (.string s1) := blk_cell bka 2
  have cb0 : w23.cell? ⟨w.heap.size + 1, 0, none⟩ = some (.int .i64 k3) := blk_cell bkb 0
  have cb1 : w23.cell? ⟨w.heap.size + 1, 1, none⟩ = some (.int .i64 n2) := blk_cell bkb 1
  have cb2 : w23.cell? ⟨w.heap.size + 1, 2, none⟩ = some (.string s2) := blk_cell bkb 2
  have cc0 : w23.cell? ⟨w.heap.size + 1 + 1, 0, none⟩ = some (.int .i64 k3) := blk_cell bkc 0
  have cc1 : w23.cell? ⟨w.heap.size + 1 + 1, 1, none⟩ = some (.int .i64 n3) := blk_cell bkc 1
  have cc2 : w23.cell? ⟨w.heap.size + 1 + 1, 2, none⟩ = some (.string s3) := blk_cell bkc 2
  have cx0 : w23.cell? ⟨w9.heap.size, 0, none⟩ = some (.int .i64 2) := blk_cell bkx 0
  have cx1 : w23.cell? ⟨w9.heap.size, 1, none⟩ = some (.int .i64 (bit bx)) := blk_cell bkx 1
  have cx2 : w23.cell? ⟨w9.heap.size, 2, none⟩ = some (.string ⟨#[]⟩) := blk_cell bkx 2
  have cy0 : w23.cell? ⟨w12.heap.size, 0, none⟩ = some (.int .i64 2) := blk_cell bky 0
  have cy1 : w23.cell? ⟨w12.heap.size, 1, none⟩ = some (.int .i64 (bit by_)) := blk_cell bky 1
  have cy2 : w23.cell? ⟨w12.heap.size, 2, none⟩ = some (.string ⟨#[]⟩) := blk_cell bky 2
  have cz0 : w23.cell? ⟨w15.heap.size, 0, none⟩ = some (.int .i64 2) := blk_cell bkz 0
  have cz1 : w23.cell? ⟨w15.heap.size, 1, none⟩ = some (.int .i64 (bit bz)) := blk_cell bkz 1
  have cz2 : w23.cell? ⟨w15.heap.size, 2, none⟩ = some (.string ⟨#[]⟩) := blk_cell bkz 2
  have cq0 : w23.cell? ⟨w18.heap.size, 0, none⟩ = some (.int .i64 2) := blk_cell bkq 0
  have cq1 : w23.cell? ⟨w18.heap.size, 1, none⟩ = some (.int .i64 (bit bw)) := blk_cell bkq 1
  have cq2 : w23.cell? ⟨w18.heap.size, 2, none⟩ = some (.string ⟨#[]⟩) := blk_cell bkq 2
  have cs0 : w23.cell? ⟨w21.heap.size, 0, none⟩ = some (.int .i64 2) := blk_cell bks 0
  have cs1 : w23.cell? ⟨w21.heap.size, 1, none⟩ = some (.int .i64 (bit bs)) := blk_cell bks 1
  have cs2 : w23.cell? ⟨w21.heap.size, 2, none⟩ = some (.string ⟨#[]⟩) := blk_cell bks 2
  have cg0 : w23.cell? ⟨w21.heap.size + 1, 0, none⟩ = some (.int .i64 2) := blk_cell bkg 0
  have cg1 : w23.cell? ⟨w21.heap.size + 1, 1, none⟩ = some (.int .i64 (bit bx)) := blk_cell bkg 1
  have cg2 : w23.cell? ⟨w21.heap.size + 1, 2, none⟩ = some (.string ⟨#[]⟩) := blk_cell bkg 2
  have cg3 : w23.cell? ⟨w21.heap.size + 1, 3, none⟩ = some (.int .i64 2) := blk_cell bkg 3
  have cg4 : w23.cell? ⟨w21.heap.size + 1, 4, none⟩ = some (.int .i64 (bit bw)) := blk_cell bkg 4
  have cg5 : w23.cell? ⟨w21.heap.size + 1, 5, none⟩ = some (.string ⟨#[]⟩) := blk_cell bkg 5
  have cg6 : w23.cell? ⟨w21.heap.size + 1, 6, none⟩ = some (.int .i64 2) := blk_cell bkg 6
  have cg7 : w23.cell? ⟨w21.heap.size + 1, 7, none⟩ = some (.int .i64 (bit bs)) := blk_cell bkg 7
  have cg8 : w23.cell? ⟨w21.heap.size + 1, 8, none⟩ = some (.string ⟨#[]⟩) := blk_cell bkg 8
  obtain ⟨rfl, rfl, rfl⟩ | ⟨rfl, rfl, rfl⟩ | ⟨rfl, rfl, rfl⟩ : (bx = true ∧ bw = false ∧ bs = false) ∨ (bx = false ∧ bw = true ∧ bs = false) ∨ (bx = false ∧ bw = false ∧ bs = true) := by simpa using L1.out
  ·   -- ('true', 'false', 'false')
    clear ca0
    clear ca1
    clear ca2
    clear bka
    clear cb0
    clear cb1
    clear cb2
    clear bkb
    clear cc0
    clear cc1
    clear cc2
    clear bkc
    clear cq0
    clear cq1
    clear cq2
    clear bkq
    clear cs0
    clear cs1
    clear cs2
    clear bks
    clear RX RY RZ RW RS L1
    refine wp_loop_rounds 4 ?_
    rw [rounds_succ]
    replace bkx := blk_alloc bkx (.cells #[.int .i64 2, .int .i64 (bit true), .string ⟨#[]⟩] 24)
    replace bky := blk_alloc bky (.cells #[.int .i64 2, .int .i64 (bit true), .string ⟨#[]⟩] 24)
    replace bkz := blk_alloc bkz (.cells #[.int .i64 2, .int .i64 (bit true), .string ⟨#[]⟩] 24)
    replace bkg := blk_alloc bkg (.cells #[.int .i64 2, .int .i64 (bit true), .string ⟨#[]⟩] 24)
    have bkv0 := blk_new w23 (.cells #[.int .i64 2, .int .i64 (bit true), .string ⟨#[]⟩] 24)
    replace hb := hb.alloc hb.size (.cells #[.int .i64 2, .int .i64 (bit true), .string ⟨#[]⟩] 24)
    have dx0 : (w23.alloc (.cells #[.int .i64 2, .int .i64 (bit true), .string ⟨#[]⟩] 24)).cell? ⟨w9.heap.size, 0, none⟩ = some (.int .i64 2) := blk_cell bkx 0
    have dx1 : (w23.alloc (.cells #[.int .i64 2, .int .i64 (bit true), .string ⟨#[]⟩] 24)).cell? ⟨w9.heap.size, 1, none⟩ = some (.int .i64 (bit true)) := blk_cell bkx 1
    have dx2 : (w23.alloc (.cells #[.int .i64 2, .int .i64 (bit true), .string ⟨#[]⟩] 24)).cell? ⟨w9.heap.size, 2, none⟩ = some (.string ⟨#[]⟩) := blk_cell bkx 2
    have dy0 : (w23.alloc (.cells #[.int .i64 2, .int .i64 (bit true), .string ⟨#[]⟩] 24)).cell? ⟨w12.heap.size, 0, none⟩ = some (.int .i64 2) := blk_cell bky 0
    have dy1 : (w23.alloc (.cells #[.int .i64 2, .int .i64 (bit true), .string ⟨#[]⟩] 24)).cell? ⟨w12.heap.size, 1, none⟩ = some (.int .i64 (bit by_)) := blk_cell bky 1
    have dy2 : (w23.alloc (.cells #[.int .i64 2, .int .i64 (bit true), .string ⟨#[]⟩] 24)).cell? ⟨w12.heap.size, 2, none⟩ = some (.string ⟨#[]⟩) := blk_cell bky 2
    have dz0 : (w23.alloc (.cells #[.int .i64 2, .int .i64 (bit true), .string ⟨#[]⟩] 24)).cell? ⟨w15.heap.size, 0, none⟩ = some (.int .i64 2) := blk_cell bkz 0
    have dz1 : (w23.alloc (.cells #[.int .i64 2, .int .i64 (bit true), .string ⟨#[]⟩] 24)).cell? ⟨w15.heap.size, 1, none⟩ = some (.int .i64 (bit bz)) := blk_cell bkz 1
    have dz2 : (w23.alloc (.cells #[.int .i64 2, .int .i64 (bit true), .string ⟨#[]⟩] 24)).cell? ⟨w15.heap.size, 2, none⟩ = some (.string ⟨#[]⟩) := blk_cell bkz 2
    have dg0 : (w23.alloc (.cells #[.int .i64 2, .int .i64 (bit true), .string ⟨#[]⟩] 24)).cell? ⟨w21.heap.size + 1, 0, none⟩ = some (.int .i64 2) := blk_cell bkg 0
    have dg1 : (w23.alloc (.cells #[.int .i64 2, .int .i64 (bit true), .string ⟨#[]⟩] 24)).cell? ⟨w21.heap.size + 1, 1, none⟩ = some (.int .i64 (bit true)) := blk_cell bkg 1
    have dg2 : (w23.alloc (.cells #[.int .i64 2, .int .i64 (bit true), .string ⟨#[]⟩] 24)).cell? ⟨w21.heap.size + 1, 2, none⟩ = some (.string ⟨#[]⟩) := blk_cell bkg 2
    have dg3 : (w23.alloc (.cells #[.int .i64 2, .int .i64 (bit true), .string ⟨#[]⟩] 24)).cell? ⟨w21.heap.size + 1, 3, none⟩ = some (.int .i64 2) := blk_cell bkg 3
    have dg4 : (w23.alloc (.cells #[.int .i64 2, .int .i64 (bit true), .string ⟨#[]⟩] 24)).cell? ⟨w21.heap.size + 1, 4, none⟩ = some (.int .i64 (bit false)) := blk_cell bkg 4
    have dg5 : (w23.alloc (.cells #[.int .i64 2, .int .i64 (bit true), .string ⟨#[]⟩] 24)).cell? ⟨w21.heap.size + 1, 5, none⟩ = some (.string ⟨#[]⟩) := blk_cell bkg 5
    have dg6 : (w23.alloc (.cells #[.int .i64 2, .int .i64 (bit true), .string ⟨#[]⟩] 24)).cell? ⟨w21.heap.size + 1, 6, none⟩ = some (.int .i64 2) := blk_cell bkg 6
    have dg7 : (w23.alloc (.cells #[.int .i64 2, .int .i64 (bit true), .string ⟨#[]⟩] 24)).cell? ⟨w21.heap.size + 1, 7, none⟩ = some (.int .i64 (bit false)) := blk_cell bkg 7
    have dg8 : (w23.alloc (.cells #[.int .i64 2, .int .i64 (bit true), .string ⟨#[]⟩] 24)).cell? ⟨w21.heap.size + 1, 8, none⟩ = some (.string ⟨#[]⟩) := blk_cell bkg 8
    have dv00 : (w23.alloc (.cells #[.int .i64 2, .int .i64 (bit true), .string ⟨#[]⟩] 24)).cell? ⟨w23.heap.size, 0, none⟩ = some (.int .i64 2) := blk_cell bkv0 0
    have dv01 : (w23.alloc (.cells #[.int .i64 2, .int .i64 (bit true), .string ⟨#[]⟩] 24)).cell? ⟨w23.heap.size, 1, none⟩ = some (.int .i64 (bit true)) := blk_cell bkv0 1
    have dv02 : (w23.alloc (.cells #[.int .i64 2, .int .i64 (bit true), .string ⟨#[]⟩] 24)).cell? ⟨w23.heap.size, 2, none⟩ = some (.string ⟨#[]⟩) := blk_cell bkv0 2
    go_wp2_with fail
    clear dx0
    clear dx1
    clear dx2
    clear dy0
    clear dy1
    clear dy2
    clear dz0
    clear dz1
    clear dz2
    clear dg0
    clear dg1
    clear dg2
    clear dg3
    clear dg4
    clear dg5
    clear dg6
    clear dg7
    clear dg8
    clear dv00
    clear dv01
    clear dv02
    clear cx0
    clear cx1
    clear cx2
    clear cy0
    clear cy1
    clear cy2
    clear cz0
    clear cz1
    clear cz2
    clear cg0
    clear cg1
    clear cg2
    clear cg3
    clear cg4
    clear cg5
    clear cg6
    clear cg7
    clear cg8
    have hs24 := size_alloc w23 (.cells #[.int .i64 2, .int .i64 (bit true), .string ⟨#[]⟩] 24)
    generalize (w23.alloc (.cells #[.int .i64 2, .int .i64 (bit true), .string ⟨#[]⟩] 24)) = w24 at *
    have cx0 : w24.cell? ⟨w9.heap.size, 0, none⟩ = some (.int .i64 2) := blk_cell bkx 0
    have cx1 : w24.cell? ⟨w9.heap.size, 1, none⟩ = some (.int .i64 (bit true)) := blk_cell bkx 1
    have cx2 : w24.cell? ⟨w9.heap.size, 2, none⟩ = some (.string ⟨#[]⟩) := blk_cell bkx 2
    have cy0 : w24.cell? ⟨w12.heap.size, 0, none⟩ = some (.int .i64 2) := blk_cell bky 0
    have cy1 : w24.cell? ⟨w12.heap.size, 1, none⟩ = some (.int .i64 (bit by_)) := blk_cell bky 1
    have cy2 : w24.cell? ⟨w12.heap.size, 2, none⟩ = some (.string ⟨#[]⟩) := blk_cell bky 2
    have cz0 : w24.cell? ⟨w15.heap.size, 0, none⟩ = some (.int .i64 2) := blk_cell bkz 0
    have cz1 : w24.cell? ⟨w15.heap.size, 1, none⟩ = some (.int .i64 (bit bz)) := blk_cell bkz 1
    have cz2 : w24.cell? ⟨w15.heap.size, 2, none⟩ = some (.string ⟨#[]⟩) := blk_cell bkz 2
    have cg0 : w24.cell? ⟨w21.heap.size + 1, 0, none⟩ = some (.int .i64 2) := blk_cell bkg 0
    have cg1 : w24.cell? ⟨w21.heap.size + 1, 1, none⟩ = some (.int .i64 (bit true)) := blk_cell bkg 1
    have cg2 : w24.cell? ⟨w21.heap.size + 1, 2, none⟩ = some (.string ⟨#[]⟩) := blk_cell bkg 2
    have cg3 : w24.cell? ⟨w21.heap.size + 1, 3, none⟩ = some (.int .i64 2) := blk_cell bkg 3
    have cg4 : w24.cell? ⟨w21.heap.size + 1, 4, none⟩ = some (.int .i64 (bit false)) := blk_cell bkg 4
    have cg5 : w24.cell? ⟨w21.heap.size + 1, 5, none⟩ = some (.string ⟨#[]⟩) := blk_cell bkg 5
    have cg6 : w24.cell? ⟨w21.heap.size + 1, 6, none⟩ = some (.int .i64 2) := blk_cell bkg 6
    have cg7 : w24.cell? ⟨w21.heap.size + 1, 7, none⟩ = some (.int .i64 (bit false)) := blk_cell bkg 7
    have cg8 : w24.cell? ⟨w21.heap.size + 1, 8, none⟩ = some (.string ⟨#[]⟩) := blk_cell bkg 8
    have cv00 : w24.cell? ⟨w23.heap.size, 0, none⟩ = some (.int .i64 2) := blk_cell bkv0 0
    have cv01 : w24.cell? ⟨w23.heap.size, 1, none⟩ = some (.int .i64 (bit true)) := blk_cell bkv0 1
    have cv02 : w24.cell? ⟨w23.heap.size, 2, none⟩ = some (.string ⟨#[]⟩) := blk_cell bkv0 2
    clear cv00
    clear cv01
    clear cv02
    clear bkv0
    refine (yes_bit true ⟨#[]⟩ _).mono ?_
    rintro e w25 ⟨rfl, h25⟩
    replace bkx := blk_below bkx h25
    replace bky := blk_below bky h25
    replace bkz := blk_below bkz h25
    replace bkg := blk_below bkg h25
    replace hb := hb.trans (h25.mono hb.size)
    clear cx0
    clear cx1
    clear cx2
    clear cy0
    clear cy1
    clear cy2
    clear cz0
    clear cz1
    clear cz2
    clear cg0
    clear cg1
    clear cg2
    clear cg3
    clear cg4
    clear cg5
    clear cg6
    clear cg7
    clear cg8
    have cx0 : w25.cell? ⟨w9.heap.size, 0, none⟩ = some (.int .i64 2) := blk_cell bkx 0
    have cx1 : w25.cell? ⟨w9.heap.size, 1, none⟩ = some (.int .i64 (bit true)) := blk_cell bkx 1
    have cx2 : w25.cell? ⟨w9.heap.size, 2, none⟩ = some (.string ⟨#[]⟩) := blk_cell bkx 2
    have cy0 : w25.cell? ⟨w12.heap.size, 0, none⟩ = some (.int .i64 2) := blk_cell bky 0
    have cy1 : w25.cell? ⟨w12.heap.size, 1, none⟩ = some (.int .i64 (bit by_)) := blk_cell bky 1
    have cy2 : w25.cell? ⟨w12.heap.size, 2, none⟩ = some (.string ⟨#[]⟩) := blk_cell bky 2
    have cz0 : w25.cell? ⟨w15.heap.size, 0, none⟩ = some (.int .i64 2) := blk_cell bkz 0
    have cz1 : w25.cell? ⟨w15.heap.size, 1, none⟩ = some (.int .i64 (bit bz)) := blk_cell bkz 1
    have cz2 : w25.cell? ⟨w15.heap.size, 2, none⟩ = some (.string ⟨#[]⟩) := blk_cell bkz 2
    have cg0 : w25.cell? ⟨w21.heap.size + 1, 0, none⟩ = some (.int .i64 2) := blk_cell bkg 0
    have cg1 : w25.cell? ⟨w21.heap.size + 1, 1, none⟩ = some (.int .i64 (bit true)) := blk_cell bkg 1
    have cg2 : w25.cell? ⟨w21.heap.size + 1, 2, none⟩ = some (.string ⟨#[]⟩) := blk_cell bkg 2
    have cg3 : w25.cell? ⟨w21.heap.size + 1, 3, none⟩ = some (.int .i64 2) := blk_cell bkg 3
    have cg4 : w25.cell? ⟨w21.heap.size + 1, 4, none⟩ = some (.int .i64 (bit false)) := blk_cell bkg 4
    have cg5 : w25.cell? ⟨w21.heap.size + 1, 5, none⟩ = some (.string ⟨#[]⟩) := blk_cell bkg 5
    have cg6 : w25.cell? ⟨w21.heap.size + 1, 6, none⟩ = some (.int .i64 2) := blk_cell bkg 6
    have cg7 : w25.cell? ⟨w21.heap.size + 1, 7, none⟩ = some (.int .i64 (bit false)) := blk_cell bkg 7
    have cg8 : w25.cell? ⟨w21.heap.size + 1, 8, none⟩ = some (.string ⟨#[]⟩) := blk_cell bkg 8
    go_wp2_with fail
    rw [rounds_succ]
    replace bkx := blk_alloc bkx (.cells #[.int .i64 2, .int .i64 (bit false), .string ⟨#[]⟩] 24)
    replace bky := blk_alloc bky (.cells #[.int .i64 2, .int .i64 (bit false), .string ⟨#[]⟩] 24)
    replace bkz := blk_alloc bkz (.cells #[.int .i64 2, .int .i64 (bit false), .string ⟨#[]⟩] 24)
    replace bkg := blk_alloc bkg (.cells #[.int .i64 2, .int .i64 (bit false), .string ⟨#[]⟩] 24)
    have bkv1 := blk_new w25 (.cells #[.int .i64 2, .int .i64 (bit false), .string ⟨#[]⟩] 24)
    replace hb := hb.alloc hb.size (.cells #[.int .i64 2, .int .i64 (bit false), .string ⟨#[]⟩] 24)
    have dx0 : (w25.alloc (.cells #[.int .i64 2, .int .i64 (bit false), .string ⟨#[]⟩] 24)).cell? ⟨w9.heap.size, 0, none⟩ = some (.int .i64 2) := blk_cell bkx 0
    have dx1 : (w25.alloc (.cells #[.int .i64 2, .int .i64 (bit false), .string ⟨#[]⟩] 24)).cell? ⟨w9.heap.size, 1, none⟩ = some (.int .i64 (bit true)) := blk_cell bkx 1
    have dx2 : (w25.alloc (.cells #[.int .i64 2, .int .i64 (bit false), .string ⟨#[]⟩] 24)).cell? ⟨w9.heap.size, 2, none⟩ = some (.string ⟨#[]⟩) := blk_cell bkx 2
    have dy0 : (w25.alloc (.cells #[.int .i64 2, .int .i64 (bit false), .string ⟨#[]⟩] 24)).cell? ⟨w12.heap.size, 0, none⟩ = some (.int .i64 2) := blk_cell bky 0
    have dy1 : (w25.alloc (.cells #[.int .i64 2, .int .i64 (bit false), .string ⟨#[]⟩] 24)).cell? ⟨w12.heap.size, 1, none⟩ = some (.int .i64 (bit by_)) := blk_cell bky 1
    have dy2 : (w25.alloc (.cells #[.int .i64 2, .int .i64 (bit false), .string ⟨#[]⟩] 24)).cell? ⟨w12.heap.size, 2, none⟩ = some (.string ⟨#[]⟩) := blk_cell bky 2
    have dz0 : (w25.alloc (.cells #[.int .i64 2, .int .i64 (bit false), .string ⟨#[]⟩] 24)).cell? ⟨w15.heap.size, 0, none⟩ = some (.int .i64 2) := blk_cell bkz 0
    have dz1 : (w25.alloc (.cells #[.int .i64 2, .int .i64 (bit false), .string ⟨#[]⟩] 24)).cell? ⟨w15.heap.size, 1, none⟩ = some (.int .i64 (bit bz)) := blk_cell bkz 1
    have dz2 : (w25.alloc (.cells #[.int .i64 2, .int .i64 (bit false), .string ⟨#[]⟩] 24)).cell? ⟨w15.heap.size, 2, none⟩ = some (.string ⟨#[]⟩) := blk_cell bkz 2
    have dg0 : (w25.alloc (.cells #[.int .i64 2, .int .i64 (bit false), .string ⟨#[]⟩] 24)).cell? ⟨w21.heap.size + 1, 0, none⟩ = some (.int .i64 2) := blk_cell bkg 0
    have dg1 : (w25.alloc (.cells #[.int .i64 2, .int .i64 (bit false), .string ⟨#[]⟩] 24)).cell? ⟨w21.heap.size + 1, 1, none⟩ = some (.int .i64 (bit true)) := blk_cell bkg 1
    have dg2 : (w25.alloc (.cells #[.int .i64 2, .int .i64 (bit false), .string ⟨#[]⟩] 24)).cell? ⟨w21.heap.size + 1, 2, none⟩ = some (.string ⟨#[]⟩) := blk_cell bkg 2
    have dg3 : (w25.alloc (.cells #[.int .i64 2, .int .i64 (bit false), .string ⟨#[]⟩] 24)).cell? ⟨w21.heap.size + 1, 3, none⟩ = some (.int .i64 2) := blk_cell bkg 3
    have dg4 : (w25.alloc (.cells #[.int .i64 2, .int .i64 (bit false), .string ⟨#[]⟩] 24)).cell? ⟨w21.heap.size + 1, 4, none⟩ = some (.int .i64 (bit false)) := blk_cell bkg 4
    have dg5 : (w25.alloc (.cells #[.int .i64 2, .int .i64 (bit false), .string ⟨#[]⟩] 24)).cell? ⟨w21.heap.size + 1, 5, none⟩ = some (.string ⟨#[]⟩) := blk_cell bkg 5
    have dg6 : (w25.alloc (.cells #[.int .i64 2, .int .i64 (bit false), .string ⟨#[]⟩] 24)).cell? ⟨w21.heap.size + 1, 6, none⟩ = some (.int .i64 2) := blk_cell bkg 6
    have dg7 : (w25.alloc (.cells #[.int .i64 2, .int .i64 (bit false), .string ⟨#[]⟩] 24)).cell? ⟨w21.heap.size + 1, 7, none⟩ = some (.int .i64 (bit false)) := blk_cell bkg 7
    have dg8 : (w25.alloc (.cells #[.int .i64 2, .int .i64 (bit false), .string ⟨#[]⟩] 24)).cell? ⟨w21.heap.size + 1, 8, none⟩ = some (.string ⟨#[]⟩) := blk_cell bkg 8
    have dv10 : (w25.alloc (.cells #[.int .i64 2, .int .i64 (bit false), .string ⟨#[]⟩] 24)).cell? ⟨w25.heap.size, 0, none⟩ = some (.int .i64 2) := blk_cell bkv1 0
    have dv11 : (w25.alloc (.cells #[.int .i64 2, .int .i64 (bit false), .string ⟨#[]⟩] 24)).cell? ⟨w25.heap.size, 1, none⟩ = some (.int .i64 (bit false)) := blk_cell bkv1 1
    have dv12 : (w25.alloc (.cells #[.int .i64 2, .int .i64 (bit false), .string ⟨#[]⟩] 24)).cell? ⟨w25.heap.size, 2, none⟩ = some (.string ⟨#[]⟩) := blk_cell bkv1 2
    go_wp2_with fail
    clear dx0
    clear dx1
    clear dx2
    clear dy0
    clear dy1
    clear dy2
    clear dz0
    clear dz1
    clear dz2
    clear dg0
    clear dg1
    clear dg2
    clear dg3
    clear dg4
    clear dg5
    clear dg6
    clear dg7
    clear dg8
    clear dv10
    clear dv11
    clear dv12
    clear cx0
    clear cx1
    clear cx2
    clear cy0
    clear cy1
    clear cy2
    clear cz0
    clear cz1
    clear cz2
    clear cg0
    clear cg1
    clear cg2
    clear cg3
    clear cg4
    clear cg5
    clear cg6
    clear cg7
    clear cg8
    have hs26 := size_alloc w25 (.cells #[.int .i64 2, .int .i64 (bit false), .string ⟨#[]⟩] 24)
    generalize (w25.alloc (.cells #[.int .i64 2, .int .i64 (bit false), .string ⟨#[]⟩] 24)) = w26 at *
    have cx0 : w26.cell? ⟨w9.heap.size, 0, none⟩ = some (.int .i64 2) := blk_cell bkx 0
    have cx1 : w26.cell? ⟨w9.heap.size, 1, none⟩ = some (.int .i64 (bit true)) := blk_cell bkx 1
    have cx2 : w26.cell? ⟨w9.heap.size, 2, none⟩ = some (.string ⟨#[]⟩) := blk_cell bkx 2
    have cy0 : w26.cell? ⟨w12.heap.size, 0, none⟩ = some (.int .i64 2) := blk_cell bky 0
    have cy1 : w26.cell? ⟨w12.heap.size, 1, none⟩ = some (.int .i64 (bit by_)) := blk_cell bky 1
    have cy2 : w26.cell? ⟨w12.heap.size, 2, none⟩ = some (.string ⟨#[]⟩) := blk_cell bky 2
    have cz0 : w26.cell? ⟨w15.heap.size, 0, none⟩ = some (.int .i64 2) := blk_cell bkz 0
    have cz1 : w26.cell? ⟨w15.heap.size, 1, none⟩ = some (.int .i64 (bit bz)) := blk_cell bkz 1
    have cz2 : w26.cell? ⟨w15.heap.size, 2, none⟩ = some (.string ⟨#[]⟩) := blk_cell bkz 2
    have cg0 : w26.cell? ⟨w21.heap.size + 1, 0, none⟩ = some (.int .i64 2) := blk_cell bkg 0
    have cg1 : w26.cell? ⟨w21.heap.size + 1, 1, none⟩ = some (.int .i64 (bit true)) := blk_cell bkg 1
    have cg2 : w26.cell? ⟨w21.heap.size + 1, 2, none⟩ = some (.string ⟨#[]⟩) := blk_cell bkg 2
    have cg3 : w26.cell? ⟨w21.heap.size + 1, 3, none⟩ = some (.int .i64 2) := blk_cell bkg 3
    have cg4 : w26.cell? ⟨w21.heap.size + 1, 4, none⟩ = some (.int .i64 (bit false)) := blk_cell bkg 4
    have cg5 : w26.cell? ⟨w21.heap.size + 1, 5, none⟩ = some (.string ⟨#[]⟩) := blk_cell bkg 5
    have cg6 : w26.cell? ⟨w21.heap.size + 1, 6, none⟩ = some (.int .i64 2) := blk_cell bkg 6
    have cg7 : w26.cell? ⟨w21.heap.size + 1, 7, none⟩ = some (.int .i64 (bit false)) := blk_cell bkg 7
    have cg8 : w26.cell? ⟨w21.heap.size + 1, 8, none⟩ = some (.string ⟨#[]⟩) := blk_cell bkg 8
    have cv10 : w26.cell? ⟨w25.heap.size, 0, none⟩ = some (.int .i64 2) := blk_cell bkv1 0
    have cv11 : w26.cell? ⟨w25.heap.size, 1, none⟩ = some (.int .i64 (bit false)) := blk_cell bkv1 1
    have cv12 : w26.cell? ⟨w25.heap.size, 2, none⟩ = some (.string ⟨#[]⟩) := blk_cell bkv1 2
    clear cv10
    clear cv11
    clear cv12
    clear bkv1
    refine (yes_bit false ⟨#[]⟩ _).mono ?_
    rintro e w27 ⟨rfl, h27⟩
    replace bkx := blk_below bkx h27
    replace bky := blk_below bky h27
    replace bkz := blk_below bkz h27
    replace bkg := blk_below bkg h27
    replace hb := hb.trans (h27.mono hb.size)
    clear cx0
    clear cx1
    clear cx2
    clear cy0
    clear cy1
    clear cy2
    clear cz0
    clear cz1
    clear cz2
    clear cg0
    clear cg1
    clear cg2
    clear cg3
    clear cg4
    clear cg5
    clear cg6
    clear cg7
    clear cg8
    have cx0 : w27.cell? ⟨w9.heap.size, 0, none⟩ = some (.int .i64 2) := blk_cell bkx 0
    have cx1 : w27.cell? ⟨w9.heap.size, 1, none⟩ = some (.int .i64 (bit true)) := blk_cell bkx 1
    have cx2 : w27.cell? ⟨w9.heap.size, 2, none⟩ = some (.string ⟨#[]⟩) := blk_cell bkx 2
    have cy0 : w27.cell? ⟨w12.heap.size, 0, none⟩ = some (.int .i64 2) := blk_cell bky 0
    have cy1 : w27.cell? ⟨w12.heap.size, 1, none⟩ = some (.int .i64 (bit by_)) := blk_cell bky 1
    have cy2 : w27.cell? ⟨w12.heap.size, 2, none⟩ = some (.string ⟨#[]⟩) := blk_cell bky 2
    have cz0 : w27.cell? ⟨w15.heap.size, 0, none⟩ = some (.int .i64 2) := blk_cell bkz 0
    have cz1 : w27.cell? ⟨w15.heap.size, 1, none⟩ = some (.int .i64 (bit bz)) := blk_cell bkz 1
    have cz2 : w27.cell? ⟨w15.heap.size, 2, none⟩ = some (.string ⟨#[]⟩) := blk_cell bkz 2
    have cg0 : w27.cell? ⟨w21.heap.size + 1, 0, none⟩ = some (.int .i64 2) := blk_cell bkg 0
    have cg1 : w27.cell? ⟨w21.heap.size + 1, 1, none⟩ = some (.int .i64 (bit true)) := blk_cell bkg 1
    have cg2 : w27.cell? ⟨w21.heap.size + 1, 2, none⟩ = some (.string ⟨#[]⟩) := blk_cell bkg 2
    have cg3 : w27.cell? ⟨w21.heap.size + 1, 3, none⟩ = some (.int .i64 2) := blk_cell bkg 3
    have cg4 : w27.cell? ⟨w21.heap.size + 1, 4, none⟩ = some (.int .i64 (bit false)) := blk_cell bkg 4
    have cg5 : w27.cell? ⟨w21.heap.size + 1, 5, none⟩ = some (.string ⟨#[]⟩) := blk_cell bkg 5
    have cg6 : w27.cell? ⟨w21.heap.size + 1, 6, none⟩ = some (.int .i64 2) := blk_cell bkg 6
    have cg7 : w27.cell? ⟨w21.heap.size + 1, 7, none⟩ = some (.int .i64 (bit false)) := blk_cell bkg 7
    have cg8 : w27.cell? ⟨w21.heap.size + 1, 8, none⟩ = some (.string ⟨#[]⟩) := blk_cell bkg 8
    go_wp2_with fail
    rw [rounds_succ]
    replace bkx := blk_alloc bkx (.cells #[.int .i64 2, .int .i64 (bit false), .string ⟨#[]⟩] 24)
    replace bky := blk_alloc bky (.cells #[.int .i64 2, .int .i64 (bit false), .string ⟨#[]⟩] 24)
    replace bkz := blk_alloc bkz (.cells #[.int .i64 2, .int .i64 (bit false), .string ⟨#[]⟩] 24)
    replace bkg := blk_alloc bkg (.cells #[.int .i64 2, .int .i64 (bit false), .string ⟨#[]⟩] 24)
    have bkv2 := blk_new w27 (.cells #[.int .i64 2, .int .i64 (bit false), .string ⟨#[]⟩] 24)
    replace hb := hb.alloc hb.size (.cells #[.int .i64 2, .int .i64 (bit false), .string ⟨#[]⟩] 24)
    have dx0 : (w27.alloc (.cells #[.int .i64 2, .int .i64 (bit false), .string ⟨#[]⟩] 24)).cell? ⟨w9.heap.size, 0, none⟩ = some (.int .i64 2) := blk_cell bkx 0
    have dx1 : (w27.alloc (.cells #[.int .i64 2, .int .i64 (bit false), .string ⟨#[]⟩] 24)).cell? ⟨w9.heap.size, 1, none⟩ = some (.int .i64 (bit true)) := blk_cell bkx 1
    have dx2 : (w27.alloc (.cells #[.int .i64 2, .int .i64 (bit false), .string ⟨#[]⟩] 24)).cell? ⟨w9.heap.size, 2, none⟩ = some (.string ⟨#[]⟩) := blk_cell bkx 2
    have dy0 : (w27.alloc (.cells #[.int .i64 2, .int .i64 (bit false), .string ⟨#[]⟩] 24)).cell? ⟨w12.heap.size, 0, none⟩ = some (.int .i64 2) := blk_cell bky 0
    have dy1 : (w27.alloc (.cells #[.int .i64 2, .int .i64 (bit false), .string ⟨#[]⟩] 24)).cell? ⟨w12.heap.size, 1, none⟩ = some (.int .i64 (bit by_)) := blk_cell bky 1
    have dy2 : (w27.alloc (.cells #[.int .i64 2, .int .i64 (bit false), .string ⟨#[]⟩] 24)).cell? ⟨w12.heap.size, 2, none⟩ = some (.string ⟨#[]⟩) := blk_cell bky 2
    have dz0 : (w27.alloc (.cells #[.int .i64 2, .int .i64 (bit false), .string ⟨#[]⟩] 24)).cell? ⟨w15.heap.size, 0, none⟩ = some (.int .i64 2) := blk_cell bkz 0
    have dz1 : (w27.alloc (.cells #[.int .i64 2, .int .i64 (bit false), .string ⟨#[]⟩] 24)).cell? ⟨w15.heap.size, 1, none⟩ = some (.int .i64 (bit bz)) := blk_cell bkz 1
    have dz2 : (w27.alloc (.cells #[.int .i64 2, .int .i64 (bit false), .string ⟨#[]⟩] 24)).cell? ⟨w15.heap.size, 2, none⟩ = some (.string ⟨#[]⟩) := blk_cell bkz 2
    have dg0 : (w27.alloc (.cells #[.int .i64 2, .int .i64 (bit false), .string ⟨#[]⟩] 24)).cell? ⟨w21.heap.size + 1, 0, none⟩ = some (.int .i64 2) := blk_cell bkg 0
    have dg1 : (w27.alloc (.cells #[.int .i64 2, .int .i64 (bit false), .string ⟨#[]⟩] 24)).cell? ⟨w21.heap.size + 1, 1, none⟩ = some (.int .i64 (bit true)) := blk_cell bkg 1
    have dg2 : (w27.alloc (.cells #[.int .i64 2, .int .i64 (bit false), .string ⟨#[]⟩] 24)).cell? ⟨w21.heap.size + 1, 2, none⟩ = some (.string ⟨#[]⟩) := blk_cell bkg 2
    have dg3 : (w27.alloc (.cells #[.int .i64 2, .int .i64 (bit false), .string ⟨#[]⟩] 24)).cell? ⟨w21.heap.size + 1, 3, none⟩ = some (.int .i64 2) := blk_cell bkg 3
    have dg4 : (w27.alloc (.cells #[.int .i64 2, .int .i64 (bit false), .string ⟨#[]⟩] 24)).cell? ⟨w21.heap.size + 1, 4, none⟩ = some (.int .i64 (bit false)) := blk_cell bkg 4
    have dg5 : (w27.alloc (.cells #[.int .i64 2, .int .i64 (bit false), .string ⟨#[]⟩] 24)).cell? ⟨w21.heap.size + 1, 5, none⟩ = some (.string ⟨#[]⟩) := blk_cell bkg 5
    have dg6 : (w27.alloc (.cells #[.int .i64 2, .int .i64 (bit false), .string ⟨#[]⟩] 24)).cell? ⟨w21.heap.size + 1, 6, none⟩ = some (.int .i64 2) := blk_cell bkg 6
    have dg7 : (w27.alloc (.cells #[.int .i64 2, .int .i64 (bit false), .string ⟨#[]⟩] 24)).cell? ⟨w21.heap.size + 1, 7, none⟩ = some (.int .i64 (bit false)) := blk_cell bkg 7
    have dg8 : (w27.alloc (.cells #[.int .i64 2, .int .i64 (bit false), .string ⟨#[]⟩] 24)).cell? ⟨w21.heap.size + 1, 8, none⟩ = some (.string ⟨#[]⟩) := blk_cell bkg 8
    have dv20 : (w27.alloc (.cells #[.int .i64 2, .int .i64 (bit false), .string ⟨#[]⟩] 24)).cell? ⟨w27.heap.size, 0, none⟩ = some (.int .i64 2) := blk_cell bkv2 0
    have dv21 : (w27.alloc (.cells #[.int .i64 2, .int .i64 (bit false), .string ⟨#[]⟩] 24)).cell? ⟨w27.heap.size, 1, none⟩ = some (.int .i64 (bit false)) := blk_cell bkv2 1
    have dv22 : (w27.alloc (.cells #[.int .i64 2, .int .i64 (bit false), .string ⟨#[]⟩] 24)).cell? ⟨w27.heap.size, 2, none⟩ = some (.string ⟨#[]⟩) := blk_cell bkv2 2
    go_wp2_with fail
    clear dx0
    clear dx1
    clear dx2
    clear dy0
    clear dy1
    clear dy2
    clear dz0
    clear dz1
    clear dz2
    clear dg0
    clear dg1
    clear dg2
    clear dg3
    clear dg4
    clear dg5
    clear dg6
    clear dg7
    clear dg8
    clear dv20
    clear dv21
    clear dv22
    clear cx0
    clear cx1
    clear cx2
    clear cy0
    clear cy1
    clear cy2
    clear cz0
    clear cz1
    clear cz2
    clear cg0
    clear cg1
    clear cg2
    clear cg3
    clear cg4
    clear cg5
    clear cg6
    clear cg7
    clear cg8
    have hs28 := size_alloc w27 (.cells #[.int .i64 2, .int .i64 (bit false), .string ⟨#[]⟩] 24)
    generalize (w27.alloc (.cells #[.int .i64 2, .int .i64 (bit false), .string ⟨#[]⟩] 24)) = w28 at *
    have cx0 : w28.cell? ⟨w9.heap.size, 0, none⟩ = some (.int .i64 2) := blk_cell bkx 0
    have cx1 : w28.cell? ⟨w9.heap.size, 1, none⟩ = some (.int .i64 (bit true)) := blk_cell bkx 1
    have cx2 : w28.cell? ⟨w9.heap.size, 2, none⟩ = some (.string ⟨#[]⟩) := blk_cell bkx 2
    have cy0 : w28.cell? ⟨w12.heap.size, 0, none⟩ = some (.int .i64 2) := blk_cell bky 0
    have cy1 : w28.cell? ⟨w12.heap.size, 1, none⟩ = some (.int .i64 (bit by_)) := blk_cell bky 1
    have cy2 : w28.cell? ⟨w12.heap.size, 2, none⟩ = some (.string ⟨#[]⟩) := blk_cell bky 2
    have cz0 : w28.cell? ⟨w15.heap.size, 0, none⟩ = some (.int .i64 2) := blk_cell bkz 0
    have cz1 : w28.cell? ⟨w15.heap.size, 1, none⟩ = some (.int .i64 (bit bz)) := blk_cell bkz 1
    have cz2 : w28.cell? ⟨w15.heap.size, 2, none⟩ = some (.string ⟨#[]⟩) := blk_cell bkz 2
    have cg0 : w28.cell? ⟨w21.heap.size + 1, 0, none⟩ = some (.int .i64 2) := blk_cell bkg 0
    have cg1 : w28.cell? ⟨w21.heap.size + 1, 1, none⟩ = some (.int .i64 (bit true)) := blk_cell bkg 1
    have cg2 : w28.cell? ⟨w21.heap.size + 1, 2, none⟩ = some (.string ⟨#[]⟩) := blk_cell bkg 2
    have cg3 : w28.cell? ⟨w21.heap.size + 1, 3, none⟩ = some (.int .i64 2) := blk_cell bkg 3
    have cg4 : w28.cell? ⟨w21.heap.size + 1, 4, none⟩ = some (.int .i64 (bit false)) := blk_cell bkg 4
    have cg5 : w28.cell? ⟨w21.heap.size + 1, 5, none⟩ = some (.string ⟨#[]⟩) := blk_cell bkg 5
    have cg6 : w28.cell? ⟨w21.heap.size + 1, 6, none⟩ = some (.int .i64 2) := blk_cell bkg 6
    have cg7 : w28.cell? ⟨w21.heap.size + 1, 7, none⟩ = some (.int .i64 (bit false)) := blk_cell bkg 7
    have cg8 : w28.cell? ⟨w21.heap.size + 1, 8, none⟩ = some (.string ⟨#[]⟩) := blk_cell bkg 8
    have cv20 : w28.cell? ⟨w27.heap.size, 0, none⟩ = some (.int .i64 2) := blk_cell bkv2 0
    have cv21 : w28.cell? ⟨w27.heap.size, 1, none⟩ = some (.int .i64 (bit false)) := blk_cell bkv2 1
    have cv22 : w28.cell? ⟨w27.heap.size, 2, none⟩ = some (.string ⟨#[]⟩) := blk_cell bkv2 2
    clear cv20
    clear cv21
    clear cv22
    clear bkv2
    refine (yes_bit false ⟨#[]⟩ _).mono ?_
    rintro e w29 ⟨rfl, h29⟩
    replace bkx := blk_below bkx h29
    replace bky := blk_below bky h29
    replace bkz := blk_below bkz h29
    replace bkg := blk_below bkg h29
    replace hb := hb.trans (h29.mono hb.size)
    clear cx0
    clear cx1
    clear cx2
    clear cy0
    clear cy1
    clear cy2
    clear cz0
    clear cz1
    clear cz2
    clear cg0
    clear cg1
    clear cg2
    clear cg3
    clear cg4
    clear cg5
    clear cg6
    clear cg7
    clear cg8
    have cx0 : w29.cell? ⟨w9.heap.size, 0, none⟩ = some (.int .i64 2) := blk_cell bkx 0
    have cx1 : w29.cell? ⟨w9.heap.size, 1, none⟩ = some (.int .i64 (bit true)) := blk_cell bkx 1
    have cx2 : w29.cell? ⟨w9.heap.size, 2, none⟩ = some (.string ⟨#[]⟩) := blk_cell bkx 2
    have cy0 : w29.cell? ⟨w12.heap.size, 0, none⟩ = some (.int .i64 2) := blk_cell bky 0
    have cy1 : w29.cell? ⟨w12.heap.size, 1, none⟩ = some (.int .i64 (bit by_)) := blk_cell bky 1
    have cy2 : w29.cell? ⟨w12.heap.size, 2, none⟩ = some (.string ⟨#[]⟩) := blk_cell bky 2
    have cz0 : w29.cell? ⟨w15.heap.size, 0, none⟩ = some (.int .i64 2) := blk_cell bkz 0
    have cz1 : w29.cell? ⟨w15.heap.size, 1, none⟩ = some (.int .i64 (bit bz)) := blk_cell bkz 1
    have cz2 : w29.cell? ⟨w15.heap.size, 2, none⟩ = some (.string ⟨#[]⟩) := blk_cell bkz 2
    have cg0 : w29.cell? ⟨w21.heap.size + 1, 0, none⟩ = some (.int .i64 2) := blk_cell bkg 0
    have cg1 : w29.cell? ⟨w21.heap.size + 1, 1, none⟩ = some (.int .i64 (bit true)) := blk_cell bkg 1
    have cg2 : w29.cell? ⟨w21.heap.size + 1, 2, none⟩ = some (.string ⟨#[]⟩) := blk_cell bkg 2
    have cg3 : w29.cell? ⟨w21.heap.size + 1, 3, none⟩ = some (.int .i64 2) := blk_cell bkg 3
    have cg4 : w29.cell? ⟨w21.heap.size + 1, 4, none⟩ = some (.int .i64 (bit false)) := blk_cell bkg 4
    have cg5 : w29.cell? ⟨w21.heap.size + 1, 5, none⟩ = some (.string ⟨#[]⟩) := blk_cell bkg 5
    have cg6 : w29.cell? ⟨w21.heap.size + 1, 6, none⟩ = some (.int .i64 2) := blk_cell bkg 6
    have cg7 : w29.cell? ⟨w21.heap.size + 1, 7, none⟩ = some (.int .i64 (bit false)) := blk_cell bkg 7
    have cg8 : w29.cell? ⟨w21.heap.size + 1, 8, none⟩ = some (.string ⟨#[]⟩) := blk_cell bkg 8
    go_wp2_with fail
    rw [rounds_succ]
    go_wp2_with fail
    refine (yes_bit true ⟨#[]⟩ _).mono ?_
    rintro e w30 ⟨rfl, h30⟩
    replace bkx := blk_below bkx h30
    replace bky := blk_below bky h30
    replace bkz := blk_below bkz h30
    replace bkg := blk_below bkg h30
    replace hb := hb.trans (h30.mono hb.size)
    clear cx0
    clear cx1
    clear cx2
    clear cy0
    clear cy1
    clear cy2
    clear cz0
    clear cz1
    clear cz2
    clear cg0
    clear cg1
    clear cg2
    clear cg3
    clear cg4
    clear cg5
    clear cg6
    clear cg7
    clear cg8
    have cx0 : w30.cell? ⟨w9.heap.size, 0, none⟩ = some (.int .i64 2) := blk_cell bkx 0
    have cx1 : w30.cell? ⟨w9.heap.size, 1, none⟩ = some (.int .i64 (bit true)) := blk_cell bkx 1
    have cx2 : w30.cell? ⟨w9.heap.size, 2, none⟩ = some (.string ⟨#[]⟩) := blk_cell bkx 2
    have cy0 : w30.cell? ⟨w12.heap.size, 0, none⟩ = some (.int .i64 2) := blk_cell bky 0
    have cy1 : w30.cell? ⟨w12.heap.size, 1, none⟩ = some (.int .i64 (bit by_)) := blk_cell bky 1
    have cy2 : w30.cell? ⟨w12.heap.size, 2, none⟩ = some (.string ⟨#[]⟩) := blk_cell bky 2
    have cz0 : w30.cell? ⟨w15.heap.size, 0, none⟩ = some (.int .i64 2) := blk_cell bkz 0
    have cz1 : w30.cell? ⟨w15.heap.size, 1, none⟩ = some (.int .i64 (bit bz)) := blk_cell bkz 1
    have cz2 : w30.cell? ⟨w15.heap.size, 2, none⟩ = some (.string ⟨#[]⟩) := blk_cell bkz 2
    have cg0 : w30.cell? ⟨w21.heap.size + 1, 0, none⟩ = some (.int .i64 2) := blk_cell bkg 0
    have cg1 : w30.cell? ⟨w21.heap.size + 1, 1, none⟩ = some (.int .i64 (bit true)) := blk_cell bkg 1
    have cg2 : w30.cell? ⟨w21.heap.size + 1, 2, none⟩ = some (.string ⟨#[]⟩) := blk_cell bkg 2
    have cg3 : w30.cell? ⟨w21.heap.size + 1, 3, none⟩ = some (.int .i64 2) := blk_cell bkg 3
    have cg4 : w30.cell? ⟨w21.heap.size + 1, 4, none⟩ = some (.int .i64 (bit false)) := blk_cell bkg 4
    have cg5 : w30.cell? ⟨w21.heap.size + 1, 5, none⟩ = some (.string ⟨#[]⟩) := blk_cell bkg 5
    have cg6 : w30.cell? ⟨w21.heap.size + 1, 6, none⟩ = some (.int .i64 2) := blk_cell bkg 6
    have cg7 : w30.cell? ⟨w21.heap.size + 1, 7, none⟩ = some (.int .i64 (bit false)) := blk_cell bkg 7
    have cg8 : w30.cell? ⟨w21.heap.size + 1, 8, none⟩ = some (.string ⟨#[]⟩) := blk_cell bkg 8
    go_wp2_with fail
    cases by_
    ·   -- y false
      refine (yes_bit false ⟨#[]⟩ _).mono ?_
      rintro e w31 ⟨rfl, h31⟩
      replace bkx := blk_below bkx h31
      replace bky := blk_below bky h31
      replace bkz := blk_below bkz h31
      replace bkg := blk_below bkg h31
      replace hb := hb.trans (h31.mono hb.size)
      clear cx0
      clear cx1
      clear cx2
      clear cy0
      clear cy1
      clear cy2
      clear cz0
      clear cz1
      clear cz2
      clear cg0
      clear cg1
      clear cg2
      clear cg3
      clear cg4
      clear cg5
      clear cg6
      clear cg7
      clear cg8
      have cx0 : w31.cell? ⟨w9.heap.size, 0, none⟩ = some (.int .i64 2) := blk_cell bkx 0
      have cx1 : w31.cell? ⟨w9.heap.size, 1, none⟩ = some (.int .i64 (bit true)) := blk_cell bkx 1
      have cx2 : w31.cell? ⟨w9.heap.size, 2, none⟩ = some (.string ⟨#[]⟩) := blk_cell bkx 2
      have cy0 : w31.cell? ⟨w12.heap.size, 0, none⟩ = some (.int .i64 2) := blk_cell bky 0
      have cy1 : w31.cell? ⟨w12.heap.size, 1, none⟩ = some (.int .i64 (bit false)) := blk_cell bky 1
      have cy2 : w31.cell? ⟨w12.heap.size, 2, none⟩ = some (.string ⟨#[]⟩) := blk_cell bky 2
      have cz0 : w31.cell? ⟨w15.heap.size, 0, none⟩ = some (.int .i64 2) := blk_cell bkz 0
      have cz1 : w31.cell? ⟨w15.heap.size, 1, none⟩ = some (.int .i64 (bit bz)) := blk_cell bkz 1
      have cz2 : w31.cell? ⟨w15.heap.size, 2, none⟩ = some (.string ⟨#[]⟩) := blk_cell bkz 2
      have cg0 : w31.cell? ⟨w21.heap.size + 1, 0, none⟩ = some (.int .i64 2) := blk_cell bkg 0
      have cg1 : w31.cell? ⟨w21.heap.size + 1, 1, none⟩ = some (.int .i64 (bit true)) := blk_cell bkg 1
      have cg2 : w31.cell? ⟨w21.heap.size + 1, 2, none⟩ = some (.string ⟨#[]⟩) := blk_cell bkg 2
      have cg3 : w31.cell? ⟨w21.heap.size + 1, 3, none⟩ = some (.int .i64 2) := blk_cell bkg 3
      have cg4 : w31.cell? ⟨w21.heap.size + 1, 4, none⟩ = some (.int .i64 (bit false)) := blk_cell bkg 4
      have cg5 : w31.cell? ⟨w21.heap.size + 1, 5, none⟩ = some (.string ⟨#[]⟩) := blk_cell bkg 5
      have cg6 : w31.cell? ⟨w21.heap.size + 1, 6, none⟩ = some (.int .i64 2) := blk_cell bkg 6
      have cg7 : w31.cell? ⟨w21.heap.size + 1, 7, none⟩ = some (.int .i64 (bit false)) := blk_cell bkg 7
      have cg8 : w31.cell? ⟨w21.heap.size + 1, 8, none⟩ = some (.string ⟨#[]⟩) := blk_cell bkg 8
      go_wp2_with fail
      go_ret
      exact ⟨by simp, hb⟩
    obtain rfl : bz = true := by simpa using L2.out
    refine (yes_bit true ⟨#[]⟩ _).mono ?_
    rintro e w31 ⟨rfl, h31⟩
    replace bkx := blk_below bkx h31
    replace bky := blk_below bky h31
    replace bkz := blk_below bkz h31
    replace bkg := blk_below bkg h31
    replace hb := hb.trans (h31.mono hb.size)
    clear cx0
    clear cx1
    clear cx2
    clear cy0
    clear cy1
    clear cy2
    clear cz0
    clear cz1
    clear cz2
    clear cg0
    clear cg1
    clear cg2
    clear cg3
    clear cg4
    clear cg5
    clear cg6
    clear cg7
    clear cg8
    have cx0 : w31.cell? ⟨w9.heap.size, 0, none⟩ = some (.int .i64 2) := blk_cell bkx 0
    have cx1 : w31.cell? ⟨w9.heap.size, 1, none⟩ = some (.int .i64 (bit true)) := blk_cell bkx 1
    have cx2 : w31.cell? ⟨w9.heap.size, 2, none⟩ = some (.string ⟨#[]⟩) := blk_cell bkx 2
    have cy0 : w31.cell? ⟨w12.heap.size, 0, none⟩ = some (.int .i64 2) := blk_cell bky 0
    have cy1 : w31.cell? ⟨w12.heap.size, 1, none⟩ = some (.int .i64 (bit true)) := blk_cell bky 1
    have cy2 : w31.cell? ⟨w12.heap.size, 2, none⟩ = some (.string ⟨#[]⟩) := blk_cell bky 2
    have cz0 : w31.cell? ⟨w15.heap.size, 0, none⟩ = some (.int .i64 2) := blk_cell bkz 0
    have cz1 : w31.cell? ⟨w15.heap.size, 1, none⟩ = some (.int .i64 (bit true)) := blk_cell bkz 1
    have cz2 : w31.cell? ⟨w15.heap.size, 2, none⟩ = some (.string ⟨#[]⟩) := blk_cell bkz 2
    have cg0 : w31.cell? ⟨w21.heap.size + 1, 0, none⟩ = some (.int .i64 2) := blk_cell bkg 0
    have cg1 : w31.cell? ⟨w21.heap.size + 1, 1, none⟩ = some (.int .i64 (bit true)) := blk_cell bkg 1
    have cg2 : w31.cell? ⟨w21.heap.size + 1, 2, none⟩ = some (.string ⟨#[]⟩) := blk_cell bkg 2
    have cg3 : w31.cell? ⟨w21.heap.size + 1, 3, none⟩ = some (.int .i64 2) := blk_cell bkg 3
    have cg4 : w31.cell? ⟨w21.heap.size + 1, 4, none⟩ = some (.int .i64 (bit false)) := blk_cell bkg 4
    have cg5 : w31.cell? ⟨w21.heap.size + 1, 5, none⟩ = some (.string ⟨#[]⟩) := blk_cell bkg 5
    have cg6 : w31.cell? ⟨w21.heap.size + 1, 6, none⟩ = some (.int .i64 2) := blk_cell bkg 6
    have cg7 : w31.cell? ⟨w21.heap.size + 1, 7, none⟩ = some (.int .i64 (bit false)) := blk_cell bkg 7
    have cg8 : w31.cell? ⟨w21.heap.size + 1, 8, none⟩ = some (.string ⟨#[]⟩) := blk_cell bkg 8
    go_wp2_with fail
    refine (yes_bit true ⟨#[]⟩ _).mono ?_
    rintro e w32 ⟨rfl, h32⟩
    replace bkx := blk_below bkx h32
    replace bky := blk_below bky h32
    replace bkz := blk_below bkz h32
    replace bkg := blk_below bkg h32
    replace hb := hb.trans (h32.mono hb.size)
    clear cx0
    clear cx1
    clear cx2
    clear cy0
    clear cy1
    clear cy2
    clear cz0
    clear cz1
    clear cz2
    clear cg0
    clear cg1
    clear cg2
    clear cg3
    clear cg4
    clear cg5
    clear cg6
    clear cg7
    clear cg8
    have cx0 : w32.cell? ⟨w9.heap.size, 0, none⟩ = some (.int .i64 2) := blk_cell bkx 0
    have cx1 : w32.cell? ⟨w9.heap.size, 1, none⟩ = some (.int .i64 (bit true)) := blk_cell bkx 1
    have cx2 : w32.cell? ⟨w9.heap.size, 2, none⟩ = some (.string ⟨#[]⟩) := blk_cell bkx 2
    have cy0 : w32.cell? ⟨w12.heap.size, 0, none⟩ = some (.int .i64 2) := blk_cell bky 0
    have cy1 : w32.cell? ⟨w12.heap.size, 1, none⟩ = some (.int .i64 (bit true)) := blk_cell bky 1
    have cy2 : w32.cell? ⟨w12.heap.size, 2, none⟩ = some (.string ⟨#[]⟩) := blk_cell bky 2
    have cz0 : w32.cell? ⟨w15.heap.size, 0, none⟩ = some (.int .i64 2) := blk_cell bkz 0
    have cz1 : w32.cell? ⟨w15.heap.size, 1, none⟩ = some (.int .i64 (bit true)) := blk_cell bkz 1
    have cz2 : w32.cell? ⟨w15.heap.size, 2, none⟩ = some (.string ⟨#[]⟩) := blk_cell bkz 2
    have cg0 : w32.cell? ⟨w21.heap.size + 1, 0, none⟩ = some (.int .i64 2) := blk_cell bkg 0
    have cg1 : w32.cell? ⟨w21.heap.size + 1, 1, none⟩ = some (.int .i64 (bit true)) := blk_cell bkg 1
    have cg2 : w32.cell? ⟨w21.heap.size + 1, 2, none⟩ = some (.string ⟨#[]⟩) := blk_cell bkg 2
    have cg3 : w32.cell? ⟨w21.heap.size + 1, 3, none⟩ = some (.int .i64 2) := blk_cell bkg 3
    have cg4 : w32.cell? ⟨w21.heap.size + 1, 4, none⟩ = some (.int .i64 (bit false)) := blk_cell bkg 4
    have cg5 : w32.cell? ⟨w21.heap.size + 1, 5, none⟩ = some (.string ⟨#[]⟩) := blk_cell bkg 5
    have cg6 : w32.cell? ⟨w21.heap.size + 1, 6, none⟩ = some (.int .i64 2) := blk_cell bkg 6
    have cg7 : w32.cell? ⟨w21.heap.size + 1, 7, none⟩ = some (.int .i64 (bit false)) := blk_cell bkg 7
    have cg8 : w32.cell? ⟨w21.heap.size + 1, 8, none⟩ = some (.string ⟨#[]⟩) := blk_cell bkg 8
    go_wp2_with fail
    go_ret
    exact ⟨by simp, hb⟩
  ·   -- ('false', 'true', 'false')
    clear ca0
    clear ca1
    clear ca2
    clear bka
    clear cb0
    clear cb1
    clear cb2
    clear bkb
    clear cc0
    clear cc1
    clear cc2
    clear bkc
    clear cq0
    clear cq1
    clear cq2
    clear bkq
    clear cs0
    clear cs1
    clear cs2
    clear bks
    clear cy0
    clear cy1
    clear cy2
    clear bky
    clear cz0
    clear cz1
    clear cz2
    clear bkz
    clear RX RY RZ RW RS L1
    refine wp_loop_rounds 4 ?_
    rw [rounds_succ]
    replace bkx := blk_alloc bkx (.cells #[.int .i64 2, .int .i64 (bit false), .string ⟨#[]⟩] 24)
    replace bkg := blk_alloc bkg (.cells #[.int .i64 2, .int .i64 (bit false), .string ⟨#[]⟩] 24)
    have bkv0 := blk_new w23 (.cells #[.int .i64 2, .int .i64 (bit false), .string ⟨#[]⟩] 24)
    replace hb := hb.alloc hb.size (.cells #[.int .i64 2, .int .i64 (bit false), .string ⟨#[]⟩] 24)
    have dx0 : (w23.alloc (.cells #[.int .i64 2, .int .i64 (bit false), .string ⟨#[]⟩] 24)).cell? ⟨w9.heap.size, 0, none⟩ = some (.int .i64 2) := blk_cell bkx 0
    have dx1 : (w23.alloc (.cells #[.int .i64 2, .int .i64 (bit false), .string ⟨#[]⟩] 24)).cell? ⟨w9.heap.size, 1, none⟩ = some (.int .i64 (bit false)) := blk_cell bkx 1
    have dx2 : (w23.alloc (.cells #[.int .i64 2, .int .i64 (bit false), .string ⟨#[]⟩] 24)).cell? ⟨w9.heap.size, 2, none⟩ = some (.string ⟨#[]⟩) := blk_cell bkx 2
    have dg0 : (w23.alloc (.cells #[.int .i64 2, .int .i64 (bit false), .string ⟨#[]⟩] 24)).cell? ⟨w21.heap.size + 1, 0, none⟩ = some (.int .i64 2) := blk_cell bkg 0
    have dg1 : (w23.alloc (.cells #[.int .i64 2, .int .i64 (bit false), .string ⟨#[]⟩] 24)).cell? ⟨w21.heap.size + 1, 1, none⟩ = some (.int .i64 (bit false)) := blk_cell bkg 1
    have dg2 : (w23.alloc (.cells #[.int .i64 2, .int .i64 (bit false), .string ⟨#[]⟩] 24)).cell? ⟨w21.heap.size + 1, 2, none⟩ = some (.string ⟨#[]⟩) := blk_cell bkg 2
    have dg3 : (w23.alloc (.cells #[.int .i64 2, .int .i64 (bit false), .string ⟨#[]⟩] 24)).cell? ⟨w21.heap.size + 1, 3, none⟩ = some (.int .i64 2) := blk_cell bkg 3
    have dg4 : (w23.alloc (.cells #[.int .i64 2, .int .i64 (bit false), .string ⟨#[]⟩] 24)).cell? ⟨w21.heap.size + 1, 4, none⟩ = some (.int .i64 (bit true)) := blk_cell bkg 4
    have dg5 : (w23.alloc (.cells #[.int .i64 2, .int .i64 (bit false), .string ⟨#[]⟩] 24)).cell? ⟨w21.heap.size + 1, 5, none⟩ = some (.string ⟨#[]⟩) := blk_cell bkg 5
    have dg6 : (w23.alloc (.cells #[.int .i64 2, .int .i64 (bit false), .string ⟨#[]⟩] 24)).cell? ⟨w21.heap.size + 1, 6, none⟩ = some (.int .i64 2) := blk_cell bkg 6
    have dg7 : (w23.alloc (.cells #[.int .i64 2, .int .i64 (bit false), .string ⟨#[]⟩] 24)).cell? ⟨w21.heap.size + 1, 7, none⟩ = some (.int .i64 (bit false)) := blk_cell bkg 7
    have dg8 : (w23.alloc (.cells #[.int .i64 2, .int .i64 (bit false), .string ⟨#[]⟩] 24)).cell? ⟨w21.heap.size + 1, 8, none⟩ = some (.string ⟨#[]⟩) := blk_cell bkg 8
    have dv00 : (w23.alloc (.cells #[.int .i64 2, .int .i64 (bit false), .string ⟨#[]⟩] 24)).cell? ⟨w23.heap.size, 0, none⟩ = some (.int .i64 2) := blk_cell bkv0 0
    have dv01 : (w23.alloc (.cells #[.int .i64 2, .int .i64 (bit false), .string ⟨#[]⟩] 24)).cell? ⟨w23.heap.size, 1, none⟩ = some (.int .i64 (bit false)) := blk_cell bkv0 1
    have dv02 : (w23.alloc (.cells #[.int .i64 2, .int .i64 (bit false), .string ⟨#[]⟩] 24)).cell? ⟨w23.heap.size, 2, none⟩ = some (.string ⟨#[]⟩) := blk_cell bkv0 2
    go_wp2_with fail
    clear dx0
    clear dx1
    clear dx2
    clear dg0
    clear dg1
    clear dg2
    clear dg3
    clear dg4
    clear dg5
    clear dg6
    clear dg7
    clear dg8
    clear dv00
    clear dv01
    clear dv02
    clear cx0
    clear cx1
    clear cx2
    clear cg0
    clear cg1
    clear cg2
    clear cg3
    clear cg4
    clear cg5
    clear cg6
    clear cg7
    clear cg8
    have hs24 := size_alloc w23 (.cells #[.int .i64 2, .int .i64 (bit false), .string ⟨#[]⟩] 24)
    generalize (w23.alloc (.cells #[.int .i64 2, .int .i64 (bit false), .string ⟨#[]⟩] 24)) = w24 at *
    have cx0 : w24.cell? ⟨w9.heap.size, 0, none⟩ = some (.int .i64 2) := blk_cell bkx 0
    have cx1 : w24.cell? ⟨w9.heap.size, 1, none⟩ = some (.int .i64 (bit false)) := blk_cell bkx 1
    have cx2 : w24.cell? ⟨w9.heap.size, 2, none⟩ = some (.string ⟨#[]⟩) := blk_cell bkx 2
    have cg0 : w24.cell? ⟨w21.heap.size + 1, 0, none⟩ = some (.int .i64 2) := blk_cell bkg 0
    have cg1 : w24.cell? ⟨w21.heap.size + 1, 1, none⟩ = some (.int .i64 (bit false)) := blk_cell bkg 1
    have cg2 : w24.cell? ⟨w21.heap.size + 1, 2, none⟩ = some (.string ⟨#[]⟩) := blk_cell bkg 2
    have cg3 : w24.cell? ⟨w21.heap.size + 1, 3, none⟩ = some (.int .i64 2) := blk_cell bkg 3
    have cg4 : w24.cell? ⟨w21.heap.size + 1, 4, none⟩ = some (.int .i64 (bit true)) := blk_cell bkg 4
    have cg5 : w24.cell? ⟨w21.heap.size + 1, 5, none⟩ = some (.string ⟨#[]⟩) := blk_cell bkg 5
    have cg6 : w24.cell? ⟨w21.heap.size + 1, 6, none⟩ = some (.int .i64 2) := blk_cell bkg 6
    have cg7 : w24.cell? ⟨w21.heap.size + 1, 7, none⟩ = some (.int .i64 (bit false)) := blk_cell bkg 7
    have cg8 : w24.cell? ⟨w21.heap.size + 1, 8, none⟩ = some (.string ⟨#[]⟩) := blk_cell bkg 8
    have cv00 : w24.cell? ⟨w23.heap.size, 0, none⟩ = some (.int .i64 2) := blk_cell bkv0 0
    have cv01 : w24.cell? ⟨w23.heap.size, 1, none⟩ = some (.int .i64 (bit false)) := blk_cell bkv0 1
    have cv02 : w24.cell? ⟨w23.heap.size, 2, none⟩ = some (.string ⟨#[]⟩) := blk_cell bkv0 2
    clear cv00
    clear cv01
    clear cv02
    clear bkv0
    refine (yes_bit false ⟨#[]⟩ _).mono ?_
    rintro e w25 ⟨rfl, h25⟩
    replace bkx := blk_below bkx h25
    replace bkg := blk_below bkg h25
    replace hb := hb.trans (h25.mono hb.size)
    clear cx0
    clear cx1
    clear cx2
    clear cg0
    clear cg1
    clear cg2
    clear cg3
    clear cg4
    clear cg5
    clear cg6
    clear cg7
    clear cg8
    have cx0 : w25.cell? ⟨w9.heap.size, 0, none⟩ = some (.int .i64 2) := blk_cell bkx 0
    have cx1 : w25.cell? ⟨w9.heap.size, 1, none⟩ = some (.int .i64 (bit false)) := blk_cell bkx 1
    have cx2 : w25.cell? ⟨w9.heap.size, 2, none⟩ = some (.string ⟨#[]⟩) := blk_cell bkx 2
    have cg0 : w25.cell? ⟨w21.heap.size + 1, 0, none⟩ = some (.int .i64 2) := blk_cell bkg 0
    have cg1 : w25.cell? ⟨w21.heap.size + 1, 1, none⟩ = some (.int .i64 (bit false)) := blk_cell bkg 1
    have cg2 : w25.cell? ⟨w21.heap.size + 1, 2, none⟩ = some (.string ⟨#[]⟩) := blk_cell bkg 2
    have cg3 : w25.cell? ⟨w21.heap.size + 1, 3, none⟩ = some (.int .i64 2) := blk_cell bkg 3
    have cg4 : w25.cell? ⟨w21.heap.size + 1, 4, none⟩ = some (.int .i64 (bit true)) := blk_cell bkg 4
    have cg5 : w25.cell? ⟨w21.heap.size + 1, 5, none⟩ = some (.string ⟨#[]⟩) := blk_cell bkg 5
    have cg6 : w25.cell? ⟨w21.heap.size + 1, 6, none⟩ = some (.int .i64 2) := blk_cell bkg 6
    have cg7 : w25.cell? ⟨w21.heap.size + 1, 7, none⟩ = some (.int .i64 (bit false)) := blk_cell bkg 7
    have cg8 : w25.cell? ⟨w21.heap.size + 1, 8, none⟩ = some (.string ⟨#[]⟩) := blk_cell bkg 8
    go_wp2_with fail
    rw [rounds_succ]
    replace bkx := blk_alloc bkx (.cells #[.int .i64 2, .int .i64 (bit true), .string ⟨#[]⟩] 24)
    replace bkg := blk_alloc bkg (.cells #[.int .i64 2, .int .i64 (bit true), .string ⟨#[]⟩] 24)
    have bkv1 := blk_new w25 (.cells #[.int .i64 2, .int .i64 (bit true), .string ⟨#[]⟩] 24)
    replace hb := hb.alloc hb.size (.cells #[.int .i64 2, .int .i64 (bit true), .string ⟨#[]⟩] 24)
    have dx0 : (w25.alloc (.cells #[.int .i64 2, .int .i64 (bit true), .string ⟨#[]⟩] 24)).cell? ⟨w9.heap.size, 0, none⟩ = some (.int .i64 2) := blk_cell bkx 0
    have dx1 : (w25.alloc (.cells #[.int .i64 2, .int .i64 (bit true), .string ⟨#[]⟩] 24)).cell? ⟨w9.heap.size, 1, none⟩ = some (.int .i64 (bit false)) := blk_cell bkx 1
    have dx2 : (w25.alloc (.cells #[.int .i64 2, .int .i64 (bit true), .string ⟨#[]⟩] 24)).cell? ⟨w9.heap.size, 2, none⟩ = some (.string ⟨#[]⟩) := blk_cell bkx 2
    have dg0 : (w25.alloc (.cells #[.int .i64 2, .int .i64 (bit true), .string ⟨#[]⟩] 24)).cell? ⟨w21.heap.size + 1, 0, none⟩ = some (.int .i64 2) := blk_cell bkg 0
    have dg1 : (w25.alloc (.cells #[.int .i64 2, .int .i64 (bit true), .string ⟨#[]⟩] 24)).cell? ⟨w21.heap.size + 1, 1, none⟩ = some (.int .i64 (bit false)) := blk_cell bkg 1
    have dg2 : (w25.alloc (.cells #[.int .i64 2, .int .i64 (bit true), .string ⟨#[]⟩] 24)).cell? ⟨w21.heap.size + 1, 2, none⟩ = some (.string ⟨#[]⟩) := blk_cell bkg 2
    have dg3 : (w25.alloc (.cells #[.int .i64 2, .int .i64 (bit true), .string ⟨#[]⟩] 24)).cell? ⟨w21.heap.size + 1, 3, none⟩ = some (.int .i64 2) := blk_cell bkg 3
    have dg4 : (w25.alloc (.cells #[.int .i64 2, .int .i64 (bit true), .string ⟨#[]⟩] 24)).cell? ⟨w21.heap.size + 1, 4, none⟩ = some (.int .i64 (bit true)) := blk_cell bkg 4
    have dg5 : (w25.alloc (.cells #[.int .i64 2, .int .i64 (bit true), .string ⟨#[]⟩] 24)).cell? ⟨w21.heap.size + 1, 5, none⟩ = some (.string ⟨#[]⟩) := blk_cell bkg 5
    have dg6 : (w25.alloc (.cells #[.int .i64 2, .int .i64 (bit true), .string ⟨#[]⟩] 24)).cell? ⟨w21.heap.size + 1, 6, none⟩ = some (.int .i64 2) := blk_cell bkg 6
    have dg7 : (w25.alloc (.cells #[.int .i64 2, .int .i64 (bit true), .string ⟨#[]⟩] 24)).cell? ⟨w21.heap.size + 1, 7, none⟩ = some (.int .i64 (bit false)) := blk_cell bkg 7
    have dg8 : (w25.alloc (.cells #[.int .i64 2, .int .i64 (bit true), .string ⟨#[]⟩] 24)).cell? ⟨w21.heap.size + 1, 8, none⟩ = some (.string ⟨#[]⟩) := blk_cell bkg 8
    have dv10 : (w25.alloc (.cells #[.int .i64 2, .int .i64 (bit true), .string ⟨#[]⟩] 24)).cell? ⟨w25.heap.size, 0, none⟩ = some (.int .i64 2) := blk_cell bkv1 0
    have dv11 : (w25.alloc (.cells #[.int .i64 2, .int .i64 (bit true), .string ⟨#[]⟩] 24)).cell? ⟨w25.heap.size, 1, none⟩ = some (.int .i64 (bit true)) := blk_cell bkv1 1
    have dv12 : (w25.alloc (.cells #[.int .i64 2, .int .i64 (bit true), .string ⟨#[]⟩] 24)).cell? ⟨w25.heap.size, 2, none⟩ = some (.string ⟨#[]⟩) := blk_cell bkv1 2
    go_wp2_with fail
    clear dx0
    clear dx1
    clear dx2
    clear dg0
    clear dg1
    clear dg2
    clear dg3
    clear dg4
    clear dg5
    clear dg6
    clear dg7
    clear dg8
    clear dv10
    clear dv11
    clear dv12
    clear cx0
    clear cx1
    clear cx2
    clear cg0
    clear cg1
    clear cg2
    clear cg3
    clear cg4
    clear cg5
    clear cg6
    clear cg7
    clear cg8
    have hs26 := size_alloc w25 (.cells #[.int .i64 2, .int .i64 (bit true), .string ⟨#[]⟩] 24)
    generalize (w25.alloc (.cells #[.int .i64 2, .int .i64 (bit true), .string ⟨#[]⟩] 24)) = w26 at *
    have cx0 : w26.cell? ⟨w9.heap.size, 0, none⟩ = some (.int .i64 2) := blk_cell bkx 0
    have cx1 : w26.cell? ⟨w9.heap.size, 1, none⟩ = some (.int .i64 (bit false)) := blk_cell bkx 1
    have cx2 : w26.cell? ⟨w9.heap.size, 2, none⟩ = some (.string ⟨#[]⟩) := blk_cell bkx 2
    have cg0 : w26.cell? ⟨w21.heap.size + 1, 0, none⟩ = some (.int .i64 2) := blk_cell bkg 0
    have cg1 : w26.cell? ⟨w21.heap.size + 1, 1, none⟩ = some (.int .i64 (bit false)) := blk_cell bkg 1
    have cg2 : w26.cell? ⟨w21.heap.size + 1, 2, none⟩ = some (.string ⟨#[]⟩) := blk_cell bkg 2
    have cg3 : w26.cell? ⟨w21.heap.size + 1, 3, none⟩ = some (.int .i64 2) := blk_cell bkg 3
    have cg4 : w26.cell? ⟨w21.heap.size + 1, 4, none⟩ = some (.int .i64 (bit true)) := blk_cell bkg 4
    have cg5 : w26.cell? ⟨w21.heap.size + 1, 5, none⟩ = some (.string ⟨#[]⟩) := blk_cell bkg 5
    have cg6 : w26.cell? ⟨w21.heap.size + 1, 6, none⟩ = some (.int .i64 2) := blk_cell bkg 6
    have cg7 : w26.cell? ⟨w21.heap.size + 1, 7, none⟩ = some (.int .i64 (bit false)) := blk_cell bkg 7
    have cg8 : w26.cell? ⟨w21.heap.size + 1, 8, none⟩ = some (.string ⟨#[]⟩) := blk_cell bkg 8
    have cv10 : w26.cell? ⟨w25.heap.size, 0, none⟩ = some (.int .i64 2) := blk_cell bkv1 0
    have cv11 : w26.cell? ⟨w25.heap.size, 1, none⟩ = some (.int .i64 (bit true)) := blk_cell bkv1 1
    have cv12 : w26.cell? ⟨w25.heap.size, 2, none⟩ = some (.string ⟨#[]⟩) := blk_cell bkv1 2
    clear cv10
    clear cv11
    clear cv12
    clear bkv1
    refine (yes_bit true ⟨#[]⟩ _).mono ?_
    rintro e w27 ⟨rfl, h27⟩
    replace bkx := blk_below bkx h27
    replace bkg := blk_below bkg h27
    replace hb := hb.trans (h27.mono hb.size)
    clear cx0
    clear cx1
    clear cx2
    clear cg0
    clear cg1
    clear cg2
    clear cg3
    clear cg4
    clear cg5
    clear cg6
    clear cg7
    clear cg8
    have cx0 : w27.cell? ⟨w9.heap.size, 0, none⟩ = some (.int .i64 2) := blk_cell bkx 0
    have cx1 : w27.cell? ⟨w9.heap.size, 1, none⟩ = some (.int .i64 (bit false)) := blk_cell bkx 1
    have cx2 : w27.cell? ⟨w9.heap.size, 2, none⟩ = some (.string ⟨#[]⟩) := blk_cell bkx 2
    have cg0 : w27.cell? ⟨w21.heap.size + 1, 0, none⟩ = some (.int .i64 2) := blk_cell bkg 0
    have cg1 : w27.cell? ⟨w21.heap.size + 1, 1, none⟩ = some (.int .i64 (bit false)) := blk_cell bkg 1
    have cg2 : w27.cell? ⟨w21.heap.size + 1, 2, none⟩ = some (.string ⟨#[]⟩) := blk_cell bkg 2
    have cg3 : w27.cell? ⟨w21.heap.size + 1, 3, none⟩ = some (.int .i64 2) := blk_cell bkg 3
    have cg4 : w27.cell? ⟨w21.heap.size + 1, 4, none⟩ = some (.int .i64 (bit true)) := blk_cell bkg 4
    have cg5 : w27.cell? ⟨w21.heap.size + 1, 5, none⟩ = some (.string ⟨#[]⟩) := blk_cell bkg 5
    have cg6 : w27.cell? ⟨w21.heap.size + 1, 6, none⟩ = some (.int .i64 2) := blk_cell bkg 6
    have cg7 : w27.cell? ⟨w21.heap.size + 1, 7, none⟩ = some (.int .i64 (bit false)) := blk_cell bkg 7
    have cg8 : w27.cell? ⟨w21.heap.size + 1, 8, none⟩ = some (.string ⟨#[]⟩) := blk_cell bkg 8
    go_wp2_with fail
    rw [rounds_succ]
    replace bkx := blk_alloc bkx (.cells #[.int .i64 2, .int .i64 (bit false), .string ⟨#[]⟩] 24)
    replace bkg := blk_alloc bkg (.cells #[.int .i64 2, .int .i64 (bit false), .string ⟨#[]⟩] 24)
    have bkv2 := blk_new w27 (.cells #[.int .i64 2, .int .i64 (bit false), .string ⟨#[]⟩] 24)
    replace hb := hb.alloc hb.size (.cells #[.int .i64 2, .int .i64 (bit false), .string ⟨#[]⟩] 24)
    have dx0 : (w27.alloc (.cells #[.int .i64 2, .int .i64 (bit false), .string ⟨#[]⟩] 24)).cell? ⟨w9.heap.size, 0, none⟩ = some (.int .i64 2) := blk_cell bkx 0
    have dx1 : (w27.alloc (.cells #[.int .i64 2, .int .i64 (bit false), .string ⟨#[]⟩] 24)).cell? ⟨w9.heap.size, 1, none⟩ = some (.int .i64 (bit false)) := blk_cell bkx 1
    have dx2 : (w27.alloc (.cells #[.int .i64 2, .int .i64 (bit false), .string ⟨#[]⟩] 24)).cell? ⟨w9.heap.size, 2, none⟩ = some (.string ⟨#[]⟩) := blk_cell bkx 2
    have dg0 : (w27.alloc (.cells #[.int .i64 2, .int .i64 (bit false), .string ⟨#[]⟩] 24)).cell? ⟨w21.heap.size + 1, 0, none⟩ = some (.int .i64 2) := blk_cell bkg 0
    have dg1 : (w27.alloc (.cells #[.int .i64 2, .int .i64 (bit false), .string ⟨#[]⟩] 24)).cell? ⟨w21.heap.size + 1, 1, none⟩ = some (.int .i64 (bit false)) := blk_cell bkg 1
    have dg2 : (w27.alloc (.cells #[.int .i64 2, .int .i64 (bit false), .string ⟨#[]⟩] 24)).cell? ⟨w21.heap.size + 1, 2, none⟩ = some (.string ⟨#[]⟩) := blk_cell bkg 2
    have dg3 : (w27.alloc (.cells #[.int .i64 2, .int .i64 (bit false), .string ⟨#[]⟩] 24)).cell? ⟨w21.heap.size + 1, 3, none⟩ = some (.int .i64 2) := blk_cell bkg 3
    have dg4 : (w27.alloc (.cells #[.int .i64 2, .int .i64 (bit false), .string ⟨#[]⟩] 24)).cell? ⟨w21.heap.size + 1, 4, none⟩ = some (.int .i64 (bit true)) := blk_cell bkg 4
    have dg5 : (w27.alloc (.cells #[.int .i64 2, .int .i64 (bit false), .string ⟨#[]⟩] 24)).cell? ⟨w21.heap.size + 1, 5, none⟩ = some (.string ⟨#[]⟩) := blk_cell bkg 5
    have dg6 : (w27.alloc (.cells #[.int .i64 2, .int .i64 (bit false), .string ⟨#[]⟩] 24)).cell? ⟨w21.heap.size + 1, 6, none⟩ = some (.int .i64 2) := blk_cell bkg 6
    have dg7 : (w27.alloc (.cells #[.int .i64 2, .int .i64 (bit false), .string ⟨#[]⟩] 24)).cell? ⟨w21.heap.size + 1, 7, none⟩ = some (.int .i64 (bit false)) := blk_cell bkg 7
    have dg8 : (w27.alloc (.cells #[.int .i64 2, .int .i64 (bit false), .string ⟨#[]⟩] 24)).cell? ⟨w21.heap.size + 1, 8, none⟩ = some (.string ⟨#[]⟩) := blk_cell bkg 8
    have dv20 : (w27.alloc (.cells #[.int .i64 2, .int .i64 (bit false), .string ⟨#[]⟩] 24)).cell? ⟨w27.heap.size, 0, none⟩ = some (.int .i64 2) := blk_cell bkv2 0
    have dv21 : (w27.alloc (.cells #[.int .i64 2, .int .i64 (bit false), .string ⟨#[]⟩] 24)).cell? ⟨w27.heap.size, 1, none⟩ = some (.int .i64 (bit false)) := blk_cell bkv2 1
    have dv22 : (w27.alloc (.cells #[.int .i64 2, .int .i64 (bit false), .string ⟨#[]⟩] 24)).cell? ⟨w27.heap.size, 2, none⟩ = some (.string ⟨#[]⟩) := blk_cell bkv2 2
    go_wp2_with fail
    clear dx0
    clear dx1
    clear dx2
    clear dg0
    clear dg1
    clear dg2
    clear dg3
    clear dg4
    clear dg5
    clear dg6
    clear dg7
    clear dg8
    clear dv20
    clear dv21
    clear dv22
    clear cx0
    clear cx1
    clear cx2
    clear cg0
    clear cg1
    clear cg2
    clear cg3
    clear cg4
    clear cg5
    clear cg6
    clear cg7
    clear cg8
    have hs28 := size_alloc w27 (.cells #[.int .i64 2, .int .i64 (bit false), .string ⟨#[]⟩] 24)
    generalize (w27.alloc (.cells #[.int .i64 2, .int .i64 (bit false), .string ⟨#[]⟩] 24)) = w28 at *
    have cx0 : w28.cell? ⟨w9.heap.size, 0, none⟩ = some (.int .i64 2) := blk_cell bkx 0
    have cx1 : w28.cell? ⟨w9.heap.size, 1, none⟩ = some (.int .i64 (bit false)) := blk_cell bkx 1
    have cx2 : w28.cell? ⟨w9.heap.size, 2, none⟩ = some (.string ⟨#[]⟩) := blk_cell bkx 2
    have cg0 : w28.cell? ⟨w21.heap.size + 1, 0, none⟩ = some (.int .i64 2) := blk_cell bkg 0
    have cg1 : w28.cell? ⟨w21.heap.size + 1, 1, none⟩ = some (.int .i64 (bit false)) := blk_cell bkg 1
    have cg2 : w28.cell? ⟨w21.heap.size + 1, 2, none⟩ = some (.string ⟨#[]⟩) := blk_cell bkg 2
    have cg3 : w28.cell? ⟨w21.heap.size + 1, 3, none⟩ = some (.int .i64 2) := blk_cell bkg 3
    have cg4 : w28.cell? ⟨w21.heap.size + 1, 4, none⟩ = some (.int .i64 (bit true)) := blk_cell bkg 4
    have cg5 : w28.cell? ⟨w21.heap.size + 1, 5, none⟩ = some (.string ⟨#[]⟩) := blk_cell bkg 5
    have cg6 : w28.cell? ⟨w21.heap.size + 1, 6, none⟩ = some (.int .i64 2) := blk_cell bkg 6
    have cg7 : w28.cell? ⟨w21.heap.size + 1, 7, none⟩ = some (.int .i64 (bit false)) := blk_cell bkg 7
    have cg8 : w28.cell? ⟨w21.heap.size + 1, 8, none⟩ = some (.string ⟨#[]⟩) := blk_cell bkg 8
    have cv20 : w28.cell? ⟨w27.heap.size, 0, none⟩ = some (.int .i64 2) := blk_cell bkv2 0
    have cv21 : w28.cell? ⟨w27.heap.size, 1, none⟩ = some (.int .i64 (bit false)) := blk_cell bkv2 1
    have cv22 : w28.cell? ⟨w27.heap.size, 2, none⟩ = some (.string ⟨#[]⟩) := blk_cell bkv2 2
    clear cv20
    clear cv21
    clear cv22
    clear bkv2
    refine (yes_bit false ⟨#[]⟩ _).mono ?_
    rintro e w29 ⟨rfl, h29⟩
    replace bkx := blk_below bkx h29
    replace bkg := blk_below bkg h29
    replace hb := hb.trans (h29.mono hb.size)
    clear cx0
    clear cx1
    clear cx2
    clear cg0
    clear cg1
    clear cg2
    clear cg3
    clear cg4
    clear cg5
    clear cg6
    clear cg7
    clear cg8
    have cx0 : w29.cell? ⟨w9.heap.size, 0, none⟩ = some (.int .i64 2) := blk_cell bkx 0
    have cx1 : w29.cell? ⟨w9.heap.size, 1, none⟩ = some (.int .i64 (bit false)) := blk_cell bkx 1
    have cx2 : w29.cell? ⟨w9.heap.size, 2, none⟩ = some (.string ⟨#[]⟩) := blk_cell bkx 2
    have cg0 : w29.cell? ⟨w21.heap.size + 1, 0, none⟩ = some (.int .i64 2) := blk_cell bkg 0
    have cg1 : w29.cell? ⟨w21.heap.size + 1, 1, none⟩ = some (.int .i64 (bit false)) := blk_cell bkg 1
    have cg2 : w29.cell? ⟨w21.heap.size + 1, 2, none⟩ = some (.string ⟨#[]⟩) := blk_cell bkg 2
    have cg3 : w29.cell? ⟨w21.heap.size + 1, 3, none⟩ = some (.int .i64 2) := blk_cell bkg 3
    have cg4 : w29.cell? ⟨w21.heap.size + 1, 4, none⟩ = some (.int .i64 (bit true)) := blk_cell bkg 4
    have cg5 : w29.cell? ⟨w21.heap.size + 1, 5, none⟩ = some (.string ⟨#[]⟩) := blk_cell bkg 5
    have cg6 : w29.cell? ⟨w21.heap.size + 1, 6, none⟩ = some (.int .i64 2) := blk_cell bkg 6
    have cg7 : w29.cell? ⟨w21.heap.size + 1, 7, none⟩ = some (.int .i64 (bit false)) := blk_cell bkg 7
    have cg8 : w29.cell? ⟨w21.heap.size + 1, 8, none⟩ = some (.string ⟨#[]⟩) := blk_cell bkg 8
    go_wp2_with fail
    rw [rounds_succ]
    go_wp2_with fail
    refine (yes_bit false ⟨#[]⟩ _).mono ?_
    rintro e w30 ⟨rfl, h30⟩
    replace bkx := blk_below bkx h30
    replace bkg := blk_below bkg h30
    replace hb := hb.trans (h30.mono hb.size)
    clear cx0
    clear cx1
    clear cx2
    clear cg0
    clear cg1
    clear cg2
    clear cg3
    clear cg4
    clear cg5
    clear cg6
    clear cg7
    clear cg8
    have cx0 : w30.cell? ⟨w9.heap.size, 0, none⟩ = some (.int .i64 2) := blk_cell bkx 0
    have cx1 : w30.cell? ⟨w9.heap.size, 1, none⟩ = some (.int .i64 (bit false)) := blk_cell bkx 1
    have cx2 : w30.cell? ⟨w9.heap.size, 2, none⟩ = some (.string ⟨#[]⟩) := blk_cell bkx 2
    have cg0 : w30.cell? ⟨w21.heap.size + 1, 0, none⟩ = some (.int .i64 2) := blk_cell bkg 0
    have cg1 : w30.cell? ⟨w21.heap.size + 1, 1, none⟩ = some (.int .i64 (bit false)) := blk_cell bkg 1
    have cg2 : w30.cell? ⟨w21.heap.size + 1, 2, none⟩ = some (.string ⟨#[]⟩) := blk_cell bkg 2
    have cg3 : w30.cell? ⟨w21.heap.size + 1, 3, none⟩ = some (.int .i64 2) := blk_cell bkg 3
    have cg4 : w30.cell? ⟨w21.heap.size + 1, 4, none⟩ = some (.int .i64 (bit true)) := blk_cell bkg 4
    have cg5 : w30.cell? ⟨w21.heap.size + 1, 5, none⟩ = some (.string ⟨#[]⟩) := blk_cell bkg 5
    have cg6 : w30.cell? ⟨w21.heap.size + 1, 6, none⟩ = some (.int .i64 2) := blk_cell bkg 6
    have cg7 : w30.cell? ⟨w21.heap.size + 1, 7, none⟩ = some (.int .i64 (bit false)) := blk_cell bkg 7
    have cg8 : w30.cell? ⟨w21.heap.size + 1, 8, none⟩ = some (.string ⟨#[]⟩) := blk_cell bkg 8
    go_wp2_with fail
    go_ret
    exact ⟨by simp, hb⟩
  ·   -- ('false', 'false', 'true')
    clear ca0
    clear ca1
    clear ca2
    clear bka
    clear cb0
    clear cb1
    clear cb2
    clear bkb
    clear cc0
    clear cc1
    clear cc2
    clear bkc
    clear cq0
    clear cq1
    clear cq2
    clear bkq
    clear cs0
    clear cs1
    clear cs2
    clear bks
    clear cy0
    clear cy1
    clear cy2
    clear bky
    clear cz0
    clear cz1
    clear cz2
    clear bkz
    clear RX RY RZ RW RS L1
    refine wp_loop_rounds 4 ?_
    rw [rounds_succ]
    replace bkx := blk_alloc bkx (.cells #[.int .i64 2, .int .i64 (bit false), .string ⟨#[]⟩] 24)
    replace bkg := blk_alloc bkg (.cells #[.int .i64 2, .int .i64 (bit false), .string ⟨#[]⟩] 24)
    have bkv0 := blk_new w23 (.cells #[.int .i64 2, .int .i64 (bit false), .string ⟨#[]⟩] 24)
    replace hb := hb.alloc hb.size (.cells #[.int .i64 2, .int .i64 (bit false), .string ⟨#[]⟩] 24)
    have dx0 : (w23.alloc (.cells #[.int .i64 2, .int .i64 (bit false), .string ⟨#[]⟩] 24)).cell? ⟨w9.heap.size, 0, none⟩ = some (.int .i64 2) := blk_cell bkx 0
    have dx1 : (w23.alloc (.cells #[.int .i64 2, .int .i64 (bit false), .string ⟨#[]⟩] 24)).cell? ⟨w9.heap.size, 1, none⟩ = some (.int .i64 (bit false)) := blk_cell bkx 1
    have dx2 : (w23.alloc (.cells #[.int .i64 2, .int .i64 (bit false), .string ⟨#[]⟩] 24)).cell? ⟨w9.heap.size, 2, none⟩ = some (.string ⟨#[]⟩) := blk_cell bkx 2
    have dg0 : (w23.alloc (.cells #[.int .i64 2, .int .i64 (bit false), .string ⟨#[]⟩] 24)).cell? ⟨w21.heap.size + 1, 0, none⟩ = some (.int .i64 2) := blk_cell bkg 0
    have dg1 : (w23.alloc (.cells #[.int .i64 2, .int .i64 (bit false), .string ⟨#[]⟩] 24)).cell? ⟨w21.heap.size + 1, 1, none⟩ = some (.int .i64 (bit false)) := blk_cell bkg 1
    have dg2 : (w23.alloc (.cells #[.int .i64 2, .int .i64 (bit false), .string ⟨#[]⟩] 24)).cell? ⟨w21.heap.size + 1, 2, none⟩ = some (.string ⟨#[]⟩) := blk_cell bkg 2
    have dg3 : (w23.alloc (.cells #[.int .i64 2, .int .i64 (bit false), .string ⟨#[]⟩] 24)).cell? ⟨w21.heap.size + 1, 3, none⟩ = some (.int .i64 2) := blk_cell bkg 3
    have dg4 : (w23.alloc (.cells #[.int .i64 2, .int .i64 (bit false), .string ⟨#[]⟩] 24)).cell? ⟨w21.heap.size + 1, 4, none⟩ = some (.int .i64 (bit false)) := blk_cell bkg 4
    have dg5 : (w23.alloc (.cells #[.int .i64 2, .int .i64 (bit false), .string ⟨#[]⟩] 24)).cell? ⟨w21.heap.size + 1, 5, none⟩ = some (.string ⟨#[]⟩) := blk_cell bkg 5
    have dg6 : (w23.alloc (.cells #[.int .i64 2, .int .i64 (bit false), .string ⟨#[]⟩] 24)).cell? ⟨w21.heap.size + 1, 6, none⟩ = some (.int .i64 2) := blk_cell bkg 6
    have dg7 : (w23.alloc (.cells #[.int .i64 2, .int .i64 (bit false), .string ⟨#[]⟩] 24)).cell? ⟨w21.heap.size + 1, 7, none⟩ = some (.int .i64 (bit true)) := blk_cell bkg 7
    have dg8 : (w23.alloc (.cells #[.int .i64 2, .int .i64 (bit false), .string ⟨#[]⟩] 24)).cell? ⟨w21.heap.size + 1, 8, none⟩ = some (.string ⟨#[]⟩) := blk_cell bkg 8
    have dv00 : (w23.alloc (.cells #[.int .i64 2, .int .i64 (bit false), .string ⟨#[]⟩] 24)).cell? ⟨w23.heap.size, 0, none⟩ = some (.int .i64 2) := blk_cell bkv0 0
    have dv01 : (w23.alloc (.cells #[.int .i64 2, .int .i64 (bit false), .string ⟨#[]⟩] 24)).cell? ⟨w23.heap.size, 1, none⟩ = some (.int .i64 (bit false)) := blk_cell bkv0 1
    have dv02 : (w23.alloc (.cells #[.int .i64 2, .int .i64 (bit false), .string ⟨#[]⟩] 24)).cell? ⟨w23.heap.size, 2, none⟩ = some (.string ⟨#[]⟩) := blk_cell bkv0 2
    go_wp2_with fail
    clear dx0
    clear dx1
    clear dx2
    clear dg0
    clear dg1
    clear dg2
    clear dg3
    clear dg4
    clear dg5
    clear dg6
    clear dg7
    clear dg8
    clear dv00
    clear dv01
    clear dv02
    clear cx0
    clear cx1
    clear cx2
    clear cg0
    clear cg1
    clear cg2
    clear cg3
    clear cg4
    clear cg5
    clear cg6
    clear cg7
    clear cg8
    have hs24 := size_alloc w23 (.cells #[.int .i64 2, .int .i64 (bit false), .string ⟨#[]⟩] 24)
    generalize (w23.alloc (.cells #[.int .i64 2, .int .i64 (bit false), .string ⟨#[]⟩] 24)) = w24 at *
    have cx0 : w24.cell? ⟨w9.heap.size, 0, none⟩ = some (.int .i64 2) := blk_cell bkx 0
    have cx1 : w24.cell? ⟨w9.heap.size, 1, none⟩ = some (.int .i64 (bit false)) := blk_cell bkx 1
    have cx2 : w24.cell? ⟨w9.heap.size, 2, none⟩ = some (.string ⟨#[]⟩) := blk_cell bkx 2
    have cg0 : w24.cell? ⟨w21.heap.size + 1, 0, none⟩ = some (.int .i64 2) := blk_cell bkg 0
    have cg1 : w24.cell? ⟨w21.heap.size + 1, 1, none⟩ = some (.int .i64 (bit false)) := blk_cell bkg 1
    have cg2 : w24.cell? ⟨w21.heap.size + 1, 2, none⟩ = some (.string ⟨#[]⟩) := blk_cell bkg 2
    have cg3 : w24.cell? ⟨w21.heap.size + 1, 3, none⟩ = some (.int .i64 2) := blk_cell bkg 3
    have cg4 : w24.cell? ⟨w21.heap.size + 1, 4, none⟩ = some (.int .i64 (bit false)) := blk_cell bkg 4
    have cg5 : w24.cell? ⟨w21.heap.size + 1, 5, none⟩ = some (.string ⟨#[]⟩) := blk_cell bkg 5
    have cg6 : w24.cell? ⟨w21.heap.size + 1, 6, none⟩ = some (.int .i64 2) := blk_cell bkg 6
    have cg7 : w24.cell? ⟨w21.heap.size + 1, 7, none⟩ = some (.int .i64 (bit true)) := blk_cell bkg 7
    have cg8 : w24.cell? ⟨w21.heap.size + 1, 8, none⟩ = some (.string ⟨#[]⟩) := blk_cell bkg 8
    have cv00 : w24.cell? ⟨w23.heap.size, 0, none⟩ = some (.int .i64 2) := blk_cell bkv0 0
    have cv01 : w24.cell? ⟨w23.heap.size, 1, none⟩ = some (.int .i64 (bit false)) := blk_cell bkv0 1
    have cv02 : w24.cell? ⟨w23.heap.size, 2, none⟩ = some (.string ⟨#[]⟩) := blk_cell bkv0 2
    clear cv00
    clear cv01
    clear cv02
    clear bkv0
    refine (yes_bit false ⟨#[]⟩ _).mono ?_
    rintro e w25 ⟨rfl, h25⟩
    replace bkx := blk_below bkx h25
    replace bkg := blk_below bkg h25
    replace hb := hb.trans (h25.mono hb.size)
    clear cx0
    clear cx1
    clear cx2
    clear cg0
    clear cg1
    clear cg2
    clear cg3
    clear cg4
    clear cg5
    clear cg6
    clear cg7
    clear cg8
    have cx0 : w25.cell? ⟨w9.heap.size, 0, none⟩ = some (.int .i64 2) := blk_cell bkx 0
    have cx1 : w25.cell? ⟨w9.heap.size, 1, none⟩ = some (.int .i64 (bit false)) := blk_cell bkx 1
    have cx2 : w25.cell? ⟨w9.heap.size, 2, none⟩ = some (.string ⟨#[]⟩) := blk_cell bkx 2
    have cg0 : w25.cell? ⟨w21.heap.size + 1, 0, none⟩ = some (.int .i64 2) := blk_cell bkg 0
    have cg1 : w25.cell? ⟨w21.heap.size + 1, 1, none⟩ = some (.int .i64 (bit false)) := blk_cell bkg 1
    have cg2 : w25.cell? ⟨w21.heap.size + 1, 2, none⟩ = some (.string ⟨#[]⟩) := blk_cell bkg 2
    have cg3 : w25.cell? ⟨w21.heap.size + 1, 3, none⟩ = some (.int .i64 2) := blk_cell bkg 3
    have cg4 : w25.cell? ⟨w21.heap.size + 1, 4, none⟩ = some (.int .i64 (bit false)) := blk_cell bkg 4
    have cg5 : w25.cell? ⟨w21.heap.size + 1, 5, none⟩ = some (.string ⟨#[]⟩) := blk_cell bkg 5
    have cg6 : w25.cell? ⟨w21.heap.size + 1, 6, none⟩ = some (.int .i64 2) := blk_cell bkg 6
    have cg7 : w25.cell? ⟨w21.heap.size + 1, 7, none⟩ = some (.int .i64 (bit true)) := blk_cell bkg 7
    have cg8 : w25.cell? ⟨w21.heap.size + 1, 8, none⟩ = some (.string ⟨#[]⟩) := blk_cell bkg 8
    go_wp2_with fail
    rw [rounds_succ]
    replace bkx := blk_alloc bkx (.cells #[.int .i64 2, .int .i64 (bit false), .string ⟨#[]⟩] 24)
    replace bkg := blk_alloc bkg (.cells #[.int .i64 2, .int .i64 (bit false), .string ⟨#[]⟩] 24)
    have bkv1 := blk_new w25 (.cells #[.int .i64 2, .int .i64 (bit false), .string ⟨#[]⟩] 24)
    replace hb := hb.alloc hb.size (.cells #[.int .i64 2, .int .i64 (bit false), .string ⟨#[]⟩] 24)
    have dx0 : (w25.alloc (.cells #[.int .i64 2, .int .i64 (bit false), .string ⟨#[]⟩] 24)).cell? ⟨w9.heap.size, 0, none⟩ = some (.int .i64 2) := blk_cell bkx 0
    have dx1 : (w25.alloc (.cells #[.int .i64 2, .int .i64 (bit false), .string ⟨#[]⟩] 24)).cell? ⟨w9.heap.size, 1, none⟩ = some (.int .i64 (bit false)) := blk_cell bkx 1
    have dx2 : (w25.alloc (.cells #[.int .i64 2, .int .i64 (bit false), .string ⟨#[]⟩] 24)).cell? ⟨w9.heap.size, 2, none⟩ = some (.string ⟨#[]⟩) := blk_cell bkx 2
    have dg0 : (w25.alloc (.cells #[.int .i64 2, .int .i64 (bit false), .string ⟨#[]⟩] 24)).cell? ⟨w21.heap.size + 1, 0, none⟩ = some (.int .i64 2) := blk_cell bkg 0
    have dg1 : (w25.alloc (.cells #[.int .i64 2, .int .i64 (bit false), .string ⟨#[]⟩] 24)).cell? ⟨w21.heap.size + 1, 1, none⟩ = some (.int .i64 (bit false)) := blk_cell bkg 1
    have dg2 : (w25.alloc (.cells #[.int .i64 2, .int .i64 (bit false), .string ⟨#[]⟩] 24)).cell? ⟨w21.heap.size + 1, 2, none⟩ = some (.string ⟨#[]⟩) := blk_cell bkg 2
    have dg3 : (w25.alloc (.cells #[.int .i64 2, .int .i64 (bit false), .string ⟨#[]⟩] 24)).cell? ⟨w21.heap.size + 1, 3, none⟩ = some (.int .i64 2) := blk_cell bkg 3
    have dg4 : (w25.alloc (.cells #[.int .i64 2, .int .i64 (bit false), .string ⟨#[]⟩] 24)).cell? ⟨w21.heap.size + 1, 4, none⟩ = some (.int .i64 (bit false)) := blk_cell bkg 4
    have dg5 : (w25.alloc (.cells #[.int .i64 2, .int .i64 (bit false), .string ⟨#[]⟩] 24)).cell? ⟨w21.heap.size + 1, 5, none⟩ = some (.string ⟨#[]⟩) := blk_cell bkg 5
    have dg6 : (w25.alloc (.cells #[.int .i64 2, .int .i64 (bit false), .string ⟨#[]⟩] 24)).cell? ⟨w21.heap.size + 1, 6, none⟩ = some (.int .i64 2) := blk_cell bkg 6
    have dg7 : (w25.alloc (.cells #[.int .i64 2, .int .i64 (bit false), .string ⟨#[]⟩] 24)).cell? ⟨w21.heap.size + 1, 7, none⟩ = some (.int .i64 (bit true)) := blk_cell bkg 7
    have dg8 : (w25.alloc (.cells #[.int .i64 2, .int .i64 (bit false), .string ⟨#[]⟩] 24)).cell? ⟨w21.heap.size + 1, 8, none⟩ = some (.string ⟨#[]⟩) := blk_cell bkg 8
    have dv10 : (w25.alloc (.cells #[.int .i64 2, .int .i64 (bit false), .string ⟨#[]⟩] 24)).cell? ⟨w25.heap.size, 0, none⟩ = some (.int .i64 2) := blk_cell bkv1 0
    have dv11 : (w25.alloc (.cells #[.int .i64 2, .int .i64 (bit false), .string ⟨#[]⟩] 24)).cell? ⟨w25.heap.size, 1, none⟩ = some (.int .i64 (bit false)) := blk_cell bkv1 1
    have dv12 : (w25.alloc (.cells #[.int .i64 2, .int .i64 (bit false), .string ⟨#[]⟩] 24)).cell? ⟨w25.heap.size, 2, none⟩ = some (.string ⟨#[]⟩) := blk_cell bkv1 2
    go_wp2_with fail
    clear dx0
    clear dx1
    clear dx2
    clear dg0
    clear dg1
    clear dg2
    clear dg3
    clear dg4
    clear dg5
    clear dg6
    clear dg7
    clear dg8
    clear dv10
    clear dv11
    clear dv12
    clear cx0
    clear cx1
    clear cx2
    clear cg0
    clear cg1
    clear cg2
    clear cg3
    clear cg4
    clear cg5
    clear cg6
    clear cg7
    clear cg8
    have hs26 := size_alloc w25 (.cells #[.int .i64 2, .int .i64 (bit false), .string ⟨#[]⟩] 24)
    generalize (w25.alloc (.cells #[.int .i64 2, .int .i64 (bit false), .string ⟨#[]⟩] 24)) = w26 at *
    have cx0 : w26.cell? ⟨w9.heap.size, 0, none⟩ = some (.int .i64 2) := blk_cell bkx 0
    have cx1 : w26.cell? ⟨w9.heap.size, 1, none⟩ = some (.int .i64 (bit false)) := blk_cell bkx 1
    have cx2 : w26.cell? ⟨w9.heap.size, 2, none⟩ = some (.string ⟨#[]⟩) := blk_cell bkx 2
    have cg0 : w26.cell? ⟨w21.heap.size + 1, 0, none⟩ = some (.int .i64 2) := blk_cell bkg 0
    have cg1 : w26.cell? ⟨w21.heap.size + 1, 1, none⟩ = some (.int .i64 (bit false)) := blk_cell bkg 1
    have cg2 : w26.cell? ⟨w21.heap.size + 1, 2, none⟩ = some (.string ⟨#[]⟩) := blk_cell bkg 2
    have cg3 : w26.cell? ⟨w21.heap.size + 1, 3, none⟩ = some (.int .i64 2) := blk_cell bkg 3
    have cg4 : w26.cell? ⟨w21.heap.size + 1, 4, none⟩ = some (.int .i64 (bit false)) := blk_cell bkg 4
    have cg5 : w26.cell? ⟨w21.heap.size + 1, 5, none⟩ = some (.string ⟨#[]⟩) := blk_cell bkg 5
    have cg6 : w26.cell? ⟨w21.heap.size + 1, 6, none⟩ = some (.int .i64 2) := blk_cell bkg 6
    have cg7 : w26.cell? ⟨w21.heap.size + 1, 7, none⟩ = some (.int .i64 (bit true)) := blk_cell bkg 7
    have cg8 : w26.cell? ⟨w21.heap.size + 1, 8, none⟩ = some (.string ⟨#[]⟩) := blk_cell bkg 8
    have cv10 : w26.cell? ⟨w25.heap.size, 0, none⟩ = some (.int .i64 2) := blk_cell bkv1 0
    have cv11 : w26.cell? ⟨w25.heap.size, 1, none⟩ = some (.int .i64 (bit false)) := blk_cell bkv1 1
    have cv12 : w26.cell? ⟨w25.heap.size, 2, none⟩ = some (.string ⟨#[]⟩) := blk_cell bkv1 2
    clear cv10
    clear cv11
    clear cv12
    clear bkv1
    refine (yes_bit false ⟨#[]⟩ _).mono ?_
    rintro e w27 ⟨rfl, h27⟩
    replace bkx := blk_below bkx h27
    replace bkg := blk_below bkg h27
    replace hb := hb.trans (h27.mono hb.size)
    clear cx0
    clear cx1
    clear cx2
    clear cg0
    clear cg1
    clear cg2
    clear cg3
    clear cg4
    clear cg5
    clear cg6
    clear cg7
    clear cg8
    have cx0 : w27.cell? ⟨w9.heap.size, 0, none⟩ = some (.int .i64 2) := blk_cell bkx 0
    have cx1 : w27.cell? ⟨w9.heap.size, 1, none⟩ = some (.int .i64 (bit false)) := blk_cell bkx 1
    have cx2 : w27.cell? ⟨w9.heap.size, 2, none⟩ = some (.string ⟨#[]⟩) := blk_cell bkx 2
    have cg0 : w27.cell? ⟨w21.heap.size + 1, 0, none⟩ = some (.int .i64 2) := blk_cell bkg 0
    have cg1 : w27.cell? ⟨w21.heap.size + 1, 1, none⟩ = some (.int .i64 (bit false)) := blk_cell bkg 1
    have cg2 : w27.cell? ⟨w21.heap.size + 1, 2, none⟩ = some (.string ⟨#[]⟩) := blk_cell bkg 2
    have cg3 : w27.cell? ⟨w21.heap.size + 1, 3, none⟩ = some (.int .i64 2) := blk_cell bkg 3
    have cg4 : w27.cell? ⟨w21.heap.size + 1, 4, none⟩ = some (.int .i64 (bit false)) := blk_cell bkg 4
    have cg5 : w27.cell? ⟨w21.heap.size + 1, 5, none⟩ = some (.string ⟨#[]⟩) := blk_cell bkg 5
    have cg6 : w27.cell? ⟨w21.heap.size + 1, 6, none⟩ = some (.int .i64 2) := blk_cell bkg 6
    have cg7 : w27.cell? ⟨w21.heap.size + 1, 7, none⟩ = some (.int .i64 (bit true)) := blk_cell bkg 7
    have cg8 : w27.cell? ⟨w21.heap.size + 1, 8, none⟩ = some (.string ⟨#[]⟩) := blk_cell bkg 8
    go_wp2_with fail
    rw [rounds_succ]
    replace bkx := blk_alloc bkx (.cells #[.int .i64 2, .int .i64 (bit true), .string ⟨#[]⟩] 24)
    replace bkg := blk_alloc bkg (.cells #[.int .i64 2, .int .i64 (bit true), .string ⟨#[]⟩] 24)
    have bkv2 := blk_new w27 (.cells #[.int .i64 2, .int .i64 (bit true), .string ⟨#[]⟩] 24)
    replace hb := hb.alloc hb.size (.cells #[.int .i64 2, .int .i64 (bit true), .string ⟨#[]⟩] 24)
    have dx0 : (w27.alloc (.cells #[.int .i64 2, .int .i64 (bit true), .string ⟨#[]⟩] 24)).cell? ⟨w9.heap.size, 0, none⟩ = some (.int .i64 2) := blk_cell bkx 0
    have dx1 : (w27.alloc (.cells #[.int .i64 2, .int .i64 (bit true), .string ⟨#[]⟩] 24)).cell? ⟨w9.heap.size, 1, none⟩ = some (.int .i64 (bit false)) := blk_cell bkx 1
    have dx2 : (w27.alloc (.cells #[.int .i64 2, .int .i64 (bit true), .string ⟨#[]⟩] 24)).cell? ⟨w9.heap.size, 2, none⟩ = some (.string ⟨#[]⟩) := blk_cell bkx 2
    have dg0 : (w27.alloc (.cells #[.int .i64 2, .int .i64 (bit true), .string ⟨#[]⟩] 24)).cell? ⟨w21.heap.size + 1, 0, none⟩ = some (.int .i64 2) := blk_cell bkg 0
    have dg1 : (w27.alloc (.cells #[.int .i64 2, .int .i64 (bit true), .string ⟨#[]⟩] 24)).cell? ⟨w21.heap.size + 1, 1, none⟩ = some (.int .i64 (bit false)) := blk_cell bkg 1
    have dg2 : (w27.alloc (.cells #[.int .i64 2, .int .i64 (bit true), .string ⟨#[]⟩] 24)).cell? ⟨w21.heap.size + 1, 2, none⟩ = some (.string ⟨#[]⟩) := blk_cell bkg 2
    have dg3 : (w27.alloc (.cells #[.int .i64 2, .int .i64 (bit true), .string ⟨#[]⟩] 24)).cell? ⟨w21.heap.size + 1, 3, none⟩ = some (.int .i64 2) := blk_cell bkg 3
    have dg4 : (w27.alloc (.cells #[.int .i64 2, .int .i64 (bit true), .string ⟨#[]⟩] 24)).cell? ⟨w21.heap.size + 1, 4, none⟩ = some (.int .i64 (bit false)) := blk_cell bkg 4
    have dg5 : (w27.alloc (.cells #[.int .i64 2, .int .i64 (bit true), .string ⟨#[]⟩] 24)).cell? ⟨w21.heap.size + 1, 5, none⟩ = some (.string ⟨#[]⟩) := blk_cell bkg 5
    have dg6 : (w27.alloc (.cells #[.int .i64 2, .int .i64 (bit true), .string ⟨#[]⟩] 24)).cell? ⟨w21.heap.size + 1, 6, none⟩ = some (.int .i64 2) := blk_cell bkg 6
    have dg7 : (w27.alloc (.cells #[.int .i64 2, .int .i64 (bit true), .string ⟨#[]⟩] 24)).cell? ⟨w21.heap.size + 1, 7, none⟩ = some (.int .i64 (bit true)) := blk_cell bkg 7
    have dg8 : (w27.alloc (.cells #[.int .i64 2, .int .i64 (bit true), .string ⟨#[]⟩] 24)).cell? ⟨w21.heap.size + 1, 8, none⟩ = some (.string ⟨#[]⟩) := blk_cell bkg 8
    have dv20 : (w27.alloc (.cells #[.int .i64 2, .int .i64 (bit true), .string ⟨#[]⟩] 24)).cell? ⟨w27.heap.size, 0, none⟩ = some (.int .i64 2) := blk_cell bkv2 0
    have dv21 : (w27.alloc (.cells #[.int .i64 2, .int .i64 (bit true), .string ⟨#[]⟩] 24)).cell? ⟨w27.heap.size, 1, none⟩ = some (.int .i64 (bit true)) := blk_cell bkv2 1
    have dv22 : (w27.alloc (.cells #[.int .i64 2, .int .i64 (bit true), .string ⟨#[]⟩] 24)).cell? ⟨w27.heap.size, 2, none⟩ = some (.string ⟨#[]⟩) := blk_cell bkv2 2
    go_wp2_with fail
    clear dx0
    clear dx1
    clear dx2
    clear dg0
    clear dg1
    clear dg2
    clear dg3
    clear dg4
    clear dg5
    clear dg6
    clear dg7
    clear dg8
    clear dv20
    clear dv21
    clear dv22
    clear cx0
    clear cx1
    clear cx2
    clear cg0
    clear cg1
    clear cg2
    clear cg3
    clear cg4
    clear cg5
    clear cg6
    clear cg7
    clear cg8
    have hs28 := size_alloc w27 (.cells #[.int .i64 2, .int .i64 (bit true), .string ⟨#[]⟩] 24)
    generalize (w27.alloc (.cells #[.int .i64 2, .int .i64 (bit true), .string ⟨#[]⟩] 24)) = w28 at *
    have cx0 : w28.cell? ⟨w9.heap.size, 0, none⟩ = some (.int .i64 2) := blk_cell bkx 0
    have cx1 : w28.cell? ⟨w9.heap.size, 1, none⟩ = some (.int .i64 (bit false)) := blk_cell bkx 1
    have cx2 : w28.cell? ⟨w9.heap.size, 2, none⟩ = some (.string ⟨#[]⟩) := blk_cell bkx 2
    have cg0 : w28.cell? ⟨w21.heap.size + 1, 0, none⟩ = some (.int .i64 2) := blk_cell bkg 0
    have cg1 : w28.cell? ⟨w21.heap.size + 1, 1, none⟩ = some (.int .i64 (bit false)) := blk_cell bkg 1
    have cg2 : w28.cell? ⟨w21.heap.size + 1, 2, none⟩ = some (.string ⟨#[]⟩) := blk_cell bkg 2
    have cg3 : w28.cell? ⟨w21.heap.size + 1, 3, none⟩ = some (.int .i64 2) := blk_cell bkg 3
    have cg4 : w28.cell? ⟨w21.heap.size + 1, 4, none⟩ = some (.int .i64 (bit false)) := blk_cell bkg 4
    have cg5 : w28.cell? ⟨w21.heap.size + 1, 5, none⟩ = some (.string ⟨#[]⟩) := blk_cell bkg 5
    have cg6 : w28.cell? ⟨w21.heap.size + 1, 6, none⟩ = some (.int .i64 2) := blk_cell bkg 6
    have cg7 : w28.cell? ⟨w21.heap.size + 1, 7, none⟩ = some (.int .i64 (bit true)) := blk_cell bkg 7
    have cg8 : w28.cell? ⟨w21.heap.size + 1, 8, none⟩ = some (.string ⟨#[]⟩) := blk_cell bkg 8
    have cv20 : w28.cell? ⟨w27.heap.size, 0, none⟩ = some (.int .i64 2) := blk_cell bkv2 0
    have cv21 : w28.cell? ⟨w27.heap.size, 1, none⟩ = some (.int .i64 (bit true)) := blk_cell bkv2 1
    have cv22 : w28.cell? ⟨w27.heap.size, 2, none⟩ = some (.string ⟨#[]⟩) := blk_cell bkv2 2
    clear cv20
    clear cv21
    clear cv22
    clear bkv2
    refine (yes_bit true ⟨#[]⟩ _).mono ?_
    rintro e w29 ⟨rfl, h29⟩
    replace bkx := blk_below bkx h29
    replace bkg := blk_below bkg h29
    replace hb := hb.trans (h29.mono hb.size)
    clear cx0
    clear cx1
    clear cx2
    clear cg0
    clear cg1
    clear cg2
    clear cg3
    clear cg4
    clear cg5
    clear cg6
    clear cg7
    clear cg8
    have cx0 : w29.cell? ⟨w9.heap.size, 0, none⟩ = some (.int .i64 2) := blk_cell bkx 0
    have cx1 : w29.cell? ⟨w9.heap.size, 1, none⟩ = some (.int .i64 (bit false)) := blk_cell bkx 1
    have cx2 : w29.cell? ⟨w9.heap.size, 2, none⟩ = some (.string ⟨#[]⟩) := blk_cell bkx 2
    have cg0 : w29.cell? ⟨w21.heap.size + 1, 0, none⟩ = some (.int .i64 2) := blk_cell bkg 0
    have cg1 : w29.cell? ⟨w21.heap.size + 1, 1, none⟩ = some (.int .i64 (bit false)) := blk_cell bkg 1
    have cg2 : w29.cell? ⟨w21.heap.size + 1, 2, none⟩ = some (.string ⟨#[]⟩) := blk_cell bkg 2
    have cg3 : w29.cell? ⟨w21.heap.size + 1, 3, none⟩ = some (.int .i64 2) := blk_cell bkg 3
    have cg4 : w29.cell? ⟨w21.heap.size + 1, 4, none⟩ = some (.int .i64 (bit false)) := blk_cell bkg 4
    have cg5 : w29.cell? ⟨w21.heap.size + 1, 5, none⟩ = some (.string ⟨#[]⟩) := blk_cell bkg 5
    have cg6 : w29.cell? ⟨w21.heap.size + 1, 6, none⟩ = some (.int .i64 2) := blk_cell bkg 6
    have cg7 : w29.cell? ⟨w21.heap.size + 1, 7, none⟩ = some (.int .i64 (bit true)) := blk_cell bkg 7
    have cg8 : w29.cell? ⟨w21.heap.size + 1, 8, none⟩ = some (.string ⟨#[]⟩) := blk_cell bkg 8
    go_wp2_with fail
    rw [rounds_succ]
    go_wp2_with fail
    refine (yes_bit false ⟨#[]⟩ _).mono ?_
    rintro e w30 ⟨rfl, h30⟩
    replace bkx := blk_below bkx h30
    replace bkg := blk_below bkg h30
    replace hb := hb.trans (h30.mono hb.size)
    clear cx0
    clear cx1
    clear cx2
    clear cg0
    clear cg1
    clear cg2
    clear cg3
    clear cg4
    clear cg5
    clear cg6
    clear cg7
    clear cg8
    have cx0 : w30.cell? ⟨w9.heap.size, 0, none⟩ = some (.int .i64 2) := blk_cell bkx 0
    have cx1 : w30.cell? ⟨w9.heap.size, 1, none⟩ = some (.int .i64 (bit false)) := blk_cell bkx 1
    have cx2 : w30.cell? ⟨w9.heap.size, 2, none⟩ = some (.string ⟨#[]⟩) := blk_cell bkx 2
    have cg0 : w30.cell? ⟨w21.heap.size + 1, 0, none⟩ = some (.int .i64 2) := blk_cell bkg 0
    have cg1 : w30.cell? ⟨w21.heap.size + 1, 1, none⟩ = some (.int .i64 (bit false)) := blk_cell bkg 1
    have cg2 : w30.cell? ⟨w21.heap.size + 1, 2, none⟩ = some (.string ⟨#[]⟩) := blk_cell bkg 2
    have cg3 : w30.cell? ⟨w21.heap.size + 1, 3, none⟩ = some (.int .i64 2) := blk_cell bkg 3
    have cg4 : w30.cell? ⟨w21.heap.size + 1, 4, none⟩ = some (.int .i64 (bit false)) := blk_cell bkg 4
    have cg5 : w30.cell? ⟨w21.heap.size + 1, 5, none⟩ = some (.string ⟨#[]⟩) := blk_cell bkg 5
    have cg6 : w30.cell? ⟨w21.heap.size + 1, 6, none⟩ = some (.int .i64 2) := blk_cell bkg 6
    have cg7 : w30.cell? ⟨w21.heap.size + 1, 7, none⟩ = some (.int .i64 (bit true)) := blk_cell bkg 7
    have cg8 : w30.cell? ⟨w21.heap.size + 1, 8, none⟩ = some (.string ⟨#[]⟩) := blk_cell bkg 8
    go_wp2_with fail
    go_ret
    exact ⟨by simp, hb⟩
theorem orders_walk (k1 n1 : Int) (s1 : ByteArray) (k2 n2 : Int) (s2 : ByteArray) (k3 n3 : Int) (s3 : ByteArray) (w : World)
    (_ : (Lit.int .i64 k1).wf = true) (_ : (Lit.int .i64 n1).wf = true) (_ : s1.size ≤ maxLen)
    (_ : (Lit.int .i64 k2).wf = true) (_ : (Lit.int .i64 n2).wf = true) (_ : s2.size ≤ maxLen)
    (_ : (Lit.int .i64 k3).wf = true) (_ : (Lit.int .i64 n3).wf = true) (_ : s3.size ≤ maxLen) :
    Calls Tryd.prog 6 #[.agg #[.int .i64 k1, .int .i64 n1, .string s1], .agg #[.int .i64 k2, .int .i64 n2, .string s2], .agg #[.int .i64 k3, .int .i64 n3, .string s3]] w fun e w' => e = .returned (.bool true) ∧ Below w.heap.size w w' :=
  orders_any k1 n1 s1 k2 n2 s2 k3 n3 s3 w
end Go.Proofs.YtbbdlcmcndhhkaaDoor.MValReckons
