/- The Size methods of the five patches, and which function an interface leads to. -/
import Derived.Test.YtfpbohfefliljaaDBase
import Derived.Deep.OwnRows
import Derived.LoopN
import Derived.Test.YtfpbohfefliljaaDSnap
section
namespace Go.Proofs.Ytfpbohfefliljaa.MD
open Go Go.RowKit Go.Proofs Go.Proofs.YtfpbohfefliljaaW.PrintWords Go.Proofs.YtfpbohfefliljaaW.PrintLast Go.Proofs.YtfpbohfefliljaaW.PrintMore
set_option linter.unusedVariables false
set_option linter.unusedSimpArgs false
theorem meth25 (w : World) (rv : Value) : Sem.run Try.prog (method 258 25 rv "Size") w = .ok (12, rv) w := by kernel_rfl
theorem ent25 (args : Array Value) (w : World) : (callFunc 12 args).run Try.prog w = .ok (.enter 12 args) w := by kernel_rfl
theorem size25 (x y : Int) (A : Option Addr) (n c : Nat) (w : World) : Calls Try.prog 12 #[.agg #[.int .i64 x, .int .i64 y, .slice A n c]] w fun e w' => e = .returned (.int .i64 (n : Int)) ∧ Below w.heap.size w w' := by
  go_enter Try.func12, Try.ntmps12
  go_wp2
  go_ret
  exact ⟨rfl, (Below.refl _ w).alloc (Nat.le_refl _) _⟩
theorem meth51 (w : World) (rv : Value) : Sem.run Try.prog (method 258 51 rv "Size") w = .ok (78, rv) w := by kernel_rfl
theorem ent51 (args : Array Value) (w : World) : (callFunc 78 args).run Try.prog w = .ok (.enter 78 args) w := by kernel_rfl
theorem size51 (x y : Int) (A : Option Addr) (n c : Nat) (w : World) : Calls Try.prog 78 #[.agg #[.int .i64 x, .int .i64 y, .slice A n c]] w fun e w' => e = .returned (.int .i64 (n : Int)) ∧ Below w.heap.size w w' := by
  go_enter Try.func78, Try.ntmps78
  go_wp2
  go_ret
  exact ⟨rfl, (Below.refl _ w).alloc (Nat.le_refl _) _⟩
theorem meth53 (w : World) (rv : Value) : Sem.run Try.prog (method 258 53 rv "Size") w = .ok (79, rv) w := by kernel_rfl
theorem ent53 (args : Array Value) (w : World) : (callFunc 79 args).run Try.prog w = .ok (.enter 79 args) w := by kernel_rfl
theorem size53 (x y : Int) (A : Option Addr) (n c : Nat) (w : World) : Calls Try.prog 79 #[.agg #[.int .i64 x, .int .i64 y, .slice A n c]] w fun e w' => e = .returned (.int .i64 (n : Int)) ∧ Below w.heap.size w w' := by
  go_enter Try.func79, Try.ntmps79
  go_wp2
  go_ret
  exact ⟨rfl, (Below.refl _ w).alloc (Nat.le_refl _) _⟩
theorem meth55 (w : World) (rv : Value) : Sem.run Try.prog (method 258 55 rv "Size") w = .ok (80, rv) w := by kernel_rfl
theorem ent55 (args : Array Value) (w : World) : (callFunc 80 args).run Try.prog w = .ok (.enter 80 args) w := by kernel_rfl
theorem size55 (x y : Int) (A : Option Addr) (n c : Nat) (w : World) : Calls Try.prog 80 #[.agg #[.int .i64 x, .int .i64 y, .slice A n c]] w fun e w' => e = .returned (.int .i64 (n : Int)) ∧ Below w.heap.size w w' := by
  go_enter Try.func80, Try.ntmps80
  go_wp2
  go_ret
  exact ⟨rfl, (Below.refl _ w).alloc (Nat.le_refl _) _⟩
theorem meth57 (w : World) (rv : Value) : Sem.run Try.prog (method 258 57 rv "Size") w = .ok (81, rv) w := by kernel_rfl
theorem ent57 (args : Array Value) (w : World) : (callFunc 81 args).run Try.prog w = .ok (.enter 81 args) w := by kernel_rfl
theorem size57 (x y : Int) (A : Option Addr) (n c : Nat) (w : World) : Calls Try.prog 81 #[.agg #[.int .i64 x, .int .i64 y, .slice A n c]] w fun e w' => e = .returned (.int .i64 (n : Int)) ∧ Below w.heap.size w w' := by
  go_enter Try.func81, Try.ntmps81
  go_wp2
  go_ret
  exact ⟨rfl, (Below.refl _ w).alloc (Nat.le_refl _) _⟩
end Go.Proofs.Ytfpbohfefliljaa.MD
end
section
namespace Go.Proofs.Ytfpbohfefliljaa.MD
open Go Go.RowKit Go.Proofs Go.Proofs.YtfpbohfefliljaaW.PrintWords Go.Proofs.YtfpbohfefliljaaW.PrintLast Go.Proofs.YtfpbohfefliljaaW.PrintMore
set_option linter.unusedVariables false
set_option linter.unusedSimpArgs false
set_option maxHeartbeats 16000000 in
set_option maxRecDepth 100000 in
theorem size_walk (w : World) (s : S46) (p1 q1 : Int) (B1 : Option Addr) (n1 d1 : Nat) (p2 q2 : Int) (B2 : Option Addr) (n2 d2 : Nat) (p3 q3 : Int) (B3 : Option Addr) (n3 d3 : Nat) (p4 q4 : Int) (B4 : Option Addr) (n4 d4 : Nat) (p5 q5 : Int) (B5 : Option Addr) (n5 d5 : Nat) (p6 q6 : Int) (B6 : Option Addr) (n6 d6 : Nat) (p7 q7 : Int) (B7 : Option Addr) (n7 d7 : Nat) (F5 : Option Addr) (m5 g5 : Nat) (F6 : Option Addr) (m6 g6 : Nat) (F7 : Option Addr) (m7 g7 : Nat) (F8 : Option Addr) (m8 g8 : Nat) (F9 : Option Addr) (m9 g9 : Nat) (F11 : Option Addr) (m11 g11 : Nat) (F13 : Option Addr) (m13 g13 : Nat) (hn : n1 ≤ 1000 ∧ n2 ≤ 1000 ∧ n3 ≤ 1000 ∧ n4 ≤ 1000 ∧ n5 ≤ 1000 ∧ n6 ≤ 1000 ∧ n7 ≤ 1000) : Calls Try.prog 24 #[.agg #[.int .i64 p1, .int .i64 q1, .slice B1 n1 d1, .int .i64 p2, .int .i64 q2, .slice B2 n2 d2, .int .i64 p3, .int .i64 q3, .slice B3 n3 d3, .int .i64 p4, .int .i64 q4, .slice B4 n4 d4, .int .i64 p5, .int .i64 q5, .slice B5 n5 d5, .int .i64 p6, .int .i64 q6, .slice B6 n6 d6, .int .i64 p7, .int .i64 q7, .slice B7 n7 d7, .int .i64 s.f0, .int .i64 s.f1, .int .i64 s.f2, .int .i64 s.f3, .int .u64 s.f4, .slice F5 m5 g5, .slice F6 m6 g6, .slice F7 m7 g7, .slice F8 m8 g8, .slice F9 m9 g9, .string s.f10.f0, .slice F11 m11 g11, .int .u64 s.f10.f2, .slice F13 m13 g13]] w fun e w' => e = .returned (.int .i64 ((n1 + n2 + n3 + n4 + n5 + n6 + n7 : Nat) : Int)) ∧ Below w.heap.size w w' := by
  have BD := Aside0.mk (blk_new w (.cells #[.int .i64 p1, .int .i64 q1, .slice B1 n1 d1, .int .i64 p2, .int .i64 q2, .slice B2 n2 d2, .int .i64 p3, .int .i64 q3, .slice B3 n3 d3, .int .i64 p4, .int .i64 q4, .slice B4 n4 d4, .int .i64 p5, .int .i64 q5, .slice B5 n5 d5, .int .i64 p6, .int .i64 q6, .slice B6 n6 d6, .int .i64 p7, .int .i64 q7, .slice B7 n7 d7, .int .i64 s.f0, .int .i64 s.f1, .int .i64 s.f2, .int .i64 s.f3, .int .u64 s.f4, .slice F5 m5 g5, .slice F6 m6 g6, .slice F7 m7 g7, .slice F8 m8 g8, .slice F9 m9 g9, .string s.f10.f0, .slice F11 m11 g11, .int .u64 s.f10.f2, .slice F13 m13 g13] 61))
  have HB := Aside0.mk ((Below.refl w.heap.size w).alloc (Nat.le_refl _) (.cells #[.int .i64 p1, .int .i64 q1, .slice B1 n1 d1, .int .i64 p2, .int .i64 q2, .slice B2 n2 d2, .int .i64 p3, .int .i64 q3, .slice B3 n3 d3, .int .i64 p4, .int .i64 q4, .slice B4 n4 d4, .int .i64 p5, .int .i64 q5, .slice B5 n5 d5, .int .i64 p6, .int .i64 q6, .slice B6 n6 d6, .int .i64 p7, .int .i64 q7, .slice B7 n7 d7, .int .i64 s.f0, .int .i64 s.f1, .int .i64 s.f2, .int .i64 s.f3, .int .u64 s.f4, .slice F5 m5 g5, .slice F6 m6 g6, .slice F7 m7 g7, .slice F8 m8 g8, .slice F9 m9 g9, .string s.f10.f0, .slice F11 m11 g11, .int .u64 s.f10.f2, .slice F13 m13 g13] 61))
  have HN := Aside0.mk hn
  clear hn
  go_enter Try.func24, Try.ntmps24
  go_upto_region 2 with (fail)
  generalize w.alloc (.cells #[.int .i64 p1, .int .i64 q1, .slice B1 n1 d1, .int .i64 p2, .int .i64 q2, .slice B2 n2 d2, .int .i64 p3, .int .i64 q3, .slice B3 n3 d3, .int .i64 p4, .int .i64 q4, .slice B4 n4 d4, .int .i64 p5, .int .i64 q5, .slice B5 n5 d5, .int .i64 p6, .int .i64 q6, .slice B6 n6 d6, .int .i64 p7, .int .i64 q7, .slice B7 n7 d7, .int .i64 s.f0, .int .i64 s.f1, .int .i64 s.f2, .int .i64 s.f3, .int .u64 s.f4, .slice F5 m5 g5, .slice F6 m6 g6, .slice F7 m7 g7, .slice F8 m8 g8, .slice F9 m9 g9, .string s.f10.f0, .slice F11 m11 g11, .int .u64 s.f10.f2, .slice F13 m13 g13] 61) = w0 at BD HB ⊢
  have k0 : w0.cell? ⟨w.heap.size, 0, none⟩ = some (.int .i64 p1) := blk_cell BD.out 0
  have k1 : w0.cell? ⟨w.heap.size, 1, none⟩ = some (.int .i64 q1) := blk_cell BD.out 1
  have k2 : w0.cell? ⟨w.heap.size, 2, none⟩ = some (.slice B1 n1 d1) := blk_cell BD.out 2
  have k3 : w0.cell? ⟨w.heap.size, 3, none⟩ = some (.int .i64 p2) := blk_cell BD.out 3
  have k4 : w0.cell? ⟨w.heap.size, 4, none⟩ = some (.int .i64 q2) := blk_cell BD.out 4
  have k5 : w0.cell? ⟨w.heap.size, 5, none⟩ = some (.slice B2 n2 d2) := blk_cell BD.out 5
  have k6 : w0.cell? ⟨w.heap.size, 6, none⟩ = some (.int .i64 p3) := blk_cell BD.out 6
  have k7 : w0.cell? ⟨w.heap.size, 7, none⟩ = some (.int .i64 q3) := blk_cell BD.out 7
  have k8 : w0.cell? ⟨w.heap.size, 8, none⟩ = some (.slice B3 n3 d3) := blk_cell BD.out 8
  have k9 : w0.cell? ⟨w.heap.size, 9, none⟩ = some (.int .i64 p4) := blk_cell BD.out 9
  have k10 : w0.cell? ⟨w.heap.size, 10, none⟩ = some (.int .i64 q4) := blk_cell BD.out 10
  have k11 : w0.cell? ⟨w.heap.size, 11, none⟩ = some (.slice B4 n4 d4) := blk_cell BD.out 11
  have k12 : w0.cell? ⟨w.heap.size, 12, none⟩ = some (.int .i64 p5) := blk_cell BD.out 12
  have k13 : w0.cell? ⟨w.heap.size, 13, none⟩ = some (.int .i64 q5) := blk_cell BD.out 13
  have k14 : w0.cell? ⟨w.heap.size, 14, none⟩ = some (.slice B5 n5 d5) := blk_cell BD.out 14
  have k15 : w0.cell? ⟨w.heap.size, 15, none⟩ = some (.int .i64 p6) := blk_cell BD.out 15
  have k16 : w0.cell? ⟨w.heap.size, 16, none⟩ = some (.int .i64 q6) := blk_cell BD.out 16
  have k17 : w0.cell? ⟨w.heap.size, 17, none⟩ = some (.slice B6 n6 d6) := blk_cell BD.out 17
  have k18 : w0.cell? ⟨w.heap.size, 18, none⟩ = some (.int .i64 p7) := blk_cell BD.out 18
  have k19 : w0.cell? ⟨w.heap.size, 19, none⟩ = some (.int .i64 q7) := blk_cell BD.out 19
  have k20 : w0.cell? ⟨w.heap.size, 20, none⟩ = some (.slice B7 n7 d7) := blk_cell BD.out 20
  go_wp2
  clear k0 k1 k2 k3 k4 k5 k6 k7 k8 k9 k10 k11 k12 k13 k14 k15 k16 k17 k18 k19 k20
  have BL := Aside0.mk (blk_new w0 (.cells #[.iface 51 (.agg #[.int .i64 p1, .int .i64 q1, .slice B1 n1 d1]), .iface 53 (.agg #[.int .i64 p2, .int .i64 q2, .slice B2 n2 d2]), .iface 25 (.agg #[.int .i64 p3, .int .i64 q3, .slice B3 n3 d3]), .iface 25 (.agg #[.int .i64 p4, .int .i64 q4, .slice B4 n4 d4]), .iface 55 (.agg #[.int .i64 p5, .int .i64 q5, .slice B5 n5 d5]), .iface 57 (.agg #[.int .i64 p6, .int .i64 q6, .slice B6 n6 d6]), .iface 25 (.agg #[.int .i64 p7, .int .i64 q7, .slice B7 n7 d7])] 97))
  replace HB := Aside0.mk (HB.out.alloc HB.out.size (.cells #[.iface 51 (.agg #[.int .i64 p1, .int .i64 q1, .slice B1 n1 d1]), .iface 53 (.agg #[.int .i64 p2, .int .i64 q2, .slice B2 n2 d2]), .iface 25 (.agg #[.int .i64 p3, .int .i64 q3, .slice B3 n3 d3]), .iface 25 (.agg #[.int .i64 p4, .int .i64 q4, .slice B4 n4 d4]), .iface 55 (.agg #[.int .i64 p5, .int .i64 q5, .slice B5 n5 d5]), .iface 57 (.agg #[.int .i64 p6, .int .i64 q6, .slice B6 n6 d6]), .iface 25 (.agg #[.int .i64 p7, .int .i64 q7, .slice B7 n7 d7])] 97))
  clear BD
  generalize hg : w0.heap.size = g at BL ⊢
  clear hg
  generalize w0.alloc (.cells #[.iface 51 (.agg #[.int .i64 p1, .int .i64 q1, .slice B1 n1 d1]), .iface 53 (.agg #[.int .i64 p2, .int .i64 q2, .slice B2 n2 d2]), .iface 25 (.agg #[.int .i64 p3, .int .i64 q3, .slice B3 n3 d3]), .iface 25 (.agg #[.int .i64 p4, .int .i64 q4, .slice B4 n4 d4]), .iface 55 (.agg #[.int .i64 p5, .int .i64 q5, .slice B5 n5 d5]), .iface 57 (.agg #[.int .i64 p6, .int .i64 q6, .slice B6 n6 d6]), .iface 25 (.agg #[.int .i64 p7, .int .i64 q7, .slice B7 n7 d7])] 97) = v0 at BL HB ⊢
  refine wp_loop_rounds 8 ?_
  rw [rounds_succ]
  have k0 : v0.cell? ⟨g, 0, none⟩ = some (.iface 51 (.agg #[.int .i64 p1, .int .i64 q1, .slice B1 n1 d1])) := blk_cell BL.out 0
  have mL := fun W => meth51 W (.agg #[.int .i64 p1, .int .i64 q1, .slice B1 n1 d1])
  have eL := ent51
  go_wp2_with (go_at_call 78; (with_reducible refine (size51 p1 q1 B1 n1 d1 v0).mono ?_); rintro e v1 ⟨rfl, hb⟩; replace BL := Aside0.mk (blk_below BL.out hb); replace HB := Aside0.mk (HB.out.trans (hb.mono HB.out.size)); clear hb k0)
  clear mL eL
  rw [rounds_succ]
  have k0 : v1.cell? ⟨g, 1, none⟩ = some (.iface 53 (.agg #[.int .i64 p2, .int .i64 q2, .slice B2 n2 d2])) := blk_cell BL.out 1
  have mL := fun W => meth53 W (.agg #[.int .i64 p2, .int .i64 q2, .slice B2 n2 d2])
  have eL := ent53
  go_wp2_with (go_at_call 79; (with_reducible refine (size53 p2 q2 B2 n2 d2 v1).mono ?_); rintro e v2 ⟨rfl, hb⟩; replace BL := Aside0.mk (blk_below BL.out hb); replace HB := Aside0.mk (HB.out.trans (hb.mono HB.out.size)); clear hb k0)
  clear mL eL
  rw [rounds_succ]
  have k0 : v2.cell? ⟨g, 2, none⟩ = some (.iface 25 (.agg #[.int .i64 p3, .int .i64 q3, .slice B3 n3 d3])) := blk_cell BL.out 2
  have mL := fun W => meth25 W (.agg #[.int .i64 p3, .int .i64 q3, .slice B3 n3 d3])
  have eL := ent25
  go_wp2_with (go_at_call 12; (with_reducible refine (size25 p3 q3 B3 n3 d3 v2).mono ?_); rintro e v3 ⟨rfl, hb⟩; replace BL := Aside0.mk (blk_below BL.out hb); replace HB := Aside0.mk (HB.out.trans (hb.mono HB.out.size)); clear hb k0)
  clear mL eL
  rw [rounds_succ]
  have k0 : v3.cell? ⟨g, 3, none⟩ = some (.iface 25 (.agg #[.int .i64 p4, .int .i64 q4, .slice B4 n4 d4])) := blk_cell BL.out 3
  have mL := fun W => meth25 W (.agg #[.int .i64 p4, .int .i64 q4, .slice B4 n4 d4])
  have eL := ent25
  go_wp2_with (go_at_call 12; (with_reducible refine (size25 p4 q4 B4 n4 d4 v3).mono ?_); rintro e v4 ⟨rfl, hb⟩; replace BL := Aside0.mk (blk_below BL.out hb); replace HB := Aside0.mk (HB.out.trans (hb.mono HB.out.size)); clear hb k0)
  clear mL eL
  rw [rounds_succ]
  have k0 : v4.cell? ⟨g, 4, none⟩ = some (.iface 55 (.agg #[.int .i64 p5, .int .i64 q5, .slice B5 n5 d5])) := blk_cell BL.out 4
  have mL := fun W => meth55 W (.agg #[.int .i64 p5, .int .i64 q5, .slice B5 n5 d5])
  have eL := ent55
  go_wp2_with (go_at_call 80; (with_reducible refine (size55 p5 q5 B5 n5 d5 v4).mono ?_); rintro e v5 ⟨rfl, hb⟩; replace BL := Aside0.mk (blk_below BL.out hb); replace HB := Aside0.mk (HB.out.trans (hb.mono HB.out.size)); clear hb k0)
  clear mL eL
  rw [rounds_succ]
  have k0 : v5.cell? ⟨g, 5, none⟩ = some (.iface 57 (.agg #[.int .i64 p6, .int .i64 q6, .slice B6 n6 d6])) := blk_cell BL.out 5
  have mL := fun W => meth57 W (.agg #[.int .i64 p6, .int .i64 q6, .slice B6 n6 d6])
  have eL := ent57
  go_wp2_with (go_at_call 81; (with_reducible refine (size57 p6 q6 B6 n6 d6 v5).mono ?_); rintro e v6 ⟨rfl, hb⟩; replace BL := Aside0.mk (blk_below BL.out hb); replace HB := Aside0.mk (HB.out.trans (hb.mono HB.out.size)); clear hb k0)
  clear mL eL
  rw [rounds_succ]
  have k0 : v6.cell? ⟨g, 6, none⟩ = some (.iface 25 (.agg #[.int .i64 p7, .int .i64 q7, .slice B7 n7 d7])) := blk_cell BL.out 6
  have mL := fun W => meth25 W (.agg #[.int .i64 p7, .int .i64 q7, .slice B7 n7 d7])
  have eL := ent25
  go_wp2_with (go_at_call 12; (with_reducible refine (size25 p7 q7 B7 n7 d7 v6).mono ?_); rintro e v7 ⟨rfl, hb⟩; replace BL := Aside0.mk (blk_below BL.out hb); replace HB := Aside0.mk (HB.out.trans (hb.mono HB.out.size)); clear hb k0)
  clear mL eL
  rw [rounds_succ]
  go_wp2
  go_ret
  refine ⟨congrArg Ending.returned ?_, HB.out⟩
  show _ = Value.int .i64 _
  simp
  have hn := HN.out
  have e : ∀ x : Int, 0 ≤ x → x ≤ 10000 → wrap64 x = x := fun x h0 h1 => by unfold wrap64; omega
  rw [e ((n1 : Int)) (by omega) (by omega)]
  rw [e ((n1 : Int) + (n2 : Int)) (by omega) (by omega)]
  rw [e ((n1 : Int) + (n2 : Int) + (n3 : Int)) (by omega) (by omega)]
  rw [e ((n1 : Int) + (n2 : Int) + (n3 : Int) + (n4 : Int)) (by omega) (by omega)]
  rw [e ((n1 : Int) + (n2 : Int) + (n3 : Int) + (n4 : Int) + (n5 : Int)) (by omega) (by omega)]
  rw [e ((n1 : Int) + (n2 : Int) + (n3 : Int) + (n4 : Int) + (n5 : Int) + (n6 : Int)) (by omega) (by omega)]
  rw [e ((n1 : Int) + (n2 : Int) + (n3 : Int) + (n4 : Int) + (n5 : Int) + (n6 : Int) + (n7 : Int)) (by omega) (by omega)]
end Go.Proofs.Ytfpbohfefliljaa.MD
end
section
namespace Go.Proofs.Ytfpbohfefliljaa.MD
open Go Go.RowKit Go.Proofs Go.Proofs.YtfpbohfefliljaaW.PrintWords Go.Proofs.YtfpbohfefliljaaW.PrintLast Go.Proofs.YtfpbohfefliljaaW.PrintMore
set_option linter.unusedVariables false
/-- How many things of lists the delta from one snapshot to another one has. -/
def dsz (a b : S46) : Nat := (dWith a.f5 b.f5).length + (dWith a.f6 b.f6).length + (dWith a.f7 b.f7).length + (dWith a.f8 b.f8).length + (dWith a.f9 b.f9).length + (dWith a.f10.f1 b.f10.f1).length + (dWith a.f10.f3 b.f10.f3).length
theorem dsz_self (a : S46) : dsz a a = 0 := by unfold dsz; simp [dWith_self]
theorem size_any (w : World) (vd : Value) (a b : S46) (hd : DeltaC w vd a b) (hb : tot b ≤ 1000) : Calls Try.prog 24 #[vd] w fun e w' => e = .returned (.int .i64 (dsz a b : Int)) ∧ Below w.heap.size w w' := by
  obtain ⟨B1, d1, B2, d2, B3, d3, B4, d4, B5, d5, B6, d6, B7, d7, ps, rfl, hp, h1, h2, h3, h4, h5, h6, h7⟩ := hd
  obtain ⟨F5, g5, F6, g6, F7, g7, F8, g8, F9, g9, F11, g11, F13, g13, rfl, _⟩ := k46_open hp
  simp only [List.append_toArray, List.cons_append, List.nil_append]
  have e1 := dWith_le a.f5 b.f5
  have e2 := dWith_le a.f6 b.f6
  have e3 := dWith_le a.f7 b.f7
  have e4 := dWith_le a.f8 b.f8
  have e5 := dWith_le a.f9 b.f9
  have e6 := dWith_le a.f10.f1 b.f10.f1
  have e7 := dWith_le a.f10.f3 b.f10.f3
  unfold tot at hb
  have h := size_walk w (plainS b) (dAt a.f5 b.f5) (dLess a.f5 b.f5) B1 (dWith a.f5 b.f5).length d1 (dAt a.f6 b.f6) (dLess a.f6 b.f6) B2 (dWith a.f6 b.f6).length d2 (dAt a.f7 b.f7) (dLess a.f7 b.f7) B3 (dWith a.f7 b.f7).length d3
    (dAt a.f8 b.f8) (dLess a.f8 b.f8) B4 (dWith a.f8 b.f8).length d4 (dAt a.f9 b.f9) (dLess a.f9 b.f9) B5 (dWith a.f9 b.f9).length d5 (dAt a.f10.f1 b.f10.f1) (dLess a.f10.f1 b.f10.f1) B6 (dWith a.f10.f1 b.f10.f1).length d6
    (dAt a.f10.f3 b.f10.f3) (dLess a.f10.f3 b.f10.f3) B7 (dWith a.f10.f3 b.f10.f3).length d7 F5 (plainS b).f5.length g5 F6 (plainS b).f6.length g6 F7 (plainS b).f7.length g7 F8 (plainS b).f8.length g8 F9 (plainS b).f9.length g9 F11 (plainS b).f10.f1.length g11 F13 (plainS b).f10.f3.length g13
    ⟨by omega, by omega, by omega, by omega, by omega, by omega, by omega⟩
  exact h
end Go.Proofs.Ytfpbohfefliljaa.MD
end
