/- Walks of functions of package val and of its reference, written by a program (wip/myprint.sh), put right by hand where they fell. -/
import Derived.Test.YtbbdlcmcndhhkaaDoorMValReckonsx0
import Derived.Test.YtbbdlcmcndhhkaaDoorMValReckonsx1
import Derived.Test.YtbbdlcmcndhhkaaDoorMValReckonsx3
import Derived.Test.YtbbdlcmcndhhkaaDoorMValReckonsx4
import Derived.Test.YtbbdlcmcndhhkaaDoorMValReckonsx5
namespace Go.Proofs.YtbbdlcmcndhhkaaDoor.MValReckons
open Go.RowKit Go.Proofs.YtbbdlcmcndhhkaaDoorW.PrintWords Go.Proofs.YtbbdlcmcndhhkaaDoorW.PrintLast Go.Proofs.YtbbdlcmcndhhkaaDoorW.PrintMore
attribute [local go_sem] max2_int min2_int max_two min_two max_three min_three max_four min_four   -- for this text's walks alone
set_option linter.unusedVariables false
set_option linter.unusedSimpArgs false

attribute [local go_sem high] eqA24
/-! ### val_Reckon: function 20 -/
mutual
def val_Reckon.j0 : Nat → Int → List (S24) → Int → Int → ByteArray → Int → Int → ByteArray → Option (Int × Int × ByteArray × Int)
  | 0, _, _, _, _, _, _, _, _ => none
  | k + 1, x0, x2, x238000, x238001, x238002, x240000, x240001, x240002 => (val_Result.f k x0 x238000 x240000).bind fun bt241 => (if bt241.2 = true then (if (x2.length : Int) = 1 then (if (x2.length : Int) = 0 then (val_Reckon.j1 k x0 false x238000 x238001 x238002 x240000 x240001 x240002) else (val_Reckon.j1 k x0 (decide (x0 ≤ 2)) x238000 x238001 x238002 x240000 x240001 x240002)) else (if x0 > 2 then (val_Reckon.j1 k x0 true x238000 x238001 x238002 x240000 x240001 x240002) else (if (x2.length : Int) = 0 then (val_Reckon.j1 k x0 false x238000 x238001 x238002 x240000 x240001 x240002) else (val_Reckon.j1 k x0 (decide (x0 ≤ 2)) x238000 x238001 x238002 x240000 x240001 x240002)))) else (val_Reckon.j1 k x0 true x238000 x238001 x238002 x240000 x240001 x240002))
def val_Reckon.j1 : Nat → Int → Bool → Int → Int → ByteArray → Int → Int → ByteArray → Option (Int × Int × ByteArray × Int)
  | 0, _, _, _, _, _, _, _, _ => none
  | k + 1, x0, x45, x238000, x238001, x238002, x240000, x240001, x240002 => if x45 = true then (some (0, 0, (⟨#[]⟩ : ByteArray), 20)) else (if x0 = 1 then ((val_Truth.f (x238001 == 0)).bind fun bt243 => (some (bt243.1, bt243.2.1, bt243.2.2, 0))) else (if x0 = 2 then ((val_over.f (wrap64 (-x238001)) (x238001 == (-9223372036854775808))).bind fun bt246 => (some (bt246.1, bt246.2.1, bt246.2.2.1, bt246.2.2.2))) else (if x0 = 8 then (val_Reckon.j2 k x0 x0 (x0 == 8) x238000 x238001 x238002 x240000 x240001 x240002) else (if x0 = 9 then (val_Reckon.j2 k x0 x0 (x0 == 9) x238000 x238001 x238002 x240000 x240001 x240002) else (if x0 = 10 then (val_Reckon.j2 k x0 x0 (x0 == 10) x238000 x238001 x238002 x240000 x240001 x240002) else (val_Reckon.j2 k x0 x0 (x0 == 11) x238000 x238001 x238002 x240000 x240001 x240002))))))
def val_Reckon.j2 : Nat → Int → Int → Bool → Int → Int → ByteArray → Int → Int → ByteArray → Option (Int × Int × ByteArray × Int)
  | 0, _, _, _, _, _, _, _, _, _ => none
  | k + 1, x0, x47, x65, x238000, x238001, x238002, x240000, x240001, x240002 => if x65 = true then ((val_compare.f k x238000 x238001 x238002 x240000 x240001 x240002).bind fun t250 => ((val_order.f x0 t250).bind fun bt251 => (some (bt251.1, bt251.2.1, bt251.2.2, 0)))) else (if x47 = 12 then ((val_Truth.f (x238000 == x240000 && (x238001 == x240001 && (x238002.toList == x240002.toList)))).bind fun bt254 => (some (bt254.1, bt254.2.1, bt254.2.2, 0))) else (if x47 = 13 then ((val_Truth.f (!(x238000 == x240000) || (!(x238001 == x240001) || (!(x238002.toList == x240002.toList))))).bind fun bt257 => (some (bt257.1, bt257.2.1, bt257.2.2, 0))) else (if x47 = 14 then (if x238001 = 0 then ((val_Truth.f false).bind fun bt260 => (some (bt260.1, bt260.2.1, bt260.2.2, 0))) else ((val_Truth.f (x240001 != 0)).bind fun bt263 => (some (bt263.1, bt263.2.1, bt263.2.2, 0)))) else (if x47 = 15 then (if x238001 = 0 then ((val_Truth.f (x240001 != 0)).bind fun bt266 => (some (bt266.1, bt266.2.1, bt266.2.2, 0))) else ((val_Truth.f true).bind fun bt269 => (some (bt269.1, bt269.2.1, bt269.2.2, 0)))) else (if x47 = 6 then (if x238000 = 3 then ((val_join.f x238002 x240002).bind fun bt272 => (some (bt272.1, bt272.2.1, bt272.2.2.1, bt272.2.2.2))) else ((val_number.f k x0 x238001 x240001).bind fun bt276 => (some (bt276.1, bt276.2.1, bt276.2.2.1, bt276.2.2.2)))) else ((val_number.f k x0 x238001 x240001).bind fun bt280 => (some (bt280.1, bt280.2.1, bt280.2.2.1, bt280.2.2.2))))))))
end
def val_Reckon.f (k : Nat) (a0 : Int) (a1_0 : Int) (a1_1 : Int) (a1_2 : ByteArray) (l2 : List (S24)) : Option (Int × Int × ByteArray × Int) := if (l2.length : Int) > 0 then (if 0 < (l2.length : Int) then (val_Reckon.j0 k a0 l2 a1_0 a1_1 a1_2 ((rd_T24 l2 0).f0) ((rd_T24 l2 0).f1) ((rd_T24 l2 0).f2)) else (none)) else (val_Reckon.j0 k a0 l2 a1_0 a1_1 a1_2 0 0 (⟨#[]⟩ : ByteArray))
theorem val_Reckon.mono_l : ∀ k, (∀ y0 y1 y2 y3 y4 y5 y6 y7, LeO (val_Reckon.j0 k y0 y1 y2 y3 y4 y5 y6 y7) (val_Reckon.j0 (k + 1) y0 y1 y2 y3 y4 y5 y6 y7)) ∧ (∀ y0 y1 y2 y3 y4 y5 y6 y7, LeO (val_Reckon.j1 k y0 y1 y2 y3 y4 y5 y6 y7) (val_Reckon.j1 (k + 1) y0 y1 y2 y3 y4 y5 y6 y7)) ∧ (∀ y0 y1 y2 y3 y4 y5 y6 y7 y8, LeO (val_Reckon.j2 k y0 y1 y2 y3 y4 y5 y6 y7 y8) (val_Reckon.j2 (k + 1) y0 y1 y2 y3 y4 y5 y6 y7 y8))
  | 0 => ⟨fun _ _ _ _ _ _ _ _ r h => by simp [val_Reckon.j0] at h, fun _ _ _ _ _ _ _ _ r h => by simp [val_Reckon.j1] at h, fun _ _ _ _ _ _ _ _ _ r h => by simp [val_Reckon.j2] at h⟩
  | k + 1 => by
    obtain ⟨ih0, ih1, ih2⟩ := val_Reckon.mono_l k
    refine ⟨?_, ?_, ?_⟩
    · intro y0 y1 y2 y3 y4 y5 y6 y7
      unfold val_Reckon.j0
      repeat' first
      | (with_reducible exact ih0 _ _ _ _ _ _ _ _)
      | (with_reducible exact ih1 _ _ _ _ _ _ _ _)
      | (with_reducible exact ih2 _ _ _ _ _ _ _ _ _)
      | (with_reducible exact val_Result.mono _ _ _ _)
      | (with_reducible exact val_compare.mono _ _ _ _ _ _ _)
      | (with_reducible exact val_number.mono _ _ _ _)
      | (with_reducible exact LeO.refl _)
      | (with_reducible exact LeO.none _)
      | (with_reducible refine LeO.ite ?_ ?_)
      | (with_reducible refine LeO.bind ?_ (fun _ => ?_))
      | exact ih0 _ _ _ _ _ _ _ _
      | exact ih1 _ _ _ _ _ _ _ _
      | exact ih2 _ _ _ _ _ _ _ _ _
      | exact val_Result.mono _ _ _ _
      | exact val_compare.mono _ _ _ _ _ _ _
      | exact val_number.mono _ _ _ _
      | exact LeO.none _
      | refine LeO.ite ?_ ?_
      | refine LeO.bind ?_ (fun _ => ?_)
    · intro y0 y1 y2 y3 y4 y5 y6 y7
      unfold val_Reckon.j1
      repeat' first
      | (with_reducible exact ih0 _ _ _ _ _ _ _ _)
      | (with_reducible exact ih1 _ _ _ _ _ _ _ _)
      | (with_reducible exact ih2 _ _ _ _ _ _ _ _ _)
      | (with_reducible exact val_Result.mono _ _ _ _)
      | (with_reducible exact val_compare.mono _ _ _ _ _ _ _)
      | (with_reducible exact val_number.mono _ _ _ _)
      | (with_reducible exact LeO.refl _)
      | (with_reducible exact LeO.none _)
      | (with_reducible refine LeO.ite ?_ ?_)
      | (with_reducible refine LeO.bind ?_ (fun _ => ?_))
      | exact ih0 _ _ _ _ _ _ _ _
      | exact ih1 _ _ _ _ _ _ _ _
      | exact ih2 _ _ _ _ _ _ _ _ _
      | exact val_Result.mono _ _ _ _
      | exact val_compare.mono _ _ _ _ _ _ _
      | exact val_number.mono _ _ _ _
      | exact LeO.none _
      | refine LeO.ite ?_ ?_
      | refine LeO.bind ?_ (fun _ => ?_)
    · intro y0 y1 y2 y3 y4 y5 y6 y7 y8
      unfold val_Reckon.j2
      repeat' first
      | (with_reducible exact ih0 _ _ _ _ _ _ _ _)
      | (with_reducible exact ih1 _ _ _ _ _ _ _ _)
      | (with_reducible exact ih2 _ _ _ _ _ _ _ _ _)
      | (with_reducible exact val_Result.mono _ _ _ _)
      | (with_reducible exact val_compare.mono _ _ _ _ _ _ _)
      | (with_reducible exact val_number.mono _ _ _ _)
      | (with_reducible exact LeO.refl _)
      | (with_reducible exact LeO.none _)
      | (with_reducible refine LeO.ite ?_ ?_)
      | (with_reducible refine LeO.bind ?_ (fun _ => ?_))
      | exact ih0 _ _ _ _ _ _ _ _
      | exact ih1 _ _ _ _ _ _ _ _
      | exact ih2 _ _ _ _ _ _ _ _ _
      | exact val_Result.mono _ _ _ _
      | exact val_compare.mono _ _ _ _ _ _ _
      | exact val_number.mono _ _ _ _
      | exact LeO.none _
      | refine LeO.ite ?_ ?_
      | refine LeO.bind ?_ (fun _ => ?_)
theorem val_Reckon.mono : ∀ a0 a1 a2 a3 a4 k, LeO (val_Reckon.f k a0 a1 a2 a3 a4) (val_Reckon.f (k + 1) a0 a1 a2 a3 a4) := by
  intro a0 a1 a2 a3 a4 k
  obtain ⟨ih0, ih1, ih2⟩ := val_Reckon.mono_l k
  unfold val_Reckon.f
  repeat' first
      | (with_reducible exact ih0 _ _ _ _ _ _ _ _)
      | (with_reducible exact ih1 _ _ _ _ _ _ _ _)
      | (with_reducible exact ih2 _ _ _ _ _ _ _ _ _)
      | (with_reducible exact val_Result.mono _ _ _ _)
      | (with_reducible exact val_compare.mono _ _ _ _ _ _ _)
      | (with_reducible exact val_number.mono _ _ _ _)
      | (with_reducible exact LeO.refl _)
      | (with_reducible exact LeO.none _)
      | (with_reducible refine LeO.ite ?_ ?_)
      | (with_reducible refine LeO.bind ?_ (fun _ => ?_))
      | exact ih0 _ _ _ _ _ _ _ _
      | exact ih1 _ _ _ _ _ _ _ _
      | exact ih2 _ _ _ _ _ _ _ _ _
      | exact val_Result.mono _ _ _ _
      | exact val_compare.mono _ _ _ _ _ _ _
      | exact val_number.mono _ _ _ _
      | exact LeO.none _
      | refine LeO.ite ?_ ?_
      | refine LeO.bind ?_ (fun _ => ?_)
set_option maxHeartbeats 8000000 in
set_option maxRecDepth 100000 in
theorem val_Reckon.calls (k : Nat) (a0 : Int) (a1_0 : Int) (a1_1 : Int) (a1_2 : ByteArray) (A2 : Option Addr) (c2 : Nat) (l2 : List (S24)) (r1 : Int) (r2 : Int) (r3 : ByteArray) (r4 : Int) (w : World) (hr2 : Kd.C k24 w A2 l2.length l2) (hc2 : l2.length ≤ c2) (h : val_Reckon.f k a0 a1_0 a1_1 a1_2 l2 = some (r1, r2, r3, r4)) :
    Calls Tryd.prog 20 #[.int .i64 a0, .agg #[.int .i64 a1_0, .int .i64 a1_1, .string a1_2], .slice A2 l2.length c2] w fun e w' => e = .returned (.tuple #[.agg #[.int .i64 r1, .int .i64 r2, .string r3], .int .i64 r4]) ∧ Below w.heap.size w w' := by
  have hu24 := Tryd.underlying24
  have HR2 := Aside0.mk hr2
  have HC2 := Aside0.mk hc2
  clear hr2 hc2
  have HB := Aside0.mk (Below.refl w.heap.size w)
  have H : (if (l2.length : Int) > 0 then (if 0 < (l2.length : Int) then (val_Reckon.j0 k a0 l2 a1_0 a1_1 a1_2 ((rd_T24 l2 0).f0) ((rd_T24 l2 0).f1) ((rd_T24 l2 0).f2)) else (none)) else (val_Reckon.j0 k a0 l2 a1_0 a1_1 a1_2 0 0 (⟨#[]⟩ : ByteArray))) = some (r1, r2, r3, r4) := h
  clear h
  have HC4 := Aside0.mk H
  clear H
  go_enter Tryd.func20, Tryd.ntmps20
  go_upto_if 13 with (first | ((with_reducible refine gate_dst (N := 4) rfl ?_); (try (refine gate_guard (by rfl) ?_; dsimp only)); refine box_event ?hg (N := 4) ?hd (cs := #[.int .i64 a1_0, .int .i64 a1_1, .string a1_2]) (t := 24) ?hr ?_; (case hd => rfl); (case hg => rfl); (case hr => first | (go_simp; done) | (go_simp; rfl)); intro gb237 hg w5 hbox hb; have n0_ := Aside0.mk (below_step (by repeat (first | (with_reducible first | exact HB.out | apply below_alloc | apply pw_below_drewN | apply below_drew1) | exact HB.out)) hb); have n1_ := Aside0.mk (hbox); have n2_ := Aside0.mk ((by rw [hg]; exact (below_size (by repeat (first | (with_reducible first | exact HB.out | apply below_alloc | apply pw_below_drewN | apply below_drew1) | exact HB.out))) : w.heap.size ≤ gb237)); have n3_ := Aside0.mk ((by rw [hg]; exact (below_size (by repeat (first | (with_reducible first | exact HB.out | apply below_alloc | apply pw_below_drewN | apply below_drew1) | exact HB.out))) : w.heap.size ≤ gb237)); clear HB; have HB := n0_; have BK237 := n1_; have GW237 := n2_; have GE237 := n3_; clear n0_ n1_ n2_ n3_; clear hb hbox hg) | ((with_reducible refine gate_dst (N := 6) rfl ?_); (try (refine gate_guard (by rfl) ?_; dsimp only)); refine box_event ?hg (N := 6) ?hd (cs := #[.int .i64 0, .int .i64 0, .string (⟨#[]⟩ : ByteArray)]) (t := 24) ?hr ?_; (case hd => rfl); (case hg => rfl); (case hr => first | (go_simp; done) | (go_simp; rfl)); intro gb238 hg w6 hbox hb; have n0_ := Aside0.mk (blk_below (g := gb237) (o := .cells #[.int .i64 a1_0, .int .i64 a1_1, .string a1_2] 24 (0, 0)) (by (with_reducible repeat (first | refine blk_drewN ?_ _ | refine blk_drew ?_ | refine blk_alloc ?_ _)); exact BK237.out) hb); have n1_ := Aside0.mk (below_step (by repeat (first | (with_reducible first | exact HB.out | apply below_alloc | apply pw_below_drewN | apply below_drew1 | refine below_set ?_ GE237.out) | exact HB.out)) hb); have n2_ := Aside0.mk (hbox); have n3_ := Aside0.mk ((by rw [hg]; exact (below_size (by repeat (first | (with_reducible first | exact HB.out | apply below_alloc | apply pw_below_drewN | apply below_drew1 | refine below_set ?_ GE237.out) | exact HB.out))) : w.heap.size ≤ gb238)); have n4_ := Aside0.mk ((by rw [hg]; exact (below_size (by repeat (first | (with_reducible first | exact HB.out | apply below_alloc | apply pw_below_drewN | apply below_drew1 | refine below_set ?_ GE237.out) | exact HB.out))) : w.heap.size ≤ gb238)); have n5_ := Aside0.mk ((by rw [hg]; exact Nat.ne_of_lt (blk_lt (g := gb237) (o := .cells #[.int .i64 a1_0, .int .i64 a1_1, .string a1_2] 24 (0, 0)) (by (with_reducible repeat (first | refine blk_drewN ?_ _ | refine blk_drew ?_ | refine blk_alloc ?_ _)); exact BK237.out)) : gb237 ≠ gb238)); have n6_ := Aside0.mk ((by rw [hg]; exact Nat.ne_of_gt (blk_lt (g := gb237) (o := .cells #[.int .i64 a1_0, .int .i64 a1_1, .string a1_2] 24 (0, 0)) (by (with_reducible repeat (first | refine blk_drewN ?_ _ | refine blk_drew ?_ | refine blk_alloc ?_ _)); exact BK237.out)) : gb238 ≠ gb237)); clear BK237; clear HB; have BK237 := n0_; have HB := n1_; have BK238 := n2_; have GW238 := n3_; have GE238 := n4_; have NB237_238 := n5_; have NB238_237 := n6_; clear n0_ n1_ n2_ n3_ n4_ n5_ n6_; clear hb hbox hg) | ((with_reducible refine gate_dst (N := 8) rfl ?_); (try (refine gate_guard (by rfl) ?_; dsimp only)); refine box_event ?hg (N := 8) ?hd (cs := #[.int .i64 0, .int .i64 0, .string (⟨#[]⟩ : ByteArray)]) (t := 24) ?hr ?_; (case hd => rfl); (case hg => rfl); (case hr => first | (go_simp; done) | (go_simp; rfl)); intro gb239 hg w7 hbox hb; have n0_ := Aside0.mk (blk_below (g := gb237) (o := .cells #[.int .i64 a1_0, .int .i64 a1_1, .string a1_2] 24 (0, 0)) (by (with_reducible repeat (first | refine blk_drewN ?_ _ | refine blk_drew ?_ | refine blk_alloc ?_ _)); exact BK237.out) hb); have n1_ := Aside0.mk (blk_below (g := gb238) (o := .cells #[.int .i64 0, .int .i64 0, .string (⟨#[]⟩ : ByteArray)] 24 (0, 0)) (by (with_reducible repeat (first | refine blk_drewN ?_ _ | refine blk_drew ?_ | refine blk_alloc ?_ _)); exact BK238.out) hb); have n2_ := Aside0.mk (below_step (by repeat (first | (with_reducible first | exact HB.out | apply below_alloc | apply pw_below_drewN | apply below_drew1 | refine below_set ?_ GE237.out | refine below_set ?_ GE238.out) | exact HB.out)) hb); have n3_ := Aside0.mk (hbox); have n4_ := Aside0.mk ((by rw [hg]; exact (below_size (by repeat (first | (with_reducible first | exact HB.out | apply below_alloc | apply pw_below_drewN | apply below_drew1 | refine below_set ?_ GE237.out | refine below_set ?_ GE238.out) | exact HB.out))) : w.heap.size ≤ gb239)); have n5_ := Aside0.mk ((by rw [hg]; exact (below_size (by repeat (first | (with_reducible first | exact HB.out | apply below_alloc | apply pw_below_drewN | apply below_drew1 | refine below_set ?_ GE237.out | refine below_set ?_ GE238.out) | exact HB.out))) : w.heap.size ≤ gb239)); have n6_ := Aside0.mk ((by rw [hg]; exact Nat.ne_of_lt (blk_lt (g := gb237) (o := .cells #[.int .i64 a1_0, .int .i64 a1_1, .string a1_2] 24 (0, 0)) (by (with_reducible repeat (first | refine blk_drewN ?_ _ | refine blk_drew ?_ | refine blk_alloc ?_ _)); exact BK237.out)) : gb237 ≠ gb239)); have n7_ := Aside0.mk ((by rw [hg]; exact Nat.ne_of_gt (blk_lt (g := gb237) (o := .cells #[.int .i64 a1_0, .int .i64 a1_1, .string a1_2] 24 (0, 0)) (by (with_reducible repeat (first | refine blk_drewN ?_ _ | refine blk_drew ?_ | refine blk_alloc ?_ _)); exact BK237.out)) : gb239 ≠ gb237)); have n8_ := Aside0.mk ((by rw [hg]; exact Nat.ne_of_lt (blk_lt (g := gb238) (o := .cells #[.int .i64 0, .int .i64 0, .string (⟨#[]⟩ : ByteArray)] 24 (0, 0)) (by (with_reducible repeat (first | refine blk_drewN ?_ _ | refine blk_drew ?_ | refine blk_alloc ?_ _)); exact BK238.out)) : gb238 ≠ gb239)); have n9_ := Aside0.mk ((by rw [hg]; exact Nat.ne_of_gt (blk_lt (g := gb238) (o := .cells #[.int .i64 0, .int .i64 0, .string (⟨#[]⟩ : ByteArray)] 24 (0, 0)) (by (with_reducible repeat (first | refine blk_drewN ?_ _ | refine blk_drew ?_ | refine blk_alloc ?_ _)); exact BK238.out)) : gb239 ≠ gb238)); clear BK237; clear BK238; clear HB; have BK237 := n0_; have BK238 := n1_; have HB := n2_; have BK239 := n3_; have GW239 := n4_; have GE239 := n5_; have NB237_239 := n6_; have NB239_237 := n7_; have NB238_239 := n8_; have NB239_238 := n9_; clear n0_ n1_ n2_ n3_ n4_ n5_ n6_ n7_ n8_ n9_; clear hb hbox hg))
  (try simp only [Act.put, List.setIfInBounds_toArray, List.set_cons_zero, List.set_cons_succ])
  go_cut [] (fun wc => ∃ (kq : Nat) (x240000_3 : Int) (x240001_3 : Int) (x240002_3 : ByteArray), Aside0 (val_Reckon.j0 kq a0 l2 a1_0 a1_1 a1_2 x240000_3 x240001_3 x240002_3 = some (r1, r2, r3, r4)) ∧ Aside0 (kq ≤ k) ∧ Aside0 (wc.heap[gb237]? = some (.cells #[.int .i64 a1_0, .int .i64 a1_1, .string a1_2] 24 (0, 0))) ∧ Aside0 (wc.heap[gb238]? = some (.cells #[.int .i64 0, .int .i64 0, .string (⟨#[]⟩ : ByteArray)] 24 (0, 0))) ∧ Aside0 (wc.heap[gb239]? = some (.cells #[.int .i64 x240000_3, .int .i64 x240001_3, .string x240002_3] 24 (0, 0))) ∧ Aside0 (Below w.heap.size w wc))
  case first =>
    have H := HC4.out
    clear HC4
    by_cases c8 : (l2.length : Int) > 0
    · rw [if_pos c8] at H
      have c8b0 : decide (0 < (l2.length : Int)) = true := decide_eq_true c8
      have c8b1 : decide (0 < l2.length) = true := decide_eq_true (by omega)
      clear c8
      (first | rw [c8b0] | (simp only [i64_w, i32_w]; rw [c8b0]) | skip)
      (try rw [c8b1])
      by_cases c9 : 0 < (l2.length : Int)
      · rw [if_pos c9] at H
        have c9b0 : decide (0 < (l2.length : Int)) = true := decide_eq_true c9
        have c9b1 : decide (0 < l2.length) = true := decide_eq_true (by omega)
        clear c9
        have H' := Aside0.mk H
        clear H
        have p240 : 0 ≤ (0 : Int) := (by omega)
        have q240 : 0 < (l2.length : Int) := of_decide_eq_true (by first | (with_reducible assumption) | assumption)
        obtain ⟨ad240, e240, hx240_0, hx240_1, hx240_2⟩ := at_T24 HR2.out 0 p240 q240
        cases e240
        have qi240 : (0 < l2.length) = True := eq_true (by omega)
        (try rw [show ((0 : Int)).toNat = 0 from rfl] at hx240_0)
        (try rw [show 0 * 3 = 0 from rfl] at hx240_0)
        (try rw [Addr.add_zero'] at hx240_0)
        (try rw [show ((0 : Int)).toNat = 0 from rfl] at hx240_1)
        (try rw [show 0 * 3 = 0 from rfl] at hx240_1)
        (try rw [Addr.add_zero'] at hx240_1)
        (try rw [show ((0 : Int)).toNat = 0 from rfl] at hx240_2)
        (try rw [show 0 * 3 = 0 from rfl] at hx240_2)
        (try rw [Addr.add_zero'] at hx240_2)
        replace hx240_0 := (HB.out.cell (World.block_lt_of_cell? w _ hx240_0)).trans hx240_0
        replace hx240_1 := (HB.out.cell (World.block_lt_of_cell? w _ hx240_1)).trans hx240_1
        replace hx240_2 := (HB.out.cell (World.block_lt_of_cell? w _ hx240_2)).trans hx240_2
        replace p240 := eq_true p240
        replace q240 := eq_true q240
        have hnb10 := NB239_237.out
        have hnc10 := NB237_239.out
        have hnb11 := NB239_238.out
        have hnc11 := NB238_239.out
        have hcz12_0 : w7.cell? ⟨gb239, 0, none⟩ = some (.int .i64 0) := (blk_cell BK239.out 0).trans rfl
        have hcz12_1 : w7.cell? ⟨gb239, 1, none⟩ = some (.int .i64 0) := (blk_cell BK239.out 1).trans rfl
        have hcz12_2 : w7.cell? ⟨gb239, 2, none⟩ = some (.string (⟨#[]⟩ : ByteArray)) := (blk_cell BK239.out 2).trans rfl
        have hfz12_0 := blk_frozen BK239.out 0
        have hfz12_1 := blk_frozen BK239.out 1
        have hfz12_2 := blk_frozen BK239.out 2
        go_wp2
        go_meet
        case rel => exact ⟨_, ((rd_T24 l2 0).f0), ((rd_T24 l2 0).f1), ((rd_T24 l2 0).f2), H', ⟨by first | omega | exact Nat.le_refl _⟩, ⟨by (with_reducible repeat (first | refine blk_drewN ?_ _ | refine blk_drew ?_ | refine blk_alloc ?_ _)); refine blk_far ?_ NB237_239.out _; (with_reducible repeat (first | refine blk_drewN ?_ _ | refine blk_drew ?_ | refine blk_alloc ?_ _)); refine blk_far ?_ NB237_239.out _; (with_reducible repeat (first | refine blk_drewN ?_ _ | refine blk_drew ?_ | refine blk_alloc ?_ _)); refine blk_far ?_ NB237_239.out _; (with_reducible repeat (first | refine blk_drewN ?_ _ | refine blk_drew ?_ | refine blk_alloc ?_ _)); exact BK237.out⟩, ⟨by (with_reducible repeat (first | refine blk_drewN ?_ _ | refine blk_drew ?_ | refine blk_alloc ?_ _)); refine blk_far ?_ NB238_239.out _; (with_reducible repeat (first | refine blk_drewN ?_ _ | refine blk_drew ?_ | refine blk_alloc ?_ _)); refine blk_far ?_ NB238_239.out _; (with_reducible repeat (first | refine blk_drewN ?_ _ | refine blk_drew ?_ | refine blk_alloc ?_ _)); refine blk_far ?_ NB238_239.out _; (with_reducible repeat (first | refine blk_drewN ?_ _ | refine blk_drew ?_ | refine blk_alloc ?_ _)); exact BK238.out⟩, ⟨by (with_reducible repeat (first | refine blk_drewN ?_ _ | refine blk_drew ?_ | refine blk_alloc ?_ _)); refine blk_put (cs := #[.int .i64 ((rd_T24 l2 0).f0), .int .i64 ((rd_T24 l2 0).f1), .string (⟨#[]⟩ : ByteArray)]) ?_ 2 _ rfl; (with_reducible repeat (first | refine blk_drewN ?_ _ | refine blk_drew ?_ | refine blk_alloc ?_ _)); refine blk_put (cs := #[.int .i64 ((rd_T24 l2 0).f0), .int .i64 0, .string (⟨#[]⟩ : ByteArray)]) ?_ 1 _ rfl; (with_reducible repeat (first | refine blk_drewN ?_ _ | refine blk_drew ?_ | refine blk_alloc ?_ _)); refine blk_put (cs := #[.int .i64 0, .int .i64 0, .string (⟨#[]⟩ : ByteArray)]) ?_ 0 _ rfl; (with_reducible repeat (first | refine blk_drewN ?_ _ | refine blk_drew ?_ | refine blk_alloc ?_ _)); exact BK239.out⟩, ⟨by repeat (first | (with_reducible first | exact HB.out | apply below_alloc | apply pw_below_drewN | apply below_drew1 | refine below_set ?_ GE237.out | refine below_set ?_ GE238.out | refine below_set ?_ GE239.out) | exact HB.out)⟩⟩
      · rw [if_neg c9] at H
        exact absurd H (by simp)
    · rw [if_neg c8] at H
      have c8b0 : decide (0 < (l2.length : Int)) = false := decide_eq_false c8
      have c8b1 : decide (0 < l2.length) = false := decide_eq_false (by omega)
      clear c8
      (first | rw [c8b0] | (simp only [i64_w, i32_w]; rw [c8b0]) | skip)
      (try rw [c8b1])
      have H' := Aside0.mk H
      clear H
      go_wp2
      go_meet
      case rel => exact ⟨_, (0), (0), ((⟨#[]⟩ : ByteArray)), H', ⟨by first | omega | exact Nat.le_refl _⟩, ⟨by (with_reducible repeat (first | refine blk_drewN ?_ _ | refine blk_drew ?_ | refine blk_alloc ?_ _)); exact BK237.out⟩, ⟨by (with_reducible repeat (first | refine blk_drewN ?_ _ | refine blk_drew ?_ | refine blk_alloc ?_ _)); exact BK238.out⟩, ⟨by (with_reducible repeat (first | refine blk_drewN ?_ _ | refine blk_drew ?_ | refine blk_alloc ?_ _)); exact BK239.out⟩, ⟨by repeat (first | (with_reducible first | exact HB.out | apply below_alloc | apply pw_below_drewN | apply below_drew1 | refine below_set ?_ GE237.out | refine below_set ?_ GE238.out | refine below_set ?_ GE239.out) | exact HB.out)⟩⟩
  case rest =>
    clear HC4
    try clear c1
    try clear c2
    try clear p2
    try clear q2
    try clear hx2
    try clear qi2
    try clear c8
    try clear c8b0
    try clear c8b1
    try clear c9
    try clear c9b0
    try clear c9b1
    try clear c10
    try clear c11
    try clear hcz12_0
    try clear hcz12_1
    try clear hcz12_2
    try clear hfz12_0
    try clear hfz12_1
    try clear hfz12_2
    try clear hx240_0
    try clear hx240_1
    try clear hx240_2
    try clear p240
    try clear q240
    obtain ⟨kq, x240000_3, x240001_3, x240002_3, HA, HJ3, BK237, BK238, BK239, HB⟩ := hcut
    cases kq with
    | zero => exact absurd HA.out (by simp [val_Reckon.j0])
    | succ kj3 =>
      have H := HA.out
      clear HA
      simp only [val_Reckon.j0] at H
      replace H := Option.bind_eq_some_iff.mp H
      obtain ⟨⟨t241, t242⟩, A130, H⟩ := H
      replace H : (if t242 = true then (if (l2.length : Int) = 1 then (if (l2.length : Int) = 0 then (val_Reckon.j1 kj3 a0 false a1_0 a1_1 a1_2 x240000_3 x240001_3 x240002_3) else (val_Reckon.j1 kj3 a0 (decide (a0 ≤ 2)) a1_0 a1_1 a1_2 x240000_3 x240001_3 x240002_3)) else (if a0 > 2 then (val_Reckon.j1 kj3 a0 true a1_0 a1_1 a1_2 x240000_3 x240001_3 x240002_3) else (if (l2.length : Int) = 0 then (val_Reckon.j1 kj3 a0 false a1_0 a1_1 a1_2 x240000_3 x240001_3 x240002_3) else (val_Reckon.j1 kj3 a0 (decide (a0 ≤ 2)) a1_0 a1_1 a1_2 x240000_3 x240001_3 x240002_3)))) else (val_Reckon.j1 kj3 a0 true a1_0 a1_1 a1_2 x240000_3 x240001_3 x240002_3)) = some (r1, r2, r3, r4) := H
      have A13 := Aside0.mk A130
      clear A130
      have HC14 := Aside0.mk H
      clear H
      have hnb15 := NB237_238.out
      have hnc15 := NB238_237.out
      have hnb16 := NB237_239.out
      have hnc16 := NB239_237.out
      have hcz17_0 : wc.cell? ⟨gb237, 0, none⟩ = some (.int .i64 a1_0) := (blk_cell BK237.out 0).trans rfl
      have hcz17_1 : wc.cell? ⟨gb237, 1, none⟩ = some (.int .i64 a1_1) := (blk_cell BK237.out 1).trans rfl
      have hcz17_2 : wc.cell? ⟨gb237, 2, none⟩ = some (.string a1_2) := (blk_cell BK237.out 2).trans rfl
      have hfz17_0 := blk_frozen BK237.out 0
      have hfz17_1 := blk_frozen BK237.out 1
      have hfz17_2 := blk_frozen BK237.out 2
      have hnb18 := NB239_238.out
      have hnc18 := NB238_239.out
      have hcz19_0 : wc.cell? ⟨gb239, 0, none⟩ = some (.int .i64 x240000_3) := (blk_cell BK239.out 0).trans rfl
      have hcz19_1 : wc.cell? ⟨gb239, 1, none⟩ = some (.int .i64 x240001_3) := (blk_cell BK239.out 1).trans rfl
      have hcz19_2 : wc.cell? ⟨gb239, 2, none⟩ = some (.string x240002_3) := (blk_cell BK239.out 2).trans rfl
      have hfz19_0 := blk_frozen BK239.out 0
      have hfz19_1 := blk_frozen BK239.out 1
      have hfz19_2 := blk_frozen BK239.out 2
      go_upto_region 5 with (first | ((with_reducible refine gate_callee (f := 22) rfl ?_); refine goesL_ (some 23) rfl rfl Tryd.func22 (by kernel_rfl) rfl #[.int .i64 a0, .int .i64 a1_0, .int .i64 x240000_3] rfl (by (try simp only [List.map_toArray, List.map_cons, List.map_nil]); first | done | rfl | (simp only [List.length_drop, List.length_take]; rfl)) ?_; (with_reducible refine (val_Result.calls kj3 a0 a1_0 x240000_3 t241 t242 _ A13.out).mono ?_); rintro e w' ⟨rfl, ⟨nd, rfl⟩⟩; refine ⟨_, rfl, ?_⟩))
      (try simp only [Act.put, List.setIfInBounds_toArray, List.set_cons_zero, List.set_cons_succ])
      go_cut [45] (fun v45 wc => ∃ (kq : Nat) (x45_13 : Bool), v45 = .bool x45_13 ∧ Aside0 (val_Reckon.j1 kq a0 x45_13 a1_0 a1_1 a1_2 x240000_3 x240001_3 x240002_3 = some (r1, r2, r3, r4)) ∧ Aside0 (kq ≤ kj3) ∧ Aside0 (wc.heap[gb237]? = some (.cells #[.int .i64 a1_0, .int .i64 a1_1, .string a1_2] 24 (0, 0))) ∧ Aside0 (wc.heap[gb238]? = some (.cells #[.int .i64 0, .int .i64 0, .string (⟨#[]⟩ : ByteArray)] 24 (0, 0))) ∧ Aside0 (wc.heap[gb239]? = some (.cells #[.int .i64 x240000_3, .int .i64 x240001_3, .string x240002_3] 24 (0, 0))) ∧ Aside0 (Below w.heap.size w wc))
      case first =>
        have H := HC14.out
        clear HC14
        by_cases c20 : t242 = true
        · subst c20
          have H1 : (if (l2.length : Int) = 1 then (if (l2.length : Int) = 0 then (val_Reckon.j1 kj3 a0 false a1_0 a1_1 a1_2 x240000_3 x240001_3 x240002_3) else (val_Reckon.j1 kj3 a0 (decide (a0 ≤ 2)) a1_0 a1_1 a1_2 x240000_3 x240001_3 x240002_3)) else (if a0 > 2 then (val_Reckon.j1 kj3 a0 true a1_0 a1_1 a1_2 x240000_3 x240001_3 x240002_3) else (if (l2.length : Int) = 0 then (val_Reckon.j1 kj3 a0 false a1_0 a1_1 a1_2 x240000_3 x240001_3 x240002_3) else (val_Reckon.j1 kj3 a0 (decide (a0 ≤ 2)) a1_0 a1_1 a1_2 x240000_3 x240001_3 x240002_3)))) = some (r1, r2, r3, r4) := by rw [if_pos rfl] at H; exact H
          clear H
          have H := H1
          clear H1
          by_cases c21 : (l2.length : Int) = 1
          · rw [if_pos c21] at H
            have c21b0 : ((l2.length : Int) == 1) = true := beq_iff_eq.mpr c21
            have c21b1 : ((l2.length : Int) != 1) = false := bne_eq_false_iff_eq.mpr c21
            clear c21
            (first | rw [c21b0] | (simp only [i64_w, i32_w]; rw [c21b0]) | skip)
            (try rw [c21b1])
            by_cases c22 : (l2.length : Int) = 0
            · rw [if_pos c22] at H
              have c22b0 : ((l2.length : Int) == 0) = true := beq_iff_eq.mpr c22
              have c22b1 : ((l2.length : Int) != 0) = false := bne_eq_false_iff_eq.mpr c22
              clear c22
              have H' := Aside0.mk H
              clear H
              go_wp2
              go_meet
              case rel => exact ⟨_, (false), (by first | rfl | (simp; done) | (simp [*]; done)), H', ⟨by have := HJ3.out; first | omega | exact Nat.le_refl _⟩, ⟨by (with_reducible repeat (first | refine blk_drewN ?_ _ | refine blk_drew ?_ | refine blk_alloc ?_ _)); exact BK237.out⟩, ⟨by (with_reducible repeat (first | refine blk_drewN ?_ _ | refine blk_drew ?_ | refine blk_alloc ?_ _)); exact BK238.out⟩, ⟨by (with_reducible repeat (first | refine blk_drewN ?_ _ | refine blk_drew ?_ | refine blk_alloc ?_ _)); exact BK239.out⟩, ⟨by repeat (first | (with_reducible first | exact HB.out | apply below_alloc | apply pw_below_drewN | apply below_drew1 | refine below_set ?_ GE237.out | refine below_set ?_ GE238.out | refine below_set ?_ GE239.out) | exact HB.out)⟩⟩
            · rw [if_neg c22] at H
              have c22b0 : ((l2.length : Int) == 0) = false := beq_eq_false_iff_ne.mpr c22
              have c22b1 : ((l2.length : Int) != 0) = true := bne_iff_ne.mpr c22
              have c22b2 : ¬ (l2 = []) := fun h_ => c22 (by rw [h_]; rfl)
              have H' := Aside0.mk H
              clear H
              go_wp2
              go_meet
              case rel => exact ⟨_, (decide (a0 ≤ 2)), (by first | rfl | (simp; done) | (simp [*]; done)), H', ⟨by have := HJ3.out; first | omega | exact Nat.le_refl _⟩, ⟨by (with_reducible repeat (first | refine blk_drewN ?_ _ | refine blk_drew ?_ | refine blk_alloc ?_ _)); exact BK237.out⟩, ⟨by (with_reducible repeat (first | refine blk_drewN ?_ _ | refine blk_drew ?_ | refine blk_alloc ?_ _)); exact BK238.out⟩, ⟨by (with_reducible repeat (first | refine blk_drewN ?_ _ | refine blk_drew ?_ | refine blk_alloc ?_ _)); exact BK239.out⟩, ⟨by repeat (first | (with_reducible first | exact HB.out | apply below_alloc | apply pw_below_drewN | apply below_drew1 | refine below_set ?_ GE237.out | refine below_set ?_ GE238.out | refine below_set ?_ GE239.out) | exact HB.out)⟩⟩
          · rw [if_neg c21] at H
            have c21b0 : ((l2.length : Int) == 1) = false := beq_eq_false_iff_ne.mpr c21
            have c21b1 : ((l2.length : Int) != 1) = true := bne_iff_ne.mpr c21
            (first | rw [c21b0] | (simp only [i64_w, i32_w]; rw [c21b0]) | skip)
            (try rw [c21b1])
            by_cases c23 : a0 > 2
            · rw [if_pos c23] at H
              have c23b0 : decide (2 < a0) = true := decide_eq_true c23
              clear c23
              have H' := Aside0.mk H
              clear H
              go_wp2
              go_meet
              case rel => exact ⟨_, (true), (by first | rfl | (simp; done) | (simp [*]; done)), H', ⟨by have := HJ3.out; first | omega | exact Nat.le_refl _⟩, ⟨by (with_reducible repeat (first | refine blk_drewN ?_ _ | refine blk_drew ?_ | refine blk_alloc ?_ _)); exact BK237.out⟩, ⟨by (with_reducible repeat (first | refine blk_drewN ?_ _ | refine blk_drew ?_ | refine blk_alloc ?_ _)); exact BK238.out⟩, ⟨by (with_reducible repeat (first | refine blk_drewN ?_ _ | refine blk_drew ?_ | refine blk_alloc ?_ _)); exact BK239.out⟩, ⟨by repeat (first | (with_reducible first | exact HB.out | apply below_alloc | apply pw_below_drewN | apply below_drew1 | refine below_set ?_ GE237.out | refine below_set ?_ GE238.out | refine below_set ?_ GE239.out) | exact HB.out)⟩⟩
            · rw [if_neg c23] at H
              have c23b0 : decide (2 < a0) = false := decide_eq_false c23
              clear c23
              by_cases c24 : (l2.length : Int) = 0
              · rw [if_pos c24] at H
                have c24b0 : ((l2.length : Int) == 0) = true := beq_iff_eq.mpr c24
                have c24b1 : ((l2.length : Int) != 0) = false := bne_eq_false_iff_eq.mpr c24
                clear c24
                have H' := Aside0.mk H
                clear H
                go_wp2
                go_meet
                case rel => exact ⟨_, (false), (by first | rfl | (simp; done) | (simp [*]; done)), H', ⟨by have := HJ3.out; first | omega | exact Nat.le_refl _⟩, ⟨by (with_reducible repeat (first | refine blk_drewN ?_ _ | refine blk_drew ?_ | refine blk_alloc ?_ _)); exact BK237.out⟩, ⟨by (with_reducible repeat (first | refine blk_drewN ?_ _ | refine blk_drew ?_ | refine blk_alloc ?_ _)); exact BK238.out⟩, ⟨by (with_reducible repeat (first | refine blk_drewN ?_ _ | refine blk_drew ?_ | refine blk_alloc ?_ _)); exact BK239.out⟩, ⟨by repeat (first | (with_reducible first | exact HB.out | apply below_alloc | apply pw_below_drewN | apply below_drew1 | refine below_set ?_ GE237.out | refine below_set ?_ GE238.out | refine below_set ?_ GE239.out) | exact HB.out)⟩⟩
              · rw [if_neg c24] at H
                have c24b0 : ((l2.length : Int) == 0) = false := beq_eq_false_iff_ne.mpr c24
                have c24b1 : ((l2.length : Int) != 0) = true := bne_iff_ne.mpr c24
                have c24b2 : ¬ (l2 = []) := fun h_ => c24 (by rw [h_]; rfl)
                have H' := Aside0.mk H
                clear H
                go_wp2
                go_meet
                case rel => exact ⟨_, (decide (a0 ≤ 2)), (by first | rfl | (simp; done) | (simp [*]; done)), H', ⟨by have := HJ3.out; first | omega | exact Nat.le_refl _⟩, ⟨by (with_reducible repeat (first | refine blk_drewN ?_ _ | refine blk_drew ?_ | refine blk_alloc ?_ _)); exact BK237.out⟩, ⟨by (with_reducible repeat (first | refine blk_drewN ?_ _ | refine blk_drew ?_ | refine blk_alloc ?_ _)); exact BK238.out⟩, ⟨by (with_reducible repeat (first | refine blk_drewN ?_ _ | refine blk_drew ?_ | refine blk_alloc ?_ _)); exact BK239.out⟩, ⟨by repeat (first | (with_reducible first | exact HB.out | apply below_alloc | apply pw_below_drewN | apply below_drew1 | refine below_set ?_ GE237.out | refine below_set ?_ GE238.out | refine below_set ?_ GE239.out) | exact HB.out)⟩⟩
        · replace c20 := Bool.eq_false_iff.mpr c20
          subst c20
          have H1 : (val_Reckon.j1 kj3 a0 true a1_0 a1_1 a1_2 x240000_3 x240001_3 x240002_3) = some (r1, r2, r3, r4) := by rw [if_neg (show ¬ (false = true) by decide)] at H; exact H
          clear H
          have H := H1
          clear H1
          have H' := Aside0.mk H
          clear H
          go_wp2
          go_meet
          case rel => exact ⟨_, (true), (by first | rfl | (simp; done) | (simp [*]; done)), H', ⟨by have := HJ3.out; first | omega | exact Nat.le_refl _⟩, ⟨by (with_reducible repeat (first | refine blk_drewN ?_ _ | refine blk_drew ?_ | refine blk_alloc ?_ _)); exact BK237.out⟩, ⟨by (with_reducible repeat (first | refine blk_drewN ?_ _ | refine blk_drew ?_ | refine blk_alloc ?_ _)); exact BK238.out⟩, ⟨by (with_reducible repeat (first | refine blk_drewN ?_ _ | refine blk_drew ?_ | refine blk_alloc ?_ _)); exact BK239.out⟩, ⟨by repeat (first | (with_reducible first | exact HB.out | apply below_alloc | apply pw_below_drewN | apply below_drew1 | refine below_set ?_ GE237.out | refine below_set ?_ GE238.out | refine below_set ?_ GE239.out) | exact HB.out)⟩⟩
      case rest =>
        clear HC14
        try clear c1
        try clear c2
        try clear p2
        try clear q2
        try clear hx2
        try clear qi2
        try clear c8
        try clear c8b0
        try clear c8b1
        try clear c9
        try clear c9b0
        try clear c9b1
        try clear c10
        try clear c11
        try clear c15
        try clear c16
        try clear c18
        try clear c20
        try clear c21
        try clear c21b0
        try clear c21b1
        try clear c22
        try clear c22b0
        try clear c22b1
        try clear c22b2
        try clear c23
        try clear c23b0
        try clear c24
        try clear c24b0
        try clear c24b1
        try clear c24b2
        try clear p24
        try clear q24
        try clear hx24
        try clear qi24
        try clear hcz12_0
        try clear hcz12_1
        try clear hcz12_2
        try clear hcz17_0
        try clear hcz17_1
        try clear hcz17_2
        try clear hcz19_0
        try clear hcz19_1
        try clear hcz19_2
        try clear hfz12_0
        try clear hfz12_1
        try clear hfz12_2
        try clear hfz17_0
        try clear hfz17_1
        try clear hfz17_2
        try clear hfz19_0
        try clear hfz19_1
        try clear hfz19_2
        try clear hx240_0
        try clear hx240_1
        try clear hx240_2
        try clear p2
        try clear p240
        try clear q2
        try clear q240
        obtain ⟨kq, x45_13, rfl, HA, HJ13, BK237, BK238, BK239, HB⟩ := hcut
        cases kq with
        | zero => exact absurd HA.out (by simp [val_Reckon.j1])
        | succ kj13 =>
          have H := HA.out
          clear HA
          simp only [val_Reckon.j1] at H
          by_cases c25 : x45_13 = true
          · subst c25
            have H1 : (some (0, 0, (⟨#[]⟩ : ByteArray), 20)) = some (r1, r2, r3, r4) := by rw [if_pos rfl] at H; exact H
            clear H
            have H := H1
            clear H1
            simp only [Option.some.injEq, Prod.mk.injEq] at H
            obtain ⟨rfl, rfl, rfl, rfl⟩ := H
            have hnb26 := NB238_237.out
            have hnc26 := NB237_238.out
            have hnb27 := NB238_239.out
            have hnc27 := NB239_238.out
            have hcz28_0 : wc.cell? ⟨gb238, 0, none⟩ = some (.int .i64 0) := (blk_cell BK238.out 0).trans rfl
            have hcz28_1 : wc.cell? ⟨gb238, 1, none⟩ = some (.int .i64 0) := (blk_cell BK238.out 1).trans rfl
            have hcz28_2 : wc.cell? ⟨gb238, 2, none⟩ = some (.string (⟨#[]⟩ : ByteArray)) := (blk_cell BK238.out 2).trans rfl
            have hfz28_0 := blk_frozen BK238.out 0
            have hfz28_1 := blk_frozen BK238.out 1
            have hfz28_2 := blk_frozen BK238.out 2
            go_wp2
            refine bodyPost_ret (results_ct rfl _ _ gb238 24 #[.int .i64 0, .int .i64 0, .string (⟨#[]⟩ : ByteArray)] (0, 0) _ rfl (by (with_reducible repeat (first | refine blk_drewN ?_ _ | refine blk_drew ?_ | refine blk_alloc ?_ _)); refine blk_put (cs := #[.int .i64 0, .int .i64 0, .string (⟨#[]⟩ : ByteArray)]) ?_ 2 _ rfl; (with_reducible repeat (first | refine blk_drewN ?_ _ | refine blk_drew ?_ | refine blk_alloc ?_ _)); refine blk_put (cs := #[.int .i64 0, .int .i64 0, .string (⟨#[]⟩ : ByteArray)]) ?_ 1 _ rfl; (with_reducible repeat (first | refine blk_drewN ?_ _ | refine blk_drew ?_ | refine blk_alloc ?_ _)); refine blk_put (cs := #[.int .i64 0, .int .i64 0, .string (⟨#[]⟩ : ByteArray)]) ?_ 0 _ rfl; (with_reducible repeat (first | refine blk_drewN ?_ _ | refine blk_drew ?_ | refine blk_alloc ?_ _)); exact BK238.out) Tryd.underlying24 rfl (by kernel_rfl)) rfl ?_
            exact ⟨by first | rfl | (simp [errW_none, errW_some] <;> rfl) | (simp [*, errW_none, errW_some] <;> rfl), by repeat (first | (with_reducible first | exact HB.out | apply below_alloc | apply pw_below_drewN | apply below_drew1 | refine below_set ?_ GE237.out | refine below_set ?_ GE238.out | refine below_set ?_ GE239.out) | exact HB.out)⟩
          · replace c25 := Bool.eq_false_iff.mpr c25
            subst c25
            have H1 : (if a0 = 1 then ((val_Truth.f (a1_1 == 0)).bind fun bt243 => (some (bt243.1, bt243.2.1, bt243.2.2, 0))) else (if a0 = 2 then ((val_over.f (wrap64 (-a1_1)) (a1_1 == (-9223372036854775808))).bind fun bt246 => (some (bt246.1, bt246.2.1, bt246.2.2.1, bt246.2.2.2))) else (if a0 = 8 then (val_Reckon.j2 kj13 a0 a0 (a0 == 8) a1_0 a1_1 a1_2 x240000_3 x240001_3 x240002_3) else (if a0 = 9 then (val_Reckon.j2 kj13 a0 a0 (a0 == 9) a1_0 a1_1 a1_2 x240000_3 x240001_3 x240002_3) else (if a0 = 10 then (val_Reckon.j2 kj13 a0 a0 (a0 == 10) a1_0 a1_1 a1_2 x240000_3 x240001_3 x240002_3) else (val_Reckon.j2 kj13 a0 a0 (a0 == 11) a1_0 a1_1 a1_2 x240000_3 x240001_3 x240002_3)))))) = some (r1, r2, r3, r4) := by rw [if_neg (show ¬ (false = true) by decide)] at H; exact H
            clear H
            have H := H1
            clear H1
            by_cases c29 : a0 = 1
            · rw [if_pos c29] at H
              have c29b0 : (a0 == 1) = true := beq_iff_eq.mpr c29
              have c29b1 : (a0 != 1) = false := bne_eq_false_iff_eq.mpr c29
              clear c29
              replace H := Option.bind_eq_some_iff.mp H
              obtain ⟨⟨t243, t244, t245⟩, A300, H⟩ := H
              replace H : (some (t243, t244, t245, 0)) = some (r1, r2, r3, r4) := H
              have A30 := Aside0.mk A300
              clear A300
              simp only [Option.some.injEq, Prod.mk.injEq] at H
              obtain ⟨rfl, rfl, rfl, rfl⟩ := H
              have hnb31 := NB237_238.out
              have hnc31 := NB238_237.out
              have hnb32 := NB237_239.out
              have hnc32 := NB239_237.out
              have hcz33_0 : wc.cell? ⟨gb237, 0, none⟩ = some (.int .i64 a1_0) := (blk_cell BK237.out 0).trans rfl
              have hcz33_1 : wc.cell? ⟨gb237, 1, none⟩ = some (.int .i64 a1_1) := (blk_cell BK237.out 1).trans rfl
              have hcz33_2 : wc.cell? ⟨gb237, 2, none⟩ = some (.string a1_2) := (blk_cell BK237.out 2).trans rfl
              have hfz33_0 := blk_frozen BK237.out 0
              have hfz33_1 := blk_frozen BK237.out 1
              have hfz33_2 := blk_frozen BK237.out 2
              go_wp2_with (first | ((with_reducible refine gate_callee (f := 24) rfl ?_); refine goesL_ (some 53) rfl rfl Tryd.func24 (by kernel_rfl) rfl #[.bool (a1_1 == 0)] rfl (by (try simp only [List.map_toArray, List.map_cons, List.map_nil]); first | done | rfl | (simp only [List.length_drop, List.length_take]; rfl)) ?_; (with_reducible refine (val_Truth.calls (a1_1 == 0) t243 t244 t245 _ A30.out).mono ?_); rintro e w34 ⟨rfl, hb⟩; refine ⟨_, rfl, ?_⟩; have n0_ := Aside0.mk (blk_below (g := gb237) (o := .cells #[.int .i64 a1_0, .int .i64 a1_1, .string a1_2] 24 (0, 0)) (by (with_reducible repeat (first | refine blk_drewN ?_ _ | refine blk_drew ?_ | refine blk_alloc ?_ _)); exact BK237.out) hb); have n1_ := Aside0.mk (blk_below (g := gb238) (o := .cells #[.int .i64 0, .int .i64 0, .string (⟨#[]⟩ : ByteArray)] 24 (0, 0)) (by (with_reducible repeat (first | refine blk_drewN ?_ _ | refine blk_drew ?_ | refine blk_alloc ?_ _)); exact BK238.out) hb); have n2_ := Aside0.mk (blk_below (g := gb239) (o := .cells #[.int .i64 x240000_3, .int .i64 x240001_3, .string x240002_3] 24 (0, 0)) (by (with_reducible repeat (first | refine blk_drewN ?_ _ | refine blk_drew ?_ | refine blk_alloc ?_ _)); exact BK239.out) hb); have n3_ := Aside0.mk (below_step (by repeat (first | (with_reducible first | exact HB.out | apply below_alloc | apply pw_below_drewN | apply below_drew1 | refine below_set ?_ GE237.out | refine below_set ?_ GE238.out | refine below_set ?_ GE239.out) | exact HB.out)) hb); clear BK237; clear BK238; clear BK239; clear HB; have BK237 := n0_; have BK238 := n1_; have BK239 := n2_; have HB := n3_; clear n0_ n1_ n2_ n3_; (try clear hb); (try clear hb2); (try clear hk); (try clear hi); have hnb35 := NB238_239.out; have hnc35 := NB239_238.out; have hcz36_0 : w34.cell? ⟨gb238, 0, none⟩ = some (.int .i64 0) := (blk_cell BK238.out 0).trans rfl; have hcz36_1 : w34.cell? ⟨gb238, 1, none⟩ = some (.int .i64 0) := (blk_cell BK238.out 1).trans rfl; have hcz36_2 : w34.cell? ⟨gb238, 2, none⟩ = some (.string (⟨#[]⟩ : ByteArray)) := (blk_cell BK238.out 2).trans rfl; have hfz36_0 := blk_frozen BK238.out 0; have hfz36_1 := blk_frozen BK238.out 1; have hfz36_2 := blk_frozen BK238.out 2))
              refine bodyPost_ret (results_ct rfl _ _ gb238 24 #[.int .i64 t243, .int .i64 t244, .string t245] (0, 0) _ rfl (by (with_reducible repeat (first | refine blk_drewN ?_ _ | refine blk_drew ?_ | refine blk_alloc ?_ _)); refine blk_put (cs := #[.int .i64 t243, .int .i64 t244, .string (⟨#[]⟩ : ByteArray)]) ?_ 2 _ rfl; (with_reducible repeat (first | refine blk_drewN ?_ _ | refine blk_drew ?_ | refine blk_alloc ?_ _)); refine blk_put (cs := #[.int .i64 t243, .int .i64 0, .string (⟨#[]⟩ : ByteArray)]) ?_ 1 _ rfl; (with_reducible repeat (first | refine blk_drewN ?_ _ | refine blk_drew ?_ | refine blk_alloc ?_ _)); refine blk_put (cs := #[.int .i64 0, .int .i64 0, .string (⟨#[]⟩ : ByteArray)]) ?_ 0 _ rfl; (with_reducible repeat (first | refine blk_drewN ?_ _ | refine blk_drew ?_ | refine blk_alloc ?_ _)); exact BK238.out) Tryd.underlying24 rfl (by kernel_rfl)) rfl ?_
              exact ⟨by first | rfl | (simp [errW_none, errW_some] <;> rfl) | (simp [*, errW_none, errW_some] <;> rfl), by repeat (first | (with_reducible first | exact HB.out | apply below_alloc | apply pw_below_drewN | apply below_drew1 | refine below_set ?_ GE237.out | refine below_set ?_ GE238.out | refine below_set ?_ GE239.out) | exact HB.out)⟩
            · rw [if_neg c29] at H
              have c29b0 : (a0 == 1) = false := beq_eq_false_iff_ne.mpr c29
              have c29b1 : (a0 != 1) = true := bne_iff_ne.mpr c29
              by_cases c37 : a0 = 2
              · rw [if_pos c37] at H
                have c37b0 : (a0 == 2) = true := beq_iff_eq.mpr c37
                have c37b1 : (a0 != 2) = false := bne_eq_false_iff_eq.mpr c37
                clear c37
                replace H := Option.bind_eq_some_iff.mp H
                obtain ⟨⟨t246, t247, t248, t249⟩, A380, H⟩ := H
                replace H : (some (t246, t247, t248, t249)) = some (r1, r2, r3, r4) := H
                have A38 := Aside0.mk A380
                clear A380
                simp only [Option.some.injEq, Prod.mk.injEq] at H
                obtain ⟨rfl, rfl, rfl, rfl⟩ := H
                have hnb39 := NB237_238.out
                have hnc39 := NB238_237.out
                have hnb40 := NB237_239.out
                have hnc40 := NB239_237.out
                have hcz41_0 : wc.cell? ⟨gb237, 0, none⟩ = some (.int .i64 a1_0) := (blk_cell BK237.out 0).trans rfl
                have hcz41_1 : wc.cell? ⟨gb237, 1, none⟩ = some (.int .i64 a1_1) := (blk_cell BK237.out 1).trans rfl
                have hcz41_2 : wc.cell? ⟨gb237, 2, none⟩ = some (.string a1_2) := (blk_cell BK237.out 2).trans rfl
                have hfz41_0 := blk_frozen BK237.out 0
                have hfz41_1 := blk_frozen BK237.out 1
                have hfz41_2 := blk_frozen BK237.out 2
                go_wp2_with (first | ((with_reducible refine gate_callee (f := 32) rfl ?_); refine goesL_ (some 62) rfl rfl Tryd.func32 (by kernel_rfl) rfl #[.int .i64 (wrap64 (-a1_1)), .bool (a1_1 == (-9223372036854775808))] rfl (by (try simp only [List.map_toArray, List.map_cons, List.map_nil]); first | done | rfl | (simp only [List.length_drop, List.length_take]; rfl)) ?_; (with_reducible refine (val_over.calls (wrap64 (-a1_1)) (a1_1 == (-9223372036854775808)) t246 t247 t248 t249 _ A38.out).mono ?_); rintro e w42 ⟨rfl, hb⟩; refine ⟨_, rfl, ?_⟩; have n0_ := Aside0.mk (blk_below (g := gb237) (o := .cells #[.int .i64 a1_0, .int .i64 a1_1, .string a1_2] 24 (0, 0)) (by (with_reducible repeat (first | refine blk_drewN ?_ _ | refine blk_drew ?_ | refine blk_alloc ?_ _)); exact BK237.out) hb); have n1_ := Aside0.mk (blk_below (g := gb238) (o := .cells #[.int .i64 0, .int .i64 0, .string (⟨#[]⟩ : ByteArray)] 24 (0, 0)) (by (with_reducible repeat (first | refine blk_drewN ?_ _ | refine blk_drew ?_ | refine blk_alloc ?_ _)); exact BK238.out) hb); have n2_ := Aside0.mk (blk_below (g := gb239) (o := .cells #[.int .i64 x240000_3, .int .i64 x240001_3, .string x240002_3] 24 (0, 0)) (by (with_reducible repeat (first | refine blk_drewN ?_ _ | refine blk_drew ?_ | refine blk_alloc ?_ _)); exact BK239.out) hb); have n3_ := Aside0.mk (below_step (by repeat (first | (with_reducible first | exact HB.out | apply below_alloc | apply pw_below_drewN | apply below_drew1 | refine below_set ?_ GE237.out | refine below_set ?_ GE238.out | refine below_set ?_ GE239.out) | exact HB.out)) hb); clear BK237; clear BK238; clear BK239; clear HB; have BK237 := n0_; have BK238 := n1_; have BK239 := n2_; have HB := n3_; clear n0_ n1_ n2_ n3_; (try clear hb); (try clear hb2); (try clear hk); (try clear hi); have hnb43 := NB238_239.out; have hnc43 := NB239_238.out; have hcz44_0 : w42.cell? ⟨gb238, 0, none⟩ = some (.int .i64 0) := (blk_cell BK238.out 0).trans rfl; have hcz44_1 : w42.cell? ⟨gb238, 1, none⟩ = some (.int .i64 0) := (blk_cell BK238.out 1).trans rfl; have hcz44_2 : w42.cell? ⟨gb238, 2, none⟩ = some (.string (⟨#[]⟩ : ByteArray)) := (blk_cell BK238.out 2).trans rfl; have hfz44_0 := blk_frozen BK238.out 0; have hfz44_1 := blk_frozen BK238.out 1; have hfz44_2 := blk_frozen BK238.out 2))
                refine bodyPost_ret (results_ct rfl _ _ gb238 24 #[.int .i64 t246, .int .i64 t247, .string t248] (0, 0) _ rfl (by (with_reducible repeat (first | refine blk_drewN ?_ _ | refine blk_drew ?_ | refine blk_alloc ?_ _)); refine blk_put (cs := #[.int .i64 t246, .int .i64 t247, .string (⟨#[]⟩ : ByteArray)]) ?_ 2 _ rfl; (with_reducible repeat (first | refine blk_drewN ?_ _ | refine blk_drew ?_ | refine blk_alloc ?_ _)); refine blk_put (cs := #[.int .i64 t246, .int .i64 0, .string (⟨#[]⟩ : ByteArray)]) ?_ 1 _ rfl; (with_reducible repeat (first | refine blk_drewN ?_ _ | refine blk_drew ?_ | refine blk_alloc ?_ _)); refine blk_put (cs := #[.int .i64 0, .int .i64 0, .string (⟨#[]⟩ : ByteArray)]) ?_ 0 _ rfl; (with_reducible repeat (first | refine blk_drewN ?_ _ | refine blk_drew ?_ | refine blk_alloc ?_ _)); exact BK238.out) Tryd.underlying24 rfl (by kernel_rfl)) rfl ?_
                exact ⟨by first | rfl | (simp [errW_none, errW_some] <;> rfl) | (simp [*, errW_none, errW_some] <;> rfl), by repeat (first | (with_reducible first | exact HB.out | apply below_alloc | apply pw_below_drewN | apply below_drew1 | refine below_set ?_ GE237.out | refine below_set ?_ GE238.out | refine below_set ?_ GE239.out) | exact HB.out)⟩
              · rw [if_neg c37] at H
                have c37b0 : (a0 == 2) = false := beq_eq_false_iff_ne.mpr c37
                have c37b1 : (a0 != 2) = true := bne_iff_ne.mpr c37
                have HC45 := Aside0.mk H
                clear H
                go_upto_if 65 with (fail)
                go_cut [65] (fun v65 wc => ∃ (kq : Nat) (x65_44 : Bool), v65 = .bool x65_44 ∧ Aside0 (val_Reckon.j2 kq a0 a0 x65_44 a1_0 a1_1 a1_2 x240000_3 x240001_3 x240002_3 = some (r1, r2, r3, r4)) ∧ Aside0 (kq ≤ kj13) ∧ Aside0 (wc.heap[gb237]? = some (.cells #[.int .i64 a1_0, .int .i64 a1_1, .string a1_2] 24 (0, 0))) ∧ Aside0 (wc.heap[gb238]? = some (.cells #[.int .i64 0, .int .i64 0, .string (⟨#[]⟩ : ByteArray)] 24 (0, 0))) ∧ Aside0 (wc.heap[gb239]? = some (.cells #[.int .i64 x240000_3, .int .i64 x240001_3, .string x240002_3] 24 (0, 0))) ∧ Aside0 (Below w.heap.size w wc))
                case first =>
                  have H := HC45.out
                  clear HC45
                  by_cases c46 : a0 = 8
                  · rw [if_pos c46] at H
                    have c46b0 : (a0 == 8) = true := beq_iff_eq.mpr c46
                    have c46b1 : (a0 != 8) = false := bne_eq_false_iff_eq.mpr c46
                    clear c46
                    (first | rw [c46b0] | (simp only [i64_w, i32_w]; rw [c46b0]) | skip)
                    (try rw [c46b1])
                    have H' := Aside0.mk H
                    clear H
                    go_wp2
                    go_meet
                    case rel => exact ⟨_, ((a0 == 8)), (by first | rfl | (simp; done) | (simp [*]; done)), H', ⟨by have := HJ3.out; have := HJ13.out; first | omega | exact Nat.le_refl _⟩, ⟨by (with_reducible repeat (first | refine blk_drewN ?_ _ | refine blk_drew ?_ | refine blk_alloc ?_ _)); exact BK237.out⟩, ⟨by (with_reducible repeat (first | refine blk_drewN ?_ _ | refine blk_drew ?_ | refine blk_alloc ?_ _)); exact BK238.out⟩, ⟨by (with_reducible repeat (first | refine blk_drewN ?_ _ | refine blk_drew ?_ | refine blk_alloc ?_ _)); exact BK239.out⟩, ⟨by repeat (first | (with_reducible first | exact HB.out | apply below_alloc | apply pw_below_drewN | apply below_drew1 | refine below_set ?_ GE237.out | refine below_set ?_ GE238.out | refine below_set ?_ GE239.out) | exact HB.out)⟩⟩
                  · rw [if_neg c46] at H
                    have c46b0 : (a0 == 8) = false := beq_eq_false_iff_ne.mpr c46
                    have c46b1 : (a0 != 8) = true := bne_iff_ne.mpr c46
                    (first | rw [c46b0] | (simp only [i64_w, i32_w]; rw [c46b0]) | skip)
                    (try rw [c46b1])
                    by_cases c47 : a0 = 9
                    · rw [if_pos c47] at H
                      have c47b0 : (a0 == 9) = true := beq_iff_eq.mpr c47
                      have c47b1 : (a0 != 9) = false := bne_eq_false_iff_eq.mpr c47
                      clear c47
                      have H' := Aside0.mk H
                      clear H
                      go_wp2
                      go_meet
                      case rel => exact ⟨_, ((a0 == 9)), (by first | rfl | (simp; done) | (simp [*]; done)), H', ⟨by have := HJ3.out; have := HJ13.out; first | omega | exact Nat.le_refl _⟩, ⟨by (with_reducible repeat (first | refine blk_drewN ?_ _ | refine blk_drew ?_ | refine blk_alloc ?_ _)); exact BK237.out⟩, ⟨by (with_reducible repeat (first | refine blk_drewN ?_ _ | refine blk_drew ?_ | refine blk_alloc ?_ _)); exact BK238.out⟩, ⟨by (with_reducible repeat (first | refine blk_drewN ?_ _ | refine blk_drew ?_ | refine blk_alloc ?_ _)); exact BK239.out⟩, ⟨by repeat (first | (with_reducible first | exact HB.out | apply below_alloc | apply pw_below_drewN | apply below_drew1 | refine below_set ?_ GE237.out | refine below_set ?_ GE238.out | refine below_set ?_ GE239.out) | exact HB.out)⟩⟩
                    · rw [if_neg c47] at H
                      have c47b0 : (a0 == 9) = false := beq_eq_false_iff_ne.mpr c47
                      have c47b1 : (a0 != 9) = true := bne_iff_ne.mpr c47
                      by_cases c48 : a0 = 10
                      · rw [if_pos c48] at H
                        have c48b0 : (a0 == 10) = true := beq_iff_eq.mpr c48
                        have c48b1 : (a0 != 10) = false := bne_eq_false_iff_eq.mpr c48
                        clear c48
                        have H' := Aside0.mk H
                        clear H
                        go_wp2
                        go_meet
                        case rel => exact ⟨_, ((a0 == 10)), (by first | rfl | (simp; done) | (simp [*]; done)), H', ⟨by have := HJ3.out; have := HJ13.out; first | omega | exact Nat.le_refl _⟩, ⟨by (with_reducible repeat (first | refine blk_drewN ?_ _ | refine blk_drew ?_ | refine blk_alloc ?_ _)); exact BK237.out⟩, ⟨by (with_reducible repeat (first | refine blk_drewN ?_ _ | refine blk_drew ?_ | refine blk_alloc ?_ _)); exact BK238.out⟩, ⟨by (with_reducible repeat (first | refine blk_drewN ?_ _ | refine blk_drew ?_ | refine blk_alloc ?_ _)); exact BK239.out⟩, ⟨by repeat (first | (with_reducible first | exact HB.out | apply below_alloc | apply pw_below_drewN | apply below_drew1 | refine below_set ?_ GE237.out | refine below_set ?_ GE238.out | refine below_set ?_ GE239.out) | exact HB.out)⟩⟩
                      · rw [if_neg c48] at H
                        have c48b0 : (a0 == 10) = false := beq_eq_false_iff_ne.mpr c48
                        have c48b1 : (a0 != 10) = true := bne_iff_ne.mpr c48
                        have H' := Aside0.mk H
                        clear H
                        go_wp2
                        go_meet
                        case rel => exact ⟨_, ((a0 == 11)), (by first | rfl | (simp; done) | (simp [*]; done)), H', ⟨by have := HJ3.out; have := HJ13.out; first | omega | exact Nat.le_refl _⟩, ⟨by (with_reducible repeat (first | refine blk_drewN ?_ _ | refine blk_drew ?_ | refine blk_alloc ?_ _)); exact BK237.out⟩, ⟨by (with_reducible repeat (first | refine blk_drewN ?_ _ | refine blk_drew ?_ | refine blk_alloc ?_ _)); exact BK238.out⟩, ⟨by (with_reducible repeat (first | refine blk_drewN ?_ _ | refine blk_drew ?_ | refine blk_alloc ?_ _)); exact BK239.out⟩, ⟨by repeat (first | (with_reducible first | exact HB.out | apply below_alloc | apply pw_below_drewN | apply below_drew1 | refine below_set ?_ GE237.out | refine below_set ?_ GE238.out | refine below_set ?_ GE239.out) | exact HB.out)⟩⟩
                case rest =>
                  clear HC45
                  try clear c1
                  try clear c2
                  try clear p2
                  try clear q2
                  try clear hx2
                  try clear qi2
                  try clear c3
                  try clear c4
                  try clear p6
                  try clear c8
                  try clear c8b0
                  try clear c8b1
                  try clear c9
                  try clear c9b0
                  try clear c9b1
                  try clear c10
                  try clear c11
                  try clear c15
                  try clear c16
                  try clear c18
                  try clear c20
                  try clear c21
                  try clear c21b0
                  try clear c21b1
                  try clear c22
                  try clear c22b0
                  try clear c22b1
                  try clear c22b2
                  try clear c23
                  try clear c23b0
                  try clear c24
                  try clear c24b0
                  try clear c24b1
                  try clear c24b2
                  try clear p24
                  try clear q24
                  try clear hx24
                  try clear qi24
                  try clear c25
                  try clear c26
                  try clear c27
                  try clear c29
                  try clear c29b0
                  try clear c29b1
                  try clear c31
                  try clear c32
                  try clear c35
                  try clear c37
                  try clear c37b0
                  try clear c37b1
                  try clear c39
                  try clear c40
                  try clear c43
                  try clear c46
                  try clear c46b0
                  try clear c46b1
                  try clear c47
                  try clear c47b0
                  try clear c47b1
                  try clear c48
                  try clear c48b0
                  try clear c48b1
                  try clear hcz12_0
                  try clear hcz12_1
                  try clear hcz12_2
                  try clear hcz17_0
                  try clear hcz17_1
                  try clear hcz17_2
                  try clear hcz19_0
                  try clear hcz19_1
                  try clear hcz19_2
                  try clear hcz28_0
                  try clear hcz28_1
                  try clear hcz28_2
                  try clear hcz33_0
                  try clear hcz33_1
                  try clear hcz33_2
                  try clear hcz36_0
                  try clear hcz36_1
                  try clear hcz36_2
                  try clear hcz41_0
                  try clear hcz41_1
                  try clear hcz41_2
                  try clear hcz44_0
                  try clear hcz44_1
                  try clear hcz44_2
                  try clear hfz12_0
                  try clear hfz12_1
                  try clear hfz12_2
                  try clear hfz17_0
                  try clear hfz17_1
                  try clear hfz17_2
                  try clear hfz19_0
                  try clear hfz19_1
                  try clear hfz19_2
                  try clear hfz28_0
                  try clear hfz28_1
                  try clear hfz28_2
                  try clear hfz33_0
                  try clear hfz33_1
                  try clear hfz33_2
                  try clear hfz36_0
                  try clear hfz36_1
                  try clear hfz36_2
                  try clear hfz41_0
                  try clear hfz41_1
                  try clear hfz41_2
                  try clear hfz44_0
                  try clear hfz44_1
                  try clear hfz44_2
                  try clear hx240_0
                  try clear hx240_1
                  try clear hx240_2
                  try clear p2
                  try clear p24
                  try clear p240
                  try clear q2
                  try clear q24
                  try clear q240
                  obtain ⟨kq, x65_44, rfl, HA, HJ44, BK237, BK238, BK239, HB⟩ := hcut
                  cases kq with
                  | zero => exact absurd HA.out (by simp [val_Reckon.j2])
                  | succ kj44 =>
                    have H := HA.out
                    clear HA
                    simp only [val_Reckon.j2] at H
                    by_cases c49 : x65_44 = true
                    · subst c49
                      have H1 : ((val_compare.f kj44 a1_0 a1_1 a1_2 x240000_3 x240001_3 x240002_3).bind fun t250 => ((val_order.f a0 t250).bind fun bt251 => (some (bt251.1, bt251.2.1, bt251.2.2, 0)))) = some (r1, r2, r3, r4) := by rw [if_pos rfl] at H; exact H
                      clear H
                      have H := H1
                      clear H1
                      replace H := Option.bind_eq_some_iff.mp H
                      obtain ⟨t250, A500, H⟩ := H
                      replace H : ((val_order.f a0 t250).bind fun bt251 => (some (bt251.1, bt251.2.1, bt251.2.2, 0))) = some (r1, r2, r3, r4) := H
                      have A50 := Aside0.mk A500
                      clear A500
                      replace H := Option.bind_eq_some_iff.mp H
                      obtain ⟨⟨t251, t252, t253⟩, A510, H⟩ := H
                      replace H : (some (t251, t252, t253, 0)) = some (r1, r2, r3, r4) := H
                      have A51 := Aside0.mk A510
                      clear A510
                      simp only [Option.some.injEq, Prod.mk.injEq] at H
                      obtain ⟨rfl, rfl, rfl, rfl⟩ := H
                      have hnb52 := NB237_238.out
                      have hnc52 := NB238_237.out
                      have hnb53 := NB237_239.out
                      have hnc53 := NB239_237.out
                      have hcz54_0 : wc.cell? ⟨gb237, 0, none⟩ = some (.int .i64 a1_0) := (blk_cell BK237.out 0).trans rfl
                      have hcz54_1 : wc.cell? ⟨gb237, 1, none⟩ = some (.int .i64 a1_1) := (blk_cell BK237.out 1).trans rfl
                      have hcz54_2 : wc.cell? ⟨gb237, 2, none⟩ = some (.string a1_2) := (blk_cell BK237.out 2).trans rfl
                      have hfz54_0 := blk_frozen BK237.out 0
                      have hfz54_1 := blk_frozen BK237.out 1
                      have hfz54_2 := blk_frozen BK237.out 2
                      have hnb55 := NB239_238.out
                      have hnc55 := NB238_239.out
                      have hcz56_0 : wc.cell? ⟨gb239, 0, none⟩ = some (.int .i64 x240000_3) := (blk_cell BK239.out 0).trans rfl
                      have hcz56_1 : wc.cell? ⟨gb239, 1, none⟩ = some (.int .i64 x240001_3) := (blk_cell BK239.out 1).trans rfl
                      have hcz56_2 : wc.cell? ⟨gb239, 2, none⟩ = some (.string x240002_3) := (blk_cell BK239.out 2).trans rfl
                      have hfz56_0 := blk_frozen BK239.out 0
                      have hfz56_1 := blk_frozen BK239.out 1
                      have hfz56_2 := blk_frozen BK239.out 2
                      go_wp2_with (first | ((with_reducible refine gate_callee (f := 34) rfl ?_); refine goesL_ (some 73) rfl rfl Tryd.func34 (by kernel_rfl) rfl #[.agg #[.int .i64 a1_0, .int .i64 a1_1, .string a1_2], .agg #[.int .i64 x240000_3, .int .i64 x240001_3, .string x240002_3]] rfl (by (try simp only [List.map_toArray, List.map_cons, List.map_nil]); first | done | rfl | (simp only [List.length_drop, List.length_take]; rfl)) ?_; (with_reducible refine (val_compare.calls kj44 a1_0 a1_1 a1_2 x240000_3 x240001_3 x240002_3 t250 _ A50.out).mono ?_); rintro e w57 ⟨rfl, hb⟩; refine ⟨_, rfl, ?_⟩; have n0_ := Aside0.mk (blk_below (g := gb237) (o := .cells #[.int .i64 a1_0, .int .i64 a1_1, .string a1_2] 24 (0, 0)) (by (with_reducible repeat (first | refine blk_drewN ?_ _ | refine blk_drew ?_ | refine blk_alloc ?_ _)); exact BK237.out) hb); have n1_ := Aside0.mk (blk_below (g := gb238) (o := .cells #[.int .i64 0, .int .i64 0, .string (⟨#[]⟩ : ByteArray)] 24 (0, 0)) (by (with_reducible repeat (first | refine blk_drewN ?_ _ | refine blk_drew ?_ | refine blk_alloc ?_ _)); exact BK238.out) hb); have n2_ := Aside0.mk (blk_below (g := gb239) (o := .cells #[.int .i64 x240000_3, .int .i64 x240001_3, .string x240002_3] 24 (0, 0)) (by (with_reducible repeat (first | refine blk_drewN ?_ _ | refine blk_drew ?_ | refine blk_alloc ?_ _)); exact BK239.out) hb); have n3_ := Aside0.mk (below_step (by repeat (first | (with_reducible first | exact HB.out | apply below_alloc | apply pw_below_drewN | apply below_drew1 | refine below_set ?_ GE237.out | refine below_set ?_ GE238.out | refine below_set ?_ GE239.out) | exact HB.out)) hb); clear BK237; clear BK238; clear BK239; clear HB; have BK237 := n0_; have BK238 := n1_; have BK239 := n2_; have HB := n3_; clear n0_ n1_ n2_ n3_; (try clear hb); (try clear hb2); (try clear hk); (try clear hi)) | ((with_reducible refine gate_callee (f := 33) rfl ?_); refine goesL_ (some 74) rfl rfl Tryd.func33 (by kernel_rfl) rfl #[.int .i64 a0, .int .i64 t250] rfl (by (try simp only [List.map_toArray, List.map_cons, List.map_nil]); first | done | rfl | (simp only [List.length_drop, List.length_take]; rfl)) ?_; (with_reducible refine (val_order.calls a0 t250 t251 t252 t253 _ A51.out).mono ?_); rintro e w58 ⟨rfl, hb⟩; refine ⟨_, rfl, ?_⟩; have n0_ := Aside0.mk (blk_below (g := gb237) (o := .cells #[.int .i64 a1_0, .int .i64 a1_1, .string a1_2] 24 (0, 0)) (by (with_reducible repeat (first | refine blk_drewN ?_ _ | refine blk_drew ?_ | refine blk_alloc ?_ _)); exact BK237.out) hb); have n1_ := Aside0.mk (blk_below (g := gb238) (o := .cells #[.int .i64 0, .int .i64 0, .string (⟨#[]⟩ : ByteArray)] 24 (0, 0)) (by (with_reducible repeat (first | refine blk_drewN ?_ _ | refine blk_drew ?_ | refine blk_alloc ?_ _)); exact BK238.out) hb); have n2_ := Aside0.mk (blk_below (g := gb239) (o := .cells #[.int .i64 x240000_3, .int .i64 x240001_3, .string x240002_3] 24 (0, 0)) (by (with_reducible repeat (first | refine blk_drewN ?_ _ | refine blk_drew ?_ | refine blk_alloc ?_ _)); exact BK239.out) hb); have n3_ := Aside0.mk (below_step (by repeat (first | (with_reducible first | exact HB.out | apply below_alloc | apply pw_below_drewN | apply below_drew1 | refine below_set ?_ GE237.out | refine below_set ?_ GE238.out | refine below_set ?_ GE239.out) | exact HB.out)) hb); clear BK237; clear BK238; clear BK239; clear HB; have BK237 := n0_; have BK238 := n1_; have BK239 := n2_; have HB := n3_; clear n0_ n1_ n2_ n3_; (try clear hb); (try clear hb2); (try clear hk); (try clear hi); have hcz59_0 : w58.cell? ⟨gb238, 0, none⟩ = some (.int .i64 0) := (blk_cell BK238.out 0).trans rfl; have hcz59_1 : w58.cell? ⟨gb238, 1, none⟩ = some (.int .i64 0) := (blk_cell BK238.out 1).trans rfl; have hcz59_2 : w58.cell? ⟨gb238, 2, none⟩ = some (.string (⟨#[]⟩ : ByteArray)) := (blk_cell BK238.out 2).trans rfl; have hfz59_0 := blk_frozen BK238.out 0; have hfz59_1 := blk_frozen BK238.out 1; have hfz59_2 := blk_frozen BK238.out 2))
                      refine bodyPost_ret (results_ct rfl _ _ gb238 24 #[.int .i64 t251, .int .i64 t252, .string t253] (0, 0) _ rfl (by (with_reducible repeat (first | refine blk_drewN ?_ _ | refine blk_drew ?_ | refine blk_alloc ?_ _)); refine blk_put (cs := #[.int .i64 t251, .int .i64 t252, .string (⟨#[]⟩ : ByteArray)]) ?_ 2 _ rfl; (with_reducible repeat (first | refine blk_drewN ?_ _ | refine blk_drew ?_ | refine blk_alloc ?_ _)); refine blk_put (cs := #[.int .i64 t251, .int .i64 0, .string (⟨#[]⟩ : ByteArray)]) ?_ 1 _ rfl; (with_reducible repeat (first | refine blk_drewN ?_ _ | refine blk_drew ?_ | refine blk_alloc ?_ _)); refine blk_put (cs := #[.int .i64 0, .int .i64 0, .string (⟨#[]⟩ : ByteArray)]) ?_ 0 _ rfl; (with_reducible repeat (first | refine blk_drewN ?_ _ | refine blk_drew ?_ | refine blk_alloc ?_ _)); exact BK238.out) Tryd.underlying24 rfl (by kernel_rfl)) rfl ?_
                      exact ⟨by first | rfl | (simp [errW_none, errW_some] <;> rfl) | (simp [*, errW_none, errW_some] <;> rfl), by repeat (first | (with_reducible first | exact HB.out | apply below_alloc | apply pw_below_drewN | apply below_drew1 | refine below_set ?_ GE237.out | refine below_set ?_ GE238.out | refine below_set ?_ GE239.out) | exact HB.out)⟩
                    · replace c49 := Bool.eq_false_iff.mpr c49
                      subst c49
                      have H1 : (if a0 = 12 then ((val_Truth.f (a1_0 == x240000_3 && (a1_1 == x240001_3 && (a1_2.toList == x240002_3.toList)))).bind fun bt254 => (some (bt254.1, bt254.2.1, bt254.2.2, 0))) else (if a0 = 13 then ((val_Truth.f (!(a1_0 == x240000_3) || (!(a1_1 == x240001_3) || (!(a1_2.toList == x240002_3.toList))))).bind fun bt257 => (some (bt257.1, bt257.2.1, bt257.2.2, 0))) else (if a0 = 14 then (if a1_1 = 0 then ((val_Truth.f false).bind fun bt260 => (some (bt260.1, bt260.2.1, bt260.2.2, 0))) else ((val_Truth.f (x240001_3 != 0)).bind fun bt263 => (some (bt263.1, bt263.2.1, bt263.2.2, 0)))) else (if a0 = 15 then (if a1_1 = 0 then ((val_Truth.f (x240001_3 != 0)).bind fun bt266 => (some (bt266.1, bt266.2.1, bt266.2.2, 0))) else ((val_Truth.f true).bind fun bt269 => (some (bt269.1, bt269.2.1, bt269.2.2, 0)))) else (if a0 = 6 then (if a1_0 = 3 then ((val_join.f a1_2 x240002_3).bind fun bt272 => (some (bt272.1, bt272.2.1, bt272.2.2.1, bt272.2.2.2))) else ((val_number.f kj44 a0 a1_1 x240001_3).bind fun bt276 => (some (bt276.1, bt276.2.1, bt276.2.2.1, bt276.2.2.2)))) else ((val_number.f kj44 a0 a1_1 x240001_3).bind fun bt280 => (some (bt280.1, bt280.2.1, bt280.2.2.1, bt280.2.2.2)))))))) = some (r1, r2, r3, r4) := by rw [if_neg (show ¬ (false = true) by decide)] at H; exact H
                      clear H
                      have H := H1
                      clear H1
                      by_cases c60 : a0 = 12
                      · rw [if_pos c60] at H
                        have c60b0 : (a0 == 12) = true := beq_iff_eq.mpr c60
                        have c60b1 : (a0 != 12) = false := bne_eq_false_iff_eq.mpr c60
                        clear c60
                        replace H := Option.bind_eq_some_iff.mp H
                        obtain ⟨⟨t254, t255, t256⟩, A610, H⟩ := H
                        replace H : (some (t254, t255, t256, 0)) = some (r1, r2, r3, r4) := H
                        have A61 := Aside0.mk A610
                        clear A610
                        simp only [Option.some.injEq, Prod.mk.injEq] at H
                        obtain ⟨rfl, rfl, rfl, rfl⟩ := H
                        have hnb62 := NB237_238.out
                        have hnc62 := NB238_237.out
                        have hnb63 := NB237_239.out
                        have hnc63 := NB239_237.out
                        have hcz64_0 : wc.cell? ⟨gb237, 0, none⟩ = some (.int .i64 a1_0) := (blk_cell BK237.out 0).trans rfl
                        have hcz64_1 : wc.cell? ⟨gb237, 1, none⟩ = some (.int .i64 a1_1) := (blk_cell BK237.out 1).trans rfl
                        have hcz64_2 : wc.cell? ⟨gb237, 2, none⟩ = some (.string a1_2) := (blk_cell BK237.out 2).trans rfl
                        have hfz64_0 := blk_frozen BK237.out 0
                        have hfz64_1 := blk_frozen BK237.out 1
                        have hfz64_2 := blk_frozen BK237.out 2
                        have hnb65 := NB239_238.out
                        have hnc65 := NB238_239.out
                        have hcz66_0 : wc.cell? ⟨gb239, 0, none⟩ = some (.int .i64 x240000_3) := (blk_cell BK239.out 0).trans rfl
                        have hcz66_1 : wc.cell? ⟨gb239, 1, none⟩ = some (.int .i64 x240001_3) := (blk_cell BK239.out 1).trans rfl
                        have hcz66_2 : wc.cell? ⟨gb239, 2, none⟩ = some (.string x240002_3) := (blk_cell BK239.out 2).trans rfl
                        have hfz66_0 := blk_frozen BK239.out 0
                        have hfz66_1 := blk_frozen BK239.out 1
                        have hfz66_2 := blk_frozen BK239.out 2
                        go_wp2_with (first | ((with_reducible refine gate_callee (f := 24) rfl ?_); refine goesL_ (some 80) rfl rfl Tryd.func24 (by kernel_rfl) rfl #[.bool (a1_0 == x240000_3 && (a1_1 == x240001_3 && (a1_2.toList == x240002_3.toList)))] rfl (by (try simp only [List.map_toArray, List.map_cons, List.map_nil]); first | done | rfl | (simp only [List.length_drop, List.length_take]; rfl)) ?_; (with_reducible refine (val_Truth.calls (a1_0 == x240000_3 && (a1_1 == x240001_3 && (a1_2.toList == x240002_3.toList))) t254 t255 t256 _ A61.out).mono ?_); rintro e w67 ⟨rfl, hb⟩; refine ⟨_, rfl, ?_⟩; have n0_ := Aside0.mk (blk_below (g := gb237) (o := .cells #[.int .i64 a1_0, .int .i64 a1_1, .string a1_2] 24 (0, 0)) (by (with_reducible repeat (first | refine blk_drewN ?_ _ | refine blk_drew ?_ | refine blk_alloc ?_ _)); exact BK237.out) hb); have n1_ := Aside0.mk (blk_below (g := gb238) (o := .cells #[.int .i64 0, .int .i64 0, .string (⟨#[]⟩ : ByteArray)] 24 (0, 0)) (by (with_reducible repeat (first | refine blk_drewN ?_ _ | refine blk_drew ?_ | refine blk_alloc ?_ _)); exact BK238.out) hb); have n2_ := Aside0.mk (blk_below (g := gb239) (o := .cells #[.int .i64 x240000_3, .int .i64 x240001_3, .string x240002_3] 24 (0, 0)) (by (with_reducible repeat (first | refine blk_drewN ?_ _ | refine blk_drew ?_ | refine blk_alloc ?_ _)); exact BK239.out) hb); have n3_ := Aside0.mk (below_step (by repeat (first | (with_reducible first | exact HB.out | apply below_alloc | apply pw_below_drewN | apply below_drew1 | refine below_set ?_ GE237.out | refine below_set ?_ GE238.out | refine below_set ?_ GE239.out) | exact HB.out)) hb); clear BK237; clear BK238; clear BK239; clear HB; have BK237 := n0_; have BK238 := n1_; have BK239 := n2_; have HB := n3_; clear n0_ n1_ n2_ n3_; (try clear hb); (try clear hb2); (try clear hk); (try clear hi); have hcz68_0 : w67.cell? ⟨gb238, 0, none⟩ = some (.int .i64 0) := (blk_cell BK238.out 0).trans rfl; have hcz68_1 : w67.cell? ⟨gb238, 1, none⟩ = some (.int .i64 0) := (blk_cell BK238.out 1).trans rfl; have hcz68_2 : w67.cell? ⟨gb238, 2, none⟩ = some (.string (⟨#[]⟩ : ByteArray)) := (blk_cell BK238.out 2).trans rfl; have hfz68_0 := blk_frozen BK238.out 0; have hfz68_1 := blk_frozen BK238.out 1; have hfz68_2 := blk_frozen BK238.out 2))
                        refine bodyPost_ret (results_ct rfl _ _ gb238 24 #[.int .i64 t254, .int .i64 t255, .string t256] (0, 0) _ rfl (by (with_reducible repeat (first | refine blk_drewN ?_ _ | refine blk_drew ?_ | refine blk_alloc ?_ _)); refine blk_put (cs := #[.int .i64 t254, .int .i64 t255, .string (⟨#[]⟩ : ByteArray)]) ?_ 2 _ rfl; (with_reducible repeat (first | refine blk_drewN ?_ _ | refine blk_drew ?_ | refine blk_alloc ?_ _)); refine blk_put (cs := #[.int .i64 t254, .int .i64 0, .string (⟨#[]⟩ : ByteArray)]) ?_ 1 _ rfl; (with_reducible repeat (first | refine blk_drewN ?_ _ | refine blk_drew ?_ | refine blk_alloc ?_ _)); refine blk_put (cs := #[.int .i64 0, .int .i64 0, .string (⟨#[]⟩ : ByteArray)]) ?_ 0 _ rfl; (with_reducible repeat (first | refine blk_drewN ?_ _ | refine blk_drew ?_ | refine blk_alloc ?_ _)); exact BK238.out) Tryd.underlying24 rfl (by kernel_rfl)) rfl ?_
                        exact ⟨by first | rfl | (simp [errW_none, errW_some] <;> rfl) | (simp [*, errW_none, errW_some] <;> rfl), by repeat (first | (with_reducible first | exact HB.out | apply below_alloc | apply pw_below_drewN | apply below_drew1 | refine below_set ?_ GE237.out | refine below_set ?_ GE238.out | refine below_set ?_ GE239.out) | exact HB.out)⟩
                      · rw [if_neg c60] at H
                        have c60b0 : (a0 == 12) = false := beq_eq_false_iff_ne.mpr c60
                        have c60b1 : (a0 != 12) = true := bne_iff_ne.mpr c60
                        by_cases c69 : a0 = 13
                        · rw [if_pos c69] at H
                          have c69b0 : (a0 == 13) = true := beq_iff_eq.mpr c69
                          have c69b1 : (a0 != 13) = false := bne_eq_false_iff_eq.mpr c69
                          clear c69
                          replace H := Option.bind_eq_some_iff.mp H
                          obtain ⟨⟨t257, t258, t259⟩, A700, H⟩ := H
                          replace H : (some (t257, t258, t259, 0)) = some (r1, r2, r3, r4) := H
                          have A70 := Aside0.mk A700
                          clear A700
                          simp only [Option.some.injEq, Prod.mk.injEq] at H
                          obtain ⟨rfl, rfl, rfl, rfl⟩ := H
                          have hnb71 := NB237_238.out
                          have hnc71 := NB238_237.out
                          have hnb72 := NB237_239.out
                          have hnc72 := NB239_237.out
                          have hcz73_0 : wc.cell? ⟨gb237, 0, none⟩ = some (.int .i64 a1_0) := (blk_cell BK237.out 0).trans rfl
                          have hcz73_1 : wc.cell? ⟨gb237, 1, none⟩ = some (.int .i64 a1_1) := (blk_cell BK237.out 1).trans rfl
                          have hcz73_2 : wc.cell? ⟨gb237, 2, none⟩ = some (.string a1_2) := (blk_cell BK237.out 2).trans rfl
                          have hfz73_0 := blk_frozen BK237.out 0
                          have hfz73_1 := blk_frozen BK237.out 1
                          have hfz73_2 := blk_frozen BK237.out 2
                          have hnb74 := NB239_238.out
                          have hnc74 := NB238_239.out
                          have hcz75_0 : wc.cell? ⟨gb239, 0, none⟩ = some (.int .i64 x240000_3) := (blk_cell BK239.out 0).trans rfl
                          have hcz75_1 : wc.cell? ⟨gb239, 1, none⟩ = some (.int .i64 x240001_3) := (blk_cell BK239.out 1).trans rfl
                          have hcz75_2 : wc.cell? ⟨gb239, 2, none⟩ = some (.string x240002_3) := (blk_cell BK239.out 2).trans rfl
                          have hfz75_0 := blk_frozen BK239.out 0
                          have hfz75_1 := blk_frozen BK239.out 1
                          have hfz75_2 := blk_frozen BK239.out 2
                          go_wp2_with (first | ((with_reducible refine gate_callee (f := 24) rfl ?_); refine goesL_ (some 86) rfl rfl Tryd.func24 (by kernel_rfl) rfl #[.bool (!(a1_0 == x240000_3) || (!(a1_1 == x240001_3) || (!(a1_2.toList == x240002_3.toList))))] rfl (by (try simp only [List.map_toArray, List.map_cons, List.map_nil]); first | done | rfl | (simp only [List.length_drop, List.length_take]; rfl)) ?_; (with_reducible refine (val_Truth.calls (!(a1_0 == x240000_3) || (!(a1_1 == x240001_3) || (!(a1_2.toList == x240002_3.toList)))) t257 t258 t259 _ A70.out).mono ?_); rintro e w76 ⟨rfl, hb⟩; refine ⟨_, rfl, ?_⟩; have n0_ := Aside0.mk (blk_below (g := gb237) (o := .cells #[.int .i64 a1_0, .int .i64 a1_1, .string a1_2] 24 (0, 0)) (by (with_reducible repeat (first | refine blk_drewN ?_ _ | refine blk_drew ?_ | refine blk_alloc ?_ _)); exact BK237.out) hb); have n1_ := Aside0.mk (blk_below (g := gb238) (o := .cells #[.int .i64 0, .int .i64 0, .string (⟨#[]⟩ : ByteArray)] 24 (0, 0)) (by (with_reducible repeat (first | refine blk_drewN ?_ _ | refine blk_drew ?_ | refine blk_alloc ?_ _)); exact BK238.out) hb); have n2_ := Aside0.mk (blk_below (g := gb239) (o := .cells #[.int .i64 x240000_3, .int .i64 x240001_3, .string x240002_3] 24 (0, 0)) (by (with_reducible repeat (first | refine blk_drewN ?_ _ | refine blk_drew ?_ | refine blk_alloc ?_ _)); exact BK239.out) hb); have n3_ := Aside0.mk (below_step (by repeat (first | (with_reducible first | exact HB.out | apply below_alloc | apply pw_below_drewN | apply below_drew1 | refine below_set ?_ GE237.out | refine below_set ?_ GE238.out | refine below_set ?_ GE239.out) | exact HB.out)) hb); clear BK237; clear BK238; clear BK239; clear HB; have BK237 := n0_; have BK238 := n1_; have BK239 := n2_; have HB := n3_; clear n0_ n1_ n2_ n3_; (try clear hb); (try clear hb2); (try clear hk); (try clear hi); have hcz77_0 : w76.cell? ⟨gb238, 0, none⟩ = some (.int .i64 0) := (blk_cell BK238.out 0).trans rfl; have hcz77_1 : w76.cell? ⟨gb238, 1, none⟩ = some (.int .i64 0) := (blk_cell BK238.out 1).trans rfl; have hcz77_2 : w76.cell? ⟨gb238, 2, none⟩ = some (.string (⟨#[]⟩ : ByteArray)) := (blk_cell BK238.out 2).trans rfl; have hfz77_0 := blk_frozen BK238.out 0; have hfz77_1 := blk_frozen BK238.out 1; have hfz77_2 := blk_frozen BK238.out 2))
                          refine bodyPost_ret (results_ct rfl _ _ gb238 24 #[.int .i64 t257, .int .i64 t258, .string t259] (0, 0) _ rfl (by (with_reducible repeat (first | refine blk_drewN ?_ _ | refine blk_drew ?_ | refine blk_alloc ?_ _)); refine blk_put (cs := #[.int .i64 t257, .int .i64 t258, .string (⟨#[]⟩ : ByteArray)]) ?_ 2 _ rfl; (with_reducible repeat (first | refine blk_drewN ?_ _ | refine blk_drew ?_ | refine blk_alloc ?_ _)); refine blk_put (cs := #[.int .i64 t257, .int .i64 0, .string (⟨#[]⟩ : ByteArray)]) ?_ 1 _ rfl; (with_reducible repeat (first | refine blk_drewN ?_ _ | refine blk_drew ?_ | refine blk_alloc ?_ _)); refine blk_put (cs := #[.int .i64 0, .int .i64 0, .string (⟨#[]⟩ : ByteArray)]) ?_ 0 _ rfl; (with_reducible repeat (first | refine blk_drewN ?_ _ | refine blk_drew ?_ | refine blk_alloc ?_ _)); exact BK238.out) Tryd.underlying24 rfl (by kernel_rfl)) rfl ?_
                          exact ⟨by first | rfl | (simp [errW_none, errW_some] <;> rfl) | (simp [*, errW_none, errW_some] <;> rfl), by repeat (first | (with_reducible first | exact HB.out | apply below_alloc | apply pw_below_drewN | apply below_drew1 | refine below_set ?_ GE237.out | refine below_set ?_ GE238.out | refine below_set ?_ GE239.out) | exact HB.out)⟩
                        · rw [if_neg c69] at H
                          have c69b0 : (a0 == 13) = false := beq_eq_false_iff_ne.mpr c69
                          have c69b1 : (a0 != 13) = true := bne_iff_ne.mpr c69
                          by_cases c78 : a0 = 14
                          · rw [if_pos c78] at H
                            have c78b0 : (a0 == 14) = true := beq_iff_eq.mpr c78
                            have c78b1 : (a0 != 14) = false := bne_eq_false_iff_eq.mpr c78
                            clear c78
                            by_cases c79 : a1_1 = 0
                            · rw [if_pos c79] at H
                              have c79b0 : (a1_1 == 0) = true := beq_iff_eq.mpr c79
                              have c79b1 : (a1_1 != 0) = false := bne_eq_false_iff_eq.mpr c79
                              clear c79
                              replace H := Option.bind_eq_some_iff.mp H
                              obtain ⟨⟨t260, t261, t262⟩, A800, H⟩ := H
                              replace H : (some (t260, t261, t262, 0)) = some (r1, r2, r3, r4) := H
                              have A80 := Aside0.mk A800
                              clear A800
                              simp only [Option.some.injEq, Prod.mk.injEq] at H
                              obtain ⟨rfl, rfl, rfl, rfl⟩ := H
                              have hnb81 := NB237_238.out
                              have hnc81 := NB238_237.out
                              have hnb82 := NB237_239.out
                              have hnc82 := NB239_237.out
                              have hcz83_0 : wc.cell? ⟨gb237, 0, none⟩ = some (.int .i64 a1_0) := (blk_cell BK237.out 0).trans rfl
                              have hcz83_1 : wc.cell? ⟨gb237, 1, none⟩ = some (.int .i64 a1_1) := (blk_cell BK237.out 1).trans rfl
                              have hcz83_2 : wc.cell? ⟨gb237, 2, none⟩ = some (.string a1_2) := (blk_cell BK237.out 2).trans rfl
                              have hfz83_0 := blk_frozen BK237.out 0
                              have hfz83_1 := blk_frozen BK237.out 1
                              have hfz83_2 := blk_frozen BK237.out 2
                              go_wp2_with (first | ((with_reducible refine gate_callee (f := 24) rfl ?_); refine goesL_ (some 97) rfl rfl Tryd.func24 (by kernel_rfl) rfl #[.bool false] rfl (by (try simp only [List.map_toArray, List.map_cons, List.map_nil]); first | done | rfl | (simp only [List.length_drop, List.length_take]; rfl)) ?_; (with_reducible refine (val_Truth.calls false t260 t261 t262 _ A80.out).mono ?_); rintro e w84 ⟨rfl, hb⟩; refine ⟨_, rfl, ?_⟩; have n0_ := Aside0.mk (blk_below (g := gb237) (o := .cells #[.int .i64 a1_0, .int .i64 a1_1, .string a1_2] 24 (0, 0)) (by (with_reducible repeat (first | refine blk_drewN ?_ _ | refine blk_drew ?_ | refine blk_alloc ?_ _)); exact BK237.out) hb); have n1_ := Aside0.mk (blk_below (g := gb238) (o := .cells #[.int .i64 0, .int .i64 0, .string (⟨#[]⟩ : ByteArray)] 24 (0, 0)) (by (with_reducible repeat (first | refine blk_drewN ?_ _ | refine blk_drew ?_ | refine blk_alloc ?_ _)); exact BK238.out) hb); have n2_ := Aside0.mk (blk_below (g := gb239) (o := .cells #[.int .i64 x240000_3, .int .i64 x240001_3, .string x240002_3] 24 (0, 0)) (by (with_reducible repeat (first | refine blk_drewN ?_ _ | refine blk_drew ?_ | refine blk_alloc ?_ _)); exact BK239.out) hb); have n3_ := Aside0.mk (below_step (by repeat (first | (with_reducible first | exact HB.out | apply below_alloc | apply pw_below_drewN | apply below_drew1 | refine below_set ?_ GE237.out | refine below_set ?_ GE238.out | refine below_set ?_ GE239.out) | exact HB.out)) hb); clear BK237; clear BK238; clear BK239; clear HB; have BK237 := n0_; have BK238 := n1_; have BK239 := n2_; have HB := n3_; clear n0_ n1_ n2_ n3_; (try clear hb); (try clear hb2); (try clear hk); (try clear hi); have hnb85 := NB238_239.out; have hnc85 := NB239_238.out; have hcz86_0 : w84.cell? ⟨gb238, 0, none⟩ = some (.int .i64 0) := (blk_cell BK238.out 0).trans rfl; have hcz86_1 : w84.cell? ⟨gb238, 1, none⟩ = some (.int .i64 0) := (blk_cell BK238.out 1).trans rfl; have hcz86_2 : w84.cell? ⟨gb238, 2, none⟩ = some (.string (⟨#[]⟩ : ByteArray)) := (blk_cell BK238.out 2).trans rfl; have hfz86_0 := blk_frozen BK238.out 0; have hfz86_1 := blk_frozen BK238.out 1; have hfz86_2 := blk_frozen BK238.out 2))
                              refine bodyPost_ret (results_ct rfl _ _ gb238 24 #[.int .i64 t260, .int .i64 t261, .string t262] (0, 0) _ rfl (by (with_reducible repeat (first | refine blk_drewN ?_ _ | refine blk_drew ?_ | refine blk_alloc ?_ _)); refine blk_put (cs := #[.int .i64 t260, .int .i64 t261, .string (⟨#[]⟩ : ByteArray)]) ?_ 2 _ rfl; (with_reducible repeat (first | refine blk_drewN ?_ _ | refine blk_drew ?_ | refine blk_alloc ?_ _)); refine blk_put (cs := #[.int .i64 t260, .int .i64 0, .string (⟨#[]⟩ : ByteArray)]) ?_ 1 _ rfl; (with_reducible repeat (first | refine blk_drewN ?_ _ | refine blk_drew ?_ | refine blk_alloc ?_ _)); refine blk_put (cs := #[.int .i64 0, .int .i64 0, .string (⟨#[]⟩ : ByteArray)]) ?_ 0 _ rfl; (with_reducible repeat (first | refine blk_drewN ?_ _ | refine blk_drew ?_ | refine blk_alloc ?_ _)); exact BK238.out) Tryd.underlying24 rfl (by kernel_rfl)) rfl ?_
                              exact ⟨by first | rfl | (simp [errW_none, errW_some] <;> rfl) | (simp [*, errW_none, errW_some] <;> rfl), by repeat (first | (with_reducible first | exact HB.out | apply below_alloc | apply pw_below_drewN | apply below_drew1 | refine below_set ?_ GE237.out | refine below_set ?_ GE238.out | refine below_set ?_ GE239.out) | exact HB.out)⟩
                            · rw [if_neg c79] at H
                              have c79b0 : (a1_1 == 0) = false := beq_eq_false_iff_ne.mpr c79
                              have c79b1 : (a1_1 != 0) = true := bne_iff_ne.mpr c79
                              replace H := Option.bind_eq_some_iff.mp H
                              obtain ⟨⟨t263, t264, t265⟩, A870, H⟩ := H
                              replace H : (some (t263, t264, t265, 0)) = some (r1, r2, r3, r4) := H
                              have A87 := Aside0.mk A870
                              clear A870
                              simp only [Option.some.injEq, Prod.mk.injEq] at H
                              obtain ⟨rfl, rfl, rfl, rfl⟩ := H
                              have hnb88 := NB237_238.out
                              have hnc88 := NB238_237.out
                              have hnb89 := NB237_239.out
                              have hnc89 := NB239_237.out
                              have hcz90_0 : wc.cell? ⟨gb237, 0, none⟩ = some (.int .i64 a1_0) := (blk_cell BK237.out 0).trans rfl
                              have hcz90_1 : wc.cell? ⟨gb237, 1, none⟩ = some (.int .i64 a1_1) := (blk_cell BK237.out 1).trans rfl
                              have hcz90_2 : wc.cell? ⟨gb237, 2, none⟩ = some (.string a1_2) := (blk_cell BK237.out 2).trans rfl
                              have hfz90_0 := blk_frozen BK237.out 0
                              have hfz90_1 := blk_frozen BK237.out 1
                              have hfz90_2 := blk_frozen BK237.out 2
                              have hnb91 := NB239_238.out
                              have hnc91 := NB238_239.out
                              have hcz92_0 : wc.cell? ⟨gb239, 0, none⟩ = some (.int .i64 x240000_3) := (blk_cell BK239.out 0).trans rfl
                              have hcz92_1 : wc.cell? ⟨gb239, 1, none⟩ = some (.int .i64 x240001_3) := (blk_cell BK239.out 1).trans rfl
                              have hcz92_2 : wc.cell? ⟨gb239, 2, none⟩ = some (.string x240002_3) := (blk_cell BK239.out 2).trans rfl
                              have hfz92_0 := blk_frozen BK239.out 0
                              have hfz92_1 := blk_frozen BK239.out 1
                              have hfz92_2 := blk_frozen BK239.out 2
                              go_wp2_with (first | ((with_reducible refine gate_callee (f := 24) rfl ?_); refine goesL_ (some 97) rfl rfl Tryd.func24 (by kernel_rfl) rfl #[.bool (x240001_3 != 0)] rfl (by (try simp only [List.map_toArray, List.map_cons, List.map_nil]); first | done | rfl | (simp only [List.length_drop, List.length_take]; rfl)) ?_; (with_reducible refine (val_Truth.calls (x240001_3 != 0) t263 t264 t265 _ A87.out).mono ?_); rintro e w93 ⟨rfl, hb⟩; refine ⟨_, rfl, ?_⟩; have n0_ := Aside0.mk (blk_below (g := gb237) (o := .cells #[.int .i64 a1_0, .int .i64 a1_1, .string a1_2] 24 (0, 0)) (by (with_reducible repeat (first | refine blk_drewN ?_ _ | refine blk_drew ?_ | refine blk_alloc ?_ _)); exact BK237.out) hb); have n1_ := Aside0.mk (blk_below (g := gb238) (o := .cells #[.int .i64 0, .int .i64 0, .string (⟨#[]⟩ : ByteArray)] 24 (0, 0)) (by (with_reducible repeat (first | refine blk_drewN ?_ _ | refine blk_drew ?_ | refine blk_alloc ?_ _)); exact BK238.out) hb); have n2_ := Aside0.mk (blk_below (g := gb239) (o := .cells #[.int .i64 x240000_3, .int .i64 x240001_3, .string x240002_3] 24 (0, 0)) (by (with_reducible repeat (first | refine blk_drewN ?_ _ | refine blk_drew ?_ | refine blk_alloc ?_ _)); exact BK239.out) hb); have n3_ := Aside0.mk (below_step (by repeat (first | (with_reducible first | exact HB.out | apply below_alloc | apply pw_below_drewN | apply below_drew1 | refine below_set ?_ GE237.out | refine below_set ?_ GE238.out | refine below_set ?_ GE239.out) | exact HB.out)) hb); clear BK237; clear BK238; clear BK239; clear HB; have BK237 := n0_; have BK238 := n1_; have BK239 := n2_; have HB := n3_; clear n0_ n1_ n2_ n3_; (try clear hb); (try clear hb2); (try clear hk); (try clear hi); have hcz94_0 : w93.cell? ⟨gb238, 0, none⟩ = some (.int .i64 0) := (blk_cell BK238.out 0).trans rfl; have hcz94_1 : w93.cell? ⟨gb238, 1, none⟩ = some (.int .i64 0) := (blk_cell BK238.out 1).trans rfl; have hcz94_2 : w93.cell? ⟨gb238, 2, none⟩ = some (.string (⟨#[]⟩ : ByteArray)) := (blk_cell BK238.out 2).trans rfl; have hfz94_0 := blk_frozen BK238.out 0; have hfz94_1 := blk_frozen BK238.out 1; have hfz94_2 := blk_frozen BK238.out 2))
                              refine bodyPost_ret (results_ct rfl _ _ gb238 24 #[.int .i64 t263, .int .i64 t264, .string t265] (0, 0) _ rfl (by (with_reducible repeat (first | refine blk_drewN ?_ _ | refine blk_drew ?_ | refine blk_alloc ?_ _)); refine blk_put (cs := #[.int .i64 t263, .int .i64 t264, .string (⟨#[]⟩ : ByteArray)]) ?_ 2 _ rfl; (with_reducible repeat (first | refine blk_drewN ?_ _ | refine blk_drew ?_ | refine blk_alloc ?_ _)); refine blk_put (cs := #[.int .i64 t263, .int .i64 0, .string (⟨#[]⟩ : ByteArray)]) ?_ 1 _ rfl; (with_reducible repeat (first | refine blk_drewN ?_ _ | refine blk_drew ?_ | refine blk_alloc ?_ _)); refine blk_put (cs := #[.int .i64 0, .int .i64 0, .string (⟨#[]⟩ : ByteArray)]) ?_ 0 _ rfl; (with_reducible repeat (first | refine blk_drewN ?_ _ | refine blk_drew ?_ | refine blk_alloc ?_ _)); exact BK238.out) Tryd.underlying24 rfl (by kernel_rfl)) rfl ?_
                              exact ⟨by first | rfl | (simp [errW_none, errW_some] <;> rfl) | (simp [*, errW_none, errW_some] <;> rfl), by repeat (first | (with_reducible first | exact HB.out | apply below_alloc | apply pw_below_drewN | apply below_drew1 | refine below_set ?_ GE237.out | refine below_set ?_ GE238.out | refine below_set ?_ GE239.out) | exact HB.out)⟩
                          · rw [if_neg c78] at H
                            have c78b0 : (a0 == 14) = false := beq_eq_false_iff_ne.mpr c78
                            have c78b1 : (a0 != 14) = true := bne_iff_ne.mpr c78
                            by_cases c95 : a0 = 15
                            · rw [if_pos c95] at H
                              have c95b0 : (a0 == 15) = true := beq_iff_eq.mpr c95
                              have c95b1 : (a0 != 15) = false := bne_eq_false_iff_eq.mpr c95
                              clear c95
                              by_cases c96 : a1_1 = 0
                              · rw [if_pos c96] at H
                                have c96b0 : (a1_1 == 0) = true := beq_iff_eq.mpr c96
                                have c96b1 : (a1_1 != 0) = false := bne_eq_false_iff_eq.mpr c96
                                clear c96
                                replace H := Option.bind_eq_some_iff.mp H
                                obtain ⟨⟨t266, t267, t268⟩, A970, H⟩ := H
                                replace H : (some (t266, t267, t268, 0)) = some (r1, r2, r3, r4) := H
                                have A97 := Aside0.mk A970
                                clear A970
                                simp only [Option.some.injEq, Prod.mk.injEq] at H
                                obtain ⟨rfl, rfl, rfl, rfl⟩ := H
                                have hnb98 := NB237_238.out
                                have hnc98 := NB238_237.out
                                have hnb99 := NB237_239.out
                                have hnc99 := NB239_237.out
                                have hcz100_0 : wc.cell? ⟨gb237, 0, none⟩ = some (.int .i64 a1_0) := (blk_cell BK237.out 0).trans rfl
                                have hcz100_1 : wc.cell? ⟨gb237, 1, none⟩ = some (.int .i64 a1_1) := (blk_cell BK237.out 1).trans rfl
                                have hcz100_2 : wc.cell? ⟨gb237, 2, none⟩ = some (.string a1_2) := (blk_cell BK237.out 2).trans rfl
                                have hfz100_0 := blk_frozen BK237.out 0
                                have hfz100_1 := blk_frozen BK237.out 1
                                have hfz100_2 := blk_frozen BK237.out 2
                                have hnb101 := NB239_238.out
                                have hnc101 := NB238_239.out
                                have hcz102_0 : wc.cell? ⟨gb239, 0, none⟩ = some (.int .i64 x240000_3) := (blk_cell BK239.out 0).trans rfl
                                have hcz102_1 : wc.cell? ⟨gb239, 1, none⟩ = some (.int .i64 x240001_3) := (blk_cell BK239.out 1).trans rfl
                                have hcz102_2 : wc.cell? ⟨gb239, 2, none⟩ = some (.string x240002_3) := (blk_cell BK239.out 2).trans rfl
                                have hfz102_0 := blk_frozen BK239.out 0
                                have hfz102_1 := blk_frozen BK239.out 1
                                have hfz102_2 := blk_frozen BK239.out 2
                                go_wp2_with (first | ((with_reducible refine gate_callee (f := 24) rfl ?_); refine goesL_ (some 108) rfl rfl Tryd.func24 (by kernel_rfl) rfl #[.bool (x240001_3 != 0)] rfl (by (try simp only [List.map_toArray, List.map_cons, List.map_nil]); first | done | rfl | (simp only [List.length_drop, List.length_take]; rfl)) ?_; (with_reducible refine (val_Truth.calls (x240001_3 != 0) t266 t267 t268 _ A97.out).mono ?_); rintro e w103 ⟨rfl, hb⟩; refine ⟨_, rfl, ?_⟩; have n0_ := Aside0.mk (blk_below (g := gb237) (o := .cells #[.int .i64 a1_0, .int .i64 a1_1, .string a1_2] 24 (0, 0)) (by (with_reducible repeat (first | refine blk_drewN ?_ _ | refine blk_drew ?_ | refine blk_alloc ?_ _)); exact BK237.out) hb); have n1_ := Aside0.mk (blk_below (g := gb238) (o := .cells #[.int .i64 0, .int .i64 0, .string (⟨#[]⟩ : ByteArray)] 24 (0, 0)) (by (with_reducible repeat (first | refine blk_drewN ?_ _ | refine blk_drew ?_ | refine blk_alloc ?_ _)); exact BK238.out) hb); have n2_ := Aside0.mk (blk_below (g := gb239) (o := .cells #[.int .i64 x240000_3, .int .i64 x240001_3, .string x240002_3] 24 (0, 0)) (by (with_reducible repeat (first | refine blk_drewN ?_ _ | refine blk_drew ?_ | refine blk_alloc ?_ _)); exact BK239.out) hb); have n3_ := Aside0.mk (below_step (by repeat (first | (with_reducible first | exact HB.out | apply below_alloc | apply pw_below_drewN | apply below_drew1 | refine below_set ?_ GE237.out | refine below_set ?_ GE238.out | refine below_set ?_ GE239.out) | exact HB.out)) hb); clear BK237; clear BK238; clear BK239; clear HB; have BK237 := n0_; have BK238 := n1_; have BK239 := n2_; have HB := n3_; clear n0_ n1_ n2_ n3_; (try clear hb); (try clear hb2); (try clear hk); (try clear hi); have hcz104_0 : w103.cell? ⟨gb238, 0, none⟩ = some (.int .i64 0) := (blk_cell BK238.out 0).trans rfl; have hcz104_1 : w103.cell? ⟨gb238, 1, none⟩ = some (.int .i64 0) := (blk_cell BK238.out 1).trans rfl; have hcz104_2 : w103.cell? ⟨gb238, 2, none⟩ = some (.string (⟨#[]⟩ : ByteArray)) := (blk_cell BK238.out 2).trans rfl; have hfz104_0 := blk_frozen BK238.out 0; have hfz104_1 := blk_frozen BK238.out 1; have hfz104_2 := blk_frozen BK238.out 2))
                                refine bodyPost_ret (results_ct rfl _ _ gb238 24 #[.int .i64 t266, .int .i64 t267, .string t268] (0, 0) _ rfl (by (with_reducible repeat (first | refine blk_drewN ?_ _ | refine blk_drew ?_ | refine blk_alloc ?_ _)); refine blk_put (cs := #[.int .i64 t266, .int .i64 t267, .string (⟨#[]⟩ : ByteArray)]) ?_ 2 _ rfl; (with_reducible repeat (first | refine blk_drewN ?_ _ | refine blk_drew ?_ | refine blk_alloc ?_ _)); refine blk_put (cs := #[.int .i64 t266, .int .i64 0, .string (⟨#[]⟩ : ByteArray)]) ?_ 1 _ rfl; (with_reducible repeat (first | refine blk_drewN ?_ _ | refine blk_drew ?_ | refine blk_alloc ?_ _)); refine blk_put (cs := #[.int .i64 0, .int .i64 0, .string (⟨#[]⟩ : ByteArray)]) ?_ 0 _ rfl; (with_reducible repeat (first | refine blk_drewN ?_ _ | refine blk_drew ?_ | refine blk_alloc ?_ _)); exact BK238.out) Tryd.underlying24 rfl (by kernel_rfl)) rfl ?_
                                exact ⟨by first | rfl | (simp [errW_none, errW_some] <;> rfl) | (simp [*, errW_none, errW_some] <;> rfl), by repeat (first | (with_reducible first | exact HB.out | apply below_alloc | apply pw_below_drewN | apply below_drew1 | refine below_set ?_ GE237.out | refine below_set ?_ GE238.out | refine below_set ?_ GE239.out) | exact HB.out)⟩
                              · rw [if_neg c96] at H
                                have c96b0 : (a1_1 == 0) = false := beq_eq_false_iff_ne.mpr c96
                                have c96b1 : (a1_1 != 0) = true := bne_iff_ne.mpr c96
                                replace H := Option.bind_eq_some_iff.mp H
                                obtain ⟨⟨t269, t270, t271⟩, A1050, H⟩ := H
                                replace H : (some (t269, t270, t271, 0)) = some (r1, r2, r3, r4) := H
                                have A105 := Aside0.mk A1050
                                clear A1050
                                simp only [Option.some.injEq, Prod.mk.injEq] at H
                                obtain ⟨rfl, rfl, rfl, rfl⟩ := H
                                have hnb106 := NB237_238.out
                                have hnc106 := NB238_237.out
                                have hnb107 := NB237_239.out
                                have hnc107 := NB239_237.out
                                have hcz108_0 : wc.cell? ⟨gb237, 0, none⟩ = some (.int .i64 a1_0) := (blk_cell BK237.out 0).trans rfl
                                have hcz108_1 : wc.cell? ⟨gb237, 1, none⟩ = some (.int .i64 a1_1) := (blk_cell BK237.out 1).trans rfl
                                have hcz108_2 : wc.cell? ⟨gb237, 2, none⟩ = some (.string a1_2) := (blk_cell BK237.out 2).trans rfl
                                have hfz108_0 := blk_frozen BK237.out 0
                                have hfz108_1 := blk_frozen BK237.out 1
                                have hfz108_2 := blk_frozen BK237.out 2
                                go_wp2_with (first | ((with_reducible refine gate_callee (f := 24) rfl ?_); refine goesL_ (some 108) rfl rfl Tryd.func24 (by kernel_rfl) rfl #[.bool true] rfl (by (try simp only [List.map_toArray, List.map_cons, List.map_nil]); first | done | rfl | (simp only [List.length_drop, List.length_take]; rfl)) ?_; (with_reducible refine (val_Truth.calls true t269 t270 t271 _ A105.out).mono ?_); rintro e w109 ⟨rfl, hb⟩; refine ⟨_, rfl, ?_⟩; have n0_ := Aside0.mk (blk_below (g := gb237) (o := .cells #[.int .i64 a1_0, .int .i64 a1_1, .string a1_2] 24 (0, 0)) (by (with_reducible repeat (first | refine blk_drewN ?_ _ | refine blk_drew ?_ | refine blk_alloc ?_ _)); exact BK237.out) hb); have n1_ := Aside0.mk (blk_below (g := gb238) (o := .cells #[.int .i64 0, .int .i64 0, .string (⟨#[]⟩ : ByteArray)] 24 (0, 0)) (by (with_reducible repeat (first | refine blk_drewN ?_ _ | refine blk_drew ?_ | refine blk_alloc ?_ _)); exact BK238.out) hb); have n2_ := Aside0.mk (blk_below (g := gb239) (o := .cells #[.int .i64 x240000_3, .int .i64 x240001_3, .string x240002_3] 24 (0, 0)) (by (with_reducible repeat (first | refine blk_drewN ?_ _ | refine blk_drew ?_ | refine blk_alloc ?_ _)); exact BK239.out) hb); have n3_ := Aside0.mk (below_step (by repeat (first | (with_reducible first | exact HB.out | apply below_alloc | apply pw_below_drewN | apply below_drew1 | refine below_set ?_ GE237.out | refine below_set ?_ GE238.out | refine below_set ?_ GE239.out) | exact HB.out)) hb); clear BK237; clear BK238; clear BK239; clear HB; have BK237 := n0_; have BK238 := n1_; have BK239 := n2_; have HB := n3_; clear n0_ n1_ n2_ n3_; (try clear hb); (try clear hb2); (try clear hk); (try clear hi); have hnb110 := NB238_239.out; have hnc110 := NB239_238.out; have hcz111_0 : w109.cell? ⟨gb238, 0, none⟩ = some (.int .i64 0) := (blk_cell BK238.out 0).trans rfl; have hcz111_1 : w109.cell? ⟨gb238, 1, none⟩ = some (.int .i64 0) := (blk_cell BK238.out 1).trans rfl; have hcz111_2 : w109.cell? ⟨gb238, 2, none⟩ = some (.string (⟨#[]⟩ : ByteArray)) := (blk_cell BK238.out 2).trans rfl; have hfz111_0 := blk_frozen BK238.out 0; have hfz111_1 := blk_frozen BK238.out 1; have hfz111_2 := blk_frozen BK238.out 2))
                                refine bodyPost_ret (results_ct rfl _ _ gb238 24 #[.int .i64 t269, .int .i64 t270, .string t271] (0, 0) _ rfl (by (with_reducible repeat (first | refine blk_drewN ?_ _ | refine blk_drew ?_ | refine blk_alloc ?_ _)); refine blk_put (cs := #[.int .i64 t269, .int .i64 t270, .string (⟨#[]⟩ : ByteArray)]) ?_ 2 _ rfl; (with_reducible repeat (first | refine blk_drewN ?_ _ | refine blk_drew ?_ | refine blk_alloc ?_ _)); refine blk_put (cs := #[.int .i64 t269, .int .i64 0, .string (⟨#[]⟩ : ByteArray)]) ?_ 1 _ rfl; (with_reducible repeat (first | refine blk_drewN ?_ _ | refine blk_drew ?_ | refine blk_alloc ?_ _)); refine blk_put (cs := #[.int .i64 0, .int .i64 0, .string (⟨#[]⟩ : ByteArray)]) ?_ 0 _ rfl; (with_reducible repeat (first | refine blk_drewN ?_ _ | refine blk_drew ?_ | refine blk_alloc ?_ _)); exact BK238.out) Tryd.underlying24 rfl (by kernel_rfl)) rfl ?_
                                exact ⟨by first | rfl | (simp [errW_none, errW_some] <;> rfl) | (simp [*, errW_none, errW_some] <;> rfl), by repeat (first | (with_reducible first | exact HB.out | apply below_alloc | apply pw_below_drewN | apply below_drew1 | refine below_set ?_ GE237.out | refine below_set ?_ GE238.out | refine below_set ?_ GE239.out) | exact HB.out)⟩
                            · rw [if_neg c95] at H
                              have c95b0 : (a0 == 15) = false := beq_eq_false_iff_ne.mpr c95
                              have c95b1 : (a0 != 15) = true := bne_iff_ne.mpr c95
                              by_cases c112 : a0 = 6
                              · rw [if_pos c112] at H
                                have c112b0 : (a0 == 6) = true := beq_iff_eq.mpr c112
                                have c112b1 : (a0 != 6) = false := bne_eq_false_iff_eq.mpr c112
                                clear c112
                                by_cases c113 : a1_0 = 3
                                · rw [if_pos c113] at H
                                  have c113b0 : (a1_0 == 3) = true := beq_iff_eq.mpr c113
                                  have c113b1 : (a1_0 != 3) = false := bne_eq_false_iff_eq.mpr c113
                                  clear c113
                                  replace H := Option.bind_eq_some_iff.mp H
                                  obtain ⟨⟨t272, t273, t274, t275⟩, A1140, H⟩ := H
                                  replace H : (some (t272, t273, t274, t275)) = some (r1, r2, r3, r4) := H
                                  have A114 := Aside0.mk A1140
                                  clear A1140
                                  simp only [Option.some.injEq, Prod.mk.injEq] at H
                                  obtain ⟨rfl, rfl, rfl, rfl⟩ := H
                                  have hnb115 := NB237_238.out
                                  have hnc115 := NB238_237.out
                                  have hnb116 := NB237_239.out
                                  have hnc116 := NB239_237.out
                                  have hcz117_0 : wc.cell? ⟨gb237, 0, none⟩ = some (.int .i64 a1_0) := (blk_cell BK237.out 0).trans rfl
                                  have hcz117_1 : wc.cell? ⟨gb237, 1, none⟩ = some (.int .i64 a1_1) := (blk_cell BK237.out 1).trans rfl
                                  have hcz117_2 : wc.cell? ⟨gb237, 2, none⟩ = some (.string a1_2) := (blk_cell BK237.out 2).trans rfl
                                  have hfz117_0 := blk_frozen BK237.out 0
                                  have hfz117_1 := blk_frozen BK237.out 1
                                  have hfz117_2 := blk_frozen BK237.out 2
                                  have hnb118 := NB239_238.out
                                  have hnc118 := NB238_239.out
                                  have hcz119_0 : wc.cell? ⟨gb239, 0, none⟩ = some (.int .i64 x240000_3) := (blk_cell BK239.out 0).trans rfl
                                  have hcz119_1 : wc.cell? ⟨gb239, 1, none⟩ = some (.int .i64 x240001_3) := (blk_cell BK239.out 1).trans rfl
                                  have hcz119_2 : wc.cell? ⟨gb239, 2, none⟩ = some (.string x240002_3) := (blk_cell BK239.out 2).trans rfl
                                  have hfz119_0 := blk_frozen BK239.out 0
                                  have hfz119_1 := blk_frozen BK239.out 1
                                  have hfz119_2 := blk_frozen BK239.out 2
                                  go_wp2_with (first | ((with_reducible refine gate_callee (f := 35) rfl ?_); refine goesL_ (some 118) rfl rfl Tryd.func35 (by kernel_rfl) rfl #[.string a1_2, .string x240002_3] rfl (by (try simp only [List.map_toArray, List.map_cons, List.map_nil]); first | done | rfl | (simp only [List.length_drop, List.length_take]; rfl)) ?_; (with_reducible refine (val_join.calls a1_2 x240002_3 t272 t273 t274 t275 _ A114.out).mono ?_); rintro e w120 ⟨rfl, hb⟩; refine ⟨_, rfl, ?_⟩; have n0_ := Aside0.mk (blk_below (g := gb237) (o := .cells #[.int .i64 a1_0, .int .i64 a1_1, .string a1_2] 24 (0, 0)) (by (with_reducible repeat (first | refine blk_drewN ?_ _ | refine blk_drew ?_ | refine blk_alloc ?_ _)); exact BK237.out) hb); have n1_ := Aside0.mk (blk_below (g := gb238) (o := .cells #[.int .i64 0, .int .i64 0, .string (⟨#[]⟩ : ByteArray)] 24 (0, 0)) (by (with_reducible repeat (first | refine blk_drewN ?_ _ | refine blk_drew ?_ | refine blk_alloc ?_ _)); exact BK238.out) hb); have n2_ := Aside0.mk (blk_below (g := gb239) (o := .cells #[.int .i64 x240000_3, .int .i64 x240001_3, .string x240002_3] 24 (0, 0)) (by (with_reducible repeat (first | refine blk_drewN ?_ _ | refine blk_drew ?_ | refine blk_alloc ?_ _)); exact BK239.out) hb); have n3_ := Aside0.mk (below_step (by repeat (first | (with_reducible first | exact HB.out | apply below_alloc | apply pw_below_drewN | apply below_drew1 | refine below_set ?_ GE237.out | refine below_set ?_ GE238.out | refine below_set ?_ GE239.out) | exact HB.out)) hb); clear BK237; clear BK238; clear BK239; clear HB; have BK237 := n0_; have BK238 := n1_; have BK239 := n2_; have HB := n3_; clear n0_ n1_ n2_ n3_; (try clear hb); (try clear hb2); (try clear hk); (try clear hi); have hcz121_0 : w120.cell? ⟨gb238, 0, none⟩ = some (.int .i64 0) := (blk_cell BK238.out 0).trans rfl; have hcz121_1 : w120.cell? ⟨gb238, 1, none⟩ = some (.int .i64 0) := (blk_cell BK238.out 1).trans rfl; have hcz121_2 : w120.cell? ⟨gb238, 2, none⟩ = some (.string (⟨#[]⟩ : ByteArray)) := (blk_cell BK238.out 2).trans rfl; have hfz121_0 := blk_frozen BK238.out 0; have hfz121_1 := blk_frozen BK238.out 1; have hfz121_2 := blk_frozen BK238.out 2))
                                  refine bodyPost_ret (results_ct rfl _ _ gb238 24 #[.int .i64 t272, .int .i64 t273, .string t274] (0, 0) _ rfl (by (with_reducible repeat (first | refine blk_drewN ?_ _ | refine blk_drew ?_ | refine blk_alloc ?_ _)); refine blk_put (cs := #[.int .i64 t272, .int .i64 t273, .string (⟨#[]⟩ : ByteArray)]) ?_ 2 _ rfl; (with_reducible repeat (first | refine blk_drewN ?_ _ | refine blk_drew ?_ | refine blk_alloc ?_ _)); refine blk_put (cs := #[.int .i64 t272, .int .i64 0, .string (⟨#[]⟩ : ByteArray)]) ?_ 1 _ rfl; (with_reducible repeat (first | refine blk_drewN ?_ _ | refine blk_drew ?_ | refine blk_alloc ?_ _)); refine blk_put (cs := #[.int .i64 0, .int .i64 0, .string (⟨#[]⟩ : ByteArray)]) ?_ 0 _ rfl; (with_reducible repeat (first | refine blk_drewN ?_ _ | refine blk_drew ?_ | refine blk_alloc ?_ _)); exact BK238.out) Tryd.underlying24 rfl (by kernel_rfl)) rfl ?_
                                  exact ⟨by first | rfl | (simp [errW_none, errW_some] <;> rfl) | (simp [*, errW_none, errW_some] <;> rfl), by repeat (first | (with_reducible first | exact HB.out | apply below_alloc | apply pw_below_drewN | apply below_drew1 | refine below_set ?_ GE237.out | refine below_set ?_ GE238.out | refine below_set ?_ GE239.out) | exact HB.out)⟩
                                · rw [if_neg c113] at H
                                  have c113b0 : (a1_0 == 3) = false := beq_eq_false_iff_ne.mpr c113
                                  have c113b1 : (a1_0 != 3) = true := bne_iff_ne.mpr c113
                                  replace H := Option.bind_eq_some_iff.mp H
                                  obtain ⟨⟨t276, t277, t278, t279⟩, A1220, H⟩ := H
                                  replace H : (some (t276, t277, t278, t279)) = some (r1, r2, r3, r4) := H
                                  have A122 := Aside0.mk A1220
                                  clear A1220
                                  simp only [Option.some.injEq, Prod.mk.injEq] at H
                                  obtain ⟨rfl, rfl, rfl, rfl⟩ := H
                                  have hnb123 := NB237_238.out
                                  have hnc123 := NB238_237.out
                                  have hnb124 := NB237_239.out
                                  have hnc124 := NB239_237.out
                                  have hcz125_0 : wc.cell? ⟨gb237, 0, none⟩ = some (.int .i64 a1_0) := (blk_cell BK237.out 0).trans rfl
                                  have hcz125_1 : wc.cell? ⟨gb237, 1, none⟩ = some (.int .i64 a1_1) := (blk_cell BK237.out 1).trans rfl
                                  have hcz125_2 : wc.cell? ⟨gb237, 2, none⟩ = some (.string a1_2) := (blk_cell BK237.out 2).trans rfl
                                  have hfz125_0 := blk_frozen BK237.out 0
                                  have hfz125_1 := blk_frozen BK237.out 1
                                  have hfz125_2 := blk_frozen BK237.out 2
                                  have hnb126 := NB239_238.out
                                  have hnc126 := NB238_239.out
                                  have hcz127_0 : wc.cell? ⟨gb239, 0, none⟩ = some (.int .i64 x240000_3) := (blk_cell BK239.out 0).trans rfl
                                  have hcz127_1 : wc.cell? ⟨gb239, 1, none⟩ = some (.int .i64 x240001_3) := (blk_cell BK239.out 1).trans rfl
                                  have hcz127_2 : wc.cell? ⟨gb239, 2, none⟩ = some (.string x240002_3) := (blk_cell BK239.out 2).trans rfl
                                  have hfz127_0 := blk_frozen BK239.out 0
                                  have hfz127_1 := blk_frozen BK239.out 1
                                  have hfz127_2 := blk_frozen BK239.out 2
                                  go_wp2_with (first | ((with_reducible refine gate_callee (f := 36) rfl ?_); refine goesL_ (some 126) rfl rfl Tryd.func36 (by kernel_rfl) rfl #[.int .i64 a0, .int .i64 a1_1, .int .i64 x240001_3] rfl (by (try simp only [List.map_toArray, List.map_cons, List.map_nil]); first | done | rfl | (simp only [List.length_drop, List.length_take]; rfl)) ?_; (with_reducible refine (val_number.calls kj44 a0 a1_1 x240001_3 t276 t277 t278 t279 _ A122.out).mono ?_); rintro e w128 ⟨rfl, hb⟩; refine ⟨_, rfl, ?_⟩; have n0_ := Aside0.mk (blk_below (g := gb237) (o := .cells #[.int .i64 a1_0, .int .i64 a1_1, .string a1_2] 24 (0, 0)) (by (with_reducible repeat (first | refine blk_drewN ?_ _ | refine blk_drew ?_ | refine blk_alloc ?_ _)); exact BK237.out) hb); have n1_ := Aside0.mk (blk_below (g := gb238) (o := .cells #[.int .i64 0, .int .i64 0, .string (⟨#[]⟩ : ByteArray)] 24 (0, 0)) (by (with_reducible repeat (first | refine blk_drewN ?_ _ | refine blk_drew ?_ | refine blk_alloc ?_ _)); exact BK238.out) hb); have n2_ := Aside0.mk (blk_below (g := gb239) (o := .cells #[.int .i64 x240000_3, .int .i64 x240001_3, .string x240002_3] 24 (0, 0)) (by (with_reducible repeat (first | refine blk_drewN ?_ _ | refine blk_drew ?_ | refine blk_alloc ?_ _)); exact BK239.out) hb); have n3_ := Aside0.mk (below_step (by repeat (first | (with_reducible first | exact HB.out | apply below_alloc | apply pw_below_drewN | apply below_drew1 | refine below_set ?_ GE237.out | refine below_set ?_ GE238.out | refine below_set ?_ GE239.out) | exact HB.out)) hb); clear BK237; clear BK238; clear BK239; clear HB; have BK237 := n0_; have BK238 := n1_; have BK239 := n2_; have HB := n3_; clear n0_ n1_ n2_ n3_; (try clear hb); (try clear hb2); (try clear hk); (try clear hi); have hcz129_0 : w128.cell? ⟨gb238, 0, none⟩ = some (.int .i64 0) := (blk_cell BK238.out 0).trans rfl; have hcz129_1 : w128.cell? ⟨gb238, 1, none⟩ = some (.int .i64 0) := (blk_cell BK238.out 1).trans rfl; have hcz129_2 : w128.cell? ⟨gb238, 2, none⟩ = some (.string (⟨#[]⟩ : ByteArray)) := (blk_cell BK238.out 2).trans rfl; have hfz129_0 := blk_frozen BK238.out 0; have hfz129_1 := blk_frozen BK238.out 1; have hfz129_2 := blk_frozen BK238.out 2))
                                  refine bodyPost_ret (results_ct rfl _ _ gb238 24 #[.int .i64 t276, .int .i64 t277, .string t278] (0, 0) _ rfl (by (with_reducible repeat (first | refine blk_drewN ?_ _ | refine blk_drew ?_ | refine blk_alloc ?_ _)); refine blk_put (cs := #[.int .i64 t276, .int .i64 t277, .string (⟨#[]⟩ : ByteArray)]) ?_ 2 _ rfl; (with_reducible repeat (first | refine blk_drewN ?_ _ | refine blk_drew ?_ | refine blk_alloc ?_ _)); refine blk_put (cs := #[.int .i64 t276, .int .i64 0, .string (⟨#[]⟩ : ByteArray)]) ?_ 1 _ rfl; (with_reducible repeat (first | refine blk_drewN ?_ _ | refine blk_drew ?_ | refine blk_alloc ?_ _)); refine blk_put (cs := #[.int .i64 0, .int .i64 0, .string (⟨#[]⟩ : ByteArray)]) ?_ 0 _ rfl; (with_reducible repeat (first | refine blk_drewN ?_ _ | refine blk_drew ?_ | refine blk_alloc ?_ _)); exact BK238.out) Tryd.underlying24 rfl (by kernel_rfl)) rfl ?_
                                  exact ⟨by first | rfl | (simp [errW_none, errW_some] <;> rfl) | (simp [*, errW_none, errW_some] <;> rfl), by repeat (first | (with_reducible first | exact HB.out | apply below_alloc | apply pw_below_drewN | apply below_drew1 | refine below_set ?_ GE237.out | refine below_set ?_ GE238.out | refine below_set ?_ GE239.out) | exact HB.out)⟩
                              · rw [if_neg c112] at H
                                have c112b0 : (a0 == 6) = false := beq_eq_false_iff_ne.mpr c112
                                have c112b1 : (a0 != 6) = true := bne_iff_ne.mpr c112
                                replace H := Option.bind_eq_some_iff.mp H
                                obtain ⟨⟨t280, t281, t282, t283⟩, A1300, H⟩ := H
                                replace H : (some (t280, t281, t282, t283)) = some (r1, r2, r3, r4) := H
                                have A130 := Aside0.mk A1300
                                clear A1300
                                simp only [Option.some.injEq, Prod.mk.injEq] at H
                                obtain ⟨rfl, rfl, rfl, rfl⟩ := H
                                have hnb131 := NB237_238.out
                                have hnc131 := NB238_237.out
                                have hnb132 := NB237_239.out
                                have hnc132 := NB239_237.out
                                have hcz133_0 : wc.cell? ⟨gb237, 0, none⟩ = some (.int .i64 a1_0) := (blk_cell BK237.out 0).trans rfl
                                have hcz133_1 : wc.cell? ⟨gb237, 1, none⟩ = some (.int .i64 a1_1) := (blk_cell BK237.out 1).trans rfl
                                have hcz133_2 : wc.cell? ⟨gb237, 2, none⟩ = some (.string a1_2) := (blk_cell BK237.out 2).trans rfl
                                have hfz133_0 := blk_frozen BK237.out 0
                                have hfz133_1 := blk_frozen BK237.out 1
                                have hfz133_2 := blk_frozen BK237.out 2
                                have hnb134 := NB239_238.out
                                have hnc134 := NB238_239.out
                                have hcz135_0 : wc.cell? ⟨gb239, 0, none⟩ = some (.int .i64 x240000_3) := (blk_cell BK239.out 0).trans rfl
                                have hcz135_1 : wc.cell? ⟨gb239, 1, none⟩ = some (.int .i64 x240001_3) := (blk_cell BK239.out 1).trans rfl
                                have hcz135_2 : wc.cell? ⟨gb239, 2, none⟩ = some (.string x240002_3) := (blk_cell BK239.out 2).trans rfl
                                have hfz135_0 := blk_frozen BK239.out 0
                                have hfz135_1 := blk_frozen BK239.out 1
                                have hfz135_2 := blk_frozen BK239.out 2
                                go_wp2_with (first | ((with_reducible refine gate_callee (f := 36) rfl ?_); refine goesL_ (some 126) rfl rfl Tryd.func36 (by kernel_rfl) rfl #[.int .i64 a0, .int .i64 a1_1, .int .i64 x240001_3] rfl (by (try simp only [List.map_toArray, List.map_cons, List.map_nil]); first | done | rfl | (simp only [List.length_drop, List.length_take]; rfl)) ?_; (with_reducible refine (val_number.calls kj44 a0 a1_1 x240001_3 t280 t281 t282 t283 _ A130.out).mono ?_); rintro e w136 ⟨rfl, hb⟩; refine ⟨_, rfl, ?_⟩; have n0_ := Aside0.mk (blk_below (g := gb237) (o := .cells #[.int .i64 a1_0, .int .i64 a1_1, .string a1_2] 24 (0, 0)) (by (with_reducible repeat (first | refine blk_drewN ?_ _ | refine blk_drew ?_ | refine blk_alloc ?_ _)); exact BK237.out) hb); have n1_ := Aside0.mk (blk_below (g := gb238) (o := .cells #[.int .i64 0, .int .i64 0, .string (⟨#[]⟩ : ByteArray)] 24 (0, 0)) (by (with_reducible repeat (first | refine blk_drewN ?_ _ | refine blk_drew ?_ | refine blk_alloc ?_ _)); exact BK238.out) hb); have n2_ := Aside0.mk (blk_below (g := gb239) (o := .cells #[.int .i64 x240000_3, .int .i64 x240001_3, .string x240002_3] 24 (0, 0)) (by (with_reducible repeat (first | refine blk_drewN ?_ _ | refine blk_drew ?_ | refine blk_alloc ?_ _)); exact BK239.out) hb); have n3_ := Aside0.mk (below_step (by repeat (first | (with_reducible first | exact HB.out | apply below_alloc | apply pw_below_drewN | apply below_drew1 | refine below_set ?_ GE237.out | refine below_set ?_ GE238.out | refine below_set ?_ GE239.out) | exact HB.out)) hb); clear BK237; clear BK238; clear BK239; clear HB; have BK237 := n0_; have BK238 := n1_; have BK239 := n2_; have HB := n3_; clear n0_ n1_ n2_ n3_; (try clear hb); (try clear hb2); (try clear hk); (try clear hi); have hcz137_0 : w136.cell? ⟨gb238, 0, none⟩ = some (.int .i64 0) := (blk_cell BK238.out 0).trans rfl; have hcz137_1 : w136.cell? ⟨gb238, 1, none⟩ = some (.int .i64 0) := (blk_cell BK238.out 1).trans rfl; have hcz137_2 : w136.cell? ⟨gb238, 2, none⟩ = some (.string (⟨#[]⟩ : ByteArray)) := (blk_cell BK238.out 2).trans rfl; have hfz137_0 := blk_frozen BK238.out 0; have hfz137_1 := blk_frozen BK238.out 1; have hfz137_2 := blk_frozen BK238.out 2))
                                refine bodyPost_ret (results_ct rfl _ _ gb238 24 #[.int .i64 t280, .int .i64 t281, .string t282] (0, 0) _ rfl (by (with_reducible repeat (first | refine blk_drewN ?_ _ | refine blk_drew ?_ | refine blk_alloc ?_ _)); refine blk_put (cs := #[.int .i64 t280, .int .i64 t281, .string (⟨#[]⟩ : ByteArray)]) ?_ 2 _ rfl; (with_reducible repeat (first | refine blk_drewN ?_ _ | refine blk_drew ?_ | refine blk_alloc ?_ _)); refine blk_put (cs := #[.int .i64 t280, .int .i64 0, .string (⟨#[]⟩ : ByteArray)]) ?_ 1 _ rfl; (with_reducible repeat (first | refine blk_drewN ?_ _ | refine blk_drew ?_ | refine blk_alloc ?_ _)); refine blk_put (cs := #[.int .i64 0, .int .i64 0, .string (⟨#[]⟩ : ByteArray)]) ?_ 0 _ rfl; (with_reducible repeat (first | refine blk_drewN ?_ _ | refine blk_drew ?_ | refine blk_alloc ?_ _)); exact BK238.out) Tryd.underlying24 rfl (by kernel_rfl)) rfl ?_
                                exact ⟨by first | rfl | (simp [errW_none, errW_some] <;> rfl) | (simp [*, errW_none, errW_some] <;> rfl), by repeat (first | (with_reducible first | exact HB.out | apply below_alloc | apply pw_below_drewN | apply below_drew1 | refine below_set ?_ GE237.out | refine below_set ?_ GE238.out | refine below_set ?_ GE239.out) | exact HB.out)⟩

end Go.Proofs.YtbbdlcmcndhhkaaDoor.MValReckons
