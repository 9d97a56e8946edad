/- Walks made by a program (wip/givenprint.sh); Lean checks them. -/
import Derived.Test.YtfpbohfefliljaaProg
import Derived.Below
import Derived.Deep.Draws
import Derived.Deep.AppendLies
import Derived.Maps.AppendAt
import Derived.OwnWalk
import Derived.Laws.BytesArg
import Derived.Laws.MakeOwn
import Derived.Laws.OwnMore
import Derived.Deep.OwnRows
import Derived.Tactics
import Derived.Lib.ConvBytes
import Derived.Laws.Slices
import Derived.WalkKit
import Derived.KernelRfl
import Derived.RowKit3
import Derived.Deep.LoopGhost
import Derived.Deep.QuietTactic
import Derived.BigQuiet
import Derived.WideLaws
import Derived.Deep.DeepCutAuto
import Derived.Deep.CutBlock
import Derived.Deep.RegionHeld3
import Derived.Laws.Rows
import Derived.Lib.AppendStr
import Derived.ArgAppend
import Derived.Laws.IdiomCopy
import Derived.OrdersHeld
import Derived.Laws.BitsLemmas
import Derived.RowKit
import Derived.Test.YtfpbohfefliljaaSlI
import Derived.Test.YtfpbohfefliljaaSlS
import Derived.Test.YtfpbohfefliljaaWWords
import Derived.Test.YtfpbohfefliljaaWLast
import Derived.Test.YtfpbohfefliljaaWTab
import Derived.Test.YtfpbohfefliljaaWFour
import Derived.Test.YtfpbohfefliljaaWQPut
import Derived.Test.YtfpbohfefliljaaWApart
import Derived.Test.YtfpbohfefliljaaWArr
import Derived.Test.YtfpbohfefliljaaWZeros
import Derived.Test.YtfpbohfefliljaaWFoot
import Derived.Test.YtfpbohfefliljaaWKept
import Derived.Test.YtfpbohfefliljaaWShare
import Derived.Test.YtfpbohfefliljaaWN
import Derived.Test.YtfpbohfefliljaaWFootNe
import Derived.Test.YtfpbohfefliljaaWAt
import Derived.Test.YtfpbohfefliljaaWEqStruct
import Derived.Test.YtfpbohfefliljaaWRepsOne
import Derived.Test.YtfpbohfefliljaaWInv
import Derived.Test.YtfpbohfefliljaaWInvWords
import Derived.Test.YtfpbohfefliljaaWGuard
import Derived.Test.YtfpbohfefliljaaWNEv
import Derived.Test.YtfpbohfefliljaaWMore
import Derived.Test.YtfpbohfefliljaaDMath
import Derived.Lib.Strings
section
namespace Go.Proofs.Ytfpbohfefliljaa.MDeltaPatches
open Go.RowKit Go.Proofs.YtfpbohfefliljaaW.PrintWords Go.Proofs.YtfpbohfefliljaaW.PrintLast Go.Proofs.YtfpbohfefliljaaW.PrintMore
attribute [local go_sem] max2_int min2_int max_two min_two max_three min_three max_four min_four   -- for this text's walks alone
set_option linter.unusedVariables false
set_option linter.unusedSimpArgs false



def errW : Option Int → Value
  | none => .nilIface
  | some c => .iface 0 (.int .i64 c)
theorem errW_none : errW none = .nilIface := rfl
theorem errW_some (c : Int) : errW (some c) = .iface 0 (.int .i64 c) := rfl

theorem info3 : (Try.prog.info? 3).map (fun i => (i.zero, i.size, i.bytes)) = some (some (.int .i64 0), 1, 8) := by kernel_rfl
theorem info9 : (Try.prog.info? 9).map (fun i => (i.zero, i.size, i.bytes)) = some (some (.string ⟨#[]⟩), 1, 16) := by kernel_rfl
theorem info22 : (Try.prog.info? 22).map (fun i => (i.zero, i.size, i.bytes)) = some (some (.slice none 0 0), 1, 24) := by kernel_rfl
theorem info42 : (Try.prog.info? 42).map (fun i => (i.zero, i.size, i.bytes)) = some (some (.slice none 0 0), 1, 24) := by kernel_rfl
-- the values' own types
def rd_L1 (xs : List (List Int)) (i : Int) : (List Int) := xs.getD i.toNat ([] : List Int)
theorem at_L1 {w : World} {A : Option Addr} {n : Nat} {xs : List (List Int)} (h : Kd.C (Kd.slice 3 (Kd.int .i64)) w A n xs) (i : Int) (h0 : 0 ≤ i) (h1 : i < n) : ∃ ad A0 c0, A = some ad ∧ w.cell? (ad.add i.toNat) = some (.slice A0 (rd_L1 xs i).length c0) ∧ (rd_L1 xs i).length ≤ c0 ∧ (Kd.int .i64).C w A0 (rd_L1 xs i).length (rd_L1 xs i) := by
  obtain ⟨ad, c, e, _, hK, hc0⟩ := Kd.C_get h ([] : List Int) i h0 h1
  have hc : ∀ j u, c[j]? = some u → w.cell? (ad.add (i.toNat * 1 + j)) = some u := hc0
  obtain ⟨A0, c0, rfl, l0, g0⟩ := hK
  exact ⟨ad, A0, c0, e, by have hq := hc 0 _ rfl; rwa [Nat.mul_one, Nat.add_zero] at hq, l0, g0⟩

def rd_L3 (xs : List (List ByteArray)) (i : Int) : (List ByteArray) := xs.getD i.toNat ([] : List ByteArray)
theorem at_L3 {w : World} {A : Option Addr} {n : Nat} {xs : List (List ByteArray)} (h : Kd.C (Kd.slice 9 Kd.string) w A n xs) (i : Int) (h0 : 0 ≤ i) (h1 : i < n) : ∃ ad A0 c0, A = some ad ∧ w.cell? (ad.add i.toNat) = some (.slice A0 (rd_L3 xs i).length c0) ∧ (rd_L3 xs i).length ≤ c0 ∧ Kd.string.C w A0 (rd_L3 xs i).length (rd_L3 xs i) := by
  obtain ⟨ad, c, e, _, hK, hc0⟩ := Kd.C_get h ([] : List ByteArray) i h0 h1
  have hc : ∀ j u, c[j]? = some u → w.cell? (ad.add (i.toNat * 1 + j)) = some u := hc0
  obtain ⟨A0, c0, rfl, l0, g0⟩ := hK
  exact ⟨ad, A0, c0, e, by have hq := hc 0 _ rfl; rwa [Nat.mul_one, Nat.add_zero] at hq, l0, g0⟩

end Go.Proofs.Ytfpbohfefliljaa.MDeltaPatches
end
section
namespace Go.Proofs.Ytfpbohfefliljaa.MDeltaPatches
open Go.RowKit Go.Proofs.YtfpbohfefliljaaW.PrintWords Go.Proofs.YtfpbohfefliljaaW.PrintLast Go.Proofs.YtfpbohfefliljaaW.PrintMore
attribute [local go_sem] max2_int min2_int max_two min_two max_three min_three max_four min_four   -- for this text's walks alone
set_option linter.unusedVariables false
set_option linter.unusedSimpArgs false

/-! ### whirligigref19_Diff: function 9 -/
mutual
def whirligigref19_Diff.j1 : Nat → List ByteArray → List ByteArray → Int → Option (Int × Int × List ByteArray)
  | 0, _, _, _ => none
  | k + 1, x0, x1, x5 => if 0 ≤ x5 then (if x5 ≤ (x0.length : Int) then (if x5 ≤ (x1.length : Int) then (whirligigref19_Diff.l1 k x5 (x0.drop (x5 : Int).toNat) (x1.drop (x5 : Int).toNat) 0) else (none)) else (none)) else (none)
def whirligigref19_Diff.l1 : Nat → Int → List ByteArray → List ByteArray → Int → Option (Int × Int × List ByteArray)
  | 0, _, _, _, _ => none
  | k + 1, x5, x6, x7, x8 => if x8 < (x6.length : Int) then (if x8 < (x7.length : Int) then (if 0 ≤ (wrap64 ((wrap64 ((x6.length : Int) - 1)) - x8)) then (if (wrap64 ((wrap64 ((x6.length : Int) - 1)) - x8)) < (x6.length : Int) then (if 0 ≤ (wrap64 ((wrap64 ((x7.length : Int) - 1)) - x8)) then (if (wrap64 ((wrap64 ((x7.length : Int) - 1)) - x8)) < (x7.length : Int) then (if (rdOf ByteArray.empty x6 (wrap64 ((wrap64 ((x6.length : Int) - 1)) - x8))).toList = (rdOf ByteArray.empty x7 (wrap64 ((wrap64 ((x7.length : Int) - 1)) - x8))).toList then (whirligigref19_Diff.l1 k x5 x6 x7 (wrap64 (x8 + 1))) else (if (x6.length : Int) = 0 then (if (x7.length : Int) = 0 then (some (0, 0, ([] : List ByteArray))) else (if 0 ≤ (wrap64 ((x7.length : Int) - x8)) then (if (wrap64 ((x7.length : Int) - x8)) ≤ (x7.length : Int) then (some (x5, wrap64 ((x6.length : Int) - x8), (x7.take ((wrap64 ((x7.length : Int) - x8)) : Int).toNat))) else (none)) else (none))) else (if 0 ≤ (wrap64 ((x7.length : Int) - x8)) then (if (wrap64 ((x7.length : Int) - x8)) ≤ (x7.length : Int) then (some (x5, wrap64 ((x6.length : Int) - x8), (x7.take ((wrap64 ((x7.length : Int) - x8)) : Int).toNat))) else (none)) else (none)))) else (none)) else (none)) else (none)) else (none)) else (if (x6.length : Int) = 0 then (if (x7.length : Int) = 0 then (some (0, 0, ([] : List ByteArray))) else (if 0 ≤ (wrap64 ((x7.length : Int) - x8)) then (if (wrap64 ((x7.length : Int) - x8)) ≤ (x7.length : Int) then (some (x5, wrap64 ((x6.length : Int) - x8), (x7.take ((wrap64 ((x7.length : Int) - x8)) : Int).toNat))) else (none)) else (none))) else (if 0 ≤ (wrap64 ((x7.length : Int) - x8)) then (if (wrap64 ((x7.length : Int) - x8)) ≤ (x7.length : Int) then (some (x5, wrap64 ((x6.length : Int) - x8), (x7.take ((wrap64 ((x7.length : Int) - x8)) : Int).toNat))) else (none)) else (none)))) else (if (x6.length : Int) = 0 then (if (x7.length : Int) = 0 then (some (0, 0, ([] : List ByteArray))) else (if 0 ≤ (wrap64 ((x7.length : Int) - x8)) then (if (wrap64 ((x7.length : Int) - x8)) ≤ (x7.length : Int) then (some (x5, wrap64 ((x6.length : Int) - x8), (x7.take ((wrap64 ((x7.length : Int) - x8)) : Int).toNat))) else (none)) else (none))) else (if 0 ≤ (wrap64 ((x7.length : Int) - x8)) then (if (wrap64 ((x7.length : Int) - x8)) ≤ (x7.length : Int) then (some (x5, wrap64 ((x6.length : Int) - x8), (x7.take ((wrap64 ((x7.length : Int) - x8)) : Int).toNat))) else (none)) else (none)))
def whirligigref19_Diff.l0 : Nat → List ByteArray → List ByteArray → Int → Option (Int × Int × List ByteArray)
  | 0, _, _, _ => none
  | k + 1, x0, x1, x5 => if x5 < (x0.length : Int) then (if x5 < (x1.length : Int) then (if 0 ≤ x5 then (if (rdOf ByteArray.empty x0 x5).toList = (rdOf ByteArray.empty x1 x5).toList then (whirligigref19_Diff.l0 k x0 x1 (wrap64 (x5 + 1))) else (whirligigref19_Diff.j1 k x0 x1 x5)) else (none)) else (whirligigref19_Diff.j1 k x0 x1 x5)) else (whirligigref19_Diff.j1 k x0 x1 x5)
end
def whirligigref19_Diff.f (k : Nat) (l0 : List ByteArray) (l1 : List ByteArray) : Option (Int × Int × List ByteArray) := whirligigref19_Diff.l0 k l0 l1 0
theorem whirligigref19_Diff.mono_l : ∀ k, (∀ y0 y1 y2, LeO (whirligigref19_Diff.j1 k y0 y1 y2) (whirligigref19_Diff.j1 (k + 1) y0 y1 y2)) ∧ (∀ y0 y1 y2 y3, LeO (whirligigref19_Diff.l1 k y0 y1 y2 y3) (whirligigref19_Diff.l1 (k + 1) y0 y1 y2 y3)) ∧ (∀ y0 y1 y2, LeO (whirligigref19_Diff.l0 k y0 y1 y2) (whirligigref19_Diff.l0 (k + 1) y0 y1 y2))
  | 0 => ⟨fun _ _ _ r h => by simp [whirligigref19_Diff.j1] at h, fun _ _ _ _ r h => by simp [whirligigref19_Diff.l1] at h, fun _ _ _ r h => by simp [whirligigref19_Diff.l0] at h⟩
  | k + 1 => by
    obtain ⟨ih0, ih1, ih2⟩ := whirligigref19_Diff.mono_l k
    refine ⟨?_, ?_, ?_⟩
    · intro y0 y1 y2
      unfold whirligigref19_Diff.j1
      repeat' first
      | (with_reducible exact ih0 _ _ _)
      | (with_reducible exact ih1 _ _ _ _)
      | (with_reducible exact ih2 _ _ _)
      | (with_reducible exact LeO.refl _)
      | (with_reducible exact LeO.none _)
      | (with_reducible refine LeO.ite ?_ ?_)
      | (with_reducible refine LeO.bind ?_ (fun _ => ?_))
      | exact ih0 _ _ _
      | exact ih1 _ _ _ _
      | exact ih2 _ _ _
      | exact LeO.none _
      | refine LeO.ite ?_ ?_
      | refine LeO.bind ?_ (fun _ => ?_)
    · intro y0 y1 y2 y3
      unfold whirligigref19_Diff.l1
      repeat' first
      | (with_reducible exact ih0 _ _ _)
      | (with_reducible exact ih1 _ _ _ _)
      | (with_reducible exact ih2 _ _ _)
      | (with_reducible exact LeO.refl _)
      | (with_reducible exact LeO.none _)
      | (with_reducible refine LeO.ite ?_ ?_)
      | (with_reducible refine LeO.bind ?_ (fun _ => ?_))
      | exact ih0 _ _ _
      | exact ih1 _ _ _ _
      | exact ih2 _ _ _
      | exact LeO.none _
      | refine LeO.ite ?_ ?_
      | refine LeO.bind ?_ (fun _ => ?_)
    · intro y0 y1 y2
      unfold whirligigref19_Diff.l0
      repeat' first
      | (with_reducible exact ih0 _ _ _)
      | (with_reducible exact ih1 _ _ _ _)
      | (with_reducible exact ih2 _ _ _)
      | (with_reducible exact LeO.refl _)
      | (with_reducible exact LeO.none _)
      | (with_reducible refine LeO.ite ?_ ?_)
      | (with_reducible refine LeO.bind ?_ (fun _ => ?_))
      | exact ih0 _ _ _
      | exact ih1 _ _ _ _
      | exact ih2 _ _ _
      | exact LeO.none _
      | refine LeO.ite ?_ ?_
      | refine LeO.bind ?_ (fun _ => ?_)
theorem whirligigref19_Diff.mono : ∀ a0 a1 k, LeO (whirligigref19_Diff.f k a0 a1) (whirligigref19_Diff.f (k + 1) a0 a1) := by
  intro a0 a1 k
  obtain ⟨ih0, ih1, ih2⟩ := whirligigref19_Diff.mono_l k
  unfold whirligigref19_Diff.f
  repeat' first
      | (with_reducible exact ih0 _ _ _)
      | (with_reducible exact ih1 _ _ _ _)
      | (with_reducible exact ih2 _ _ _)
      | (with_reducible exact LeO.refl _)
      | (with_reducible exact LeO.none _)
      | (with_reducible refine LeO.ite ?_ ?_)
      | (with_reducible refine LeO.bind ?_ (fun _ => ?_))
      | exact ih0 _ _ _
      | exact ih1 _ _ _ _
      | exact ih2 _ _ _
      | exact LeO.none _
      | refine LeO.ite ?_ ?_
      | refine LeO.bind ?_ (fun _ => ?_)

end Go.Proofs.Ytfpbohfefliljaa.MDeltaPatches
end
section
namespace Go.Proofs.Ytfpbohfefliljaa.MDeltaPatches
open Go.RowKit Go.Proofs.YtfpbohfefliljaaW.PrintWords Go.Proofs.YtfpbohfefliljaaW.PrintLast Go.Proofs.YtfpbohfefliljaaW.PrintMore
attribute [local go_sem] max2_int min2_int max_two min_two max_three min_three max_four min_four   -- for this text's walks alone
set_option linter.unusedVariables false
set_option linter.unusedSimpArgs false

set_option maxHeartbeats 8000000 in
set_option maxRecDepth 100000 in
theorem whirligigref19_Diff.calls (k : Nat) (A0 : Option Addr) (c0 : Nat) (l0 : List ByteArray) (P1_ : Nat → Prop) (A1 : Option Addr) (c1 : Nat) (l1 : List ByteArray) (r1 : Int) (r2 : Int) (r3 : List ByteArray) (w : World) (hr0 : Kd.C Kd.string w A0 l0.length l0) (hc0 : l0.length ≤ c0) (hs1 : Kd.V Kd.string 9 w w.heap.size (fun k_ => P1_ k_) (.slice A1 l1.length c1) l1) (h : whirligigref19_Diff.f k l0 l1 = some (r1, r2, r3)) :
    Calls Try.prog 9 #[.slice A0 l0.length c0, .slice A1 l1.length c1] w fun e w' => ∃ v2_ : Value, e = .returned (.agg #[.int .i64 r1, .int .i64 r2, v2_]) ∧ Kd.V Kd.string 9 w' w.heap.size (fun k_ => (P1_ k_ ∨ w.heap.size ≤ k_)) v2_ r3 ∧ Below w.heap.size w w' := by
  have hu27 := Try.underlying27
  have HR0 := Aside0.mk hr0
  have HC0 := Aside0.mk hc0
  clear hr0 hc0
  have HO1 := Aside0.mk (show Kd.V Kd.string 9 w w.heap.size (fun k_ => (P1_ k_ ∨ w.heap.size ≤ k_)) (.slice A1 l1.length c1) l1 from Kd.V_mono hs1 (fun k_ hk => .inl hk))
  have HB := Aside0.mk (Below.refl w.heap.size w)
  have H : (whirligigref19_Diff.l0 k l0 l1 0) = some (r1, r2, r3) := h
  clear h
  have HC3 := Aside0.mk H
  clear H
  go_enter Try.func9, Try.ntmps9
  go_upto_block 0 with (first | ((with_reducible refine gate_dst (N := 4) rfl ?_); (try (refine gate_guard (by rfl) ?_; dsimp only)); refine box_event ?hg (N := 4) ?hd (cs := #[.int .i64 0, .int .i64 0, .slice none 0 0]) (t := 27) ?hr ?_; (case hd => rfl); (case hg => rfl); (case hr => first | (go_simp; done) | (go_simp; rfl)); intro gb198 hg w4 hbox hb; have n0_ := Aside0.mk (Kd.V_below (Kd.V_elderB (by (with_reducible repeat (first | apply Kd.V_alloc | apply Kd.V_drewN | apply Kd.V_drew)); exact HO1.out) gb198 (Nat.le_of_eq hg.symm)) hb); have n1_ := Aside0.mk (below_step (by repeat (first | (with_reducible first | exact HB.out | apply below_alloc | apply pw_below_drewN | apply below_drew1) | exact HB.out)) hb); have n2_ := Aside0.mk (hbox); have n3_ := Aside0.mk ((by rw [hg]; exact (below_size (by repeat (first | (with_reducible first | exact HB.out | apply below_alloc | apply pw_below_drewN | apply below_drew1) | exact HB.out))) : w.heap.size ≤ gb198)); have n4_ := Aside0.mk ((by rw [hg]; exact (below_size (by repeat (first | (with_reducible first | exact HB.out | apply below_alloc | apply pw_below_drewN | apply below_drew1) | exact HB.out))) : w.heap.size ≤ gb198)); clear HO1; clear HB; have HO1 := n0_; have HB := n1_; have BK198 := n2_; have GW198 := n3_; have GE198 := n4_; clear n0_ n1_ n2_ n3_ n4_; clear hb hbox hg))
  repeat (go_quiet (first | ((with_reducible refine gate_dst (N := 4) rfl ?_); (try (refine gate_guard (by rfl) ?_; dsimp only)); refine box_event ?hg (N := 4) ?hd (cs := #[.int .i64 0, .int .i64 0, .slice none 0 0]) (t := 27) ?hr ?_; (case hd => rfl); (case hg => rfl); (case hr => first | (go_simp; done) | (go_simp; rfl)); intro gb198 hg w4 hbox hb; have n0_ := Aside0.mk (Kd.V_below (Kd.V_elderB (by (with_reducible repeat (first | apply Kd.V_alloc | apply Kd.V_drewN | apply Kd.V_drew)); exact HO1.out) gb198 (Nat.le_of_eq hg.symm)) hb); have n1_ := Aside0.mk (below_step (by repeat (first | (with_reducible first | exact HB.out | apply below_alloc | apply pw_below_drewN | apply below_drew1) | exact HB.out)) hb); have n2_ := Aside0.mk (hbox); have n3_ := Aside0.mk ((by rw [hg]; exact (below_size (by repeat (first | (with_reducible first | exact HB.out | apply below_alloc | apply pw_below_drewN | apply below_drew1) | exact HB.out))) : w.heap.size ≤ gb198)); have n4_ := Aside0.mk ((by rw [hg]; exact (below_size (by repeat (first | (with_reducible first | exact HB.out | apply below_alloc | apply pw_below_drewN | apply below_drew1) | exact HB.out))) : w.heap.size ≤ gb198)); clear HO1; clear HB; have HO1 := n0_; have HB := n1_; have BK198 := n2_; have GW198 := n3_; have GE198 := n4_; clear n0_ n1_ n2_ n3_ n4_; clear hb hbox hg)); go_upto_block 0 with (first | ((with_reducible refine gate_dst (N := 4) rfl ?_); (try (refine gate_guard (by rfl) ?_; dsimp only)); refine box_event ?hg (N := 4) ?hd (cs := #[.int .i64 0, .int .i64 0, .slice none 0 0]) (t := 27) ?hr ?_; (case hd => rfl); (case hg => rfl); (case hr => first | (go_simp; done) | (go_simp; rfl)); intro gb198 hg w4 hbox hb; have n0_ := Aside0.mk (Kd.V_below (Kd.V_elderB (by (with_reducible repeat (first | apply Kd.V_alloc | apply Kd.V_drewN | apply Kd.V_drew)); exact HO1.out) gb198 (Nat.le_of_eq hg.symm)) hb); have n1_ := Aside0.mk (below_step (by repeat (first | (with_reducible first | exact HB.out | apply below_alloc | apply pw_below_drewN | apply below_drew1) | exact HB.out)) hb); have n2_ := Aside0.mk (hbox); have n3_ := Aside0.mk ((by rw [hg]; exact (below_size (by repeat (first | (with_reducible first | exact HB.out | apply below_alloc | apply pw_below_drewN | apply below_drew1) | exact HB.out))) : w.heap.size ≤ gb198)); have n4_ := Aside0.mk ((by rw [hg]; exact (below_size (by repeat (first | (with_reducible first | exact HB.out | apply below_alloc | apply pw_below_drewN | apply below_drew1) | exact HB.out))) : w.heap.size ≤ gb198)); clear HO1; clear HB; have HO1 := n0_; have HB := n1_; have BK198 := n2_; have GW198 := n3_; have GE198 := n4_; clear n0_ n1_ n2_ n3_ n4_; clear hb hbox hg)))
  (try simp only [Act.put, List.setIfInBounds_toArray, List.set_cons_zero, List.set_cons_succ])
  go_cut [5] (fun v5 wc => ∃ (kq : Nat) (x5_2 : Int), v5 = .int .i64 x5_2 ∧ Aside0 (whirligigref19_Diff.j1 kq l0 l1 x5_2 = some (r1, r2, r3)) ∧ Aside0 (kq ≤ k) ∧ Aside0 (Kd.V Kd.string 9 wc w.heap.size (fun k_ => (P1_ k_ ∨ w.heap.size ≤ k_) ∧ k_ ≠ gb198) (.slice A1 l1.length c1) l1) ∧ Aside0 (wc.heap[gb198]? = some (.cells #[.int .i64 0, .int .i64 0, (.slice none 0 0)] 27 (0, 0))) ∧ Aside0 (Below w.heap.size w wc))
  case first =>
    have H := HC3.out
    clear HC3
    have H' := Aside0.mk H
    clear H
    go_wp2
    repeat (go_quiet (fail); try go_wp2)
    go_loopg [5] k (fun kq v5 w' => ∃ (x5_1 : Int), v5 = .int .i64 x5_1 ∧ Aside0 (whirligigref19_Diff.l0 kq l0 l1 x5_1 = some (r1, r2, r3)) ∧ Aside0 (kq ≤ k) ∧ Aside0 (Kd.V Kd.string 9 w' w.heap.size (fun k_ => (P1_ k_ ∨ w.heap.size ≤ k_) ∧ k_ ≠ gb198) (.slice A1 l1.length c1) l1) ∧ Aside0 (w'.heap[gb198]? = some (.cells #[.int .i64 0, .int .i64 0, (.slice none 0 0)] 27 (0, 0))) ∧ Aside0 (Below w.heap.size w w'))
    case atStart => exact ⟨(0), (by first | rfl | (simp; done) | (simp [*]; done)), H', ⟨Nat.le_refl _⟩, ⟨by (with_reducible repeat (first | apply Kd.V_alloc | apply Kd.V_drewN | apply Kd.V_drew)); exact HO1.out⟩, ⟨by (with_reducible repeat (first | refine blk_drewN ?_ _ | refine blk_drew ?_ | refine blk_alloc ?_ _)); exact BK198.out⟩, ⟨by repeat (first | (with_reducible first | exact HB.out | apply below_alloc | apply pw_below_drewN | apply below_drew1 | refine below_set ?_ GE198.out) | exact HB.out)⟩⟩
    case round =>
      clear H'
      try clear c1
      try clear p2
      obtain ⟨x5_1, rfl, HA, HK1, HO_1, BK198, HB⟩ := hrel
      cases gk with
      | zero => exact absurd HA.out (by simp [whirligigref19_Diff.l0])
      | succ k1 =>
        have H := HA.out
        clear HA
        simp only [whirligigref19_Diff.l0] at H
        by_cases c5 : x5_1 < (l0.length : Int)
        · rw [if_pos c5] at H
          have c5b0 : decide (x5_1 < (l0.length : Int)) = true := decide_eq_true c5
          clear c5
          (first | rw [c5b0] | (simp only [i64_w, i32_w]; rw [c5b0]) | skip)
          by_cases c6 : x5_1 < (l1.length : Int)
          · rw [if_pos c6] at H
            have c6b0 : decide (x5_1 < (l1.length : Int)) = true := decide_eq_true c6
            clear c6
            by_cases c7 : 0 ≤ x5_1
            · rw [if_pos c7] at H
              have c7b0 : decide (0 ≤ x5_1) = true := decide_eq_true c7
              clear c7
              by_cases c8 : (rdOf ByteArray.empty l0 x5_1).toList = (rdOf ByteArray.empty l1 x5_1).toList
              · rw [if_pos c8] at H
                have c8b0 : ((rdOf ByteArray.empty l0 x5_1).toList == (rdOf ByteArray.empty l1 x5_1).toList) = true := beq_iff_eq.mpr c8
                have c8b1 : ((rdOf ByteArray.empty l0 x5_1).toList != (rdOf ByteArray.empty l1 x5_1).toList) = false := bne_eq_false_iff_eq.mpr c8
                clear c8
                have H' := Aside0.mk H
                clear H
                have p199 : 0 ≤ (x5_1 : Int) := of_decide_eq_true (by first | (with_reducible assumption) | assumption)
                have q199 : x5_1 < (l0.length : Int) := of_decide_eq_true (by first | (with_reducible assumption) | assumption)
                obtain ⟨ad199, e199, hx199_0⟩ := Kd.at_string HR0.out x5_1 p199 q199
                cases e199
                replace hx199_0 := (HB.out.cell (World.block_lt_of_cell? w _ hx199_0)).trans hx199_0
                replace p199 := eq_true p199
                replace q199 := eq_true q199
                have p200 : 0 ≤ (x5_1 : Int) := of_decide_eq_true (by first | (with_reducible assumption) | assumption)
                have q200 : x5_1 < (l1.length : Int) := of_decide_eq_true (by first | (with_reducible assumption) | assumption)
                obtain ⟨ad200, e200, hx200_0⟩ := Kd.at_string (Kd.V_reads' HO_1.out).2.2 x5_1 p200 q200
                cases e200
                replace p200 := eq_true p200
                replace q200 := eq_true q200
                go_wp2
                repeat (go_quiet (fail); try go_wp2)
                go_roundg k1
                case measure => have := HK1.out; omega
                case rel => exact ⟨(wrap64 (x5_1 + 1)), (by first | rfl | (simp; done) | (simp [*]; done)), H', ⟨by have := HK1.out; omega⟩, ⟨by (with_reducible repeat (first | apply Kd.V_alloc | apply Kd.V_drewN | apply Kd.V_drew)); exact HO_1.out⟩, ⟨by (with_reducible repeat (first | refine blk_drewN ?_ _ | refine blk_drew ?_ | refine blk_alloc ?_ _)); exact BK198.out⟩, ⟨by repeat (first | (with_reducible first | exact HB.out | apply below_alloc | apply pw_below_drewN | apply below_drew1 | refine below_set ?_ GE198.out) | exact HB.out)⟩⟩
              · rw [if_neg c8] at H
                have c8b0 : ((rdOf ByteArray.empty l0 x5_1).toList == (rdOf ByteArray.empty l1 x5_1).toList) = false := beq_eq_false_iff_ne.mpr c8
                have c8b1 : ((rdOf ByteArray.empty l0 x5_1).toList != (rdOf ByteArray.empty l1 x5_1).toList) = true := bne_iff_ne.mpr c8
                have H' := Aside0.mk H
                clear H
                have p199 : 0 ≤ (x5_1 : Int) := of_decide_eq_true (by first | (with_reducible assumption) | assumption)
                have q199 : x5_1 < (l0.length : Int) := of_decide_eq_true (by first | (with_reducible assumption) | assumption)
                obtain ⟨ad199, e199, hx199_0⟩ := Kd.at_string HR0.out x5_1 p199 q199
                cases e199
                replace hx199_0 := (HB.out.cell (World.block_lt_of_cell? w _ hx199_0)).trans hx199_0
                replace p199 := eq_true p199
                replace q199 := eq_true q199
                have p200 : 0 ≤ (x5_1 : Int) := of_decide_eq_true (by first | (with_reducible assumption) | assumption)
                have q200 : x5_1 < (l1.length : Int) := of_decide_eq_true (by first | (with_reducible assumption) | assumption)
                obtain ⟨ad200, e200, hx200_0⟩ := Kd.at_string (Kd.V_reads' HO_1.out).2.2 x5_1 p200 q200
                cases e200
                replace p200 := eq_true p200
                replace q200 := eq_true q200
                go_wp2
                repeat (go_quiet (fail); try go_wp2)
                go_meet
                case rel => exact ⟨_, (x5_1), (by first | rfl | (simp; done) | (simp [*]; done)), H', ⟨by have := HK1.out; first | omega | exact Nat.le_refl _⟩, ⟨by (with_reducible repeat (first | apply Kd.V_alloc | apply Kd.V_drewN | apply Kd.V_drew)); exact HO_1.out⟩, ⟨by (with_reducible repeat (first | refine blk_drewN ?_ _ | refine blk_drew ?_ | refine blk_alloc ?_ _)); exact BK198.out⟩, ⟨by repeat (first | (with_reducible first | exact HB.out | apply below_alloc | apply pw_below_drewN | apply below_drew1 | refine below_set ?_ GE198.out) | exact HB.out)⟩⟩
            · rw [if_neg c7] at H
              exact absurd H (by simp)
          · rw [if_neg c6] at H
            have c6b0 : decide (x5_1 < (l1.length : Int)) = false := decide_eq_false c6
            clear c6
            have H' := Aside0.mk H
            clear H
            go_wp2
            repeat (go_quiet (fail); try go_wp2)
            go_meet
            case rel => exact ⟨_, (x5_1), (by first | rfl | (simp; done) | (simp [*]; done)), H', ⟨by have := HK1.out; first | omega | exact Nat.le_refl _⟩, ⟨by (with_reducible repeat (first | apply Kd.V_alloc | apply Kd.V_drewN | apply Kd.V_drew)); exact HO_1.out⟩, ⟨by (with_reducible repeat (first | refine blk_drewN ?_ _ | refine blk_drew ?_ | refine blk_alloc ?_ _)); exact BK198.out⟩, ⟨by repeat (first | (with_reducible first | exact HB.out | apply below_alloc | apply pw_below_drewN | apply below_drew1 | refine below_set ?_ GE198.out) | exact HB.out)⟩⟩
        · rw [if_neg c5] at H
          have c5b0 : decide (x5_1 < (l0.length : Int)) = false := decide_eq_false c5
          clear c5
          (first | rw [c5b0] | (simp only [i64_w, i32_w]; rw [c5b0]) | skip)
          have H' := Aside0.mk H
          clear H
          go_wp2
          repeat (go_quiet (fail); try go_wp2)
          go_meet
          case rel => exact ⟨_, (x5_1), (by first | rfl | (simp; done) | (simp [*]; done)), H', ⟨by have := HK1.out; first | omega | exact Nat.le_refl _⟩, ⟨by (with_reducible repeat (first | apply Kd.V_alloc | apply Kd.V_drewN | apply Kd.V_drew)); exact HO_1.out⟩, ⟨by (with_reducible repeat (first | refine blk_drewN ?_ _ | refine blk_drew ?_ | refine blk_alloc ?_ _)); exact BK198.out⟩, ⟨by repeat (first | (with_reducible first | exact HB.out | apply below_alloc | apply pw_below_drewN | apply below_drew1 | refine below_set ?_ GE198.out) | exact HB.out)⟩⟩
  case rest =>
    clear HC3
    try clear c1
    try clear p1
    try clear q1
    try clear hx1
    try clear p2
    try clear q2
    try clear hx2
    try clear c5
    try clear c5b0
    try clear c6
    try clear c6b0
    try clear p6
    try clear c7
    try clear c7b0
    try clear c8
    try clear c8b0
    try clear c8b1
    try clear hx199_0
    try clear hx200_0
    try clear p199
    try clear p2
    try clear p200
    try clear q199
    try clear q200
    obtain ⟨kq, x5_2, rfl, HA, HJ2, HO_1, BK198, HB⟩ := hcut
    cases kq with
    | zero => exact absurd HA.out (by simp [whirligigref19_Diff.j1])
    | succ kj2 =>
      have H := HA.out
      clear HA
      simp only [whirligigref19_Diff.j1] at H
      by_cases c9 : 0 ≤ x5_2
      · rw [if_pos c9] at H
        have c9b0 := eq_true c9
        have c9b1 : decide (0 ≤ x5_2) = true := decide_eq_true c9
        clear c9
        by_cases c10 : x5_2 ≤ (l0.length : Int)
        · rw [if_pos c10] at H
          have c10b0 := eq_true c10
          have c10b1 : decide (x5_2 ≤ (l0.length : Int)) = true := decide_eq_true c10
          clear c10
          have c11b0 := eq_true (of_decide_eq_true (by first | (with_reducible assumption) | assumption) : 0 ≤ x5_2)
          by_cases c12 : x5_2 ≤ (l1.length : Int)
          · rw [if_pos c12] at H
            have c12b0 := eq_true c12
            have c12b1 : decide (x5_2 ≤ (l1.length : Int)) = true := decide_eq_true c12
            clear c12
            obtain ⟨y202, hy202⟩ : ∃ y_ : List ByteArray, y_ = (l1.drop (x5_2 : Int).toNat) := ⟨_, rfl⟩
            replace H : (whirligigref19_Diff.l1 kj2 x5_2 (l0.drop (x5_2 : Int).toNat) y202 0) = some (r1, r2, r3) := by first | (rw [hy202]; with_reducible exact H) | (have H2_ := (Option.bind_some _ _).symm.trans H; rw [hy202]; with_reducible exact H2_) | (have H2_ := (Option.bind_some _ _).symm.trans H; with_reducible exact H2_) | with_reducible exact H | (rw [hy202]; exact H) | exact H
            have Ny202 := Aside0.mk hy202
            clear hy202
            have H' := Aside0.mk H
            clear H
            obtain ⟨i013, hi013, _, hsz13, _⟩ := info_parts info9
            obtain ⟨A13, hcut13, hA13, hC13⟩ := print_drop_of (P := Try.prog) Value.string (⟨#[]⟩ : ByteArray) 22 9 .i64 Try.underlying22 hi013 hsz13 A0 c0 l0 x5_2 (of_decide_eq_true (by first | (with_reducible assumption) | assumption)) (of_decide_eq_true (by first | (with_reducible assumption) | assumption)) HC0.out
            have HR201 := Aside0.mk (Kd.C_of_reads (h1 := fun _ => rfl) (hA13 _ (Kd.reads_of_C HR0.out)))
            have HC201 := Aside0.mk hC13
            clear hA13 hC13 hi013 hsz13
            have q14 : (x5_2 : Int) ≤ ((l1.length : Int) : Int) := of_decide_eq_true (by first | (with_reducible assumption) | assumption)
            obtain ⟨i014, hi014, _, hsz14, _⟩ := info_parts info9
            have hroom14 : l1.length ≤ c1 := (Kd.V_reads' HO_1.out).2.1
            have hC14 : Kd.F Kd.string _ _ A1 l1.length l1 := (Kd.V_at (base := w.heap.size) HO_1.out).2.2
            have q014 : (0 : Int) ≤ (x5_2 : Int) := of_decide_eq_true (by first | (with_reducible assumption) | assumption)
            have hcut14 := cut_from (P := Try.prog) 22 9 .i64 Try.underlying22 hi014 1 hsz14 A1 l1.length c1 x5_2 q014 q14
            have hr14 := Kd.F_cut (m := (x5_2 : Int).toNat) (c := c1) hC14 (by omega) hroom14
            obtain ⟨A14, hA14⟩ : ∃ Ax_, Ax_ = (if c1 = (x5_2 : Int).toNat then A1 else (A1 : Option Addr).map (·.add ((x5_2 : Int).toNat * 1))) := ⟨_, rfl⟩
            obtain ⟨c14, hc14⟩ : ∃ cx_, cx_ = c1 - (x5_2 : Int).toNat := ⟨_, rfl⟩
            have hy14 : y202.length = l1.length - (x5_2 : Int).toNat := (by rw [Ny202.out, List.length_drop] <;> omega)
            rw [show (l1).drop (x5_2 : Int).toNat = y202 from Ny202.out.symm] at hr14
            replace hr14 : Kd.F Kd.string _ _ A14 y202.length y202 := (by rw [hA14]; exact hr14)
            rw [← hy14, ← hA14, ← hc14] at hcut14
            have HO206 := Aside0.mk (show Kd.V Kd.string 9 _ w.heap.size _ (.slice A14 y202.length c14) y202 from Kd.V_mk (by rw [hy14, hc14]; exact Nat.sub_le_sub_right hroom14 _) hr14)
            have HC206 := Aside0.mk (show y202.length ≤ c14 from by rw [hy14, hc14]; exact Nat.sub_le_sub_right hroom14 _)
            clear hr14 hC14 hroom14 hi014 hsz14 hc14
            have KY14 := Aside0.mk hy14
            have KA14 := Aside0.mk hA14
            clear hy14 hA14
            replace q14 := eq_true q14
            go_wp2
            repeat (go_quiet (fail); try go_wp2)
            go_loopg [8] kj2 (fun kq v8 w' => ∃ (x8_2 : Int), v8 = .int .i64 x8_2 ∧ Aside0 (whirligigref19_Diff.l1 kq x5_2 (l0.drop (x5_2 : Int).toNat) y202 x8_2 = some (r1, r2, r3)) ∧ Aside0 (kq ≤ kj2) ∧ Aside0 (Kd.V Kd.string 9 w' w.heap.size (fun k_ => (P1_ k_ ∨ w.heap.size ≤ k_) ∧ k_ ≠ gb198) (.slice A14 y202.length c14) y202) ∧ Aside0 (w'.heap[gb198]? = some (.cells #[.int .i64 0, .int .i64 0, (.slice none 0 0)] 27 (0, 0))) ∧ Aside0 (Below w.heap.size w w'))
            case atStart => exact ⟨(0), (by first | rfl | (simp; done) | (simp [*]; done)), H', ⟨Nat.le_refl _⟩, ⟨by (with_reducible repeat (first | apply Kd.V_alloc | apply Kd.V_drewN | apply Kd.V_drew)); exact HO206.out⟩, ⟨by (with_reducible repeat (first | refine blk_drewN ?_ _ | refine blk_drew ?_ | refine blk_alloc ?_ _)); exact BK198.out⟩, ⟨by repeat (first | (with_reducible first | exact HB.out | apply below_alloc | apply pw_below_drewN | apply below_drew1 | refine below_set ?_ GE198.out) | exact HB.out)⟩⟩
            case round =>
              clear H'
              try clear c1
              try clear p1
              try clear q1
              try clear hx1
              try clear p2
              try clear q2
              try clear hx2
              try clear c5
              try clear c5b0
              try clear c6
              try clear c6b0
              try clear p6
              try clear c7
              try clear c7b0
              try clear c8
              try clear c8b0
              try clear c8b1
              try clear c9
              try clear c9b0
              try clear c9b1
              try clear c10
              try clear c10b0
              try clear c10b1
              try clear c11
              try clear c11b0
              try clear c12
              try clear c12b0
              try clear c12b1
              try clear c14
              try clear q14
              try clear hx199_0
              try clear hx200_0
              try clear p1
              try clear p199
              try clear p2
              try clear p200
              try clear p6
              try clear q014
              try clear q1
              try clear q14
              try clear q199
              try clear q2
              try clear q200
              obtain ⟨x8_2, rfl, HA, HK2, HO_7, BK198, HB⟩ := hrel
              have hz_ : (l0.drop (x5_2 : Int).toNat).length = l0.length - (x5_2 : Int).toNat := List.length_drop
              generalize l0.length - (x5_2 : Int).toNat = n_ at *
              generalize l0.drop (x5_2 : Int).toNat = z_ at *
              subst hz_
              cases gk with
              | zero => exact absurd HA.out (by simp [whirligigref19_Diff.l1])
              | succ k2 =>
                have H := HA.out
                clear HA
                simp only [whirligigref19_Diff.l1] at H
                by_cases c15 : x8_2 < (z_.length : Int)
                · rw [if_pos c15] at H
                  have c15b0 : decide (x8_2 < (z_.length : Int)) = true := decide_eq_true c15
                  clear c15
                  by_cases c16 : x8_2 < (y202.length : Int)
                  · rw [if_pos c16] at H
                    have c16b0 : decide (x8_2 < (y202.length : Int)) = true := decide_eq_true c16
                    clear c16
                    obtain ⟨ji17, hji17⟩ : ∃ j_ : Int, (wrap64 ((wrap64 ((z_.length : Int) - 1)) - x8_2)) = j_ := ⟨_, rfl⟩
                    replace H : (if 0 ≤ (ji17) then (if (ji17) < (z_.length : Int) then (if 0 ≤ (wrap64 ((wrap64 ((y202.length : Int) - 1)) - x8_2)) then (if (wrap64 ((wrap64 ((y202.length : Int) - 1)) - x8_2)) < (y202.length : Int) then (if (rdOf ByteArray.empty z_ (ji17)).toList = (rdOf ByteArray.empty y202 (wrap64 ((wrap64 ((y202.length : Int) - 1)) - x8_2))).toList then (whirligigref19_Diff.l1 k2 x5_2 z_ y202 (wrap64 (x8_2 + 1))) else (if (z_.length : Int) = 0 then (if (y202.length : Int) = 0 then (some (0, 0, ([] : List ByteArray))) else (if 0 ≤ (wrap64 ((y202.length : Int) - x8_2)) then (if (wrap64 ((y202.length : Int) - x8_2)) ≤ (y202.length : Int) then (some (x5_2, wrap64 ((z_.length : Int) - x8_2), (y202.take ((wrap64 ((y202.length : Int) - x8_2)) : Int).toNat))) else (none)) else (none))) else (if 0 ≤ (wrap64 ((y202.length : Int) - x8_2)) then (if (wrap64 ((y202.length : Int) - x8_2)) ≤ (y202.length : Int) then (some (x5_2, wrap64 ((z_.length : Int) - x8_2), (y202.take ((wrap64 ((y202.length : Int) - x8_2)) : Int).toNat))) else (none)) else (none)))) else (none)) else (none)) else (none)) else (none)) = some (r1, r2, r3) := by first | (rw [hji17] at H; exact H) | (simp only [hji17] at H ⊢; exact H)
                    have hji17w : (IntKind.i64.wrap ((wrap64 ((z_.length : Int) - 1)) - x8_2)) = ji17 := (i64_w _).trans hji17
                    by_cases c18 : 0 ≤ (ji17)
                    · rw [if_pos c18] at H
                      have c18b0 : decide (0 ≤ (ji17)) = true := decide_eq_true c18
                      clear c18
                      by_cases c19 : (ji17) < (z_.length : Int)
                      · rw [if_pos c19] at H
                        have c19b0 : decide ((ji17) < (z_.length : Int)) = true := decide_eq_true c19
                        clear c19
                        obtain ⟨ji20, hji20⟩ : ∃ j_ : Int, (wrap64 ((wrap64 ((y202.length : Int) - 1)) - x8_2)) = j_ := ⟨_, rfl⟩
                        replace H : (if 0 ≤ (ji20) then (if (ji20) < (y202.length : Int) then (if (rdOf ByteArray.empty z_ (ji17)).toList = (rdOf ByteArray.empty y202 (ji20)).toList then (whirligigref19_Diff.l1 k2 x5_2 z_ y202 (wrap64 (x8_2 + 1))) else (if (z_.length : Int) = 0 then (if (y202.length : Int) = 0 then (some (0, 0, ([] : List ByteArray))) else (if 0 ≤ (wrap64 ((y202.length : Int) - x8_2)) then (if (wrap64 ((y202.length : Int) - x8_2)) ≤ (y202.length : Int) then (some (x5_2, wrap64 ((z_.length : Int) - x8_2), (y202.take ((wrap64 ((y202.length : Int) - x8_2)) : Int).toNat))) else (none)) else (none))) else (if 0 ≤ (wrap64 ((y202.length : Int) - x8_2)) then (if (wrap64 ((y202.length : Int) - x8_2)) ≤ (y202.length : Int) then (some (x5_2, wrap64 ((z_.length : Int) - x8_2), (y202.take ((wrap64 ((y202.length : Int) - x8_2)) : Int).toNat))) else (none)) else (none)))) else (none)) else (none)) = some (r1, r2, r3) := by first | (rw [hji20] at H; exact H) | (simp only [hji20] at H ⊢; exact H)
                        have hji20w : (IntKind.i64.wrap ((wrap64 ((y202.length : Int) - 1)) - x8_2)) = ji20 := (i64_w _).trans hji20
                        by_cases c21 : 0 ≤ (ji20)
                        · rw [if_pos c21] at H
                          have c21b0 : decide (0 ≤ (ji20)) = true := decide_eq_true c21
                          clear c21
                          by_cases c22 : (ji20) < (y202.length : Int)
                          · rw [if_pos c22] at H
                            have c22b0 : decide ((ji20) < (y202.length : Int)) = true := decide_eq_true c22
                            clear c22
                            by_cases c23 : (rdOf ByteArray.empty z_ (ji17)).toList = (rdOf ByteArray.empty y202 (ji20)).toList
                            · rw [if_pos c23] at H
                              have c23b0 : ((rdOf ByteArray.empty z_ (ji17)).toList == (rdOf ByteArray.empty y202 (ji20)).toList) = true := beq_iff_eq.mpr c23
                              have c23b1 : ((rdOf ByteArray.empty z_ (ji17)).toList != (rdOf ByteArray.empty y202 (ji20)).toList) = false := bne_eq_false_iff_eq.mpr c23
                              clear c23
                              have H' := Aside0.mk H
                              clear H
                              have p207 : 0 ≤ ((ji17) : Int) := of_decide_eq_true (by first | (with_reducible assumption) | assumption)
                              have q207 : (ji17) < (z_.length : Int) := of_decide_eq_true (by first | (with_reducible assumption) | assumption)
                              obtain ⟨ad207, e207, hx207_0⟩ := Kd.at_string HR201.out (ji17) p207 q207
                              cases e207
                              replace hx207_0 := (HB.out.cell (World.block_lt_of_cell? w _ hx207_0)).trans hx207_0
                              replace p207 := eq_true p207
                              replace q207 := eq_true q207
                              have p208 : 0 ≤ ((ji20) : Int) := of_decide_eq_true (by first | (with_reducible assumption) | assumption)
                              have q208 : (ji20) < (y202.length : Int) := of_decide_eq_true (by first | (with_reducible assumption) | assumption)
                              obtain ⟨ad208, e208, hx208_0⟩ := Kd.at_string (Kd.V_reads' HO_7.out).2.2 (ji20) p208 q208
                              cases e208
                              replace p208 := eq_true p208
                              replace q208 := eq_true q208
                              go_wp2
                              repeat (go_quiet (fail); try go_wp2)
                              go_roundg k2
                              case measure => have := HJ2.out; have := HK2.out; omega
                              case rel => exact ⟨(wrap64 (x8_2 + 1)), (by first | rfl | (simp; done) | (simp [*]; done)), H', ⟨by have := HJ2.out; have := HK2.out; omega⟩, ⟨by (with_reducible repeat (first | apply Kd.V_alloc | apply Kd.V_drewN | apply Kd.V_drew)); exact HO_7.out⟩, ⟨by (with_reducible repeat (first | refine blk_drewN ?_ _ | refine blk_drew ?_ | refine blk_alloc ?_ _)); exact BK198.out⟩, ⟨by repeat (first | (with_reducible first | exact HB.out | apply below_alloc | apply pw_below_drewN | apply below_drew1 | refine below_set ?_ GE198.out) | exact HB.out)⟩⟩
                            · rw [if_neg c23] at H
                              have c23b0 : ((rdOf ByteArray.empty z_ (ji17)).toList == (rdOf ByteArray.empty y202 (ji20)).toList) = false := beq_eq_false_iff_ne.mpr c23
                              have c23b1 : ((rdOf ByteArray.empty z_ (ji17)).toList != (rdOf ByteArray.empty y202 (ji20)).toList) = true := bne_iff_ne.mpr c23
                              by_cases c24 : (z_.length : Int) = 0
                              · rw [if_pos c24] at H
                                have c24b0 : ((z_.length : Int) == 0) = true := beq_iff_eq.mpr c24
                                have c24b1 : ((z_.length : Int) != 0) = false := bne_eq_false_iff_eq.mpr c24
                                clear c24
                                by_cases c25 : (y202.length : Int) = 0
                                · rw [if_pos c25] at H
                                  have c25b0 : ((y202.length : Int) == 0) = true := beq_iff_eq.mpr c25
                                  have c25b1 : ((y202.length : Int) != 0) = false := bne_eq_false_iff_eq.mpr c25
                                  clear c25
                                  simp only [Option.some.injEq, Prod.mk.injEq] at H
                                  obtain ⟨rfl, rfl, rfl⟩ := H
                                  have p207 : 0 ≤ ((ji17) : Int) := of_decide_eq_true (by first | (with_reducible assumption) | assumption)
                                  have q207 : (ji17) < (z_.length : Int) := of_decide_eq_true (by first | (with_reducible assumption) | assumption)
                                  obtain ⟨ad207, e207, hx207_0⟩ := Kd.at_string HR201.out (ji17) p207 q207
                                  cases e207
                                  replace hx207_0 := (HB.out.cell (World.block_lt_of_cell? w _ hx207_0)).trans hx207_0
                                  replace p207 := eq_true p207
                                  replace q207 := eq_true q207
                                  have p208 : 0 ≤ ((ji20) : Int) := of_decide_eq_true (by first | (with_reducible assumption) | assumption)
                                  have q208 : (ji20) < (y202.length : Int) := of_decide_eq_true (by first | (with_reducible assumption) | assumption)
                                  obtain ⟨ad208, e208, hx208_0⟩ := Kd.at_string (Kd.V_reads' HO_7.out).2.2 (ji20) p208 q208
                                  cases e208
                                  replace p208 := eq_true p208
                                  replace q208 := eq_true q208
                                  have hcz26_0 : wr.cell? ⟨gb198, 0, none⟩ = some (.int .i64 0) := (blk_cell BK198.out 0).trans rfl
                                  have hcz26_1 : wr.cell? ⟨gb198, 1, none⟩ = some (.int .i64 0) := (blk_cell BK198.out 1).trans rfl
                                  have hcz26_2 : wr.cell? ⟨gb198, 2, none⟩ = some (.slice none 0 0) := (blk_cell BK198.out 2).trans rfl
                                  have hfz26_0 := blk_frozen BK198.out 0
                                  have hfz26_1 := blk_frozen BK198.out 1
                                  have hfz26_2 := blk_frozen BK198.out 2
                                  go_wp2
                                  repeat (go_quiet (fail); try go_wp2)
                                  refine bodyPost_ret (results_cell_row rfl _ _ gb198 27 #[.int .i64 0, .int .i64 0, .slice none 0 0] (0, 0) _ rfl (by (with_reducible repeat (first | refine blk_drewN ?_ _ | refine blk_drew ?_ | refine blk_alloc ?_ _)); refine blk_put (cs := #[.int .i64 0, .int .i64 0, .slice none 0 0]) ?_ 2 _ rfl; (with_reducible repeat (first | refine blk_drewN ?_ _ | refine blk_drew ?_ | refine blk_alloc ?_ _)); refine blk_put (cs := #[.int .i64 0, .int .i64 0, .slice none 0 0]) ?_ 1 _ rfl; (with_reducible repeat (first | refine blk_drewN ?_ _ | refine blk_drew ?_ | refine blk_alloc ?_ _)); refine blk_put (cs := #[.int .i64 0, .int .i64 0, .slice none 0 0]) ?_ 0 _ rfl; (with_reducible repeat (first | refine blk_drewN ?_ _ | refine blk_drew ?_ | refine blk_alloc ?_ _)); exact BK198.out) Try.underlying27 rfl (by kernel_rfl)) rfl ?_
                                  exact ⟨_, by first | rfl | (simp [errW_none, errW_some] <;> rfl) | (simp only [← hji17, ← hji20]; first | rfl | (simp [errW_none, errW_some] <;> rfl)) | (simp [*, errW_none, errW_some] <;> rfl), (by first | exact Kd.V_nil _ _ _ _ _ | exact Kd.V_mono (Kd.R_V (Kd.R_nil _ _ _ w.heap.size (fun k => w.heap.size ≤ k))) (fun k_ hk => .inr hk)), by repeat (first | (with_reducible first | exact HB.out | apply below_alloc | apply pw_below_drewN | apply below_drew1 | refine below_set ?_ GE198.out) | exact HB.out)⟩
                                · rw [if_neg c25] at H
                                  have c25b0 : ((y202.length : Int) == 0) = false := beq_eq_false_iff_ne.mpr c25
                                  have c25b1 : ((y202.length : Int) != 0) = true := bne_iff_ne.mpr c25
                                  have c25b2 : ¬ (y202 = []) := fun h_ => c25 (by rw [h_]; rfl)
                                  obtain ⟨ji27, hji27⟩ : ∃ j_ : Int, (wrap64 ((y202.length : Int) - x8_2)) = j_ := ⟨_, rfl⟩
                                  replace H : (if 0 ≤ (ji27) then (if (ji27) ≤ (y202.length : Int) then (some (x5_2, wrap64 ((z_.length : Int) - x8_2), (y202.take ((ji27) : Int).toNat))) else (none)) else (none)) = some (r1, r2, r3) := by first | (rw [hji27] at H; exact H) | (simp only [hji27] at H ⊢; exact H)
                                  have hji27w : (IntKind.i64.wrap ((y202.length : Int) - x8_2)) = ji27 := (i64_w _).trans hji27
                                  by_cases c28 : 0 ≤ (ji27)
                                  · rw [if_pos c28] at H
                                    have c28b0 := eq_true c28
                                    have c28b1 : decide (0 ≤ (ji27)) = true := decide_eq_true c28
                                    clear c28
                                    by_cases c29 : (ji27) ≤ (y202.length : Int)
                                    · rw [if_pos c29] at H
                                      have c29b0 := eq_true c29
                                      have c29b1 : decide ((ji27) ≤ (y202.length : Int)) = true := decide_eq_true c29
                                      clear c29
                                      obtain ⟨y209, hy209⟩ : ∃ y_ : List ByteArray, y_ = (y202.take ((ji27) : Int).toNat) := ⟨_, rfl⟩
                                      replace H : (some (x5_2, wrap64 ((z_.length : Int) - x8_2), y209)) = some (r1, r2, r3) := by first | (rw [hy209]; with_reducible exact H) | (have H2_ := (Option.bind_some _ _).symm.trans H; rw [hy209]; with_reducible exact H2_) | (have H2_ := (Option.bind_some _ _).symm.trans H; with_reducible exact H2_) | with_reducible exact H | (rw [hy209]; exact H) | exact H
                                      have Ny209 := Aside0.mk hy209
                                      clear hy209
                                      simp only [Option.some.injEq, Prod.mk.injEq] at H
                                      obtain ⟨rfl, rfl, rfl⟩ := H
                                      have p207 : 0 ≤ ((ji17) : Int) := of_decide_eq_true (by first | (with_reducible assumption) | assumption)
                                      have q207 : (ji17) < (z_.length : Int) := of_decide_eq_true (by first | (with_reducible assumption) | assumption)
                                      obtain ⟨ad207, e207, hx207_0⟩ := Kd.at_string HR201.out (ji17) p207 q207
                                      cases e207
                                      replace hx207_0 := (HB.out.cell (World.block_lt_of_cell? w _ hx207_0)).trans hx207_0
                                      replace p207 := eq_true p207
                                      replace q207 := eq_true q207
                                      have p208 : 0 ≤ ((ji20) : Int) := of_decide_eq_true (by first | (with_reducible assumption) | assumption)
                                      have q208 : (ji20) < (y202.length : Int) := of_decide_eq_true (by first | (with_reducible assumption) | assumption)
                                      obtain ⟨ad208, e208, hx208_0⟩ := Kd.at_string (Kd.V_reads' HO_7.out).2.2 (ji20) p208 q208
                                      cases e208
                                      replace p208 := eq_true p208
                                      replace q208 := eq_true q208
                                      have q30 : ((ji27) : Int) ≤ ((y202.length : Int) : Int) := of_decide_eq_true (by first | (with_reducible assumption) | assumption)
                                      obtain ⟨i030, hi030, _, hsz30, _⟩ := info_parts info9
                                      have hroom30 : y202.length ≤ c14 := (Kd.V_reads' HO_7.out).2.1
                                      have hC30 : Kd.F Kd.string _ _ (some ad208) y202.length y202 := (Kd.V_at (base := w.heap.size) HO_7.out).2.2
                                      have hcut30 := cut_to (P := Try.prog) 22 9 .i64 Try.underlying22 hi030 (some ad208) y202.length c14 (ji27) (of_decide_eq_true (by first | (with_reducible assumption) | assumption)) q30 hroom30
                                      have hr30 := Kd.F_take (m := ((ji27) : Int).toNat) hC30 (by omega)
                                      have hy30 : y209.length = ((ji27) : Int).toNat := (by rw [Ny209.out, List.length_take]; omega)
                                      rw [← Ny209.out] at hr30
                                      rw [← hy30] at hcut30
                                      have HO213 := Aside0.mk (show Kd.V Kd.string 9 _ w.heap.size _ (.slice (some ad208) y209.length c14) y209 from Kd.V_mk (by omega) hr30)
                                      have HC213 := Aside0.mk (show y209.length ≤ c14 from by omega)
                                      clear hr30 hC30 hroom30 hi030 hsz30
                                      have KY30 := Aside0.mk hy30
                                      clear hy30
                                      replace q30 := eq_true q30
                                      have hcz31_0 : wr.cell? ⟨gb198, 0, none⟩ = some (.int .i64 0) := (blk_cell BK198.out 0).trans rfl
                                      have hcz31_1 : wr.cell? ⟨gb198, 1, none⟩ = some (.int .i64 0) := (blk_cell BK198.out 1).trans rfl
                                      have hcz31_2 : wr.cell? ⟨gb198, 2, none⟩ = some (.slice none 0 0) := (blk_cell BK198.out 2).trans rfl
                                      have hfz31_0 := blk_frozen BK198.out 0
                                      have hfz31_1 := blk_frozen BK198.out 1
                                      have hfz31_2 := blk_frozen BK198.out 2
                                      go_wp2
                                      repeat (go_quiet (fail); try go_wp2)
                                      refine bodyPost_ret (results_cell_row rfl _ _ gb198 27 #[.int .i64 x5_2, .int .i64 (wrap64 ((z_.length : Int) - x8_2)), .slice (some ad208) y209.length c14] (0, 0) _ rfl (by (with_reducible repeat (first | refine blk_drewN ?_ _ | refine blk_drew ?_ | refine blk_alloc ?_ _)); refine blk_put (cs := #[.int .i64 x5_2, .int .i64 (wrap64 ((z_.length : Int) - x8_2)), .slice none 0 0]) ?_ 2 _ rfl; (with_reducible repeat (first | refine blk_drewN ?_ _ | refine blk_drew ?_ | refine blk_alloc ?_ _)); refine blk_put (cs := #[.int .i64 x5_2, .int .i64 0, .slice none 0 0]) ?_ 1 _ rfl; (with_reducible repeat (first | refine blk_drewN ?_ _ | refine blk_drew ?_ | refine blk_alloc ?_ _)); refine blk_put (cs := #[.int .i64 0, .int .i64 0, .slice none 0 0]) ?_ 0 _ rfl; (with_reducible repeat (first | refine blk_drewN ?_ _ | refine blk_drew ?_ | refine blk_alloc ?_ _)); exact BK198.out) Try.underlying27 rfl (by kernel_rfl)) rfl ?_
                                      exact ⟨_, by first | rfl | (simp [errW_none, errW_some] <;> rfl) | (simp only [← hji17, ← hji20, ← hji27]; first | rfl | (simp [errW_none, errW_some] <;> rfl)) | (simp [*, errW_none, errW_some] <;> rfl), by (with_reducible repeat (first | apply Kd.V_alloc | apply Kd.V_drewN | apply Kd.V_drew)); exact Kd.V_mono (Kd.V_far (p := ⟨gb198, 2, none⟩) (Kd.V_far (p := ⟨gb198, 1, none⟩) (Kd.V_far (p := ⟨gb198, 0, none⟩) (Kd.V_mono HO213.out (fun k_ hk => (⟨hk, hk.2⟩ : _ ∧ k_ ≠ gb198))) (fun _ hk => hk.2) (.int .i64 x5_2)) (fun _ hk => hk.2) (.int .i64 (wrap64 ((z_.length : Int) - x8_2)))) (fun _ hk => hk.2) (.slice (some ad208) y209.length c14)) (fun _ hk => hk.1.1), by repeat (first | (with_reducible first | exact HB.out | apply below_alloc | apply pw_below_drewN | apply below_drew1 | refine below_set ?_ GE198.out) | exact HB.out)⟩
                                    · rw [if_neg c29] at H
                                      exact absurd H (by simp)
                                  · rw [if_neg c28] at H
                                    exact absurd H (by simp)
                              · rw [if_neg c24] at H
                                have c24b0 : ((z_.length : Int) == 0) = false := beq_eq_false_iff_ne.mpr c24
                                have c24b1 : ((z_.length : Int) != 0) = true := bne_iff_ne.mpr c24
                                have c24b2 : ¬ (z_ = []) := fun h_ => c24 (by rw [h_]; rfl)
                                obtain ⟨ji32, hji32⟩ : ∃ j_ : Int, (wrap64 ((y202.length : Int) - x8_2)) = j_ := ⟨_, rfl⟩
                                replace H : (if 0 ≤ (ji32) then (if (ji32) ≤ (y202.length : Int) then (some (x5_2, wrap64 ((z_.length : Int) - x8_2), (y202.take ((ji32) : Int).toNat))) else (none)) else (none)) = some (r1, r2, r3) := by first | (rw [hji32] at H; exact H) | (simp only [hji32] at H ⊢; exact H)
                                have hji32w : (IntKind.i64.wrap ((y202.length : Int) - x8_2)) = ji32 := (i64_w _).trans hji32
                                by_cases c33 : 0 ≤ (ji32)
                                · rw [if_pos c33] at H
                                  have c33b0 := eq_true c33
                                  have c33b1 : decide (0 ≤ (ji32)) = true := decide_eq_true c33
                                  clear c33
                                  by_cases c34 : (ji32) ≤ (y202.length : Int)
                                  · rw [if_pos c34] at H
                                    have c34b0 := eq_true c34
                                    have c34b1 : decide ((ji32) ≤ (y202.length : Int)) = true := decide_eq_true c34
                                    clear c34
                                    obtain ⟨y214, hy214⟩ : ∃ y_ : List ByteArray, y_ = (y202.take ((ji32) : Int).toNat) := ⟨_, rfl⟩
                                    replace H : (some (x5_2, wrap64 ((z_.length : Int) - x8_2), y214)) = some (r1, r2, r3) := by first | (rw [hy214]; with_reducible exact H) | (have H2_ := (Option.bind_some _ _).symm.trans H; rw [hy214]; with_reducible exact H2_) | (have H2_ := (Option.bind_some _ _).symm.trans H; with_reducible exact H2_) | with_reducible exact H | (rw [hy214]; exact H) | exact H
                                    have Ny214 := Aside0.mk hy214
                                    clear hy214
                                    simp only [Option.some.injEq, Prod.mk.injEq] at H
                                    obtain ⟨rfl, rfl, rfl⟩ := H
                                    have p207 : 0 ≤ ((ji17) : Int) := of_decide_eq_true (by first | (with_reducible assumption) | assumption)
                                    have q207 : (ji17) < (z_.length : Int) := of_decide_eq_true (by first | (with_reducible assumption) | assumption)
                                    obtain ⟨ad207, e207, hx207_0⟩ := Kd.at_string HR201.out (ji17) p207 q207
                                    cases e207
                                    replace hx207_0 := (HB.out.cell (World.block_lt_of_cell? w _ hx207_0)).trans hx207_0
                                    replace p207 := eq_true p207
                                    replace q207 := eq_true q207
                                    have p208 : 0 ≤ ((ji20) : Int) := of_decide_eq_true (by first | (with_reducible assumption) | assumption)
                                    have q208 : (ji20) < (y202.length : Int) := of_decide_eq_true (by first | (with_reducible assumption) | assumption)
                                    obtain ⟨ad208, e208, hx208_0⟩ := Kd.at_string (Kd.V_reads' HO_7.out).2.2 (ji20) p208 q208
                                    cases e208
                                    replace p208 := eq_true p208
                                    replace q208 := eq_true q208
                                    have q35 : ((ji32) : Int) ≤ ((y202.length : Int) : Int) := of_decide_eq_true (by first | (with_reducible assumption) | assumption)
                                    obtain ⟨i035, hi035, _, hsz35, _⟩ := info_parts info9
                                    have hroom35 : y202.length ≤ c14 := (Kd.V_reads' HO_7.out).2.1
                                    have hC35 : Kd.F Kd.string _ _ (some ad208) y202.length y202 := (Kd.V_at (base := w.heap.size) HO_7.out).2.2
                                    have hcut35 := cut_to (P := Try.prog) 22 9 .i64 Try.underlying22 hi035 (some ad208) y202.length c14 (ji32) (of_decide_eq_true (by first | (with_reducible assumption) | assumption)) q35 hroom35
                                    have hr35 := Kd.F_take (m := ((ji32) : Int).toNat) hC35 (by omega)
                                    have hy35 : y214.length = ((ji32) : Int).toNat := (by rw [Ny214.out, List.length_take]; omega)
                                    rw [← Ny214.out] at hr35
                                    rw [← hy35] at hcut35
                                    have HO218 := Aside0.mk (show Kd.V Kd.string 9 _ w.heap.size _ (.slice (some ad208) y214.length c14) y214 from Kd.V_mk (by omega) hr35)
                                    have HC218 := Aside0.mk (show y214.length ≤ c14 from by omega)
                                    clear hr35 hC35 hroom35 hi035 hsz35
                                    have KY35 := Aside0.mk hy35
                                    clear hy35
                                    replace q35 := eq_true q35
                                    have hcz36_0 : wr.cell? ⟨gb198, 0, none⟩ = some (.int .i64 0) := (blk_cell BK198.out 0).trans rfl
                                    have hcz36_1 : wr.cell? ⟨gb198, 1, none⟩ = some (.int .i64 0) := (blk_cell BK198.out 1).trans rfl
                                    have hcz36_2 : wr.cell? ⟨gb198, 2, none⟩ = some (.slice none 0 0) := (blk_cell BK198.out 2).trans rfl
                                    have hfz36_0 := blk_frozen BK198.out 0
                                    have hfz36_1 := blk_frozen BK198.out 1
                                    have hfz36_2 := blk_frozen BK198.out 2
                                    go_wp2
                                    repeat (go_quiet (fail); try go_wp2)
                                    refine bodyPost_ret (results_cell_row rfl _ _ gb198 27 #[.int .i64 x5_2, .int .i64 (wrap64 ((z_.length : Int) - x8_2)), .slice (some ad208) y214.length c14] (0, 0) _ rfl (by (with_reducible repeat (first | refine blk_drewN ?_ _ | refine blk_drew ?_ | refine blk_alloc ?_ _)); refine blk_put (cs := #[.int .i64 x5_2, .int .i64 (wrap64 ((z_.length : Int) - x8_2)), .slice none 0 0]) ?_ 2 _ rfl; (with_reducible repeat (first | refine blk_drewN ?_ _ | refine blk_drew ?_ | refine blk_alloc ?_ _)); refine blk_put (cs := #[.int .i64 x5_2, .int .i64 0, .slice none 0 0]) ?_ 1 _ rfl; (with_reducible repeat (first | refine blk_drewN ?_ _ | refine blk_drew ?_ | refine blk_alloc ?_ _)); refine blk_put (cs := #[.int .i64 0, .int .i64 0, .slice none 0 0]) ?_ 0 _ rfl; (with_reducible repeat (first | refine blk_drewN ?_ _ | refine blk_drew ?_ | refine blk_alloc ?_ _)); exact BK198.out) Try.underlying27 rfl (by kernel_rfl)) rfl ?_
                                    exact ⟨_, by first | rfl | (simp [errW_none, errW_some] <;> rfl) | (simp only [← hji17, ← hji20, ← hji32]; first | rfl | (simp [errW_none, errW_some] <;> rfl)) | (simp [*, errW_none, errW_some] <;> rfl), by (with_reducible repeat (first | apply Kd.V_alloc | apply Kd.V_drewN | apply Kd.V_drew)); exact Kd.V_mono (Kd.V_far (p := ⟨gb198, 2, none⟩) (Kd.V_far (p := ⟨gb198, 1, none⟩) (Kd.V_far (p := ⟨gb198, 0, none⟩) (Kd.V_mono HO218.out (fun k_ hk => (⟨hk, hk.2⟩ : _ ∧ k_ ≠ gb198))) (fun _ hk => hk.2) (.int .i64 x5_2)) (fun _ hk => hk.2) (.int .i64 (wrap64 ((z_.length : Int) - x8_2)))) (fun _ hk => hk.2) (.slice (some ad208) y214.length c14)) (fun _ hk => hk.1.1), by repeat (first | (with_reducible first | exact HB.out | apply below_alloc | apply pw_below_drewN | apply below_drew1 | refine below_set ?_ GE198.out) | exact HB.out)⟩
                                  · rw [if_neg c34] at H
                                    exact absurd H (by simp)
                                · rw [if_neg c33] at H
                                  exact absurd H (by simp)
                          · rw [if_neg c22] at H
                            exact absurd H (by simp)
                        · rw [if_neg c21] at H
                          exact absurd H (by simp)
                      · rw [if_neg c19] at H
                        exact absurd H (by simp)
                    · rw [if_neg c18] at H
                      exact absurd H (by simp)
                  · rw [if_neg c16] at H
                    have c16b0 : decide (x8_2 < (y202.length : Int)) = false := decide_eq_false c16
                    clear c16
                    by_cases c37 : (z_.length : Int) = 0
                    · rw [if_pos c37] at H
                      have c37b0 : ((z_.length : Int) == 0) = true := beq_iff_eq.mpr c37
                      have c37b1 : ((z_.length : Int) != 0) = false := bne_eq_false_iff_eq.mpr c37
                      clear c37
                      by_cases c38 : (y202.length : Int) = 0
                      · rw [if_pos c38] at H
                        have c38b0 : ((y202.length : Int) == 0) = true := beq_iff_eq.mpr c38
                        have c38b1 : ((y202.length : Int) != 0) = false := bne_eq_false_iff_eq.mpr c38
                        clear c38
                        simp only [Option.some.injEq, Prod.mk.injEq] at H
                        obtain ⟨rfl, rfl, rfl⟩ := H
                        have hcz39_0 : wr.cell? ⟨gb198, 0, none⟩ = some (.int .i64 0) := (blk_cell BK198.out 0).trans rfl
                        have hcz39_1 : wr.cell? ⟨gb198, 1, none⟩ = some (.int .i64 0) := (blk_cell BK198.out 1).trans rfl
                        have hcz39_2 : wr.cell? ⟨gb198, 2, none⟩ = some (.slice none 0 0) := (blk_cell BK198.out 2).trans rfl
                        have hfz39_0 := blk_frozen BK198.out 0
                        have hfz39_1 := blk_frozen BK198.out 1
                        have hfz39_2 := blk_frozen BK198.out 2
                        go_wp2
                        repeat (go_quiet (fail); try go_wp2)
                        refine bodyPost_ret (results_cell_row rfl _ _ gb198 27 #[.int .i64 0, .int .i64 0, .slice none 0 0] (0, 0) _ rfl (by (with_reducible repeat (first | refine blk_drewN ?_ _ | refine blk_drew ?_ | refine blk_alloc ?_ _)); refine blk_put (cs := #[.int .i64 0, .int .i64 0, .slice none 0 0]) ?_ 2 _ rfl; (with_reducible repeat (first | refine blk_drewN ?_ _ | refine blk_drew ?_ | refine blk_alloc ?_ _)); refine blk_put (cs := #[.int .i64 0, .int .i64 0, .slice none 0 0]) ?_ 1 _ rfl; (with_reducible repeat (first | refine blk_drewN ?_ _ | refine blk_drew ?_ | refine blk_alloc ?_ _)); refine blk_put (cs := #[.int .i64 0, .int .i64 0, .slice none 0 0]) ?_ 0 _ rfl; (with_reducible repeat (first | refine blk_drewN ?_ _ | refine blk_drew ?_ | refine blk_alloc ?_ _)); exact BK198.out) Try.underlying27 rfl (by kernel_rfl)) rfl ?_
                        exact ⟨_, by first | rfl | (simp [errW_none, errW_some] <;> rfl) | (simp [*, errW_none, errW_some] <;> rfl), (by first | exact Kd.V_nil _ _ _ _ _ | exact Kd.V_mono (Kd.R_V (Kd.R_nil _ _ _ w.heap.size (fun k => w.heap.size ≤ k))) (fun k_ hk => .inr hk)), by repeat (first | (with_reducible first | exact HB.out | apply below_alloc | apply pw_below_drewN | apply below_drew1 | refine below_set ?_ GE198.out) | exact HB.out)⟩
                      · rw [if_neg c38] at H
                        have c38b0 : ((y202.length : Int) == 0) = false := beq_eq_false_iff_ne.mpr c38
                        have c38b1 : ((y202.length : Int) != 0) = true := bne_iff_ne.mpr c38
                        have c38b2 : ¬ (y202 = []) := fun h_ => c38 (by rw [h_]; rfl)
                        obtain ⟨ji40, hji40⟩ : ∃ j_ : Int, (wrap64 ((y202.length : Int) - x8_2)) = j_ := ⟨_, rfl⟩
                        replace H : (if 0 ≤ (ji40) then (if (ji40) ≤ (y202.length : Int) then (some (x5_2, wrap64 ((z_.length : Int) - x8_2), (y202.take ((ji40) : Int).toNat))) else (none)) else (none)) = some (r1, r2, r3) := by first | (rw [hji40] at H; exact H) | (simp only [hji40] at H ⊢; exact H)
                        have hji40w : (IntKind.i64.wrap ((y202.length : Int) - x8_2)) = ji40 := (i64_w _).trans hji40
                        by_cases c41 : 0 ≤ (ji40)
                        · rw [if_pos c41] at H
                          have c41b0 := eq_true c41
                          have c41b1 : decide (0 ≤ (ji40)) = true := decide_eq_true c41
                          clear c41
                          by_cases c42 : (ji40) ≤ (y202.length : Int)
                          · rw [if_pos c42] at H
                            have c42b0 := eq_true c42
                            have c42b1 : decide ((ji40) ≤ (y202.length : Int)) = true := decide_eq_true c42
                            clear c42
                            obtain ⟨y219, hy219⟩ : ∃ y_ : List ByteArray, y_ = (y202.take ((ji40) : Int).toNat) := ⟨_, rfl⟩
                            replace H : (some (x5_2, wrap64 ((z_.length : Int) - x8_2), y219)) = some (r1, r2, r3) := by first | (rw [hy219]; with_reducible exact H) | (have H2_ := (Option.bind_some _ _).symm.trans H; rw [hy219]; with_reducible exact H2_) | (have H2_ := (Option.bind_some _ _).symm.trans H; with_reducible exact H2_) | with_reducible exact H | (rw [hy219]; exact H) | exact H
                            have Ny219 := Aside0.mk hy219
                            clear hy219
                            simp only [Option.some.injEq, Prod.mk.injEq] at H
                            obtain ⟨rfl, rfl, rfl⟩ := H
                            have q43 : ((ji40) : Int) ≤ ((y202.length : Int) : Int) := of_decide_eq_true (by first | (with_reducible assumption) | assumption)
                            obtain ⟨i043, hi043, _, hsz43, _⟩ := info_parts info9
                            have hroom43 : y202.length ≤ c14 := (Kd.V_reads' HO_7.out).2.1
                            have hC43 : Kd.F Kd.string _ _ A14 y202.length y202 := (Kd.V_at (base := w.heap.size) HO_7.out).2.2
                            have hcut43 := cut_to (P := Try.prog) 22 9 .i64 Try.underlying22 hi043 A14 y202.length c14 (ji40) (of_decide_eq_true (by first | (with_reducible assumption) | assumption)) q43 hroom43
                            have hr43 := Kd.F_take (m := ((ji40) : Int).toNat) hC43 (by omega)
                            have hy43 : y219.length = ((ji40) : Int).toNat := (by rw [Ny219.out, List.length_take]; omega)
                            rw [← Ny219.out] at hr43
                            rw [← hy43] at hcut43
                            have HO223 := Aside0.mk (show Kd.V Kd.string 9 _ w.heap.size _ (.slice A14 y219.length c14) y219 from Kd.V_mk (by omega) hr43)
                            have HC223 := Aside0.mk (show y219.length ≤ c14 from by omega)
                            clear hr43 hC43 hroom43 hi043 hsz43
                            have KY43 := Aside0.mk hy43
                            clear hy43
                            replace q43 := eq_true q43
                            have hcz44_0 : wr.cell? ⟨gb198, 0, none⟩ = some (.int .i64 0) := (blk_cell BK198.out 0).trans rfl
                            have hcz44_1 : wr.cell? ⟨gb198, 1, none⟩ = some (.int .i64 0) := (blk_cell BK198.out 1).trans rfl
                            have hcz44_2 : wr.cell? ⟨gb198, 2, none⟩ = some (.slice none 0 0) := (blk_cell BK198.out 2).trans rfl
                            have hfz44_0 := blk_frozen BK198.out 0
                            have hfz44_1 := blk_frozen BK198.out 1
                            have hfz44_2 := blk_frozen BK198.out 2
                            go_wp2
                            repeat (go_quiet (fail); try go_wp2)
                            refine bodyPost_ret (results_cell_row rfl _ _ gb198 27 #[.int .i64 x5_2, .int .i64 (wrap64 ((z_.length : Int) - x8_2)), .slice A14 y219.length c14] (0, 0) _ rfl (by (with_reducible repeat (first | refine blk_drewN ?_ _ | refine blk_drew ?_ | refine blk_alloc ?_ _)); refine blk_put (cs := #[.int .i64 x5_2, .int .i64 (wrap64 ((z_.length : Int) - x8_2)), .slice none 0 0]) ?_ 2 _ rfl; (with_reducible repeat (first | refine blk_drewN ?_ _ | refine blk_drew ?_ | refine blk_alloc ?_ _)); refine blk_put (cs := #[.int .i64 x5_2, .int .i64 0, .slice none 0 0]) ?_ 1 _ rfl; (with_reducible repeat (first | refine blk_drewN ?_ _ | refine blk_drew ?_ | refine blk_alloc ?_ _)); refine blk_put (cs := #[.int .i64 0, .int .i64 0, .slice none 0 0]) ?_ 0 _ rfl; (with_reducible repeat (first | refine blk_drewN ?_ _ | refine blk_drew ?_ | refine blk_alloc ?_ _)); exact BK198.out) Try.underlying27 rfl (by kernel_rfl)) rfl ?_
                            exact ⟨_, by first | rfl | (simp [errW_none, errW_some] <;> rfl) | (simp only [← hji40]; first | rfl | (simp [errW_none, errW_some] <;> rfl)) | (simp [*, errW_none, errW_some] <;> rfl), by (with_reducible repeat (first | apply Kd.V_alloc | apply Kd.V_drewN | apply Kd.V_drew)); exact Kd.V_mono (Kd.V_far (p := ⟨gb198, 2, none⟩) (Kd.V_far (p := ⟨gb198, 1, none⟩) (Kd.V_far (p := ⟨gb198, 0, none⟩) (Kd.V_mono HO223.out (fun k_ hk => (⟨hk, hk.2⟩ : _ ∧ k_ ≠ gb198))) (fun _ hk => hk.2) (.int .i64 x5_2)) (fun _ hk => hk.2) (.int .i64 (wrap64 ((z_.length : Int) - x8_2)))) (fun _ hk => hk.2) (.slice A14 y219.length c14)) (fun _ hk => hk.1.1), by repeat (first | (with_reducible first | exact HB.out | apply below_alloc | apply pw_below_drewN | apply below_drew1 | refine below_set ?_ GE198.out) | exact HB.out)⟩
                          · rw [if_neg c42] at H
                            exact absurd H (by simp)
                        · rw [if_neg c41] at H
                          exact absurd H (by simp)
                    · rw [if_neg c37] at H
                      have c37b0 : ((z_.length : Int) == 0) = false := beq_eq_false_iff_ne.mpr c37
                      have c37b1 : ((z_.length : Int) != 0) = true := bne_iff_ne.mpr c37
                      have c37b2 : ¬ (z_ = []) := fun h_ => c37 (by rw [h_]; rfl)
                      obtain ⟨ji45, hji45⟩ : ∃ j_ : Int, (wrap64 ((y202.length : Int) - x8_2)) = j_ := ⟨_, rfl⟩
                      replace H : (if 0 ≤ (ji45) then (if (ji45) ≤ (y202.length : Int) then (some (x5_2, wrap64 ((z_.length : Int) - x8_2), (y202.take ((ji45) : Int).toNat))) else (none)) else (none)) = some (r1, r2, r3) := by first | (rw [hji45] at H; exact H) | (simp only [hji45] at H ⊢; exact H)
                      have hji45w : (IntKind.i64.wrap ((y202.length : Int) - x8_2)) = ji45 := (i64_w _).trans hji45
                      by_cases c46 : 0 ≤ (ji45)
                      · rw [if_pos c46] at H
                        have c46b0 := eq_true c46
                        have c46b1 : decide (0 ≤ (ji45)) = true := decide_eq_true c46
                        clear c46
                        by_cases c47 : (ji45) ≤ (y202.length : Int)
                        · rw [if_pos c47] at H
                          have c47b0 := eq_true c47
                          have c47b1 : decide ((ji45) ≤ (y202.length : Int)) = true := decide_eq_true c47
                          clear c47
                          obtain ⟨y224, hy224⟩ : ∃ y_ : List ByteArray, y_ = (y202.take ((ji45) : Int).toNat) := ⟨_, rfl⟩
                          replace H : (some (x5_2, wrap64 ((z_.length : Int) - x8_2), y224)) = some (r1, r2, r3) := by first | (rw [hy224]; with_reducible exact H) | (have H2_ := (Option.bind_some _ _).symm.trans H; rw [hy224]; with_reducible exact H2_) | (have H2_ := (Option.bind_some _ _).symm.trans H; with_reducible exact H2_) | with_reducible exact H | (rw [hy224]; exact H) | exact H
                          have Ny224 := Aside0.mk hy224
                          clear hy224
                          simp only [Option.some.injEq, Prod.mk.injEq] at H
                          obtain ⟨rfl, rfl, rfl⟩ := H
                          have q48 : ((ji45) : Int) ≤ ((y202.length : Int) : Int) := of_decide_eq_true (by first | (with_reducible assumption) | assumption)
                          obtain ⟨i048, hi048, _, hsz48, _⟩ := info_parts info9
                          have hroom48 : y202.length ≤ c14 := (Kd.V_reads' HO_7.out).2.1
                          have hC48 : Kd.F Kd.string _ _ A14 y202.length y202 := (Kd.V_at (base := w.heap.size) HO_7.out).2.2
                          have hcut48 := cut_to (P := Try.prog) 22 9 .i64 Try.underlying22 hi048 A14 y202.length c14 (ji45) (of_decide_eq_true (by first | (with_reducible assumption) | assumption)) q48 hroom48
                          have hr48 := Kd.F_take (m := ((ji45) : Int).toNat) hC48 (by omega)
                          have hy48 : y224.length = ((ji45) : Int).toNat := (by rw [Ny224.out, List.length_take]; omega)
                          rw [← Ny224.out] at hr48
                          rw [← hy48] at hcut48
                          have HO228 := Aside0.mk (show Kd.V Kd.string 9 _ w.heap.size _ (.slice A14 y224.length c14) y224 from Kd.V_mk (by omega) hr48)
                          have HC228 := Aside0.mk (show y224.length ≤ c14 from by omega)
                          clear hr48 hC48 hroom48 hi048 hsz48
                          have KY48 := Aside0.mk hy48
                          clear hy48
                          replace q48 := eq_true q48
                          have hcz49_0 : wr.cell? ⟨gb198, 0, none⟩ = some (.int .i64 0) := (blk_cell BK198.out 0).trans rfl
                          have hcz49_1 : wr.cell? ⟨gb198, 1, none⟩ = some (.int .i64 0) := (blk_cell BK198.out 1).trans rfl
                          have hcz49_2 : wr.cell? ⟨gb198, 2, none⟩ = some (.slice none 0 0) := (blk_cell BK198.out 2).trans rfl
                          have hfz49_0 := blk_frozen BK198.out 0
                          have hfz49_1 := blk_frozen BK198.out 1
                          have hfz49_2 := blk_frozen BK198.out 2
                          go_wp2
                          repeat (go_quiet (fail); try go_wp2)
                          refine bodyPost_ret (results_cell_row rfl _ _ gb198 27 #[.int .i64 x5_2, .int .i64 (wrap64 ((z_.length : Int) - x8_2)), .slice A14 y224.length c14] (0, 0) _ rfl (by (with_reducible repeat (first | refine blk_drewN ?_ _ | refine blk_drew ?_ | refine blk_alloc ?_ _)); refine blk_put (cs := #[.int .i64 x5_2, .int .i64 (wrap64 ((z_.length : Int) - x8_2)), .slice none 0 0]) ?_ 2 _ rfl; (with_reducible repeat (first | refine blk_drewN ?_ _ | refine blk_drew ?_ | refine blk_alloc ?_ _)); refine blk_put (cs := #[.int .i64 x5_2, .int .i64 0, .slice none 0 0]) ?_ 1 _ rfl; (with_reducible repeat (first | refine blk_drewN ?_ _ | refine blk_drew ?_ | refine blk_alloc ?_ _)); refine blk_put (cs := #[.int .i64 0, .int .i64 0, .slice none 0 0]) ?_ 0 _ rfl; (with_reducible repeat (first | refine blk_drewN ?_ _ | refine blk_drew ?_ | refine blk_alloc ?_ _)); exact BK198.out) Try.underlying27 rfl (by kernel_rfl)) rfl ?_
                          exact ⟨_, by first | rfl | (simp [errW_none, errW_some] <;> rfl) | (simp only [← hji45]; first | rfl | (simp [errW_none, errW_some] <;> rfl)) | (simp [*, errW_none, errW_some] <;> rfl), by (with_reducible repeat (first | apply Kd.V_alloc | apply Kd.V_drewN | apply Kd.V_drew)); exact Kd.V_mono (Kd.V_far (p := ⟨gb198, 2, none⟩) (Kd.V_far (p := ⟨gb198, 1, none⟩) (Kd.V_far (p := ⟨gb198, 0, none⟩) (Kd.V_mono HO228.out (fun k_ hk => (⟨hk, hk.2⟩ : _ ∧ k_ ≠ gb198))) (fun _ hk => hk.2) (.int .i64 x5_2)) (fun _ hk => hk.2) (.int .i64 (wrap64 ((z_.length : Int) - x8_2)))) (fun _ hk => hk.2) (.slice A14 y224.length c14)) (fun _ hk => hk.1.1), by repeat (first | (with_reducible first | exact HB.out | apply below_alloc | apply pw_below_drewN | apply below_drew1 | refine below_set ?_ GE198.out) | exact HB.out)⟩
                        · rw [if_neg c47] at H
                          exact absurd H (by simp)
                      · rw [if_neg c46] at H
                        exact absurd H (by simp)
                · rw [if_neg c15] at H
                  have c15b0 : decide (x8_2 < (z_.length : Int)) = false := decide_eq_false c15
                  clear c15
                  by_cases c50 : (z_.length : Int) = 0
                  · rw [if_pos c50] at H
                    have c50b0 : ((z_.length : Int) == 0) = true := beq_iff_eq.mpr c50
                    have c50b1 : ((z_.length : Int) != 0) = false := bne_eq_false_iff_eq.mpr c50
                    clear c50
                    by_cases c51 : (y202.length : Int) = 0
                    · rw [if_pos c51] at H
                      have c51b0 : ((y202.length : Int) == 0) = true := beq_iff_eq.mpr c51
                      have c51b1 : ((y202.length : Int) != 0) = false := bne_eq_false_iff_eq.mpr c51
                      clear c51
                      simp only [Option.some.injEq, Prod.mk.injEq] at H
                      obtain ⟨rfl, rfl, rfl⟩ := H
                      have hcz52_0 : wr.cell? ⟨gb198, 0, none⟩ = some (.int .i64 0) := (blk_cell BK198.out 0).trans rfl
                      have hcz52_1 : wr.cell? ⟨gb198, 1, none⟩ = some (.int .i64 0) := (blk_cell BK198.out 1).trans rfl
                      have hcz52_2 : wr.cell? ⟨gb198, 2, none⟩ = some (.slice none 0 0) := (blk_cell BK198.out 2).trans rfl
                      have hfz52_0 := blk_frozen BK198.out 0
                      have hfz52_1 := blk_frozen BK198.out 1
                      have hfz52_2 := blk_frozen BK198.out 2
                      go_wp2
                      repeat (go_quiet (fail); try go_wp2)
                      refine bodyPost_ret (results_cell_row rfl _ _ gb198 27 #[.int .i64 0, .int .i64 0, .slice none 0 0] (0, 0) _ rfl (by (with_reducible repeat (first | refine blk_drewN ?_ _ | refine blk_drew ?_ | refine blk_alloc ?_ _)); refine blk_put (cs := #[.int .i64 0, .int .i64 0, .slice none 0 0]) ?_ 2 _ rfl; (with_reducible repeat (first | refine blk_drewN ?_ _ | refine blk_drew ?_ | refine blk_alloc ?_ _)); refine blk_put (cs := #[.int .i64 0, .int .i64 0, .slice none 0 0]) ?_ 1 _ rfl; (with_reducible repeat (first | refine blk_drewN ?_ _ | refine blk_drew ?_ | refine blk_alloc ?_ _)); refine blk_put (cs := #[.int .i64 0, .int .i64 0, .slice none 0 0]) ?_ 0 _ rfl; (with_reducible repeat (first | refine blk_drewN ?_ _ | refine blk_drew ?_ | refine blk_alloc ?_ _)); exact BK198.out) Try.underlying27 rfl (by kernel_rfl)) rfl ?_
                      exact ⟨_, by first | rfl | (simp [errW_none, errW_some] <;> rfl) | (simp [*, errW_none, errW_some] <;> rfl), (by first | exact Kd.V_nil _ _ _ _ _ | exact Kd.V_mono (Kd.R_V (Kd.R_nil _ _ _ w.heap.size (fun k => w.heap.size ≤ k))) (fun k_ hk => .inr hk)), by repeat (first | (with_reducible first | exact HB.out | apply below_alloc | apply pw_below_drewN | apply below_drew1 | refine below_set ?_ GE198.out) | exact HB.out)⟩
                    · rw [if_neg c51] at H
                      have c51b0 : ((y202.length : Int) == 0) = false := beq_eq_false_iff_ne.mpr c51
                      have c51b1 : ((y202.length : Int) != 0) = true := bne_iff_ne.mpr c51
                      have c51b2 : ¬ (y202 = []) := fun h_ => c51 (by rw [h_]; rfl)
                      obtain ⟨ji53, hji53⟩ : ∃ j_ : Int, (wrap64 ((y202.length : Int) - x8_2)) = j_ := ⟨_, rfl⟩
                      replace H : (if 0 ≤ (ji53) then (if (ji53) ≤ (y202.length : Int) then (some (x5_2, wrap64 ((z_.length : Int) - x8_2), (y202.take ((ji53) : Int).toNat))) else (none)) else (none)) = some (r1, r2, r3) := by first | (rw [hji53] at H; exact H) | (simp only [hji53] at H ⊢; exact H)
                      have hji53w : (IntKind.i64.wrap ((y202.length : Int) - x8_2)) = ji53 := (i64_w _).trans hji53
                      by_cases c54 : 0 ≤ (ji53)
                      · rw [if_pos c54] at H
                        have c54b0 := eq_true c54
                        have c54b1 : decide (0 ≤ (ji53)) = true := decide_eq_true c54
                        clear c54
                        by_cases c55 : (ji53) ≤ (y202.length : Int)
                        · rw [if_pos c55] at H
                          have c55b0 := eq_true c55
                          have c55b1 : decide ((ji53) ≤ (y202.length : Int)) = true := decide_eq_true c55
                          clear c55
                          obtain ⟨y229, hy229⟩ : ∃ y_ : List ByteArray, y_ = (y202.take ((ji53) : Int).toNat) := ⟨_, rfl⟩
                          replace H : (some (x5_2, wrap64 ((z_.length : Int) - x8_2), y229)) = some (r1, r2, r3) := by first | (rw [hy229]; with_reducible exact H) | (have H2_ := (Option.bind_some _ _).symm.trans H; rw [hy229]; with_reducible exact H2_) | (have H2_ := (Option.bind_some _ _).symm.trans H; with_reducible exact H2_) | with_reducible exact H | (rw [hy229]; exact H) | exact H
                          have Ny229 := Aside0.mk hy229
                          clear hy229
                          simp only [Option.some.injEq, Prod.mk.injEq] at H
                          obtain ⟨rfl, rfl, rfl⟩ := H
                          have q56 : ((ji53) : Int) ≤ ((y202.length : Int) : Int) := of_decide_eq_true (by first | (with_reducible assumption) | assumption)
                          obtain ⟨i056, hi056, _, hsz56, _⟩ := info_parts info9
                          have hroom56 : y202.length ≤ c14 := (Kd.V_reads' HO_7.out).2.1
                          have hC56 : Kd.F Kd.string _ _ A14 y202.length y202 := (Kd.V_at (base := w.heap.size) HO_7.out).2.2
                          have hcut56 := cut_to (P := Try.prog) 22 9 .i64 Try.underlying22 hi056 A14 y202.length c14 (ji53) (of_decide_eq_true (by first | (with_reducible assumption) | assumption)) q56 hroom56
                          have hr56 := Kd.F_take (m := ((ji53) : Int).toNat) hC56 (by omega)
                          have hy56 : y229.length = ((ji53) : Int).toNat := (by rw [Ny229.out, List.length_take]; omega)
                          rw [← Ny229.out] at hr56
                          rw [← hy56] at hcut56
                          have HO233 := Aside0.mk (show Kd.V Kd.string 9 _ w.heap.size _ (.slice A14 y229.length c14) y229 from Kd.V_mk (by omega) hr56)
                          have HC233 := Aside0.mk (show y229.length ≤ c14 from by omega)
                          clear hr56 hC56 hroom56 hi056 hsz56
                          have KY56 := Aside0.mk hy56
                          clear hy56
                          replace q56 := eq_true q56
                          have hcz57_0 : wr.cell? ⟨gb198, 0, none⟩ = some (.int .i64 0) := (blk_cell BK198.out 0).trans rfl
                          have hcz57_1 : wr.cell? ⟨gb198, 1, none⟩ = some (.int .i64 0) := (blk_cell BK198.out 1).trans rfl
                          have hcz57_2 : wr.cell? ⟨gb198, 2, none⟩ = some (.slice none 0 0) := (blk_cell BK198.out 2).trans rfl
                          have hfz57_0 := blk_frozen BK198.out 0
                          have hfz57_1 := blk_frozen BK198.out 1
                          have hfz57_2 := blk_frozen BK198.out 2
                          go_wp2
                          repeat (go_quiet (fail); try go_wp2)
                          refine bodyPost_ret (results_cell_row rfl _ _ gb198 27 #[.int .i64 x5_2, .int .i64 (wrap64 ((z_.length : Int) - x8_2)), .slice A14 y229.length c14] (0, 0) _ rfl (by (with_reducible repeat (first | refine blk_drewN ?_ _ | refine blk_drew ?_ | refine blk_alloc ?_ _)); refine blk_put (cs := #[.int .i64 x5_2, .int .i64 (wrap64 ((z_.length : Int) - x8_2)), .slice none 0 0]) ?_ 2 _ rfl; (with_reducible repeat (first | refine blk_drewN ?_ _ | refine blk_drew ?_ | refine blk_alloc ?_ _)); refine blk_put (cs := #[.int .i64 x5_2, .int .i64 0, .slice none 0 0]) ?_ 1 _ rfl; (with_reducible repeat (first | refine blk_drewN ?_ _ | refine blk_drew ?_ | refine blk_alloc ?_ _)); refine blk_put (cs := #[.int .i64 0, .int .i64 0, .slice none 0 0]) ?_ 0 _ rfl; (with_reducible repeat (first | refine blk_drewN ?_ _ | refine blk_drew ?_ | refine blk_alloc ?_ _)); exact BK198.out) Try.underlying27 rfl (by kernel_rfl)) rfl ?_
                          exact ⟨_, by first | rfl | (simp [errW_none, errW_some] <;> rfl) | (simp only [← hji53]; first | rfl | (simp [errW_none, errW_some] <;> rfl)) | (simp [*, errW_none, errW_some] <;> rfl), by (with_reducible repeat (first | apply Kd.V_alloc | apply Kd.V_drewN | apply Kd.V_drew)); exact Kd.V_mono (Kd.V_far (p := ⟨gb198, 2, none⟩) (Kd.V_far (p := ⟨gb198, 1, none⟩) (Kd.V_far (p := ⟨gb198, 0, none⟩) (Kd.V_mono HO233.out (fun k_ hk => (⟨hk, hk.2⟩ : _ ∧ k_ ≠ gb198))) (fun _ hk => hk.2) (.int .i64 x5_2)) (fun _ hk => hk.2) (.int .i64 (wrap64 ((z_.length : Int) - x8_2)))) (fun _ hk => hk.2) (.slice A14 y229.length c14)) (fun _ hk => hk.1.1), by repeat (first | (with_reducible first | exact HB.out | apply below_alloc | apply pw_below_drewN | apply below_drew1 | refine below_set ?_ GE198.out) | exact HB.out)⟩
                        · rw [if_neg c55] at H
                          exact absurd H (by simp)
                      · rw [if_neg c54] at H
                        exact absurd H (by simp)
                  · rw [if_neg c50] at H
                    have c50b0 : ((z_.length : Int) == 0) = false := beq_eq_false_iff_ne.mpr c50
                    have c50b1 : ((z_.length : Int) != 0) = true := bne_iff_ne.mpr c50
                    have c50b2 : ¬ (z_ = []) := fun h_ => c50 (by rw [h_]; rfl)
                    obtain ⟨ji58, hji58⟩ : ∃ j_ : Int, (wrap64 ((y202.length : Int) - x8_2)) = j_ := ⟨_, rfl⟩
                    replace H : (if 0 ≤ (ji58) then (if (ji58) ≤ (y202.length : Int) then (some (x5_2, wrap64 ((z_.length : Int) - x8_2), (y202.take ((ji58) : Int).toNat))) else (none)) else (none)) = some (r1, r2, r3) := by first | (rw [hji58] at H; exact H) | (simp only [hji58] at H ⊢; exact H)
                    have hji58w : (IntKind.i64.wrap ((y202.length : Int) - x8_2)) = ji58 := (i64_w _).trans hji58
                    by_cases c59 : 0 ≤ (ji58)
                    · rw [if_pos c59] at H
                      have c59b0 := eq_true c59
                      have c59b1 : decide (0 ≤ (ji58)) = true := decide_eq_true c59
                      clear c59
                      by_cases c60 : (ji58) ≤ (y202.length : Int)
                      · rw [if_pos c60] at H
                        have c60b0 := eq_true c60
                        have c60b1 : decide ((ji58) ≤ (y202.length : Int)) = true := decide_eq_true c60
                        clear c60
                        obtain ⟨y234, hy234⟩ : ∃ y_ : List ByteArray, y_ = (y202.take ((ji58) : Int).toNat) := ⟨_, rfl⟩
                        replace H : (some (x5_2, wrap64 ((z_.length : Int) - x8_2), y234)) = some (r1, r2, r3) := by first | (rw [hy234]; with_reducible exact H) | (have H2_ := (Option.bind_some _ _).symm.trans H; rw [hy234]; with_reducible exact H2_) | (have H2_ := (Option.bind_some _ _).symm.trans H; with_reducible exact H2_) | with_reducible exact H | (rw [hy234]; exact H) | exact H
                        have Ny234 := Aside0.mk hy234
                        clear hy234
                        simp only [Option.some.injEq, Prod.mk.injEq] at H
                        obtain ⟨rfl, rfl, rfl⟩ := H
                        have q61 : ((ji58) : Int) ≤ ((y202.length : Int) : Int) := of_decide_eq_true (by first | (with_reducible assumption) | assumption)
                        obtain ⟨i061, hi061, _, hsz61, _⟩ := info_parts info9
                        have hroom61 : y202.length ≤ c14 := (Kd.V_reads' HO_7.out).2.1
                        have hC61 : Kd.F Kd.string _ _ A14 y202.length y202 := (Kd.V_at (base := w.heap.size) HO_7.out).2.2
                        have hcut61 := cut_to (P := Try.prog) 22 9 .i64 Try.underlying22 hi061 A14 y202.length c14 (ji58) (of_decide_eq_true (by first | (with_reducible assumption) | assumption)) q61 hroom61
                        have hr61 := Kd.F_take (m := ((ji58) : Int).toNat) hC61 (by omega)
                        have hy61 : y234.length = ((ji58) : Int).toNat := (by rw [Ny234.out, List.length_take]; omega)
                        rw [← Ny234.out] at hr61
                        rw [← hy61] at hcut61
                        have HO238 := Aside0.mk (show Kd.V Kd.string 9 _ w.heap.size _ (.slice A14 y234.length c14) y234 from Kd.V_mk (by omega) hr61)
                        have HC238 := Aside0.mk (show y234.length ≤ c14 from by omega)
                        clear hr61 hC61 hroom61 hi061 hsz61
                        have KY61 := Aside0.mk hy61
                        clear hy61
                        replace q61 := eq_true q61
                        have hcz62_0 : wr.cell? ⟨gb198, 0, none⟩ = some (.int .i64 0) := (blk_cell BK198.out 0).trans rfl
                        have hcz62_1 : wr.cell? ⟨gb198, 1, none⟩ = some (.int .i64 0) := (blk_cell BK198.out 1).trans rfl
                        have hcz62_2 : wr.cell? ⟨gb198, 2, none⟩ = some (.slice none 0 0) := (blk_cell BK198.out 2).trans rfl
                        have hfz62_0 := blk_frozen BK198.out 0
                        have hfz62_1 := blk_frozen BK198.out 1
                        have hfz62_2 := blk_frozen BK198.out 2
                        go_wp2
                        repeat (go_quiet (fail); try go_wp2)
                        refine bodyPost_ret (results_cell_row rfl _ _ gb198 27 #[.int .i64 x5_2, .int .i64 (wrap64 ((z_.length : Int) - x8_2)), .slice A14 y234.length c14] (0, 0) _ rfl (by (with_reducible repeat (first | refine blk_drewN ?_ _ | refine blk_drew ?_ | refine blk_alloc ?_ _)); refine blk_put (cs := #[.int .i64 x5_2, .int .i64 (wrap64 ((z_.length : Int) - x8_2)), .slice none 0 0]) ?_ 2 _ rfl; (with_reducible repeat (first | refine blk_drewN ?_ _ | refine blk_drew ?_ | refine blk_alloc ?_ _)); refine blk_put (cs := #[.int .i64 x5_2, .int .i64 0, .slice none 0 0]) ?_ 1 _ rfl; (with_reducible repeat (first | refine blk_drewN ?_ _ | refine blk_drew ?_ | refine blk_alloc ?_ _)); refine blk_put (cs := #[.int .i64 0, .int .i64 0, .slice none 0 0]) ?_ 0 _ rfl; (with_reducible repeat (first | refine blk_drewN ?_ _ | refine blk_drew ?_ | refine blk_alloc ?_ _)); exact BK198.out) Try.underlying27 rfl (by kernel_rfl)) rfl ?_
                        exact ⟨_, by first | rfl | (simp [errW_none, errW_some] <;> rfl) | (simp only [← hji58]; first | rfl | (simp [errW_none, errW_some] <;> rfl)) | (simp [*, errW_none, errW_some] <;> rfl), by (with_reducible repeat (first | apply Kd.V_alloc | apply Kd.V_drewN | apply Kd.V_drew)); exact Kd.V_mono (Kd.V_far (p := ⟨gb198, 2, none⟩) (Kd.V_far (p := ⟨gb198, 1, none⟩) (Kd.V_far (p := ⟨gb198, 0, none⟩) (Kd.V_mono HO238.out (fun k_ hk => (⟨hk, hk.2⟩ : _ ∧ k_ ≠ gb198))) (fun _ hk => hk.2) (.int .i64 x5_2)) (fun _ hk => hk.2) (.int .i64 (wrap64 ((z_.length : Int) - x8_2)))) (fun _ hk => hk.2) (.slice A14 y234.length c14)) (fun _ hk => hk.1.1), by repeat (first | (with_reducible first | exact HB.out | apply below_alloc | apply pw_below_drewN | apply below_drew1 | refine below_set ?_ GE198.out) | exact HB.out)⟩
                      · rw [if_neg c60] at H
                        exact absurd H (by simp)
                    · rw [if_neg c59] at H
                      exact absurd H (by simp)
          · rw [if_neg c12] at H
            exact absurd H (by simp)
        · rw [if_neg c10] at H
          exact absurd H (by simp)
      · rw [if_neg c9] at H
        exact absurd H (by simp)


end Go.Proofs.Ytfpbohfefliljaa.MDeltaPatches
end
section
namespace Go.Proofs.Ytfpbohfefliljaa.MDeltaPatches
open Go Go.Proofs Go.RowKit Go.Proofs.YtfpbohfefliljaaW.PrintWords Go.Proofs.YtfpbohfefliljaaW.PrintLast Go.Proofs.YtfpbohfefliljaaW.PrintMore MD
set_option linter.unusedVariables false
theorem wr_id' (x : Int) (h0 : -100000 ≤ x) (h1 : x ≤ 100000) : wrap64 x = x := by unfold wrap64; omega
theorem wr_sub' (m p : Nat) (h : p ≤ m) (hm : m ≤ 100000) : wrap64 ((m : Int) - (p : Int)) = ((m - p : Nat) : Int) := (wr_id' _ (by omega) (by omega)).trans (by omega)
theorem wr_idx' (m s : Nat) (h : s < m) (hm : m ≤ 100000) : wrap64 ((wrap64 ((m : Int) - 1)) - (s : Int)) = ((m - 1 - s : Nat) : Int) := by
  rw [(wr_id' _ (by omega) (by omega) : wrap64 ((m : Int) - 1) = _)]
  exact (wr_id' _ (by omega) (by omega)).trans (by omega)
theorem wr_suc' (s : Nat) (h : s ≤ 1000) : wrap64 ((s : Int) + 1) = ((s + 1 : Nat) : Int) := (wr_id' _ (by omega) (by omega)).trans (by omega)
theorem rd_at' (l : List ByteArray) (i : Nat) : rdOf ByteArray.empty l (i : Int) = l.getD i ByteArray.empty := by unfold rdOf; rw [Int.toNat_natCast]
theorem text_eq' {a b : ByteArray} : a.toList = b.toList ↔ a = b := by
  constructor
  · intro h
    rw [Lib.toList_data, Lib.toList_data] at h
    cases a
    cases b
    simp only [Array.toList_inj] at h
    rw [h]
  · intro h
    rw [h]
def resR (p : Int) (X Y : List ByteArray) (s : Nat) : Int × Int × List ByteArray := if X.length = 0 ∧ Y.length = 0 then (0, 0, []) else (p, ((X.length - s : Nat) : Int), Y.take (Y.length - s))
theorem tail_R (p : Int) (X Y : List ByteArray) (s : Nat) (hx : X.length ≤ 1000) (hy : Y.length ≤ 1000) (h1 : s ≤ X.length) (h2 : s ≤ Y.length) :
    (if (X.length : Int) = 0 then (if (Y.length : Int) = 0 then (some ((0 : Int), (0 : Int), ([] : List ByteArray))) else (if 0 ≤ (wrap64 ((Y.length : Int) - (s : Int))) then (if (wrap64 ((Y.length : Int) - (s : Int))) ≤ (Y.length : Int) then (some (p, wrap64 ((X.length : Int) - (s : Int)), (Y.take ((wrap64 ((Y.length : Int) - (s : Int))) : Int).toNat))) else (none)) else (none))) else (if 0 ≤ (wrap64 ((Y.length : Int) - (s : Int))) then (if (wrap64 ((Y.length : Int) - (s : Int))) ≤ (Y.length : Int) then (some (p, wrap64 ((X.length : Int) - (s : Int)), (Y.take ((wrap64 ((Y.length : Int) - (s : Int))) : Int).toNat))) else (none)) else (none))) = some (resR p X Y s) := by
  have d2 : Y.length ≤ 100000 := by omega
  have d6 : X.length ≤ 100000 := by omega
  have c1 : (0 : Int) ≤ ((Y.length - s : Nat) : Int) := by omega
  have c3 : ((Y.length - s : Nat) : Int) ≤ (Y.length : Int) := by omega
  have e1 := wr_sub' Y.length s h2 d2
  have e3 := wr_sub' X.length s h1 d6
  rw [e1, e3, Int.toNat_natCast, if_pos c1, if_pos c3]
  clear e1 e3
  unfold resR
  by_cases h3 : X.length = 0
  · rw [if_pos (by omega)]
    by_cases h4 : Y.length = 0
    · rw [if_pos (by omega), if_pos ⟨h3, h4⟩]
    · rw [if_neg (by omega), if_neg (fun h => h4 h.2)]
  · rw [if_neg (by omega), if_neg (fun h => h3 h.1)]
theorem rev_get (X : List ByteArray) (s : Nat) (h : s < X.length) : X.reverse[s]? = some (X.getD (X.length - 1 - s) ByteArray.empty) := by
  rw [List.getElem?_reverse h, List.getD_eq_getElem?_getD, List.getElem?_eq_getElem (by omega)]
  rfl
theorem l1_ref (p : Int) (X Y : List ByteArray) (hx : X.length ≤ 1000) (hy : Y.length ≤ 1000) : ∀ (d s k : Nat), X.length - s = d → d < k → s ≤ X.length → s ≤ Y.length → X.reverse.take s = Y.reverse.take s →
    whirligigref19_Diff.l1 k p X Y s = some (resR p X Y (pre X.reverse Y.reverse)) := by
  intro d
  induction d with
  | zero =>
    intro s k hd hk h1 h2 ht
    obtain ⟨k, rfl⟩ : ∃ j, k = j + 1 := ⟨k - 1, by omega⟩
    have hp : pre X.reverse Y.reverse = s := pre_of s _ _ (by simpa using h1) (by simpa using h2) ht (.inl (by rw [List.length_reverse]; omega))
    rw [hp, whirligigref19_Diff.l1, if_neg (by omega)]
    exact tail_R p X Y s hx hy h1 h2
  | succ d ih =>
    intro s k hd hk h1 h2 ht
    obtain ⟨k, rfl⟩ : ∃ j, k = j + 1 := ⟨k - 1, by omega⟩
    have h3 : s < X.length := by omega
    have c1 : (s : Int) < (X.length : Int) := by omega
    by_cases h4 : s < Y.length
    · have c2 : (s : Int) < (Y.length : Int) := by omega
      have ra := wr_idx' X.length s h3 (by omega)
      have rb := wr_idx' Y.length s h4 (by omega)
      have es := wr_suc' s (by clear ra rb; omega)
      have z : ∀ x : Nat, (0 : Int) ≤ (x : Int) := fun x => Int.natCast_nonneg x
      have cra : ((X.length - 1 - s : Nat) : Int) < (X.length : Int) := by clear ra rb es; omega
      have crb : ((Y.length - 1 - s : Nat) : Int) < (Y.length : Int) := by clear ra rb es; omega
      rw [whirligigref19_Diff.l1, if_pos c1, if_pos c2, ra, rb, if_pos (z _), if_pos cra, if_pos (z _), if_pos crb, rd_at', rd_at']
      by_cases he : X.getD (X.length - 1 - s) ByteArray.empty = Y.getD (Y.length - 1 - s) ByteArray.empty
      · rw [if_pos (text_eq'.2 he), es]
        refine ih (s + 1) k (by clear ra rb es; omega) (by clear ra rb es; omega) h3 h4 ?_
        have g1 : s < X.reverse.length := by rw [List.length_reverse]; exact h3
        have g2 : s < Y.reverse.length := by rw [List.length_reverse]; exact h4
        have q1 := rev_get X s h3
        have q2 := rev_get Y s h4
        rw [List.getElem?_eq_getElem g1] at q1
        rw [List.getElem?_eq_getElem g2] at q2
        rw [List.take_succ_eq_append_getElem g1, List.take_succ_eq_append_getElem g2, ht, Option.some.inj q1, Option.some.inj q2, he]
      · rw [if_neg (fun h => he (text_eq'.1 h))]
        have hp : pre X.reverse Y.reverse = s := pre_of s _ _ (by simpa using h1) (by simpa using h2) ht (.inr (.inr (by rw [rev_get X s h3, rev_get Y s h4]; exact fun h => he (Option.some.inj h))))
        rw [hp]
        exact tail_R p X Y s hx hy h1 h2
    · have c2 : ¬ ((s : Int) < (Y.length : Int)) := by omega
      have hp : pre X.reverse Y.reverse = s := pre_of s _ _ (by simpa using h1) (by simpa using h2) ht (.inr (.inl (by rw [List.length_reverse]; omega)))
      rw [hp, whirligigref19_Diff.l1, if_pos c1, if_neg c2]
      exact tail_R p X Y s hx hy h1 h2
theorem resR_eq (a b : List ByteArray) : resR ((pre a b : Nat) : Int) (a.drop (pre a b)) (b.drop (pre a b)) (suf a b (pre a b)) = (dAt a b, dLess a b, dWith a b) := by
  have hl := pre_le a b
  have hs := suf_le a b (pre a b)
  unfold resR dAt dLess dWith
  rw [List.length_drop, List.length_drop]
  by_cases h : a.length - pre a b = 0 ∧ b.length - pre a b = 0
  · rw [if_pos h, if_pos ⟨by omega, by omega⟩]
    refine Prod.ext rfl (Prod.ext ?_ ?_)
    · show (0 : Int) = ((a.length - pre a b - suf a b (pre a b) : Nat) : Int); omega
    · show [] = _; exact (List.drop_eq_nil_of_le (by rw [List.length_take]; omega)).symm
  · rw [if_neg h, if_neg (fun g => h ⟨by omega, by omega⟩)]
    refine Prod.ext rfl (Prod.ext rfl ?_)
    show (b.drop (pre a b)).take (b.length - pre a b - suf a b (pre a b)) = _
    rw [List.drop_take]; congr 1; omega
theorem j1_ref (a b : List ByteArray) (p k : Nat) (ha : a.length ≤ 1000) (hb : b.length ≤ 1000) (hp : pre a b = p) (hk : 1100 ≤ k) : whirligigref19_Diff.j1 k a b p = some (dAt a b, dLess a b, dWith a b) := by
  obtain ⟨k, rfl⟩ : ∃ j, k = j + 1 := ⟨k - 1, by omega⟩
  have hl := pre_le a b
  rw [whirligigref19_Diff.j1, if_pos (by omega), if_pos (by omega), if_pos (by omega), Int.toNat_natCast]
  refine (l1_ref (p : Int) (a.drop p) (b.drop p) (by rw [List.length_drop]; omega) (by rw [List.length_drop]; omega) _ 0 k rfl (by rw [List.length_drop]; omega) (Nat.zero_le _) (Nat.zero_le _) rfl).trans ?_
  rw [← hp]
  exact congrArg some (resR_eq a b)
theorem l0_ref (a b : List ByteArray) (ha : a.length ≤ 1000) (hb : b.length ≤ 1000) : ∀ (d i k : Nat), a.length - i = d → d + 1200 ≤ k → i ≤ a.length → i ≤ b.length → a.take i = b.take i →
    whirligigref19_Diff.l0 k a b i = some (dAt a b, dLess a b, dWith a b) := by
  intro d
  induction d with
  | zero =>
    intro i k hd hk h1 h2 ht
    obtain ⟨k, rfl⟩ : ∃ j, k = j + 1 := ⟨k - 1, by omega⟩
    rw [whirligigref19_Diff.l0, if_neg (by omega)]
    exact j1_ref a b i k ha hb (pre_of i a b h1 h2 ht (.inl (by omega))) (by omega)
  | succ d ih =>
    intro i k hd hk h1 h2 ht
    obtain ⟨k, rfl⟩ : ∃ j, k = j + 1 := ⟨k - 1, by omega⟩
    have hla : i < a.length := by omega
    have c1 : (i : Int) < (a.length : Int) := by omega
    by_cases hlb : i < b.length
    · have c2 : (i : Int) < (b.length : Int) := by omega
      have es := wr_suc' i (by omega)
      rw [whirligigref19_Diff.l0, if_pos c1, if_pos c2, if_pos (Int.natCast_nonneg i), rd_at', rd_at']
      have qa : a.getD i ByteArray.empty = a[i] := by rw [List.getD_eq_getElem?_getD, List.getElem?_eq_getElem hla]; rfl
      have qb : b.getD i ByteArray.empty = b[i] := by rw [List.getD_eq_getElem?_getD, List.getElem?_eq_getElem hlb]; rfl
      by_cases he : a.getD i ByteArray.empty = b.getD i ByteArray.empty
      · rw [if_pos (text_eq'.2 he), es]
        rw [qa, qb] at he
        exact ih (i + 1) k (by clear es; omega) (by clear es; omega) hla hlb (by rw [List.take_succ_eq_append_getElem hla, List.take_succ_eq_append_getElem hlb, ht, he])
      · rw [if_neg (fun h => he (text_eq'.1 h))]
        rw [qa, qb] at he
        exact j1_ref a b i k ha hb (pre_of i a b h1 h2 ht (.inr (.inr (by rw [List.getElem?_eq_getElem hla, List.getElem?_eq_getElem hlb]; exact fun h => he (Option.some.inj h))))) (by clear es; omega)
    · rw [whirligigref19_Diff.l0, if_pos c1, if_neg (by omega)]
      exact j1_ref a b i k ha hb (pre_of i a b h1 h2 ht (.inr (.inl (by omega)))) (by omega)
theorem ref_f (a b : List ByteArray) (ha : a.length ≤ 1000) (hb : b.length ≤ 1000) : whirligigref19_Diff.f 3000 a b = some (dAt a b, dLess a b, dWith a b) := by
  unfold whirligigref19_Diff.f
  exact l0_ref a b ha hb a.length 0 3000 rfl (by omega) (Nat.zero_le _) (Nat.zero_le _) rfl
theorem ref_any (A0 : Option Addr) (c0 : Nat) (a : List ByteArray) (A1 : Option Addr) (c1 : Nat) (b : List ByteArray) (w : World) (hr0 : Kd.C Kd.string w A0 a.length a) (hc0 : a.length ≤ c0) (hr1 : Kd.C Kd.string w A1 b.length b) (hc1 : b.length ≤ c1) (ha : a.length ≤ 1000) (hb : b.length ≤ 1000) :
    Calls Try.prog 9 #[.slice A0 a.length c0, .slice A1 b.length c1] w fun e w' => ∃ (A : Option Addr) (c : Nat), e = .returned (.agg #[.int .i64 (dAt a b), .int .i64 (dLess a b), .slice A (dWith a b).length c]) ∧ Below w.heap.size w w' := by
  refine (whirligigref19_Diff.calls 3000 A0 c0 a _ A1 c1 b _ _ _ w hr0 hc0 (Kd.V_mk hc1 (Kd.C_F Kd.heap_string hr1)) (ref_f a b ha hb)).mono ?_
  rintro e w' ⟨v, rfl, hv, hbel⟩
  obtain ⟨A, c, rfl⟩ := Kd.V_slice hv
  exact ⟨A, c, rfl, hbel⟩
end Go.Proofs.Ytfpbohfefliljaa.MDeltaPatches
end
