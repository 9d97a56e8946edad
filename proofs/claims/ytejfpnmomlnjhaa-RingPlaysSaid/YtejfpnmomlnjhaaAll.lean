/- The ring's iterator All: it yields the newest thing, the one before it, and so on, each with its number, till the body says no more; for every body that leaves the ring's blocks alone. -/
import Derived.RangeFuncNested
import Derived.RangeFuncBound
import Derived.RangeFuncCalls
import Derived.RangeFuncLeaves
import Derived.RangeFuncBox
import Derived.Shelf.Abstract
import Derived.Shelf.RegionOpen
import Derived.WalkKit
import Derived.OwnWalkIn
import Derived.TacticsInMore
import Derived.LoopNIn
import Derived.LoopIn
import Derived.Test.YtejfpnmomlnjhaaRingI
namespace Go.Proofs.Ytejfpnmomlnjhaa.RI
open Go.RowKit Go.Shelf Go.Proofs Go.Proofs.YtejfpnmomlnjhaaW.PrintWords Go.Proofs.Ytejfpnmomlnjhaa.Plain
attribute [local go_sem] Oper.semAt_some
set_option linter.unusedVariables false
set_option linter.unusedSimpArgs false

/-- The blocks of S are as they were. -/
def KpS (S : Nat → Prop) (W W' : World) : Prop := W.heap.size ≤ W'.heap.size ∧ ∀ k, S k → W'.heap[k]? = W.heap[k]?
theorem KpS.refl (S : Nat → Prop) (W : World) : KpS S W W := ⟨Nat.le_refl _, fun _ _ => rfl⟩
theorem KpS.trans {S : Nat → Prop} {A B C : World} (h : KpS S A B) (k : KpS S B C) : KpS S A C := ⟨Nat.le_trans h.1 k.1, fun i hi => (k.2 i hi).trans (h.2 i hi)⟩
theorem KpS.putObj {S : Nat → Prop} {w : World} (hS : ∀ k, S k → k < w.heap.size) (W : World) (l : Nat) (o o' : Obj) (hl : w.heap.size ≤ l) (h : W.heap[l]? = some o) (_ : o.isCells = false) (_ : o.isWalk = false) : KpS S W (W.putObj l o') :=
  ⟨(grownBy_putObj' W l o').size, fun k hk => (grownBy_putObj' W l o').block k (by have := (Array.getElem?_eq_some_iff.1 h).1; have := hS k hk; omega) (fun e => by injection e with e; have := hS k hk; omega)⟩
theorem At.blocks {w w' : World} {b g m f n : Nat} {buf : List Int} (h : At w b g m f n buf) (hs : w.heap.size ≤ w'.heap.size) (hb : w'.heap[b]? = w.heap[b]?) (hg : w'.heap[g]? = w.heap[g]?) : At w' b g m f n buf :=
  ⟨h.len, h.m64, h.nm, h.fm, h.ne, (World.cell?_of_block (a := ⟨b, 0, none⟩) hb).trans h.c0, (World.cell?_of_block (a := ⟨b, 1, none⟩) hb).trans h.c1, (World.cell?_of_block (a := ⟨b, 2, none⟩) hb).trans h.c2,
   (World.frozen?_of_block (a := ⟨b, 1, none⟩) hb).trans h.z1, (World.frozen?_of_block (a := ⟨b, 2, none⟩) hb).trans h.z2, fun j hj => (World.cell?_of_block (a := ⟨g, j, none⟩) hg).trans (h.cg j hj),
   fun j hj => (World.frozen?_of_block (a := ⟨g, j, none⟩) hg).trans (h.zg j hj), Nat.lt_of_lt_of_le h.lb hs, Nat.lt_of_lt_of_le h.lg hs⟩

/-- The i-th thing that All yields: its number and itself. -/
def nth (l : List Int) (i : Nat) : Nat × Int := (i, l.getD (l.length - 1 - i) 0)
/-- What has come when k rounds are over. -/
def upto (l : List Int) (k : Nat) : List (Nat × Int) := (List.range k).map (nth l)
theorem upto_succ (l : List Int) (k : Nat) : upto l (k + 1) = upto l k ++ [nth l k] := by simp [upto, List.range_succ]
theorem upto_length (l : List Int) (k : Nat) : (upto l k).length = k := by simp [upto]

set_option maxHeartbeats 1000000 in
theorem all_in (n : Nat) (p : Option Addr) (w : World) :
    CallsIn Fence.wide n Try.prog 9 #[.pointer p] w fun e w' => e = .returned (.func (.func 22) #[] #[.pointer (some ⟨w.heap.size, 0, none⟩)]) ∧ w' = w.alloc (.cells #[.pointer p] 24) := by
  refine callsIn_of_wp Try.func9 rfl trivial ?_ rfl
  simp only [Try.ntmps9, List.size_toArray, List.length_cons, List.length_nil, Nat.reduceAdd, Nat.reduceSub, Array.replicate_succ, Array.replicate_zero, List.push_toArray, List.append_toArray, List.nil_append, List.cons_append]
  gi_wp2
  go_ret
  exact ⟨rfl, rfl⟩

set_option maxRecDepth 100000 in
set_option maxHeartbeats 4000000 in
theorem all1_in (n : Nat) (hn : 1 ≤ n) (l Bs b g m f c : Nat) (buf : List Int) (S : Nat → Prop) (hSb : S b) (hSg : S g) (hSB : S Bs) (J Jx : List (Nat × Int) → World → Prop)
    (hJd : ∀ pre W k, J pre W → J pre (W.drewN k))
    (hY : ∀ pre x W, J pre W → pre.length < c → YieldAt Fence.wide (n - 1) Try.prog l #[.int .i64 (x.1 : Int), .int .i64 x.2] W fun e W' =>
      (e = .returned (.bool true) ∧ J (pre ++ [x]) W' ∧ KpS S W W') ∨ (e = .returned (.bool false) ∧ Jx (pre ++ [x]) W'))
    (W : World) (hBs : W.cell? ⟨Bs, 0, none⟩ = some (.pointer (some ⟨b, 0, none⟩))) (hat : At W b g m f c buf) (h0 : J [] W) :
    CallsIn Fence.wide n Try.prog 22 #[.func (.yield l) #[] #[], .pointer (some ⟨Bs, 0, none⟩)] W fun e W' => (∃ v, e = .returned v) ∧
      ((∃ ys, ys = upto (con 0 m f c buf) c ∧ J ys W') ∨ (∃ pre, (∃ k, k ≤ c ∧ pre = upto (con 0 m f c buf) k) ∧ Jx pre W')) := by
  have hL : (con 0 m f c buf).length = c := con_length
  have hAt := fun w (hw : At w b g m f c buf) i (hi : i < c) => at_in w b g m f c buf i hw hi
  have h64 : c ≤ 64 := Nat.le_trans hat.nm hat.m64
  generalize con 0 m f c buf = L at hL hAt ⊢
  have HL := Lib.hid hL
  have HAt := Lib.hid hAt
  clear hL hAt
  have hc2 := hat.c2
  have HAT := Lib.hid hat
  clear hat
  refine callsIn_of_wp Try.func22 rfl trivial ?_ rfl
  simp only [Try.ntmps22, List.size_toArray, List.length_cons, List.length_nil, Nat.reduceAdd, Nat.reduceSub, Array.replicate_succ, Array.replicate_zero, List.push_toArray, List.append_toArray, List.nil_append, List.cons_append]
  gi_wp2
  gi_loopw [10] (fun i wr => ∃ k : Nat, k ≤ c ∧ i = .int .i64 k ∧ J (upto L k) wr ∧ KpS S W wr)
    (fun i _ => c - (intOf i).toNat)
  case atStart => exact ⟨0, Nat.zero_le _, rfl, h0, KpS.refl _ _⟩
  case round =>
    obtain ⟨k, hk, rfl, hJs, hnx⟩ := hrel
    have hcB : wr.cell? ⟨Bs, 0, none⟩ = some (.pointer (some ⟨b, 0, none⟩)) := (World.cell?_of_block (a := ⟨Bs, 0, none⟩) (hnx.2 Bs hSB)).trans hBs
    have hatr := HAT.out.blocks hnx.1 (hnx.2 b hSb) (hnx.2 g hSg)
    by_cases hlt : k < c
    · have hcall := fun j => HAt.out _ (hatr.drewN j) k hlt
      have hcall0 := HAt.out _ hatr k hlt
      have hx : nth L k = (k, L.getD (c - 1 - k) 0) := by unfold nth; rw [HL.out]
      have hsu := upto_succ L k
      have hy := fun j => hY _ (nth L k) _ (hJd _ _ j hJs) (by rw [upto_length]; exact hlt)
      rw [hx] at hy hsu
      have HSU := Lib.hid hsu
      clear hx hsu
      generalize L.getD (c - 1 - k) 0 = x at hcall0 hcall hy HSU
      have HC := Lib.hid hcall0
      have HCJ := Lib.hid hcall
      have HY := Lib.hid hy
      clear hcall hcall0 hy
      gi_wp2_with (refine ⟨trivial, ?_⟩; gi_at_call 10; refine (callsIn_wide.2 HC.out).mono ?_; rintro e w' ⟨rfl, ⟨⟨d1, rfl⟩⟩⟩; obtain ⟨fn, tmps, assign, body, hy, hR⟩ := HY.out d1)
      refine hR.mono ?_
      rintro e W3 (⟨rfl, hJ3, hk3⟩ | ⟨rfl, hJx3⟩)
      · gi_wp2
        go_roundw
        case rel => exact ⟨k + 1, by omega, by go_num, by rw [HSU.out]; exact hJ3, hnx.trans hk3⟩
        case measure => simp [intOf]; omega
      · gi_wp2
        refine bodyPost_ret (results_none rfl _ _ _) rfl ?_
        exact ⟨⟨_, rfl⟩, .inr ⟨_, ⟨k + 1, by omega, HSU.out.symm⟩, hJx3⟩⟩
    · obtain rfl : k = c := by omega
      gi_wp2
      go_end0
      exact ⟨⟨_, rfl⟩, .inl ⟨_, rfl, hJs⟩⟩
end Go.Proofs.Ytejfpnmomlnjhaa.RI
