/- delta.put at one element type, walked: a patch that fits is put on a list; that all did fit so far stays told. -/
import Derived.Test.YtfpbohfefliljaaDMath
import Derived.Test.YtfpbohfefliljaaDEq
import Derived.Test.YtfpbohfefliljaaMDeltaChainsx5
import Derived.Test.YtfpbohfefliljaaMDeltaChainsx2
import Derived.Test.YtfpbohfefliljaaMDeltaChainsx6
section
namespace Go.Proofs.Ytfpbohfefliljaa.MD
open Go Go.RowKit Go.Proofs Go.Proofs.YtfpbohfefliljaaW.PrintWords Go.Proofs.YtfpbohfefliljaaW.PrintLast Go.Proofs.YtfpbohfefliljaaW.PrintMore
set_option linter.unusedVariables false
set_option linter.unusedSimpArgs false
namespace PuB
/-- The walk halts at it. -/
structure Hold (p : Prop) : Prop where
  out : p
theorem hp : Kd.Heap (Kd.int .u64) := Kd.heap_int _
theorem set_same {w W : World} {g : Nat} (hb : Below w.heap.size w W) (hok : w.heap[g]? = some (.cells #[.bool true] 4 (0, 0))) : Below w.heap.size w (W.setCell ⟨g, 0, none⟩ (.bool true)) := by
  have h2 : Below (w.heap.size + 0) w W := hb
  refine ⟨hb.os, hb.tape, hb.output, ?_, fun i hi => ?_⟩
  · have := hb.size
    rw [show (W.setCell ⟨g, 0, none⟩ (.bool true)).heap.size = W.heap.size by simp]
    exact this
  · by_cases h : i = g
    · subst h
      rw [blk_set (cs := #[.bool true]) ((hb.block i hi).trans hok) 0 (.bool true), hok]
      rfl
    · rw [Below.heap_setCell W ⟨g, 0, none⟩ _ i h]
      exact hb.block i hi
theorem put_f (p l : Nat) (wl a : List (Int)) (hp : p ≤ a.length) (hl : l ≤ a.length - p) (ha : a.length ≤ 1000) (hw : wl.length ≤ 1000) : bits_Set_Put.f (p : Int) (l : Int) wl a = some (putL p l wl a, true) := by
  have e1 : wrap64 ((a.length : Int) - (p : Int)) = ((a.length - p : Nat) : Int) := by unfold wrap64; omega
  have e2 : wrap64 ((p : Int) + (l : Int)) = ((p + l : Nat) : Int) := by clear e1; unfold wrap64; omega
  have e3 : bits_Set_Fits.f (p : Int) (l : Int) wl (a.length : Int) = some true := by
    unfold bits_Set_Fits.f
    rw [if_pos (by omega), if_pos (by omega), if_pos (by omega), e1, decide_eq_true (by omega)]
  have hf : ([a.take p, wl, a.drop (p + l)] : List (List (Int))).flatten = putL p l wl a := by simp [putL]
  have hlen : (putL p l wl a).length ≤ 3000 := by
    unfold putL
    rw [List.length_append, List.length_append, List.length_take, List.length_drop]
    omega
  have e4 : bits_Set_52.f ([a.take p, wl, a.drop (p + l)] : List (List (Int))) = some (putL p l wl a) := by
    unfold bits_Set_52.f
    rw [hf, if_pos (by omega)]
  unfold bits_Set_Put.f
  rw [e3, Option.bind_some, if_pos rfl, if_pos (by omega), if_pos (by omega), e2, if_pos (by omega), if_pos (by omega), Int.toNat_natCast, Int.toNat_natCast, e4]
  rfl
set_option maxHeartbeats 8000000 in
set_option maxRecDepth 100000 in
theorem put_any (p l : Nat) (A2 : Option Addr) (c2 : Nat) (wl : List (Int)) (A1 : Option Addr) (c1 : Nat) (a : List (Int)) (g : Nat) (w : World) (hr2 : Kd.C (Kd.int .u64) w A2 wl.length wl) (hc2 : wl.length ≤ c2) (hr1 : Kd.C (Kd.int .u64) w A1 a.length a) (hc1 : a.length ≤ c1) (hok : w.heap[g]? = some (.cells #[.bool true] 4 (0, 0)))
    (hp' : p ≤ a.length) (hl : l ≤ a.length - p) (ha : a.length ≤ 1000) (hw : wl.length ≤ 1000) :
    Calls Try.prog 33 #[.agg #[.int .i64 (p : Int), .int .i64 (l : Int), .slice A2 wl.length c2], .slice A1 a.length c1, .pointer (some ⟨g, 0, none⟩)] w fun e w' => ∃ v : Value, e = .returned v ∧ Kd.R (Kd.int .u64) 38 w' w.heap.size (fun _ => True) v (putL p l wl a) ∧ Below w.heap.size w w' := by
  have HF := Aside0.mk (put_f p l wl a hp' hl ha hw)
  have HB0 := Aside0.mk ((Below.refl w.heap.size w).alloc (Nat.le_refl _) (.cells #[.int .i64 (p : Int), .int .i64 (l : Int), .slice A2 wl.length c2] 51))
  have H2 := Aside0.mk (Kd.C_below hr2 HB0.out)
  have H1 := Aside0.mk (Kd.C_below hr1 HB0.out)
  have HC2 := Aside0.mk hc2
  have HC1 := Aside0.mk hc1
  have HOK := Aside0.mk hok
  clear hr2 hc2 hr1 hc1 hok hp' hl ha hw
  go_enter Try.func33, Try.ntmps33
  go_wp2_with (go_at_call 47; refine Hold.out ?_)
  refine ⟨?_⟩
  generalize w.alloc (.cells #[.int .i64 (p : Int), .int .i64 (l : Int), .slice A2 wl.length c2] 51) = w1 at HB0 H2 H1 ⊢
  refine (bits_Set_Put.calls (p : Int) (l : Int) _ A2 c2 wl _ A1 c1 a (putL p l wl a) true w1 (Kd.V_mk HC2.out (Kd.C_F hp H2.out)) (Kd.V_mk HC1.out (Kd.C_F hp H1.out)) HF.out).mono ?_
  rintro e w2 ⟨v, rfl, hR, hB⟩
  have hB2 := HB0.out.trans (hB.mono HB0.out.size)
  have hok2 := blk_below HOK.out hB2
  have g0 : w2.cell? ⟨g, 0, none⟩ = some (.bool true) := blk_cell hok2 0
  have z0 : w2.frozen? ⟨g, 0, none⟩ = false := blk_frozen hok2 0
  have HS := Aside0.mk (set_same hB2 HOK.out)
  have HR := Aside0.mk (Kd.R_mono (Kd.R_far (p := ⟨g, 0, none⟩) (Kd.R_lower hR HB0.out.size) (fun k hk => by have h1 : w1.heap.size ≤ k := hk; have h2 := HB0.out.size; have h3 := blk_lt HOK.out; show k ≠ g; omega) (.bool true)) (fun _ _ => trivial))
  clear hR hB hB2 hok2
  go_wp2
  go_ret
  exact ⟨v, rfl, HR.out, HS.out⟩
theorem put_d (A2 : Option Addr) (c2 : Nat) (A1 : Option Addr) (c1 : Nat) (a b : List (Int)) (g : Nat) (w : World) (hr2 : Kd.C (Kd.int .u64) w A2 (dWith a b).length (dWith a b)) (hc2 : (dWith a b).length ≤ c2) (hr1 : Kd.C (Kd.int .u64) w A1 a.length a) (hc1 : a.length ≤ c1) (hok : w.heap[g]? = some (.cells #[.bool true] 4 (0, 0)))
    (ha : a.length ≤ 1000) (hb : b.length ≤ 1000) :
    Calls Try.prog 33 #[.agg #[.int .i64 (dAt a b), .int .i64 (dLess a b), .slice A2 (dWith a b).length c2], .slice A1 a.length c1, .pointer (some ⟨g, 0, none⟩)] w fun e w' => ∃ v : Value, e = .returned v ∧ Kd.R (Kd.int .u64) 38 w' w.heap.size (fun _ => True) v b ∧ Below w.heap.size w w' := by
  obtain ⟨h1, h2, h3⟩ := put_diff a b
  have h := put_any (dAt a b).toNat (dLess a b).toNat A2 c2 (dWith a b) A1 c1 a g w hr2 hc2 hr1 hc1 hok h1 h2 ha (Nat.le_trans (dWith_le a b) hb)
  have n1 : 0 ≤ dAt a b := by unfold dAt; split <;> omega
  have n2 : 0 ≤ dLess a b := by unfold dLess; omega
  rw [h3, Int.toNat_of_nonneg n1, Int.toNat_of_nonneg n2] at h
  exact h
end PuB
end Go.Proofs.Ytfpbohfefliljaa.MD
end
section
namespace Go.Proofs.Ytfpbohfefliljaa.MD
open Go Go.RowKit Go.Proofs Go.Proofs.YtfpbohfefliljaaW.PrintWords Go.Proofs.YtfpbohfefliljaaW.PrintLast Go.Proofs.YtfpbohfefliljaaW.PrintMore
set_option linter.unusedVariables false
set_option linter.unusedSimpArgs false
namespace PuI
/-- The walk halts at it. -/
structure Hold (p : Prop) : Prop where
  out : p
theorem hp : Kd.Heap (Kd.int .i64) := Kd.heap_int _
theorem set_same {w W : World} {g : Nat} (hb : Below w.heap.size w W) (hok : w.heap[g]? = some (.cells #[.bool true] 4 (0, 0))) : Below w.heap.size w (W.setCell ⟨g, 0, none⟩ (.bool true)) := by
  have h2 : Below (w.heap.size + 0) w W := hb
  refine ⟨hb.os, hb.tape, hb.output, ?_, fun i hi => ?_⟩
  · have := hb.size
    rw [show (W.setCell ⟨g, 0, none⟩ (.bool true)).heap.size = W.heap.size by simp]
    exact this
  · by_cases h : i = g
    · subst h
      rw [blk_set (cs := #[.bool true]) ((hb.block i hi).trans hok) 0 (.bool true), hok]
      rfl
    · rw [Below.heap_setCell W ⟨g, 0, none⟩ _ i h]
      exact hb.block i hi
theorem put_f (p l : Nat) (wl a : List (Int)) (hp : p ≤ a.length) (hl : l ≤ a.length - p) (ha : a.length ≤ 1000) (hw : wl.length ≤ 1000) : delta_Patch_int_Put.f (p : Int) (l : Int) wl a = some (putL p l wl a, true) := by
  have e1 : wrap64 ((a.length : Int) - (p : Int)) = ((a.length - p : Nat) : Int) := by unfold wrap64; omega
  have e2 : wrap64 ((p : Int) + (l : Int)) = ((p + l : Nat) : Int) := by clear e1; unfold wrap64; omega
  have e3 : delta_Patch_int_Fits.f (p : Int) (l : Int) wl (a.length : Int) = some true := by
    unfold delta_Patch_int_Fits.f
    rw [if_pos (by omega), if_pos (by omega), if_pos (by omega), e1, decide_eq_true (by omega)]
  have hf : ([a.take p, wl, a.drop (p + l)] : List (List (Int))).flatten = putL p l wl a := by simp [putL]
  have hlen : (putL p l wl a).length ≤ 3000 := by
    unfold putL
    rw [List.length_append, List.length_append, List.length_take, List.length_drop]
    omega
  have e4 : slices_Concat_int_int.f ([a.take p, wl, a.drop (p + l)] : List (List (Int))) = some (putL p l wl a) := by
    unfold slices_Concat_int_int.f
    rw [hf, if_pos (by omega)]
  unfold delta_Patch_int_Put.f
  rw [e3, Option.bind_some, if_pos rfl, if_pos (by omega), if_pos (by omega), e2, if_pos (by omega), if_pos (by omega), Int.toNat_natCast, Int.toNat_natCast, e4]
  rfl
set_option maxHeartbeats 8000000 in
set_option maxRecDepth 100000 in
theorem put_any (p l : Nat) (A2 : Option Addr) (c2 : Nat) (wl : List (Int)) (A1 : Option Addr) (c1 : Nat) (a : List (Int)) (g : Nat) (w : World) (hr2 : Kd.C (Kd.int .i64) w A2 wl.length wl) (hc2 : wl.length ≤ c2) (hr1 : Kd.C (Kd.int .i64) w A1 a.length a) (hc1 : a.length ≤ c1) (hok : w.heap[g]? = some (.cells #[.bool true] 4 (0, 0)))
    (hp' : p ≤ a.length) (hl : l ≤ a.length - p) (ha : a.length ≤ 1000) (hw : wl.length ≤ 1000) :
    Calls Try.prog 37 #[.agg #[.int .i64 (p : Int), .int .i64 (l : Int), .slice A2 wl.length c2], .slice A1 a.length c1, .pointer (some ⟨g, 0, none⟩)] w fun e w' => ∃ v : Value, e = .returned v ∧ Kd.R (Kd.int .i64) 3 w' w.heap.size (fun _ => True) v (putL p l wl a) ∧ Below w.heap.size w w' := by
  have HF := Aside0.mk (put_f p l wl a hp' hl ha hw)
  have HB0 := Aside0.mk ((Below.refl w.heap.size w).alloc (Nat.le_refl _) (.cells #[.int .i64 (p : Int), .int .i64 (l : Int), .slice A2 wl.length c2] 57))
  have H2 := Aside0.mk (Kd.C_below hr2 HB0.out)
  have H1 := Aside0.mk (Kd.C_below hr1 HB0.out)
  have HC2 := Aside0.mk hc2
  have HC1 := Aside0.mk hc1
  have HOK := Aside0.mk hok
  clear hr2 hc2 hr1 hc1 hok hp' hl ha hw
  go_enter Try.func37, Try.ntmps37
  go_wp2_with (go_at_call 25; refine Hold.out ?_)
  refine ⟨?_⟩
  generalize w.alloc (.cells #[.int .i64 (p : Int), .int .i64 (l : Int), .slice A2 wl.length c2] 57) = w1 at HB0 H2 H1 ⊢
  refine (delta_Patch_int_Put.calls (p : Int) (l : Int) _ A2 c2 wl _ A1 c1 a (putL p l wl a) true w1 (Kd.V_mk HC2.out (Kd.C_F hp H2.out)) (Kd.V_mk HC1.out (Kd.C_F hp H1.out)) HF.out).mono ?_
  rintro e w2 ⟨v, rfl, hR, hB⟩
  have hB2 := HB0.out.trans (hB.mono HB0.out.size)
  have hok2 := blk_below HOK.out hB2
  have g0 : w2.cell? ⟨g, 0, none⟩ = some (.bool true) := blk_cell hok2 0
  have z0 : w2.frozen? ⟨g, 0, none⟩ = false := blk_frozen hok2 0
  have HS := Aside0.mk (set_same hB2 HOK.out)
  have HR := Aside0.mk (Kd.R_mono (Kd.R_far (p := ⟨g, 0, none⟩) (Kd.R_lower hR HB0.out.size) (fun k hk => by have h1 : w1.heap.size ≤ k := hk; have h2 := HB0.out.size; have h3 := blk_lt HOK.out; show k ≠ g; omega) (.bool true)) (fun _ _ => trivial))
  clear hR hB hB2 hok2
  go_wp2
  go_ret
  exact ⟨v, rfl, HR.out, HS.out⟩
theorem put_d (A2 : Option Addr) (c2 : Nat) (A1 : Option Addr) (c1 : Nat) (a b : List (Int)) (g : Nat) (w : World) (hr2 : Kd.C (Kd.int .i64) w A2 (dWith a b).length (dWith a b)) (hc2 : (dWith a b).length ≤ c2) (hr1 : Kd.C (Kd.int .i64) w A1 a.length a) (hc1 : a.length ≤ c1) (hok : w.heap[g]? = some (.cells #[.bool true] 4 (0, 0)))
    (ha : a.length ≤ 1000) (hb : b.length ≤ 1000) :
    Calls Try.prog 37 #[.agg #[.int .i64 (dAt a b), .int .i64 (dLess a b), .slice A2 (dWith a b).length c2], .slice A1 a.length c1, .pointer (some ⟨g, 0, none⟩)] w fun e w' => ∃ v : Value, e = .returned v ∧ Kd.R (Kd.int .i64) 3 w' w.heap.size (fun _ => True) v b ∧ Below w.heap.size w w' := by
  obtain ⟨h1, h2, h3⟩ := put_diff a b
  have h := put_any (dAt a b).toNat (dLess a b).toNat A2 c2 (dWith a b) A1 c1 a g w hr2 hc2 hr1 hc1 hok h1 h2 ha (Nat.le_trans (dWith_le a b) hb)
  have n1 : 0 ≤ dAt a b := by unfold dAt; split <;> omega
  have n2 : 0 ≤ dLess a b := by unfold dLess; omega
  rw [h3, Int.toNat_of_nonneg n1, Int.toNat_of_nonneg n2] at h
  exact h
end PuI
end Go.Proofs.Ytfpbohfefliljaa.MD
end
section
namespace Go.Proofs.Ytfpbohfefliljaa.MD
open Go Go.RowKit Go.Proofs Go.Proofs.YtfpbohfefliljaaW.PrintWords Go.Proofs.YtfpbohfefliljaaW.PrintLast Go.Proofs.YtfpbohfefliljaaW.PrintMore
set_option linter.unusedVariables false
set_option linter.unusedSimpArgs false
namespace PuS
/-- The walk halts at it. -/
structure Hold (p : Prop) : Prop where
  out : p
theorem hp : Kd.Heap (Kd.string) := Kd.heap_string
theorem set_same {w W : World} {g : Nat} (hb : Below w.heap.size w W) (hok : w.heap[g]? = some (.cells #[.bool true] 4 (0, 0))) : Below w.heap.size w (W.setCell ⟨g, 0, none⟩ (.bool true)) := by
  have h2 : Below (w.heap.size + 0) w W := hb
  refine ⟨hb.os, hb.tape, hb.output, ?_, fun i hi => ?_⟩
  · have := hb.size
    rw [show (W.setCell ⟨g, 0, none⟩ (.bool true)).heap.size = W.heap.size by simp]
    exact this
  · by_cases h : i = g
    · subst h
      rw [blk_set (cs := #[.bool true]) ((hb.block i hi).trans hok) 0 (.bool true), hok]
      rfl
    · rw [Below.heap_setCell W ⟨g, 0, none⟩ _ i h]
      exact hb.block i hi
theorem put_f (p l : Nat) (wl a : List (ByteArray)) (hp : p ≤ a.length) (hl : l ≤ a.length - p) (ha : a.length ≤ 1000) (hw : wl.length ≤ 1000) : delta_Patch_string_Put.f (p : Int) (l : Int) wl a = some (putL p l wl a, true) := by
  have e1 : wrap64 ((a.length : Int) - (p : Int)) = ((a.length - p : Nat) : Int) := by unfold wrap64; omega
  have e2 : wrap64 ((p : Int) + (l : Int)) = ((p + l : Nat) : Int) := by clear e1; unfold wrap64; omega
  have e3 : delta_Patch_string_Fits.f (p : Int) (l : Int) wl (a.length : Int) = some true := by
    unfold delta_Patch_string_Fits.f
    rw [if_pos (by omega), if_pos (by omega), if_pos (by omega), e1, decide_eq_true (by omega)]
  have hf : ([a.take p, wl, a.drop (p + l)] : List (List (ByteArray))).flatten = putL p l wl a := by simp [putL]
  have hlen : (putL p l wl a).length ≤ 3000 := by
    unfold putL
    rw [List.length_append, List.length_append, List.length_take, List.length_drop]
    omega
  have e4 : slices_Concat_string_string.f ([a.take p, wl, a.drop (p + l)] : List (List (ByteArray))) = some (putL p l wl a) := by
    unfold slices_Concat_string_string.f
    rw [hf, if_pos (by omega)]
  unfold delta_Patch_string_Put.f
  rw [e3, Option.bind_some, if_pos rfl, if_pos (by omega), if_pos (by omega), e2, if_pos (by omega), if_pos (by omega), Int.toNat_natCast, Int.toNat_natCast, e4]
  rfl
set_option maxHeartbeats 8000000 in
set_option maxRecDepth 100000 in
theorem put_any (p l : Nat) (A2 : Option Addr) (c2 : Nat) (wl : List (ByteArray)) (A1 : Option Addr) (c1 : Nat) (a : List (ByteArray)) (g : Nat) (w : World) (hr2 : Kd.C (Kd.string) w A2 wl.length wl) (hc2 : wl.length ≤ c2) (hr1 : Kd.C (Kd.string) w A1 a.length a) (hc1 : a.length ≤ c1) (hok : w.heap[g]? = some (.cells #[.bool true] 4 (0, 0)))
    (hp' : p ≤ a.length) (hl : l ≤ a.length - p) (ha : a.length ≤ 1000) (hw : wl.length ≤ 1000) :
    Calls Try.prog 35 #[.agg #[.int .i64 (p : Int), .int .i64 (l : Int), .slice A2 wl.length c2], .slice A1 a.length c1, .pointer (some ⟨g, 0, none⟩)] w fun e w' => ∃ v : Value, e = .returned v ∧ Kd.R (Kd.string) 9 w' w.heap.size (fun _ => True) v (putL p l wl a) ∧ Below w.heap.size w w' := by
  have HF := Aside0.mk (put_f p l wl a hp' hl ha hw)
  have HB0 := Aside0.mk ((Below.refl w.heap.size w).alloc (Nat.le_refl _) (.cells #[.int .i64 (p : Int), .int .i64 (l : Int), .slice A2 wl.length c2] 25))
  have H2 := Aside0.mk (Kd.C_below hr2 HB0.out)
  have H1 := Aside0.mk (Kd.C_below hr1 HB0.out)
  have HC2 := Aside0.mk hc2
  have HC1 := Aside0.mk hc1
  have HOK := Aside0.mk hok
  clear hr2 hc2 hr1 hc1 hok hp' hl ha hw
  go_enter Try.func35, Try.ntmps35
  go_wp2_with (go_at_call 10; refine Hold.out ?_)
  refine ⟨?_⟩
  generalize w.alloc (.cells #[.int .i64 (p : Int), .int .i64 (l : Int), .slice A2 wl.length c2] 25) = w1 at HB0 H2 H1 ⊢
  refine (delta_Patch_string_Put.calls (p : Int) (l : Int) _ A2 c2 wl _ A1 c1 a (putL p l wl a) true w1 (Kd.V_mk HC2.out (Kd.C_F hp H2.out)) (Kd.V_mk HC1.out (Kd.C_F hp H1.out)) HF.out).mono ?_
  rintro e w2 ⟨v, rfl, hR, hB⟩
  have hB2 := HB0.out.trans (hB.mono HB0.out.size)
  have hok2 := blk_below HOK.out hB2
  have g0 : w2.cell? ⟨g, 0, none⟩ = some (.bool true) := blk_cell hok2 0
  have z0 : w2.frozen? ⟨g, 0, none⟩ = false := blk_frozen hok2 0
  have HS := Aside0.mk (set_same hB2 HOK.out)
  have HR := Aside0.mk (Kd.R_mono (Kd.R_far (p := ⟨g, 0, none⟩) (Kd.R_lower hR HB0.out.size) (fun k hk => by have h1 : w1.heap.size ≤ k := hk; have h2 := HB0.out.size; have h3 := blk_lt HOK.out; show k ≠ g; omega) (.bool true)) (fun _ _ => trivial))
  clear hR hB hB2 hok2
  go_wp2
  go_ret
  exact ⟨v, rfl, HR.out, HS.out⟩
theorem put_d (A2 : Option Addr) (c2 : Nat) (A1 : Option Addr) (c1 : Nat) (a b : List (ByteArray)) (g : Nat) (w : World) (hr2 : Kd.C (Kd.string) w A2 (dWith a b).length (dWith a b)) (hc2 : (dWith a b).length ≤ c2) (hr1 : Kd.C (Kd.string) w A1 a.length a) (hc1 : a.length ≤ c1) (hok : w.heap[g]? = some (.cells #[.bool true] 4 (0, 0)))
    (ha : a.length ≤ 1000) (hb : b.length ≤ 1000) :
    Calls Try.prog 35 #[.agg #[.int .i64 (dAt a b), .int .i64 (dLess a b), .slice A2 (dWith a b).length c2], .slice A1 a.length c1, .pointer (some ⟨g, 0, none⟩)] w fun e w' => ∃ v : Value, e = .returned v ∧ Kd.R (Kd.string) 9 w' w.heap.size (fun _ => True) v b ∧ Below w.heap.size w w' := by
  obtain ⟨h1, h2, h3⟩ := put_diff a b
  have h := put_any (dAt a b).toNat (dLess a b).toNat A2 c2 (dWith a b) A1 c1 a g w hr2 hc2 hr1 hc1 hok h1 h2 ha (Nat.le_trans (dWith_le a b) hb)
  have n1 : 0 ≤ dAt a b := by unfold dAt; split <;> omega
  have n2 : 0 ≤ dLess a b := by unfold dLess; omega
  rw [h3, Int.toNat_of_nonneg n1, Int.toNat_of_nonneg n2] at h
  exact h
end PuS
end Go.Proofs.Ytfpbohfefliljaa.MD
end
section
namespace Go.Proofs.Ytfpbohfefliljaa.MD
open Go Go.RowKit Go.Proofs Go.Proofs.YtfpbohfefliljaaW.PrintWords Go.Proofs.YtfpbohfefliljaaW.PrintLast Go.Proofs.YtfpbohfefliljaaW.PrintMore
set_option linter.unusedVariables false
set_option linter.unusedSimpArgs false
namespace PuT
/-- The walk halts at it. -/
structure Hold (p : Prop) : Prop where
  out : p
theorem hp : Kd.Heap (k71) := Kd.heap_iso _ (Kd.heap_pair (Kd.heap_int _) (Kd.heap_pair (Kd.heap_int _) Kd.heap_string))
theorem set_same {w W : World} {g : Nat} (hb : Below w.heap.size w W) (hok : w.heap[g]? = some (.cells #[.bool true] 4 (0, 0))) : Below w.heap.size w (W.setCell ⟨g, 0, none⟩ (.bool true)) := by
  have h2 : Below (w.heap.size + 0) w W := hb
  refine ⟨hb.os, hb.tape, hb.output, ?_, fun i hi => ?_⟩
  · have := hb.size
    rw [show (W.setCell ⟨g, 0, none⟩ (.bool true)).heap.size = W.heap.size by simp]
    exact this
  · by_cases h : i = g
    · subst h
      rw [blk_set (cs := #[.bool true]) ((hb.block i hi).trans hok) 0 (.bool true), hok]
      rfl
    · rw [Below.heap_setCell W ⟨g, 0, none⟩ _ i h]
      exact hb.block i hi
theorem put_f (p l : Nat) (wl a : List (S71)) (hp : p ≤ a.length) (hl : l ≤ a.length - p) (ha : a.length ≤ 1000) (hw : wl.length ≤ 1000) : queue_Timer_Put.f (p : Int) (l : Int) wl a = some (putL p l wl a, true) := by
  have e1 : wrap64 ((a.length : Int) - (p : Int)) = ((a.length - p : Nat) : Int) := by unfold wrap64; omega
  have e2 : wrap64 ((p : Int) + (l : Int)) = ((p + l : Nat) : Int) := by clear e1; unfold wrap64; omega
  have e3 : queue_Timer_Fits.f (p : Int) (l : Int) wl (a.length : Int) = some true := by
    unfold queue_Timer_Fits.f
    rw [if_pos (by omega), if_pos (by omega), if_pos (by omega), e1, decide_eq_true (by omega)]
  have hf : ([a.take p, wl, a.drop (p + l)] : List (List (S71))).flatten = putL p l wl a := by simp [putL]
  have hlen : (putL p l wl a).length ≤ 3000 := by
    unfold putL
    rw [List.length_append, List.length_append, List.length_take, List.length_drop]
    omega
  have e4 : queue_Timer_56.f ([a.take p, wl, a.drop (p + l)] : List (List (S71))) = some (putL p l wl a) := by
    unfold queue_Timer_56.f
    rw [hf, if_pos (by omega)]
  unfold queue_Timer_Put.f
  rw [e3, Option.bind_some, if_pos rfl, if_pos (by omega), if_pos (by omega), e2, if_pos (by omega), if_pos (by omega), Int.toNat_natCast, Int.toNat_natCast, e4]
  rfl
set_option maxHeartbeats 8000000 in
set_option maxRecDepth 100000 in
theorem put_any (p l : Nat) (A2 : Option Addr) (c2 : Nat) (wl : List (S71)) (A1 : Option Addr) (c1 : Nat) (a : List (S71)) (g : Nat) (w : World) (hr2 : Kd.C (k71) w A2 wl.length wl) (hc2 : wl.length ≤ c2) (hr1 : Kd.C (k71) w A1 a.length a) (hc1 : a.length ≤ c1) (hok : w.heap[g]? = some (.cells #[.bool true] 4 (0, 0)))
    (hp' : p ≤ a.length) (hl : l ≤ a.length - p) (ha : a.length ≤ 1000) (hw : wl.length ≤ 1000) :
    Calls Try.prog 36 #[.agg #[.int .i64 (p : Int), .int .i64 (l : Int), .slice A2 wl.length c2], .slice A1 a.length c1, .pointer (some ⟨g, 0, none⟩)] w fun e w' => ∃ v : Value, e = .returned v ∧ Kd.R (k71) 71 w' w.heap.size (fun _ => True) v (putL p l wl a) ∧ Below w.heap.size w w' := by
  have HF := Aside0.mk (put_f p l wl a hp' hl ha hw)
  have HB0 := Aside0.mk ((Below.refl w.heap.size w).alloc (Nat.le_refl _) (.cells #[.int .i64 (p : Int), .int .i64 (l : Int), .slice A2 wl.length c2] 55))
  have H2 := Aside0.mk (Kd.C_below hr2 HB0.out)
  have H1 := Aside0.mk (Kd.C_below hr1 HB0.out)
  have HC2 := Aside0.mk hc2
  have HC1 := Aside0.mk hc1
  have HOK := Aside0.mk hok
  clear hr2 hc2 hr1 hc1 hok hp' hl ha hw
  go_enter Try.func36, Try.ntmps36
  go_wp2_with (go_at_call 49; refine Hold.out ?_)
  refine ⟨?_⟩
  generalize w.alloc (.cells #[.int .i64 (p : Int), .int .i64 (l : Int), .slice A2 wl.length c2] 55) = w1 at HB0 H2 H1 ⊢
  refine (queue_Timer_Put.calls (p : Int) (l : Int) _ A2 c2 wl _ A1 c1 a (putL p l wl a) true w1 (Kd.V_mk HC2.out (Kd.C_F hp H2.out)) (Kd.V_mk HC1.out (Kd.C_F hp H1.out)) HF.out).mono ?_
  rintro e w2 ⟨v, rfl, hR, hB⟩
  have hB2 := HB0.out.trans (hB.mono HB0.out.size)
  have hok2 := blk_below HOK.out hB2
  have g0 : w2.cell? ⟨g, 0, none⟩ = some (.bool true) := blk_cell hok2 0
  have z0 : w2.frozen? ⟨g, 0, none⟩ = false := blk_frozen hok2 0
  have HS := Aside0.mk (set_same hB2 HOK.out)
  have HR := Aside0.mk (Kd.R_mono (Kd.R_far (p := ⟨g, 0, none⟩) (Kd.R_lower hR HB0.out.size) (fun k hk => by have h1 : w1.heap.size ≤ k := hk; have h2 := HB0.out.size; have h3 := blk_lt HOK.out; show k ≠ g; omega) (.bool true)) (fun _ _ => trivial))
  clear hR hB hB2 hok2
  go_wp2
  go_ret
  exact ⟨v, rfl, HR.out, HS.out⟩
theorem put_d (A2 : Option Addr) (c2 : Nat) (A1 : Option Addr) (c1 : Nat) (a b : List (S71)) (g : Nat) (w : World) (hr2 : Kd.C (k71) w A2 (dWith a b).length (dWith a b)) (hc2 : (dWith a b).length ≤ c2) (hr1 : Kd.C (k71) w A1 a.length a) (hc1 : a.length ≤ c1) (hok : w.heap[g]? = some (.cells #[.bool true] 4 (0, 0)))
    (ha : a.length ≤ 1000) (hb : b.length ≤ 1000) :
    Calls Try.prog 36 #[.agg #[.int .i64 (dAt a b), .int .i64 (dLess a b), .slice A2 (dWith a b).length c2], .slice A1 a.length c1, .pointer (some ⟨g, 0, none⟩)] w fun e w' => ∃ v : Value, e = .returned v ∧ Kd.R (k71) 71 w' w.heap.size (fun _ => True) v b ∧ Below w.heap.size w w' := by
  obtain ⟨h1, h2, h3⟩ := put_diff a b
  have h := put_any (dAt a b).toNat (dLess a b).toNat A2 c2 (dWith a b) A1 c1 a g w hr2 hc2 hr1 hc1 hok h1 h2 ha (Nat.le_trans (dWith_le a b) hb)
  have n1 : 0 ≤ dAt a b := by unfold dAt; split <;> omega
  have n2 : 0 ≤ dLess a b := by unfold dLess; omega
  rw [h3, Int.toNat_of_nonneg n1, Int.toNat_of_nonneg n2] at h
  exact h
end PuT
end Go.Proofs.Ytfpbohfefliljaa.MD
end
section
namespace Go.Proofs.Ytfpbohfefliljaa.MD
open Go Go.RowKit Go.Proofs Go.Proofs.YtfpbohfefliljaaW.PrintWords Go.Proofs.YtfpbohfefliljaaW.PrintLast Go.Proofs.YtfpbohfefliljaaW.PrintMore
set_option linter.unusedVariables false
set_option linter.unusedSimpArgs false
namespace PuV
/-- The walk halts at it. -/
structure Hold (p : Prop) : Prop where
  out : p
theorem hp : Kd.Heap (k68) := Kd.heap_iso _ (Kd.heap_pair (Kd.heap_int _) (Kd.heap_pair (Kd.heap_int _) Kd.heap_string))
theorem set_same {w W : World} {g : Nat} (hb : Below w.heap.size w W) (hok : w.heap[g]? = some (.cells #[.bool true] 4 (0, 0))) : Below w.heap.size w (W.setCell ⟨g, 0, none⟩ (.bool true)) := by
  have h2 : Below (w.heap.size + 0) w W := hb
  refine ⟨hb.os, hb.tape, hb.output, ?_, fun i hi => ?_⟩
  · have := hb.size
    rw [show (W.setCell ⟨g, 0, none⟩ (.bool true)).heap.size = W.heap.size by simp]
    exact this
  · by_cases h : i = g
    · subst h
      rw [blk_set (cs := #[.bool true]) ((hb.block i hi).trans hok) 0 (.bool true), hok]
      rfl
    · rw [Below.heap_setCell W ⟨g, 0, none⟩ _ i h]
      exact hb.block i hi
theorem put_f (p l : Nat) (wl a : List (S68)) (hp : p ≤ a.length) (hl : l ≤ a.length - p) (ha : a.length ≤ 1000) (hw : wl.length ≤ 1000) : val_Value_Put.f (p : Int) (l : Int) wl a = some (putL p l wl a, true) := by
  have e1 : wrap64 ((a.length : Int) - (p : Int)) = ((a.length - p : Nat) : Int) := by unfold wrap64; omega
  have e2 : wrap64 ((p : Int) + (l : Int)) = ((p + l : Nat) : Int) := by clear e1; unfold wrap64; omega
  have e3 : val_Value_Fits.f (p : Int) (l : Int) wl (a.length : Int) = some true := by
    unfold val_Value_Fits.f
    rw [if_pos (by omega), if_pos (by omega), if_pos (by omega), e1, decide_eq_true (by omega)]
  have hf : ([a.take p, wl, a.drop (p + l)] : List (List (S68))).flatten = putL p l wl a := by simp [putL]
  have hlen : (putL p l wl a).length ≤ 3000 := by
    unfold putL
    rw [List.length_append, List.length_append, List.length_take, List.length_drop]
    omega
  have e4 : val_Value_54.f ([a.take p, wl, a.drop (p + l)] : List (List (S68))) = some (putL p l wl a) := by
    unfold val_Value_54.f
    rw [hf, if_pos (by omega)]
  unfold val_Value_Put.f
  rw [e3, Option.bind_some, if_pos rfl, if_pos (by omega), if_pos (by omega), e2, if_pos (by omega), if_pos (by omega), Int.toNat_natCast, Int.toNat_natCast, e4]
  rfl
set_option maxHeartbeats 8000000 in
set_option maxRecDepth 100000 in
theorem put_any (p l : Nat) (A2 : Option Addr) (c2 : Nat) (wl : List (S68)) (A1 : Option Addr) (c1 : Nat) (a : List (S68)) (g : Nat) (w : World) (hr2 : Kd.C (k68) w A2 wl.length wl) (hc2 : wl.length ≤ c2) (hr1 : Kd.C (k68) w A1 a.length a) (hc1 : a.length ≤ c1) (hok : w.heap[g]? = some (.cells #[.bool true] 4 (0, 0)))
    (hp' : p ≤ a.length) (hl : l ≤ a.length - p) (ha : a.length ≤ 1000) (hw : wl.length ≤ 1000) :
    Calls Try.prog 34 #[.agg #[.int .i64 (p : Int), .int .i64 (l : Int), .slice A2 wl.length c2], .slice A1 a.length c1, .pointer (some ⟨g, 0, none⟩)] w fun e w' => ∃ v : Value, e = .returned v ∧ Kd.R (k68) 68 w' w.heap.size (fun _ => True) v (putL p l wl a) ∧ Below w.heap.size w w' := by
  have HF := Aside0.mk (put_f p l wl a hp' hl ha hw)
  have HB0 := Aside0.mk ((Below.refl w.heap.size w).alloc (Nat.le_refl _) (.cells #[.int .i64 (p : Int), .int .i64 (l : Int), .slice A2 wl.length c2] 53))
  have H2 := Aside0.mk (Kd.C_below hr2 HB0.out)
  have H1 := Aside0.mk (Kd.C_below hr1 HB0.out)
  have HC2 := Aside0.mk hc2
  have HC1 := Aside0.mk hc1
  have HOK := Aside0.mk hok
  clear hr2 hc2 hr1 hc1 hok hp' hl ha hw
  go_enter Try.func34, Try.ntmps34
  go_wp2_with (go_at_call 48; refine Hold.out ?_)
  refine ⟨?_⟩
  generalize w.alloc (.cells #[.int .i64 (p : Int), .int .i64 (l : Int), .slice A2 wl.length c2] 53) = w1 at HB0 H2 H1 ⊢
  refine (val_Value_Put.calls (p : Int) (l : Int) _ A2 c2 wl _ A1 c1 a (putL p l wl a) true w1 (Kd.V_mk HC2.out (Kd.C_F hp H2.out)) (Kd.V_mk HC1.out (Kd.C_F hp H1.out)) HF.out).mono ?_
  rintro e w2 ⟨v, rfl, hR, hB⟩
  have hB2 := HB0.out.trans (hB.mono HB0.out.size)
  have hok2 := blk_below HOK.out hB2
  have g0 : w2.cell? ⟨g, 0, none⟩ = some (.bool true) := blk_cell hok2 0
  have z0 : w2.frozen? ⟨g, 0, none⟩ = false := blk_frozen hok2 0
  have HS := Aside0.mk (set_same hB2 HOK.out)
  have HR := Aside0.mk (Kd.R_mono (Kd.R_far (p := ⟨g, 0, none⟩) (Kd.R_lower hR HB0.out.size) (fun k hk => by have h1 : w1.heap.size ≤ k := hk; have h2 := HB0.out.size; have h3 := blk_lt HOK.out; show k ≠ g; omega) (.bool true)) (fun _ _ => trivial))
  clear hR hB hB2 hok2
  go_wp2
  go_ret
  exact ⟨v, rfl, HR.out, HS.out⟩
theorem put_d (A2 : Option Addr) (c2 : Nat) (A1 : Option Addr) (c1 : Nat) (a b : List (S68)) (g : Nat) (w : World) (hr2 : Kd.C (k68) w A2 (dWith a b).length (dWith a b)) (hc2 : (dWith a b).length ≤ c2) (hr1 : Kd.C (k68) w A1 a.length a) (hc1 : a.length ≤ c1) (hok : w.heap[g]? = some (.cells #[.bool true] 4 (0, 0)))
    (ha : a.length ≤ 1000) (hb : b.length ≤ 1000) :
    Calls Try.prog 34 #[.agg #[.int .i64 (dAt a b), .int .i64 (dLess a b), .slice A2 (dWith a b).length c2], .slice A1 a.length c1, .pointer (some ⟨g, 0, none⟩)] w fun e w' => ∃ v : Value, e = .returned v ∧ Kd.R (k68) 68 w' w.heap.size (fun _ => True) v b ∧ Below w.heap.size w w' := by
  obtain ⟨h1, h2, h3⟩ := put_diff a b
  have h := put_any (dAt a b).toNat (dLess a b).toNat A2 c2 (dWith a b) A1 c1 a g w hr2 hc2 hr1 hc1 hok h1 h2 ha (Nat.le_trans (dWith_le a b) hb)
  have n1 : 0 ≤ dAt a b := by unfold dAt; split <;> omega
  have n2 : 0 ≤ dLess a b := by unfold dLess; omega
  rw [h3, Int.toNat_of_nonneg n1, Int.toNat_of_nonneg n2] at h
  exact h
end PuV
end Go.Proofs.Ytfpbohfefliljaa.MD
end
