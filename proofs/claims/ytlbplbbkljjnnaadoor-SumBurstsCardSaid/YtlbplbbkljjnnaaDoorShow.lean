/- Sums as texts, walked: strconv.FormatUint at base 16, sum.Show, and the document's example. -/
import Derived.Test.YtlbplbbkljjnnaaDoorOf
import Derived.Test.YtlbplbbkljjnnaaDoorRows
import Derived.LaidMore
import Derived.Lay
import Derived.ProofKit
import Derived.Deep.LoopGhost
import Derived.BigQuiet
import Derived.Deep.QuietTactic
namespace Go.Proofs.YtlbplbbkljjnnaaDoor.Show
open Go.RowKit Go.Proofs Go.Proofs.YtlbplbbkljjnnaaDoorW.PrintWords Go.Proofs.YtlbplbbkljjnnaaDoorW.PrintMore
set_option linter.unusedVariables false
set_option linter.unusedSimpArgs false

/-- What the sums' texts need of the library's table. -/
def Tab (w : World) : Prop := w.cell? ⟨2, 15, none⟩ = some (.int .u8 4) ∧ 2 < w.heap.size
theorem Tab.below {w w' : World} (h : Tab w) (hb : Below w.heap.size w w') : Tab w' := ⟨(hb.cell (p := ⟨2, 15, none⟩) h.2).trans h.1, Nat.lt_of_lt_of_le h.2 hb.size⟩
theorem key16 : IntKind.u64.wrap (bits BinOp.and IntKind.u64 16 (IntKind.u64.wrap (-16)) * 285870213051353865) / 288230376151711744 = 15 := by decide
theorem tz16 (w : World) (h : Tab w) : Calls Tryd.prog 27 #[.int .u64 16] w fun e w' => e = .returned (.int .i64 4) ∧ w = w' := by
  have hc := h.1
  have key := key16
  go_enter Tryd.func27, Tryd.ntmps27
  go_wp2
  go_ret
  exact ⟨rfl, rfl⟩
theorem tz (w : World) (h : Tab w) : Calls Tryd.prog 25 #[.int .u64 16] w fun e w' => e = .returned (.int .i64 4) ∧ w = w' := by
  go_enter Tryd.func25, Tryd.ntmps25
  go_wp2_with (go_at_call 27; refine (tz16 _ h).mono ?_; rintro e w' ⟨rfl, rfl⟩)
  go_ret
  exact ⟨rfl, rfl⟩

/-- A digit's letter. -/
def dg (d : Nat) : Int := if d < 10 then 48 + d else 87 + d
/-- The digit at a place, the last one first. -/
def at16 (n k : Nat) : Nat := n / 16 ^ k % 16
def digs : ByteArray := ⟨#[48, 49, 50, 51, 52, 53, 54, 55, 56, 57, 97, 98, 99, 100, 101, 102, 103, 104, 105, 106, 107, 108, 109, 110, 111, 112, 113, 114, 115, 116, 117, 118, 119, 120, 121, 122]⟩

theorem digs_get (d : Nat) (hd : d < 16) (h : d < digs.size) : ((digs[d]'h).toNat : Int) = dg d := by
  match d, hd with
  | 0, _ => rfl
  | 1, _ => rfl
  | 2, _ => rfl
  | 3, _ => rfl
  | 4, _ => rfl
  | 5, _ => rfl
  | 6, _ => rfl
  | 7, _ => rfl
  | 8, _ => rfl
  | 9, _ => rfl
  | 10, _ => rfl
  | 11, _ => rfl
  | 12, _ => rfl
  | 13, _ => rfl
  | 14, _ => rfl
  | 15, _ => rfl
  | d + 16, hd => exact absurd hd (by omega)

/-- The cells of the array. -/
def arr (l : List Int) : Array Value := (l.map (Value.int .u8)).toArray
def zeros : List Int := List.replicate 65 0
theorem zero49 (w : World) : (zeroValue 49).run Tryd.prog w = .ok (.agg (arr zeros)) w := by kernel_rfl
theorem arr_set (l : List Int) (i : Nat) (x : Int) : (arr l).setIfInBounds i (.int .u8 x) = arr (l.set i x) := by
  simp [arr, List.map_set]
theorem arr_get (l : List Int) (i : Nat) (h : i < l.length) : (arr l)[i]? = some (.int .u8 (l.getD i 0)) := by
  simp [arr, h, List.getD_eq_getElem?_getD]
/-- The array in its block, k digits of n being there. -/
structure Arr (w : World) (g n k : Nat) (l : List Int) (W : World) : Prop where
  len : l.length = 65
  blk : W.heap[g]? = some (.cells (arr l) 49 (0, 0))
  digs : ∀ j, j < k → l.getD (64 - j) 0 = dg (at16 n j)
  below : Below w.heap.size w W
  ge : w.heap.size ≤ g
theorem Arr.cell {w : World} {g n k : Nat} {l : List Int} {W : World} (h : Arr w g n k l W) (i : Nat) (hi : i < 65) : W.cell? ⟨g, i, none⟩ = some (.int .u8 (l.getD i 0)) :=
  (blk_cell h.blk i).trans (arr_get l i (by rw [h.len]; exact hi))
theorem Arr.free {w : World} {g n k : Nat} {l : List Int} {W : World} (h : Arr w g n k l W) (i : Nat) : W.frozen? ⟨g, i, none⟩ = false := blk_frozen h.blk i
theorem Arr.put {w : World} {g n k : Nat} {l : List Int} {W : World} (h : Arr w g n k l W) (hk : k < 65) : Arr w g n (k + 1) (l.set (64 - k) (dg (at16 n k))) (W.setCell ⟨g, 64 - k, none⟩ (.int .u8 (dg (at16 n k)))) := by
  refine ⟨by rw [List.length_set]; exact h.len, ?_, fun j hj => ?_, h.below.setCell (p := ⟨g, 64 - k, none⟩) h.ge _, h.ge⟩
  · have := blk_set h.blk (64 - k) (.int .u8 (dg (at16 n k)))
    rw [arr_set] at this
    exact this
  · rw [List.getD_eq_getElem?_getD]
    by_cases e : j = k
    · subst e
      rw [List.getElem?_set_self (by rw [h.len]; omega)]
      rfl
    · rw [List.getElem?_set_ne (by omega), ← List.getD_eq_getElem?_getD]
      exact h.digs j (by omega)

theorem len49 : Tryd.prog.arrayLen 49 = 65 := by kernel_rfl
theorem elem49 : Tryd.prog.elem 49 = 5 := by kernel_rfl
theorem size5 (W : World) : (sizeOf 5).run Tryd.prog W = .ok 1 W := by kernel_rfl
theorem cut49 (g i : Nat) (hi : i < 65) (W : World) : (Instr.sliceAt 49 (.pointer (some ⟨g, 0, none⟩)) (some (.int .i64 (i : Int))) none none).run Tryd.prog W = .ok (.slice (some ⟨g, i, none⟩) (65 - i) (65 - i)) W := by
  rw [run_sliceAt_array_l W 49 _ (by rw [len49, elem49]; exact Tryd.underlying49) .i64 i (by omega) (by rw [len49]; omega), elem49, size5, len49, Int.toNat_natCast]
  simp only [Result.andThen, slicedAt]
  rw [if_neg (by omega), Nat.mul_one, add_plain]
/-- A number's digits: so many, the highest first. -/
def hx (n k : Nat) : List Int := (List.range k).map fun i => dg (at16 n (k - 1 - i))
theorem Arr.reads {w : World} {g n k : Nat} {l : List Int} {W : World} (h : Arr w g n k l W) (hk : k ≤ 65) : ReadsInt W .u8 (some ⟨g, 65 - k, none⟩) k (hx n k) := by
  refine ⟨by simp [hx], by omega, fun hp => ⟨_, rfl, fun j hj => ?_⟩⟩
  have e : (⟨g, 65 - k, none⟩ : Addr).add j = ⟨g, 65 - k + j, none⟩ := by unfold Addr.add; split <;> simp_all
  rw [e, h.cell _ (by omega), show 65 - k + j = 64 - (k - 1 - j) by omega, h.digs _ (by omega)]
  simp [hx, List.getD_eq_getElem?_getD, hj]

set_option maxRecDepth 100000 in
set_option maxHeartbeats 4000000 in
theorem bits16 (n : Nat) (hn : n < 18446744073709551616) (w : World) (h : Tab w) :
    Calls Tryd.prog 20 #[.slice none 0 0, .int .u64 n, .int .i64 16, .bool false, .bool false] w fun e w' => ∃ k, 0 < k ∧ (k = 1 ∨ 16 ^ (k - 1) ≤ n) ∧ n < 16 ^ k ∧ e = .returned (.tuple #[.slice none 0 0, .string (strOfNums (hx n k))]) ∧ Below w.heap.size w w' := by
  have hz := zero49
  have hT := fun o => h.below ((Below.refl w.heap.size w).alloc (Nat.le_refl _) o)
  have HT := Lib.hid hT
  have h0 : Arr w w.heap.size n 0 zeros (w.alloc (.cells (arr zeros) 49)) := ⟨by decide, heap_alloc_new w _, fun j hj => by omega, (Below.refl w.heap.size w).alloc (Nat.le_refl _) _, Nat.le_refl _⟩
  have H0 := Lib.hid h0
  clear hT h0 h
  go_enter Tryd.func20, Tryd.ntmps20
  go_wp2_with (first | (go_at_call 25; refine (tz _ (HT.out _)).mono ?_; rintro e w' ⟨rfl, rfl⟩) | go_in)
  go_loopw [1, 13] (fun u i wr => ∃ k p : Nat, p + k = 65 ∧ k ≤ 15 ∧ Aside0 (k = 0 ∨ 16 ^ k ≤ n) ∧ u = .int .u64 ((n / 16 ^ k : Nat) : Int) ∧ i = .int .i64 p ∧ ∃ l, Aside0 (Arr w w.heap.size n k l wr)) (fun _ i _ => (intOf i).toNat)
  case atStart => exact ⟨0, 65, rfl, by omega, ⟨.inl rfl⟩, by simp, rfl, zeros, ⟨H0.out⟩⟩
  case round =>
    obtain ⟨k, p, hp, hk, HMIN, rfl, rfl, l, hA⟩ := hrel
    have hmin2 : ¬ (n / 16 ^ k < 16) → 16 ^ (k + 1) ≤ n := fun h => by
      rw [Nat.pow_succ, Nat.mul_comm]
      exact (Nat.le_div_iff_mul_le (Nat.pos_of_ne_zero (by simp))).1 (by omega)
    have HM2 := Aside0.mk hmin2
    clear hmin2
    have hq : n / 16 ^ (k + 1) = n / 16 ^ k / 16 := by rw [Nat.pow_succ, Nat.div_div_eq_div_mul]
    have hqb : n / 16 ^ k < 18446744073709551616 := Nat.lt_of_le_of_lt (Nat.div_le_self _ _) hn
    have hat : at16 n k = n / 16 ^ k % 16 := rfl
    have hdone : ¬ (n / 16 ^ k < 16) → k ≤ 14 := fun h => by
      rcases Nat.lt_or_ge k 15 with h1 | h1
      · omega
      · obtain rfl : k = 15 := by omega
        exact absurd (Nat.div_lt_of_lt_mul (by omega)) h
    have hput := hA.out.put (by omega)
    have hcell := hA.out.cell (64 - k) (by omega)
    have hfree := hA.out.free (64 - k)
    rw [show 64 - k = p - 1 by omega, hat] at hput
    rw [show 64 - k = p - 1 by omega] at hcell hfree
    have HPUT := Aside0.mk hput
    have HQ := Aside0.mk hq
    clear hput hq hat
    generalize n / 16 ^ k = q at HPUT HQ hqb hdone HM2 ⊢
    have hw1 : IntKind.i64.wrap ((p : Int) - 1) = (p : Int) - 1 := by rw [IntKind.wrap_i64]; omega
    have hand : bits .and .u64 (q : Int) 15 = ((q % 16 : Nat) : Int) := by
      have := u64_and_nat q 15 hqb (by omega)
      rw [show ((15 : Nat) : Int) = 15 from rfl] at this
      rw [this, nat_mask4]
    have hqm : q % 16 < 16 := Nat.mod_lt _ (by omega)
    by_cases hlt : q < 16
    · have hlt2 : ¬ ((16 : Int) ≤ (q : Int)) := by omega
      have hsl := cut49 w.heap.size (p - 1) (by omega)
      rw [show ((p - 1 : Nat) : Int) = (p : Int) - 1 by omega, show 65 - (p - 1) = k + 1 by omega] at hsl
      have hqq : q % 16 = q := Nat.mod_eq_of_lt hlt
      have hdg := digs_get q hlt (by show q < 36; omega)
      rw [hqq] at HPUT
      have hrd := HPUT.out.reads (by omega)
      rw [show 65 - (k + 1) = p - 1 by omega] at hrd
      have hcv := string_of_reads (P := Tryd.prog) (src := 27) (dst := 9) (e := 5) (c := k + 1) Tryd.underlying27 Tryd.underlying5 Tryd.underlying9 hrd
      have hnk : n < 16 ^ (k + 1) := by
        have := HQ.out
        rw [Nat.div_eq_of_lt hlt] at this
        exact (Nat.div_eq_zero_iff_lt (Nat.pos_of_ne_zero (by simp))).1 this
      have HNK := Aside0.mk hnk
      have HPB := Aside0.mk HPUT.out.below
      rw [← hdg] at hcv
      unfold digs at hcv
      rw [← hdg] at HPB
      unfold digs at HPB
      clear hrd hnk HPUT HQ hdg
      go_wp2
      refine bodyPost_ret (v := .tuple #[.slice none 0 0, .string (strOfNums (hx n (k + 1)))]) (by simp [results, Tryd.f20, go_sem]) rfl ⟨k + 1, by omega, (HMIN.out.imp (fun h => by omega) (fun h => h)), HNK.out, rfl, HPB.out⟩
    · have hge : (16 : Int) ≤ (q : Int) := by omega
      go_wp2
      go_roundw
      case rel =>
        refine ⟨k + 1, p - 1, by omega, by have := hdone hlt; omega, ⟨.inr (HM2.out hlt)⟩, by rw [HQ.out]; go_num, by rw [show ((p - 1 : Nat) : Int) = (p : Int) - 1 by omega], l.set (p - 1) (dg (q % 16)), ⟨?_⟩⟩
        exact Eq.mpr (congrArg (fun x => Arr w w.heap.size n (k + 1) (l.set (p - 1) (dg (q % 16))) (wr.setCell ⟨w.heap.size, p - 1, none⟩ (.int .u8 x))) (digs_get (q % 16) hqm (by show q % 16 < 36; omega))) HPUT.out
      case measure => simp [intOf]; omega

theorem format16 (n : Nat) (hn : n < 18446744073709551616) (w : World) (h : Tab w) :
    Calls Tryd.prog 16 #[.int .u64 n, .int .i64 16] w fun e w' => ∃ k, 0 < k ∧ (k = 1 ∨ 16 ^ (k - 1) ≤ n) ∧ n < 16 ^ k ∧ e = .returned (.string (strOfNums (hx n k))) ∧ Below w.heap.size w w' := by
  go_enter Tryd.func16, Tryd.ntmps16
  go_wp2_with (go_at_call 20; refine (bits16 n hn _ h).mono ?_; rintro e w1 ⟨k, h1, h2, h3, rfl, hb⟩)
  go_ret
  exact ⟨k, h1, h2, h3, rfl, hb⟩
theorem sformat16 (n : Nat) (hn : n < 18446744073709551616) (w : World) (h : Tab w) :
    Calls Tryd.prog 15 #[.int .u64 n, .int .i64 16] w fun e w' => ∃ k, 0 < k ∧ (k = 1 ∨ 16 ^ (k - 1) ≤ n) ∧ n < 16 ^ k ∧ e = .returned (.string (strOfNums (hx n k))) ∧ Below w.heap.size w w' := by
  go_enter Tryd.func15, Tryd.ntmps15
  go_wp2_with (go_at_call 16; refine (format16 n hn _ h).mono ?_; rintro e w1 ⟨k, h1, h2, h3, rfl, hb⟩)
  go_ret
  exact ⟨k, h1, h2, h3, rfl, hb⟩
theorem hx_length (n k : Nat) : (hx n k).length = k := by simp [hx]
theorem str_size (l : List Int) : (strOfNums l).size = l.length := by simp [strOfNums, ByteArray.size]
theorem hx_pad (n k : Nat) (h : n < 16 ^ k) : (⟨#[48]⟩ : ByteArray) ++ strOfNums (hx n k) = strOfNums (hx n (k + 1)) := by
  have e : hx n (k + 1) = 48 :: hx n k := by
    unfold hx
    rw [List.range_succ_eq_map, List.map_cons, List.map_map]
    congr 1
    · rw [show k + 1 - 1 - 0 = k by omega]
      unfold at16
      rw [Nat.div_eq_of_lt h]
      rfl
    · apply List.map_congr_left
      intro i hi
      simp only [Function.comp]
      rw [show k + 1 - 1 - (i + 1) = k - 1 - i by omega]
  rw [e]
  apply ByteArray.ext
  simp [strOfNums]

set_option maxHeartbeats 1000000 in
theorem show_any (n : Nat) (hn : n < 4294967296) (w : World) (h : Tab w) :
    Calls Tryd.prog 10 #[.int .u32 n] w fun e w' => e = .returned (.string (strOfNums (hx n 8))) ∧ Below w.heap.size w w' := by
  go_enter Tryd.func10, Tryd.ntmps10
  go_wp2_with (go_at_call 15; refine (sformat16 n (by omega) _ h).mono ?_; rintro e w1 ⟨k, h1, h2, h3, rfl, hb⟩)
  have hk8 : k ≤ 8 := by
    rcases h2 with h2 | h2
    · omega
    · rcases Nat.lt_or_ge 8 k with h4 | h4
      · have := Nat.pow_le_pow_right (by omega : 0 < 16) (by omega : 8 ≤ k - 1)
        omega
      · exact h4
  have H3 := Aside0.mk h3
  clear h2 h3
  go_loop [3] (fun t => ∃ j : Nat, j ≤ 8 ∧ ∃ s : ByteArray, t = .string s ∧ s.size = j ∧ Aside0 (s = strOfNums (hx n j) ∧ n < 16 ^ j)) (fun t => 8 - (match t with | .string s => s.size | _ => 0))
  case atStart => exact ⟨k, hk8, _, rfl, by rw [str_size, hx_length], ⟨rfl, H3.out⟩⟩
  case round =>
    obtain ⟨j, hj, s, rfl, hsz, HS⟩ := hrel
    by_cases hlt : j < 8
    · have hsz1 : (s.size : Int) < 8 := by omega
      have hsz2 : s.size ≤ 100 := by omega
      go_wp2
      refine ⟨⟨j + 1, by omega, _, rfl, ?_, ⟨?_, ?_⟩⟩, ?_⟩
      · rw [ByteArray.size_append, hsz]
        exact Nat.add_comm 1 j
      · rw [HS.out.1]
        exact hx_pad n j HS.out.2
      · rw [Nat.pow_succ]
        have := HS.out.2
        omega
      · show 8 - ((⟨#[48]⟩ : ByteArray) ++ s).size < 8 - s.size
        rw [ByteArray.size_append]
        have : (⟨#[48]⟩ : ByteArray).size = 1 := rfl
        omega
    · have hsz1 : ¬ ((s.size : Int) < 8) := by omega
      have e8 : j = 8 := by omega
      have h8 := HS.out.1
      rw [e8] at h8
      have H8 := Aside0.mk h8
      clear h8 e8
      go_wp2
      go_ret
      exact ⟨by rw [← H8.out]; rfl, hb⟩

/-- One text in a row of its own. -/
theorem one_str (w : World) (s : ByteArray) : Kd.C Kd.string (w.alloc (.cells #[.string s] 9)) (some ⟨w.heap.size, 0, none⟩) [s].length [s] := by
  refine Kd.C_of_reads (d := ByteArray.empty) (h1 := fun _ => rfl) ⟨rfl, by show 1 ≤ 9223372036854775807; decide, fun _ => ⟨_, rfl, fun j hj => ?_⟩⟩
  rw [add_plain, World.cell?_alloc_new]
  match j, hj with
  | 0, _ => rfl
theorem doc_sum : ((Crc.of ([(⟨#[49, 50, 51, 52, 53, 54, 55, 56, 57]⟩ : ByteArray)].flatMap (·.data.toList))).toNat : Int) = 3421780262 := by decide +kernel
theorem doc_show : strOfNums (hx 3421780262 8) = ⟨#[99, 98, 102, 52, 51, 57, 50, 54]⟩ := by decide +kernel
set_option maxHeartbeats 1000000 in
theorem anchor_any (w : World) (h : Tab w) : Calls Tryd.prog 7 #[] w fun e w' => e = .returned (.bool true) ∧ Below w.heap.size w w' := by
  have h1 := Of.of_any (some ⟨w.heap.size, 0, none⟩) 1 [(⟨#[49, 50, 51, 52, 53, 54, 55, 56, 57]⟩ : ByteArray)] _ (one_str w _) (Nat.le_refl _) (by simp; decide)
  rw [doc_sum] at h1
  have hb0 : Below w.heap.size w (w.alloc (.cells #[.string ⟨#[49, 50, 51, 52, 53, 54, 55, 56, 57]⟩] 9)) := (Below.refl w.heap.size w).alloc (Nat.le_refl _) _
  have H1 := Aside0.mk h1
  have HB0 := Aside0.mk hb0
  have HT := Aside0.mk h
  clear h1 hb0 h
  go_enter Tryd.func7, Tryd.ntmps7
  go_wp2_with fail
  refine H1.out.mono ?_
  rintro e w1 ⟨rfl, hb1⟩
  have hb : Below w.heap.size w w1 := HB0.out.trans (hb1.mono (by simp))
  have h2 := show_any 3421780262 (by decide) w1 (HT.out.below hb)
  rw [doc_show] at h2
  have H2 := Aside0.mk h2
  have HB := Aside0.mk hb
  clear h2 hb hb1
  go_wp2_with fail
  refine H2.out.mono ?_
  rintro e w2 ⟨rfl, hb2⟩
  have hb3 := HB.out.trans (hb2.mono HB.out.size)
  clear hb2
  go_wp2_with fail
  go_ret
  exact ⟨rfl, hb3⟩
end Go.Proofs.YtlbplbbkljjnnaaDoor.Show
