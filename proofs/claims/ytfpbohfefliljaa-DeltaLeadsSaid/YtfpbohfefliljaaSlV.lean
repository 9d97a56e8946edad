/- Go's slices.Clone, slices.Grow (of nil) and slices.Concat at one element type, walked: each makes a row of its own that holds what it should. -/
import Derived.Test.YtfpbohfefliljaaProg
import Derived.Test.YtfpbohfefliljaaWWords
import Derived.Test.YtfpbohfefliljaaWZeros
import Derived.Test.YtfpbohfefliljaaWMore
import Derived.Test.YtfpbohfefliljaaDBase
import Derived.WalkKit
import Derived.WalkSpells
import Derived.Outline
import Derived.KernelRfl
import Derived.Lib.Hide
import Derived.Deep.LoopGhost
import Derived.RowKit3
import Derived.Laws.Rows
import Derived.Deep.OwnRows
import Derived.Deep.AppendLies
namespace Go.Proofs.Ytfpbohfefliljaa.SlV
open Go.RowKit Go.Proofs Go.Proofs.YtfpbohfefliljaaW.PrintWords Go.Proofs.YtfpbohfefliljaaW.PrintLast Go.Proofs.YtfpbohfefliljaaW.PrintMore MD
set_option linter.unusedVariables false
set_option linter.unusedSimpArgs false

theorem infoE : (Try.prog.info? 68).map (fun i => (i.zero, i.size, i.bytes)) = some (some (.agg #[.int .i64 0, .int .i64 0, .string ByteArray.empty]), (k68).sz, 32) := by kernel_rfl
/-- An empty row that isn't nil. -/
theorem R_empty (W : World) (base : Nat) (hb : base ≤ W.heap.size) : Kd.R (k68) 68 (W.alloc (.cells #[] 68)) base (fun _ => True) (.slice (some ⟨W.heap.size, 0, none⟩) 0 0) [] :=
  ⟨fun _ _ => trivial, OwnRow.lit W base (Reps.none _ _) hb (by simp)⟩

set_option maxHeartbeats 4000000 in
set_option maxRecDepth 100000 in
theorem clone_any (A0 : Option Addr) (c0 : Nat) (l0 : List (S68)) (w : World) (hr0 : Kd.C (k68) w A0 l0.length l0) (hc0 : l0.length ≤ c0) (hb : l0.length * 32 ≤ 140737488355328) :
    Calls Try.prog 29 #[.slice A0 l0.length c0] w fun e w' => ∃ v0_ : Value, e = .returned v0_ ∧ Kd.R (k68) 68 w' w.heap.size (fun _ => True) v0_ l0 ∧ Below w.heap.size w w' := by
  have hq := fun (w : World) (a : Option Addr) (n c : Nat) => Lib.run_eql_slice_nil (P := Try.prog) w 40 68 a n c 0 0 Try.underlying40
  rcases A0 with _ | ad
  · have h0 : l0 = [] := by
      cases l0 with
      | nil => rfl
      | cons a l => obtain ⟨ad, e, _⟩ := hr0.2.2 (by simp); cases e
    subst h0
    clear hr0
    go_enter Try.func29, Try.ntmps29
    go_wp2
    go_ret
    exact ⟨_, rfl, Kd.R_nil _ _ _ _ _, Below.refl _ _⟩
  · have HR := Aside0.mk hr0
    have HBD := Aside0.mk hb
    have HB := Aside0.mk (Below.refl w.heap.size w)
    clear hr0 hb
    go_enter Try.func29, Try.ntmps29
    go_wp2_with (at_builtin; refine Kd.R_append_rows (k68) (w0 := w) w.heap.size rfl (.tmp 5) (.tmp 6) 40 68 (.agg #[.int .i64 0, .int .i64 0, .string ByteArray.empty]) 32 rfl Try.underlying40 infoE rfl (by decide) (by omega) (.slice (some ⟨w.heap.size, 0, none⟩) 0 0) [] l0 _ _ _ (fun _ => True) (fun _ => False) rfl rfl (R_empty w _ (Nat.le_refl _)) (Kd.C_alloc HR.out _) (fun _ _ h => h) (fun _ h => h.elim) (fun _ _ => trivial) (below_alloc HB.out _) (by simp) (by have := HBD.out; simp only [List.length_nil, Nat.zero_add]; omega) ?_; intro v1 w1 ho hbl hg hat; have HO := Aside0.mk ho; have HBL := Aside0.mk hbl; clear ho hbl hg hat)
    go_ret
    exact ⟨_, rfl, HO.out, HBL.out⟩

set_option maxHeartbeats 4000000 in
set_option maxRecDepth 100000 in
theorem grow_any (n : Nat) (w : World) (hb : n * 32 ≤ 140737488355328) :
    Calls Try.prog 58 #[.slice none 0 0, .int .i64 n] w fun e w' => ∃ v0_ : Value, e = .returned v0_ ∧ Kd.R (k68) 68 w' w.heap.size (fun _ => True) v0_ [] ∧ Below w.heap.size w w' := by
  have h0 : ¬ ((n : Int) < 0) := by omega
  have h0d : decide ((n : Int) < 0) = false := decide_eq_false h0
  have hs : IntKind.i64.wrap ((n : Int) - 0) = (n : Int) := by rw [IntKind.wrap_i64]; omega
  by_cases hn : n = 0
  · subst hn
    go_enter Try.func58, Try.ntmps58
    go_wp2
    go_ret
    exact ⟨_, rfl, Kd.R_nil _ _ _ _ _, Below.refl _ _⟩
  · have hp : (0 : Int) < (n : Int) := by omega
    have hpd : decide ((0 : Int) < (n : Int)) = true := decide_eq_true hp
    have HBD := Aside0.mk hb
    have HB := Aside0.mk (Below.refl w.heap.size w)
    have hn46 : (n : Int) ≤ 140737488355328 := by omega
    have htn : ((n : Int)).toNat = n := by omega
    clear hb hn
    go_enter Try.func58, Try.ntmps58
    go_wp2_with (at_builtin; go_must (refine Kd.R_append_zeros (k68) (w0 := w) w.heap.size rfl (.tmp 20) (.tmp 21) 40 3 68 (.agg #[.int .i64 0, .int .i64 0, .string ByteArray.empty]) 32 rfl Try.underlying40 Try.underlying3 infoE rfl (by decide) (by omega) (.slice none 0 0) [] (z68) (n : Int) (fun _ => True) rfl rfl (k68_mkM _ _ _ z68) (fun _ _ => trivial) (Kd.R_nil _ _ _ _ _) (by omega) HB.out (Nat.le_refl _) (by have := HBD.out; simp only [List.length_nil, Nat.zero_add, Int.toNat_natCast]; omega) ?_); intro v1 w1 ho hbl hg hat; have HO := Aside0.mk ho; have HBL := Aside0.mk hbl; clear ho hbl hg hat; obtain ⟨A1, c1, hv1⟩ := Kd.R_slice HO.out; subst hv1)
    go_ret
    exact ⟨.slice A1 0 c1, rfl, Kd.R_take (m := 0) HO.out (Nat.zero_le _), HBL.out⟩

/-- How many there are in the first k. -/
def lenTo (ls : List (List (S68))) (k : Nat) : Nat := (ls.take k).flatten.length
theorem flat_take (ls : List (List (S68))) (k : Nat) (h : k < ls.length) : (ls.take (k + 1)).flatten = (ls.take k).flatten ++ ls.getD k [] := by
  rw [List.take_succ_eq_append_getElem h, List.flatten_append, List.getD_eq_getElem?_getD, List.getElem?_eq_getElem h]
  simp
theorem flat_le (ls : List (List (S68))) (k : Nat) : (ls.take k).flatten.length ≤ ls.flatten.length := by
  conv => rhs; rw [← List.take_append_drop k ls, List.flatten_append, List.length_append]
  omega

set_option maxHeartbeats 4000000 in
set_option maxRecDepth 100000 in
theorem concat_any (A0 : Option Addr) (c0 : Nat) (ls : List (List (S68))) (w : World) (hr0 : Kd.C (Kd.slice 68 (k68)) w A0 ls.length ls) (hc0 : ls.length ≤ c0) (hb : ls.flatten.length * 32 ≤ 140737488355328) :
    Calls Try.prog 54 #[.slice A0 ls.length c0] w fun e w' => ∃ v0_ : Value, e = .returned v0_ ∧ Kd.R (k68) 68 w' w.heap.size (fun _ => True) v0_ ls.flatten ∧ Below w.heap.size w w' := by
  have hln : ls.length ≤ 9223372036854775807 := Kd.C_max hr0
  have HR := Aside0.mk hr0
  obtain ⟨N, hN⟩ : ∃ N, N = ls.flatten.length := ⟨_, rfl⟩
  rw [← hN] at hb
  have HN := Aside0.mk hN
  have HBD := Aside0.mk hb
  have hb46 : N ≤ 140737488355328 := by omega
  have HB46 := Aside0.mk hb46
  clear hr0 hb hb46 hN
  go_enter Try.func54, Try.ntmps54
  go_wp2_with fail
  go_loopw [3, 5, 11] (fun s _ i wr => ∃ k : Nat, k ≤ ls.length ∧ i = .int .i64 k ∧ s = .int .i64 (lenTo ls k : Int) ∧ Aside0 (wr = w)) (fun _ _ i _ => ls.length - (intOf i).toNat)
  case atStart => exact ⟨0, Nat.zero_le _, rfl, rfl, by first | exact ⟨trivial⟩ | exact ⟨rfl⟩⟩
  case round =>
    obtain ⟨k, hk, rfl, rfl, ⟨rfl⟩⟩ := hrel
    by_cases hlt : k < ls.length
    · obtain ⟨ad, c, rfl, _, ⟨A1, c1, rfl, hc1, hC1⟩, hcell⟩ := Kd.C_get HR.out [] (k : Int) (by omega) (by omega)
      have hc0' := hcell 0 _ rfl
      rw [Int.toNat_natCast] at hC1 hc0' hc1
      have hft : lenTo ls (k + 1) = lenTo ls k + (ls.getD k []).length := by unfold lenTo; rw [flat_take ls k hlt, List.length_append]
      have hfl : lenTo ls (k + 1) ≤ N := by rw [HN.out]; exact flat_le ls (k + 1)
      have h46 := HB46.out
      have hc0'' : wr.cell? (ad.add k) = some (.slice A1 (ls.getD k []).length c1) := by
        have e : (Kd.slice 68 (k68)).sz = 1 := rfl
        rw [e, Nat.mul_one, Nat.add_zero] at hc0'
        exact hc0'
      rw [hft] at hfl
      have HFT := Aside0.mk hft
      clear hft hcell hc0' hC1
      generalize (ls.getD k []) = l at hfl hc1 hc0'' HFT
      generalize lenTo ls k = s at hfl HFT ⊢
      have hs1 : IntKind.i64.wrap ((s : Int) + (l.length : Int)) = (s : Int) + (l.length : Int) := by rw [IntKind.wrap_i64]; omega
      have hs2 : ¬ ((s : Int) + (l.length : Int) < 0) := by omega
      have hwk : IntKind.i64.wrap ((k : Int) + 1) = (k : Int) + 1 := by rw [IntKind.wrap_i64]; omega
      clear h46
      go_wp2
      go_roundw
      case rel => exact ⟨k + 1, by omega, by go_num, by rw [HFT.out]; go_num, by first | exact ⟨trivial⟩ | exact ⟨rfl⟩⟩
      case measure => simp [intOf]; omega
    · have hle : ¬ ((k : Int) < (ls.length : Int)) := by omega
      have hkk : lenTo ls k = N := by rw [HN.out]; unfold lenTo; rw [List.take_of_length_le (by omega)]
      rw [hkk]
      have hgr := grow_any N wr HBD.out
      have HGR := Aside0.mk hgr
      clear hgr hkk
      go_wp2_with fail
      refine HGR.out.mono ?_
      rintro e w1 ⟨v1, rfl, ho, hbl⟩
      have HO := Aside0.mk ho
      have HBL := Aside0.mk hbl
      clear ho hbl
      obtain ⟨wo, rfl⟩ : ∃ wo : World, wo = wr := ⟨_, rfl⟩
      go_wp2_with fail
      go_loopw [6, 8, 27] (fun s _ i wq => ∃ k : Nat, k ≤ ls.length ∧ i = .int .i64 k ∧ Aside0 (Kd.R (k68) 68 wq wo.heap.size (fun _ => True) s (ls.take k).flatten) ∧ Aside0 (Below wo.heap.size wo wq)) (fun _ _ i _ => ls.length - (intOf i).toNat)
      case atStart => exact ⟨0, Nat.zero_le _, rfl, HO, HBL⟩
      case round =>
        clear HO HBL HGR hk hle hlt
        obtain ⟨k, hk, rfl, HO, HB⟩ := hrel
        by_cases hlt : k < ls.length
        · obtain ⟨ad, c, rfl, _, ⟨A1, c1, rfl, hc1, hC1⟩, hcell⟩ := Kd.C_get (Kd.C_below HR.out HB.out) [] (k : Int) (by omega) (by omega)
          have hc0' := hcell 0 _ rfl
          rw [Int.toNat_natCast] at hC1 hc0' hc1
          have hft := flat_take ls k hlt
          have hfl : (ls.take (k + 1)).flatten.length ≤ N := by rw [HN.out]; exact flat_le ls (k + 1)
          have hc0'' : wr.cell? (ad.add k) = some (.slice A1 (ls.getD k []).length c1) := by
            have e : (Kd.slice 68 (k68)).sz = 1 := rfl
            rw [e, Nat.mul_one, Nat.add_zero] at hc0'
            exact hc0'
          rw [hft, List.length_append] at hfl
          have HFT := Aside0.mk hft
          have HFL := Aside0.mk hfl
          have HC1 := Aside0.mk hC1
          have HHC := Aside0.mk hc1
          clear hft hcell hc0' hC1 hfl hc1
          generalize (ls.getD k []) = l at hc0'' HFT HFL HC1 HHC
          generalize (ls.take k).flatten = s at HFT HFL HO ⊢
          have hwk : IntKind.i64.wrap ((k : Int) + 1) = (k : Int) + 1 := by rw [IntKind.wrap_i64]; omega
          obtain ⟨Av, cv, hv⟩ := Kd.R_slice HO.out
          subst hv
          go_wp2_with (at_builtin; refine Kd.R_append_rows (k68) (w0 := wo) wo.heap.size rfl (.tmp 31) (.tmp 32) 40 68 (.agg #[.int .i64 0, .int .i64 0, .string ByteArray.empty]) 32 rfl Try.underlying40 infoE rfl (by decide) (by omega) (.slice Av s.length cv) s l _ _ _ (fun _ => True) (fun _ => False) rfl rfl HO.out HC1.out (fun _ _ h => h) (fun _ h => h.elim) (fun _ _ => trivial) HB.out HB.out.size (by have := HFL.out; have := HBD.out; omega) ?_; intro v1 w1 ho hbl hg hat; have HO2 := Aside0.mk ho; have HBL := Aside0.mk hbl; clear ho hbl hg hat)
          go_roundw
          case rel => exact ⟨k + 1, by omega, by go_num, by rw [HFT.out]; exact HO2, HBL⟩
          case measure => simp [intOf]; omega
        · have hle : ¬ ((k : Int) < (ls.length : Int)) := by omega
          go_wp2
          go_ret
          refine ⟨_, rfl, ?_, HB.out⟩
          have := HO.out
          rw [List.take_of_length_le (by omega)] at this
          exact this
end Go.Proofs.Ytfpbohfefliljaa.SlV
