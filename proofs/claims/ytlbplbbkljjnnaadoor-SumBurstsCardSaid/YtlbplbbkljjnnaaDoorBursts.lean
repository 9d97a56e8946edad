/- SumBursts walked. -/
import Derived.Test.YtlbplbbkljjnnaaDoorBArr
import Derived.Test.YtlbplbbkljjnnaaDoorSumOf
namespace Go.Proofs.YtlbplbbkljjnnaaDoor.SumBursts
open Go.RowKit Go.Proofs Go.Proofs.YtlbplbbkljjnnaaDoorW.PrintWords Go.Proofs.YtlbplbbkljjnnaaDoorW.PrintMore
set_option linter.unusedVariables false
theorem bit_n (f : Crc.W) (n : Nat) : bits .and .u32 ((f.toNat : Int) / 2 ^ n) 1 = if f.getLsbD n then 1 else 0 := by
  have h := Of.and_one (f >>> n)
  rw [BitVec.toNat_ushiftRight, Nat.shiftRight_eq_div_pow, BitVec.getLsbD_ushiftRight, Nat.add_zero] at h
  rw [← h]
  congr 1
set_option maxRecDepth 100000 in
set_option maxHeartbeats 4000000 in
theorem bursts_in (s : ByteArray) (p : Nat) (f : Crc.W) (w : World) (HT : Aside0 (Show.Tab w)) (h1 : s.size ≤ 3000) (hp : p + 32 ≤ 8 * s.size) (hf : f ≠ 0#32) : Calls Tryd.prog 5 #[.string s, .int .i64 (p : Int), .int .u32 (f.toNat : Int)] w fun e w' => e = .returned (.bool true) ∧ Below w.heap.size w w' := by
  have kb := fun W => print_bytes (P := Tryd.prog) 9 27 5 Tryd.underlying9 Tryd.underlying27 Tryd.underlying5 s W
  have hwr : IntKind.i64.wrap (8 * (s.size : Int)) = 8 * (s.size : Int) := by rw [IntKind.wrap_i64]; omega
  have hwr2 : IntKind.i64.wrap (8 * (s.size : Int) - 32) = 8 * (s.size : Int) - 32 := by rw [IntKind.wrap_i64]; omega
  have hfz : ((f.toNat : Int) == 0) = false := by
    rw [beq_eq_false_iff_ne]
    intro h
    exact hf (BitVec.eq_of_toNat_eq (by simpa using h))
  have hor : ¬ ((((3000 : Int) < (s.size : Int)) ∨ (p : Int) < 0) ∨ 8 * (s.size : Int) - 32 < (p : Int)) := by omega
  have hor2 : ¬ (((((3000 : Int) < (s.size : Int)) ∨ (p : Int) < 0) ∨ 8 * (s.size : Int) - 32 < (p : Int)) ∨ ((f.toNat : Int) == 0) = true) := by rw [hfz]; simp; omega
  have hlen : s.data.toList.length = s.size := data_length s
  have HLEN := Aside0.mk hlen
  clear hlen
  go_enter Tryd.func5, Tryd.ntmps5
  go_wp2_with fail
  refine (Show.anchor_any _ HT.out).mono ?_
  rintro e w1 ⟨rfl, hb1⟩
  have HR := Aside0.mk (BArr.start w w1 hb1 s)
  clear hb1
  go_upto_region 6 with (fail)
  generalize Lib.bytesWorld w1 5 s = W at HR ⊢
  generalize hg : w1.heap.size = g at HR ⊢
  go_wp2_with fail
  go_loopw [33] (fun i wr => ∃ n : Nat, n ≤ 32 ∧ i = .int .i64 n ∧ Aside0 (BArr.Row w g (Flip.flips s.data.toList p f n) wr)) (fun i _ => 32 - (intOf i).toNat)
  case atStart => exact ⟨0, Nat.zero_le _, rfl, HR⟩
  case round =>
    obtain ⟨n, hn, rfl, HRn⟩ := hrel
    by_cases hlt : n < 32
    · have hb := bit_n f n
      have hfs : Flip.flips s.data.toList p f (n + 1) = if f.getLsbD n then Flip.flip (Flip.flips s.data.toList p f n) (p + n) else Flip.flips s.data.toList p f n := rfl
      have hwn : IntKind.i64.wrap ((n : Int) + 1) = (n : Int) + 1 := by rw [IntKind.wrap_i64]; omega
      by_cases hbit : f.getLsbD n = true
      · rw [if_pos hbit] at hb hfs
        have HFS := Aside0.mk hfs
        have hl : (Flip.flips s.data.toList p f n).length = s.size := by rw [Flip.flips_length]; exact HLEN.out
        have hq : (p + n) / 8 < s.size := by omega
        have hcell := HRn.out.cell ((p + n) / 8) (by rw [hl]; exact hq)
        have hfree := HRn.out.free ((p + n) / 8) (by rw [hl]; exact hq)
        have ht : (p + n) % 8 < 8 := Nat.mod_lt _ (by omega)
        have hput := HRn.out.put ((p + n) / 8) (by rw [hl]; exact hq) (Flip.flipB ((Flip.flips s.data.toList p f n).getD ((p + n) / 8) 0) ((p + n) % 8))
        rw [← BArr.flip_at _ _ _ ht, show 8 * ((p + n) / 8) + (p + n) % 8 = p + n by omega, ← HFS.out] at hput
        have HPUT := Aside0.mk hput
        have HX := Aside0.mk (BArr.xor_two ((Flip.flips s.data.toList p f n).getD ((p + n) / 8) 0) ((p + n) % 8) ht)
        clear hput hfs hl
        have hwk : IntKind.i64.wrap ((p : Int) + (n : Int)) = (p : Int) + (n : Int) := by rw [IntKind.wrap_i64]; omega
        have hd8 : Int.tdiv ((p : Int) + (n : Int)) 8 = (((p + n) / 8 : Nat) : Int) := by rw [Int.tdiv_eq_ediv_of_nonneg (by omega)]; omega
        have hm8 : Int.tmod ((p : Int) + (n : Int)) 8 = (((p + n) % 8 : Nat) : Int) := by rw [Int.tmod_eq_emod_of_nonneg (by omega)]; omega
        generalize (Flip.flips s.data.toList p f n).getD ((p + n) / 8) 0 = c at hcell HPUT HX
        generalize hqe : (p + n) / 8 = q at hcell hfree HPUT HX hd8 hq
        generalize hte : (p + n) % 8 = t at HPUT HX hm8 ht
        go_upto_region 11 with (fail)
        generalize (p : Int) + (n : Int) = kk at hd8 hm8 hwk ⊢
        clear hqe hte
        go_upto_region 12 with (fail)
        rw [HX.out]
        generalize wr.setCell _ _ = W2 at HPUT ⊢
        go_wp2_with fail
        go_roundw
        case rel => exact ⟨n + 1, by omega, by go_num, HPUT⟩
        case measure => simp [intOf]; omega
      · rw [if_neg hbit] at hb hfs
        have HFS := Aside0.mk hfs
        clear hfs
        go_wp2_with fail
        go_roundw
        case rel => exact ⟨n + 1, by omega, by go_num, ⟨by rw [HFS.out]; exact HRn.out⟩⟩
        case measure => simp [intOf]; omega
    · obtain rfl : n = 32 := by omega
      have hne := Flip.flips_ne s.data.toList p f (by rw [HLEN.out]; omega) hf
      have hfl : (Flip.flips s.data.toList p f 32).length = s.size := by rw [Flip.flips_length]; exact HLEN.out
      have HNE := Aside0.mk hne
      have HFL := Aside0.mk hfl
      clear hne hfl
      generalize Flip.flips s.data.toList p f 32 = L at HRn HNE HFL
      have hcv := BArr.conv HRn.out s.size (grownCap w1 s.size 0 5) HFL.out (by omega)
      have hds := BArr.str_ints L
      have hss := BArr.str_ints_size L
      rw [HFL.out] at hss
      have hsum := BArr.one_of (strOfNums (BArr.ints L)) (by omega) wr
      rw [hds] at hsum
      have HSUM := Aside0.mk hsum
      have HB2 := Aside0.mk HRn.out.below
      clear hds hss hsum
      generalize strOfNums (BArr.ints L) = S at hcv HSUM
      go_wp2_with fail
      refine HSUM.out.mono ?_
      rintro e w3 ⟨rfl, hb3⟩
      have hb4 : Below w.heap.size w w3 := (HB2.out.alloc (HB2.out.size) _).trans (hb3.mono (by have := HB2.out.size; omega))
      have hsum2 := BArr.one_of s (by omega) w3
      have HSUM2 := Aside0.mk hsum2
      have HB4 := Aside0.mk hb4
      clear hb3 hb4 hsum2
      go_wp2_with fail
      refine HSUM2.out.mono ?_
      rintro e w5 ⟨rfl, hb5⟩
      have hb6 : Below w.heap.size w w5 := (HB4.out.alloc (HB4.out.size) _).trans (hb5.mono (by have := HB4.out.size; omega))
      have hne2 : ((((Crc.of L).toNat : Nat) : Int) != (((Crc.of s.data.toList).toNat : Nat) : Int)) = true := by
        rw [bne_iff_ne]
        intro h
        exact HNE.out (BitVec.eq_of_toNat_eq (by omega))
      have HB6 := Aside0.mk hb6
      clear hb5 hb6
      go_wp2_with fail
      go_ret
      exact ⟨rfl, HB6.out⟩
theorem bursts_out (s : ByteArray) (p f : Int) (w : World) (HT : Aside0 (Show.Tab w)) (h : 3000 < s.size ∨ p < 0 ∨ 8 * (s.size : Int) - 32 < p ∨ f = 0) (hs : s.size ≤ 140737488351232) : Calls Tryd.prog 5 #[.string s, .int .i64 p, .int .u32 f] w fun e w' => e = .returned (.bool true) ∧ Below w.heap.size w w' := by
  have hwr : IntKind.i64.wrap (8 * (s.size : Int)) = 8 * (s.size : Int) := by rw [IntKind.wrap_i64]; omega
  have hwr2 : IntKind.i64.wrap (8 * (s.size : Int) - 32) = 8 * (s.size : Int) - 32 := by rw [IntKind.wrap_i64]; omega
  by_cases hf : f = 0
  · subst hf
    go_enter Tryd.func5, Tryd.ntmps5
    go_wp2_with fail
    refine (Show.anchor_any _ HT.out).mono ?_
    rintro e w1 ⟨rfl, hb1⟩
    have HB := Aside0.mk hb1
    clear hb1
    go_wp2_with fail
    all_goals first | (go_ret; exact ⟨rfl, HB.out⟩) | skip
  · have hfz : (f == 0) = false := beq_eq_false_iff_ne.2 hf
    have hor : ((((3000 : Int) < (s.size : Int)) ∨ p < 0) ∨ 8 * (s.size : Int) - 32 < p) := by omega
    go_enter Tryd.func5, Tryd.ntmps5
    go_wp2_with fail
    refine (Show.anchor_any _ HT.out).mono ?_
    rintro e w1 ⟨rfl, hb1⟩
    have HB := Aside0.mk hb1
    clear hb1
    go_wp2_with fail
    all_goals first | (go_ret; exact ⟨rfl, HB.out⟩) | skip
theorem sumBursts_walk (a0 : ByteArray) (a1 a2 : Int) (w : World) (w0 : a0.size ≤ 140737488351232) (w1 : (Lit.int .i64 a1).wf = true) (w2 : (Lit.int .u32 a2).wf = true) (hL : laidMetH Tryd.prog Rows.sumBurstsRow.laid w) :
    Calls Tryd.prog 5 #[.string a0, .int .i64 a1, .int .u32 a2] w fun e w' => e = .returned (.bool true) ∧ Below w.heap.size w w' := by
  have HT : Aside0 (Show.Tab w) := ⟨SumOf.tab_of hL⟩
  have hf := bounds_u32 w2
  by_cases h : 3000 < a0.size ∨ a1 < 0 ∨ 8 * (a0.size : Int) - 32 < a1 ∨ a2 = 0
  · exact bursts_out a0 a1 a2 w HT h w0
  · obtain ⟨n, rfl⟩ : ∃ n : Nat, a1 = n := ⟨a1.toNat, by omega⟩
    have e : ((BitVec.ofNat 32 a2.toNat).toNat : Int) = a2 := by rw [BitVec.toNat_ofNat]; omega
    have := bursts_in a0 n (BitVec.ofNat 32 a2.toNat) w HT (by omega) (by omega) (fun h0 => by rw [h0] at e; exact h (.inr (.inr (.inr e.symm))))
    rw [e] at this
    exact this
end Go.Proofs.YtlbplbbkljjnnaaDoor.SumBursts
