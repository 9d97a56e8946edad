/- SumBits walked. -/
import Derived.Test.YtlbplbbkljjnnaaDoorBArr
import Derived.Test.YtlbplbbkljjnnaaDoorSumOf
namespace Go.Proofs.YtlbplbbkljjnnaaDoor.SumBits
open Go.RowKit Go.Proofs Go.Proofs.YtlbplbbkljjnnaaDoorW.PrintWords Go.Proofs.YtlbplbbkljjnnaaDoorW.PrintMore
set_option linter.unusedVariables false
set_option maxRecDepth 100000 in
set_option maxHeartbeats 4000000 in
theorem bits_in (s : ByteArray) (q t : Nat) (w : World) (HT : Aside0 (Show.Tab w)) (h1 : s.size ≤ 3000) (hq : q < s.size) (ht : t < 8) : Calls Tryd.prog 4 #[.string s, .int .i64 ((8 * q + t : Nat) : Int)] w fun e w' => e = .returned (.bool true) ∧ Below w.heap.size w w' := by
  have kb := fun W => print_bytes (P := Tryd.prog) 9 27 5 Tryd.underlying9 Tryd.underlying27 Tryd.underlying5 s W
  have h2' : ((s.size : Int) == 0) = false := by rw [beq_eq_false_iff_ne]; omega
  have hwr : IntKind.i64.wrap (8 * (s.size : Int)) = 8 * (s.size : Int) := by rw [IntKind.wrap_i64]; omega
  have hor : ¬ (((((s.size : Int) == 0) = true ∨ (3000 : Int) < (s.size : Int)) ∨ ((8 * q + t : Nat) : Int) < 0) ∨ 8 * (s.size : Int) ≤ ((8 * q + t : Nat) : Int)) := by rw [h2']; simp; omega
  have hd8 : Int.tdiv ((8 * q + t : Nat) : Int) 8 = (q : Int) := by rw [Int.tdiv_eq_ediv_of_nonneg (Int.natCast_nonneg _)]; omega
  have hm8 : Int.tmod ((8 * q + t : Nat) : Int) 8 = (t : Int) := by rw [Int.tmod_eq_emod_of_nonneg (Int.natCast_nonneg _)]; omega
  generalize ((8 * q + t : Nat) : Int) = at_ at *
  have hlen : s.data.toList.length = s.size := data_length s
  have HLEN := Aside0.mk hlen
  clear hlen
  go_enter Tryd.func4, Tryd.ntmps4
  go_wp2_with fail
  refine (Show.anchor_any _ HT.out).mono ?_
  rintro e w1 ⟨rfl, hb1⟩
  have HR := Aside0.mk (BArr.start w w1 hb1 s)
  clear hb1
  go_upto_region 6 with (fail)
  generalize Lib.bytesWorld w1 5 s = W at HR ⊢
  generalize hg : w1.heap.size = g at HR ⊢
  have hcell := HR.out.cell q (by rw [HLEN.out]; exact hq)
  have hfree := HR.out.free q (by rw [HLEN.out]; exact hq)
  have hput := HR.out.put q (by rw [HLEN.out]; exact hq) (Flip.flipB (s.data.toList.getD q 0) t)
  rw [← BArr.flip_at _ _ _ ht] at hput
  have hne := Flip.flip_ne s.data.toList (8 * q + t) (by rw [HLEN.out]; omega)
  have hfl : (Flip.flip s.data.toList (8 * q + t)).length = s.size := by rw [Flip.flip_length]; exact HLEN.out
  have HPUT := Aside0.mk hput
  have HNE := Aside0.mk hne
  have HFL := Aside0.mk hfl
  have HX := Aside0.mk (BArr.xor_two (s.data.toList.getD q 0) t ht)
  clear hput hne hfl
  generalize s.data.toList.getD q 0 = c at hcell HPUT HX
  generalize Flip.flip s.data.toList (8 * q + t) = L at HPUT HNE HFL
  go_upto_region 7 with (fail)
  rw [HX.out]
  have HR2 := Aside0.mk HPUT.out
  clear HPUT HR HX hcell hfree
  generalize W.setCell _ _ = W2 at HR2 ⊢
  have hcv := BArr.conv HR2.out s.size (grownCap w1 s.size 0 5) HFL.out (by omega)
  have hds := BArr.str_ints L
  have hss := BArr.str_ints_size L
  rw [HFL.out] at hss
  have hsum := BArr.one_of (strOfNums (BArr.ints L)) (by omega) W2
  rw [hds] at hsum
  have HSUM := Aside0.mk hsum
  have HB2 := Aside0.mk HR2.out.below
  clear hds hss hsum
  generalize strOfNums (BArr.ints L) = S at hcv HSUM
  go_wp2_with fail
  refine HSUM.out.mono ?_
  rintro e w3 ⟨rfl, hb3⟩
  have hb4 : Below w.heap.size w w3 := (HB2.out.alloc (HB2.out.size) _).trans (hb3.mono (by have := HB2.out.size; omega))
  have hsum2 := BArr.one_of s (by omega) w3
  have HSUM2 := Aside0.mk hsum2
  have HB4 := Aside0.mk hb4
  clear hb3 hb4 hsum2
  go_wp2_with fail
  refine HSUM2.out.mono ?_
  rintro e w5 ⟨rfl, hb5⟩
  have hb6 : Below w.heap.size w w5 := (HB4.out.alloc (HB4.out.size) _).trans (hb5.mono (by have := HB4.out.size; omega))
  have hne2 : ((((Crc.of L).toNat : Nat) : Int) != (((Crc.of s.data.toList).toNat : Nat) : Int)) = true := by
    rw [bne_iff_ne]
    intro h
    exact HNE.out (BitVec.eq_of_toNat_eq (by omega))
  have HB6 := Aside0.mk hb6
  clear hb5 hb6
  go_wp2_with fail
  go_ret
  exact ⟨rfl, HB6.out⟩
theorem bits_out (s : ByteArray) (at_ : Int) (w : World) (HT : Aside0 (Show.Tab w)) (h : s.size = 0 ∨ 3000 < s.size ∨ at_ < 0 ∨ 8 * (s.size : Int) ≤ at_) (hs : s.size ≤ 140737488351232) : Calls Tryd.prog 4 #[.string s, .int .i64 at_] w fun e w' => e = .returned (.bool true) ∧ Below w.heap.size w w' := by
  have hwr : IntKind.i64.wrap (8 * (s.size : Int)) = 8 * (s.size : Int) := by rw [IntKind.wrap_i64]; omega
  have hor : (((((s.size : Int) == 0) = true ∨ (3000 : Int) < (s.size : Int)) ∨ at_ < 0) ∨ 8 * (s.size : Int) ≤ at_) := by
    rw [beq_iff_eq]
    omega
  go_enter Tryd.func4, Tryd.ntmps4
  go_wp2_with fail
  refine (Show.anchor_any _ HT.out).mono ?_
  rintro e w1 ⟨rfl, hb1⟩
  have HB := Aside0.mk hb1
  clear hb1
  go_wp2_with fail
  all_goals first | (go_ret; exact ⟨rfl, HB.out⟩) | skip
theorem sumBits_walk (a0 : ByteArray) (a1 : Int) (w : World) (w0 : a0.size ≤ 140737488351232) (w1 : (Lit.int .i64 a1).wf = true) (hL : laidMetH Tryd.prog Rows.sumBitsRow.laid w) :
    Calls Tryd.prog 4 #[.string a0, .int .i64 a1] w fun e w' => e = .returned (.bool true) ∧ Below w.heap.size w w' := by
  have HT : Aside0 (Show.Tab w) := ⟨SumOf.tab_of hL⟩
  by_cases h : a0.size = 0 ∨ 3000 < a0.size ∨ a1 < 0 ∨ 8 * (a0.size : Int) ≤ a1
  · exact bits_out a0 a1 w HT h w0
  · obtain ⟨n, rfl⟩ : ∃ n : Nat, a1 = n := ⟨a1.toNat, by omega⟩
    have := bits_in a0 (n / 8) (n % 8) w HT (by omega) (by omega) (by omega)
    rw [show 8 * (n / 8) + n % 8 = n by omega] at this
    exact this
end Go.Proofs.YtlbplbbkljjnnaaDoor.SumBits
