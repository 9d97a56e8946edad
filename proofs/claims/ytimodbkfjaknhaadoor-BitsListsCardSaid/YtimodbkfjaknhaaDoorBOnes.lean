/- Count is the number of bits. -/
import Derived.Test.YtimodbkfjaknhaaDoorBPop
import Derived.Laws.Bits128
import Derived.Test.YtimodbkfjaknhaaDoorWWords
namespace Go.Proofs.YtimodbkfjaknhaaDoor.BPlain
open Go Go.RowKit Go.Proofs Go.Proofs.YtimodbkfjaknhaaDoorW.PrintWords
set_option linter.unusedVariables false
theorem bytes8_lt (s : Nat) : ∀ b ∈ bytes8 s, b < 256 := by
  intro b hb
  simp only [bytes8, List.mem_cons, List.not_mem_nil, or_false] at hb
  omega
theorem val_const (s m : Nat) : val ((bytes8 s).map fun _ => m) = m + 256 * (m + 256 * (m + 256 * (m + 256 * (m + 256 * (m + 256 * (m + 256 * (m + 256 * 0))))))) := rfl
theorem pop1 (s : Nat) (h : s < 18446744073709551616) : (s / 2 &&& 6148914691236517205) + (s &&& 6148914691236517205) = val ((bytes8 s).map s1) := by
  have hb := bytes8_lt s
  have hm : val ((bytes8 s).map fun _ => 85) = 6148914691236517205 := by rw [val_const]
  have h1 := val_half [] (bytes8 s) hb
  have h2 := val_mask 85 (by decide) (bytes8 s) hb
  rw [hm, val8 s h] at h1 h2
  rw [h1, h2, val_add]
  rfl
theorem pop2 (s : Nat) (h : s < 18446744073709551616) : (val ((bytes8 s).map s1) / 4 &&& 3689348814741910323) + (val ((bytes8 s).map s1) &&& 3689348814741910323) = val ((bytes8 s).map s2) := by
  have hb : ∀ b ∈ (bytes8 s).map s1, b < 256 := by
    intro b hb
    obtain ⟨c, hc, rfl⟩ := List.mem_map.1 hb
    exact (bytes_all c (bytes8_lt s c hc)).1
  have hm : val (((bytes8 s).map s1).map fun _ => 51) = 3689348814741910323 := by
    rw [List.map_map]
    exact val_const s 51
  have h1 := val_quarter ((bytes8 s).map s1) hb
  have h2 := val_mask 51 (by decide) ((bytes8 s).map s1) hb
  rw [hm] at h1 h2
  rw [h1, h2, val_add, List.map_map]
  rfl
theorem pop3 (s : Nat) (h : s < 18446744073709551616) : (val ((bytes8 s).map s2) / 16 + val ((bytes8 s).map s2)) &&& 1085102592571150095 = val ((bytes8 s).map (cnt 8)) := by
  have hb : ∀ b ∈ (bytes8 s).map s2, b < 256 ∧ b % 16 ≤ 4 ∧ b / 16 ≤ 4 := by
    intro b hb
    obtain ⟨c, hc, rfl⟩ := List.mem_map.1 hb
    have := bytes_all c (bytes8_lt s c hc)
    exact ⟨this.2.1, this.2.2.1, this.2.2.2.1⟩
  have hm : val (((bytes8 s).map s2).map fun _ => 15) = 1085102592571150095 := by
    rw [List.map_map]
    exact val_const s 15
  have h1 := (val_six ((bytes8 s).map s2) hb).1
  rw [hm] at h1
  rw [h1, List.map_map]
  congr 1
  apply List.map_congr_left
  intro b hb
  exact (bytes_all b (bytes8_lt s b hb)).2.2.2.2
theorem pop_bounds (s : Nat) : val ((bytes8 s).map s1) < 18446744073709551616 ∧ val ((bytes8 s).map s2) ≤ 4919131752989213764 := by
  have hb := bytes8_lt s
  have k1 : ∀ b ∈ bytes8 s, s1 b < 256 ∧ s2 b ≤ 68 := fun b h => by
    have := bytes_all b (hb b h)
    omega
  simp only [bytes8, List.map_cons, List.map_nil, val, List.forall_mem_cons] at k1 ⊢
  omega
theorem pop_last (s : Nat) : ∃ c0 c1 c2 c3 c4 c5 c6 c7 : Nat, val ((bytes8 s).map (cnt 8)) = c0 + 256 * (c1 + 256 * (c2 + 256 * (c3 + 256 * (c4 + 256 * (c5 + 256 * (c6 + 256 * (c7 + 256 * 0))))))) ∧ cnt 64 s = c0 + (c1 + (c2 + (c3 + (c4 + (c5 + (c6 + (c7 + 0))))))) ∧ c0 ≤ 8 ∧ c1 ≤ 8 ∧ c2 ≤ 8 ∧ c3 ≤ 8 ∧ c4 ≤ 8 ∧ c5 ≤ 8 ∧ c6 ≤ 8 ∧ c7 ≤ 8 :=
  ⟨_, _, _, _, _, _, _, _, rfl, (cnt64 s), cnt_le 8 _, cnt_le 8 _, cnt_le 8 _, cnt_le 8 _, cnt_le 8 _, cnt_le 8 _, cnt_le 8 _, cnt_le 8 _⟩
theorem uw (n : Nat) (h : n < 18446744073709551616) : IntKind.u64.wrap ((n : Nat) : Int) = (n : Int) := by rw [IntKind.wrap_u64]; omega
theorem d_nat (n m : Nat) : ((n : Nat) : Int) / ((m : Nat) : Int) = ((n / m : Nat) : Int) := (Int.natCast_ediv n m).symm
/-- The library's count. -/
theorem ones (s : Nat) (h : s < 18446744073709551616) : (some (Go.bits .and .i64 (wrap64 (IntKind.u64.wrap ((IntKind.u64.wrap ((IntKind.u64.wrap ((Go.bits .and .u64 (IntKind.u64.wrap (((IntKind.u64.wrap ((Go.bits .and .u64 ((IntKind.u64.wrap ((Go.bits .and .u64 (((s : Nat) : Int) / 2) 6148914691236517205) + (Go.bits .and .u64 ((s : Nat) : Int) 6148914691236517205))) / 4) 3689348814741910323) + (Go.bits .and .u64 (IntKind.u64.wrap ((Go.bits .and .u64 (((s : Nat) : Int) / 2) 6148914691236517205) + (Go.bits .and .u64 ((s : Nat) : Int) 6148914691236517205))) 3689348814741910323))) / 16) + (IntKind.u64.wrap ((Go.bits .and .u64 ((IntKind.u64.wrap ((Go.bits .and .u64 (((s : Nat) : Int) / 2) 6148914691236517205) + (Go.bits .and .u64 ((s : Nat) : Int) 6148914691236517205))) / 4) 3689348814741910323) + (Go.bits .and .u64 (IntKind.u64.wrap ((Go.bits .and .u64 (((s : Nat) : Int) / 2) 6148914691236517205) + (Go.bits .and .u64 ((s : Nat) : Int) 6148914691236517205))) 3689348814741910323))))) 1085102592571150095) + ((Go.bits .and .u64 (IntKind.u64.wrap (((IntKind.u64.wrap ((Go.bits .and .u64 ((IntKind.u64.wrap ((Go.bits .and .u64 (((s : Nat) : Int) / 2) 6148914691236517205) + (Go.bits .and .u64 ((s : Nat) : Int) 6148914691236517205))) / 4) 3689348814741910323) + (Go.bits .and .u64 (IntKind.u64.wrap ((Go.bits .and .u64 (((s : Nat) : Int) / 2) 6148914691236517205) + (Go.bits .and .u64 ((s : Nat) : Int) 6148914691236517205))) 3689348814741910323))) / 16) + (IntKind.u64.wrap ((Go.bits .and .u64 ((IntKind.u64.wrap ((Go.bits .and .u64 (((s : Nat) : Int) / 2) 6148914691236517205) + (Go.bits .and .u64 ((s : Nat) : Int) 6148914691236517205))) / 4) 3689348814741910323) + (Go.bits .and .u64 (IntKind.u64.wrap ((Go.bits .and .u64 (((s : Nat) : Int) / 2) 6148914691236517205) + (Go.bits .and .u64 ((s : Nat) : Int) 6148914691236517205))) 3689348814741910323))))) 1085102592571150095) / 256))) + ((IntKind.u64.wrap ((Go.bits .and .u64 (IntKind.u64.wrap (((IntKind.u64.wrap ((Go.bits .and .u64 ((IntKind.u64.wrap ((Go.bits .and .u64 (((s : Nat) : Int) / 2) 6148914691236517205) + (Go.bits .and .u64 ((s : Nat) : Int) 6148914691236517205))) / 4) 3689348814741910323) + (Go.bits .and .u64 (IntKind.u64.wrap ((Go.bits .and .u64 (((s : Nat) : Int) / 2) 6148914691236517205) + (Go.bits .and .u64 ((s : Nat) : Int) 6148914691236517205))) 3689348814741910323))) / 16) + (IntKind.u64.wrap ((Go.bits .and .u64 ((IntKind.u64.wrap ((Go.bits .and .u64 (((s : Nat) : Int) / 2) 6148914691236517205) + (Go.bits .and .u64 ((s : Nat) : Int) 6148914691236517205))) / 4) 3689348814741910323) + (Go.bits .and .u64 (IntKind.u64.wrap ((Go.bits .and .u64 (((s : Nat) : Int) / 2) 6148914691236517205) + (Go.bits .and .u64 ((s : Nat) : Int) 6148914691236517205))) 3689348814741910323))))) 1085102592571150095) + ((Go.bits .and .u64 (IntKind.u64.wrap (((IntKind.u64.wrap ((Go.bits .and .u64 ((IntKind.u64.wrap ((Go.bits .and .u64 (((s : Nat) : Int) / 2) 6148914691236517205) + (Go.bits .and .u64 ((s : Nat) : Int) 6148914691236517205))) / 4) 3689348814741910323) + (Go.bits .and .u64 (IntKind.u64.wrap ((Go.bits .and .u64 (((s : Nat) : Int) / 2) 6148914691236517205) + (Go.bits .and .u64 ((s : Nat) : Int) 6148914691236517205))) 3689348814741910323))) / 16) + (IntKind.u64.wrap ((Go.bits .and .u64 ((IntKind.u64.wrap ((Go.bits .and .u64 (((s : Nat) : Int) / 2) 6148914691236517205) + (Go.bits .and .u64 ((s : Nat) : Int) 6148914691236517205))) / 4) 3689348814741910323) + (Go.bits .and .u64 (IntKind.u64.wrap ((Go.bits .and .u64 (((s : Nat) : Int) / 2) 6148914691236517205) + (Go.bits .and .u64 ((s : Nat) : Int) 6148914691236517205))) 3689348814741910323))))) 1085102592571150095) / 256))) / 65536))) + ((IntKind.u64.wrap ((IntKind.u64.wrap ((Go.bits .and .u64 (IntKind.u64.wrap (((IntKind.u64.wrap ((Go.bits .and .u64 ((IntKind.u64.wrap ((Go.bits .and .u64 (((s : Nat) : Int) / 2) 6148914691236517205) + (Go.bits .and .u64 ((s : Nat) : Int) 6148914691236517205))) / 4) 3689348814741910323) + (Go.bits .and .u64 (IntKind.u64.wrap ((Go.bits .and .u64 (((s : Nat) : Int) / 2) 6148914691236517205) + (Go.bits .and .u64 ((s : Nat) : Int) 6148914691236517205))) 3689348814741910323))) / 16) + (IntKind.u64.wrap ((Go.bits .and .u64 ((IntKind.u64.wrap ((Go.bits .and .u64 (((s : Nat) : Int) / 2) 6148914691236517205) + (Go.bits .and .u64 ((s : Nat) : Int) 6148914691236517205))) / 4) 3689348814741910323) + (Go.bits .and .u64 (IntKind.u64.wrap ((Go.bits .and .u64 (((s : Nat) : Int) / 2) 6148914691236517205) + (Go.bits .and .u64 ((s : Nat) : Int) 6148914691236517205))) 3689348814741910323))))) 1085102592571150095) + ((Go.bits .and .u64 (IntKind.u64.wrap (((IntKind.u64.wrap ((Go.bits .and .u64 ((IntKind.u64.wrap ((Go.bits .and .u64 (((s : Nat) : Int) / 2) 6148914691236517205) + (Go.bits .and .u64 ((s : Nat) : Int) 6148914691236517205))) / 4) 3689348814741910323) + (Go.bits .and .u64 (IntKind.u64.wrap ((Go.bits .and .u64 (((s : Nat) : Int) / 2) 6148914691236517205) + (Go.bits .and .u64 ((s : Nat) : Int) 6148914691236517205))) 3689348814741910323))) / 16) + (IntKind.u64.wrap ((Go.bits .and .u64 ((IntKind.u64.wrap ((Go.bits .and .u64 (((s : Nat) : Int) / 2) 6148914691236517205) + (Go.bits .and .u64 ((s : Nat) : Int) 6148914691236517205))) / 4) 3689348814741910323) + (Go.bits .and .u64 (IntKind.u64.wrap ((Go.bits .and .u64 (((s : Nat) : Int) / 2) 6148914691236517205) + (Go.bits .and .u64 ((s : Nat) : Int) 6148914691236517205))) 3689348814741910323))))) 1085102592571150095) / 256))) + ((IntKind.u64.wrap ((Go.bits .and .u64 (IntKind.u64.wrap (((IntKind.u64.wrap ((Go.bits .and .u64 ((IntKind.u64.wrap ((Go.bits .and .u64 (((s : Nat) : Int) / 2) 6148914691236517205) + (Go.bits .and .u64 ((s : Nat) : Int) 6148914691236517205))) / 4) 3689348814741910323) + (Go.bits .and .u64 (IntKind.u64.wrap ((Go.bits .and .u64 (((s : Nat) : Int) / 2) 6148914691236517205) + (Go.bits .and .u64 ((s : Nat) : Int) 6148914691236517205))) 3689348814741910323))) / 16) + (IntKind.u64.wrap ((Go.bits .and .u64 ((IntKind.u64.wrap ((Go.bits .and .u64 (((s : Nat) : Int) / 2) 6148914691236517205) + (Go.bits .and .u64 ((s : Nat) : Int) 6148914691236517205))) / 4) 3689348814741910323) + (Go.bits .and .u64 (IntKind.u64.wrap ((Go.bits .and .u64 (((s : Nat) : Int) / 2) 6148914691236517205) + (Go.bits .and .u64 ((s : Nat) : Int) 6148914691236517205))) 3689348814741910323))))) 1085102592571150095) + ((Go.bits .and .u64 (IntKind.u64.wrap (((IntKind.u64.wrap ((Go.bits .and .u64 ((IntKind.u64.wrap ((Go.bits .and .u64 (((s : Nat) : Int) / 2) 6148914691236517205) + (Go.bits .and .u64 ((s : Nat) : Int) 6148914691236517205))) / 4) 3689348814741910323) + (Go.bits .and .u64 (IntKind.u64.wrap ((Go.bits .and .u64 (((s : Nat) : Int) / 2) 6148914691236517205) + (Go.bits .and .u64 ((s : Nat) : Int) 6148914691236517205))) 3689348814741910323))) / 16) + (IntKind.u64.wrap ((Go.bits .and .u64 ((IntKind.u64.wrap ((Go.bits .and .u64 (((s : Nat) : Int) / 2) 6148914691236517205) + (Go.bits .and .u64 ((s : Nat) : Int) 6148914691236517205))) / 4) 3689348814741910323) + (Go.bits .and .u64 (IntKind.u64.wrap ((Go.bits .and .u64 (((s : Nat) : Int) / 2) 6148914691236517205) + (Go.bits .and .u64 ((s : Nat) : Int) 6148914691236517205))) 3689348814741910323))))) 1085102592571150095) / 256))) / 65536))) / 4294967296)))) 127) : Option Int) = some ((cnt 64 s : Nat) : Int) := by
  have e0 : ((s : Nat) : Int) / 2 = ((s / 2 : Nat) : Int) := d_nat s 2
  have e1 : Go.bits .and .u64 ((s / 2 : Nat) : Int) 6148914691236517205 = ((s / 2 &&& 6148914691236517205 : Nat) : Int) := u64_and_nat (s / 2) 6148914691236517205 (by omega) (by decide)
  have e2 : Go.bits .and .u64 ((s : Nat) : Int) 6148914691236517205 = ((s &&& 6148914691236517205 : Nat) : Int) := u64_and_nat s 6148914691236517205 h (by decide)
  obtain ⟨hb1, hb2⟩ := pop_bounds s
  have e3 : IntKind.u64.wrap (((s / 2 &&& 6148914691236517205 : Nat) : Int) + ((s &&& 6148914691236517205 : Nat) : Int)) = ((val ((bytes8 s).map s1) : Nat) : Int) := by
    rw [← Int.natCast_add, pop1 s h, uw _ hb1]
  rw [e0, e1, e2, e3]
  have p2 := pop2 s h
  have p3 := pop3 s h
  generalize val ((bytes8 s).map s1) = v1 at *
  generalize val ((bytes8 s).map s2) = v2 at *
  have f0 : ((v1 : Nat) : Int) / 4 = ((v1 / 4 : Nat) : Int) := d_nat v1 4
  have f1 : Go.bits .and .u64 ((v1 / 4 : Nat) : Int) 3689348814741910323 = ((v1 / 4 &&& 3689348814741910323 : Nat) : Int) := u64_and_nat (v1 / 4) 3689348814741910323 (by omega) (by decide)
  have f2 : Go.bits .and .u64 ((v1 : Nat) : Int) 3689348814741910323 = ((v1 &&& 3689348814741910323 : Nat) : Int) := u64_and_nat v1 3689348814741910323 hb1 (by decide)
  have f3 : IntKind.u64.wrap (((v1 / 4 &&& 3689348814741910323 : Nat) : Int) + ((v1 &&& 3689348814741910323 : Nat) : Int)) = ((v2 : Nat) : Int) := by
    rw [← Int.natCast_add, p2, uw _ (by omega)]
  rw [f0, f1, f2, f3]
  have g0 : ((v2 : Nat) : Int) / 16 = ((v2 / 16 : Nat) : Int) := d_nat v2 16
  have g1 : IntKind.u64.wrap (((v2 / 16 : Nat) : Int) + ((v2 : Nat) : Int)) = ((v2 / 16 + v2 : Nat) : Int) := by
    rw [← Int.natCast_add, uw _ (by omega)]
  have g2 : Go.bits .and .u64 ((v2 / 16 + v2 : Nat) : Int) 1085102592571150095 = (((v2 / 16 + v2) &&& 1085102592571150095 : Nat) : Int) := u64_and_nat (v2 / 16 + v2) 1085102592571150095 (by omega) (by decide)
  rw [g0, g1, g2, p3]
  obtain ⟨c0, c1, c2, c3, c4, c5, c6, c7, hv, hc, k0, k1, k2, k3, k4, k5, k6, k7⟩ := pop_last s
  rw [hc]
  have hv3 : val ((bytes8 s).map (cnt 8)) ≤ 578721382704613384 := by omega
  generalize val ((bytes8 s).map (cnt 8)) = v3 at *
  clear hc p2 p3 hb1 hb2 e0 e1 e2 e3 f0 f1 f2 f3 g0 g1 g2 h
  have a0 : ((v3 : Nat) : Int) / 256 = ((v3 / 256 : Nat) : Int) := d_nat v3 256
  have a1 : IntKind.u64.wrap (((v3 : Nat) : Int) + ((v3 / 256 : Nat) : Int)) = ((v3 + v3 / 256 : Nat) : Int) := by
    rw [← Int.natCast_add, uw _ (by omega)]
  rw [a0, a1]
  obtain ⟨v4, h4⟩ : ∃ v4, v4 = v3 + v3 / 256 := ⟨_, rfl⟩
  rw [← h4]
  have b0 : ((v4 : Nat) : Int) / 65536 = ((v4 / 65536 : Nat) : Int) := d_nat v4 65536
  have b1 : IntKind.u64.wrap (((v4 : Nat) : Int) + ((v4 / 65536 : Nat) : Int)) = ((v4 + v4 / 65536 : Nat) : Int) := by
    rw [← Int.natCast_add, uw _ (by omega)]
  rw [b0, b1]
  obtain ⟨v5, h5⟩ : ∃ v5, v5 = v4 + v4 / 65536 := ⟨_, rfl⟩
  rw [← h5]
  have q0 : ((v5 : Nat) : Int) / 4294967296 = ((v5 / 4294967296 : Nat) : Int) := d_nat v5 4294967296
  have q1 : IntKind.u64.wrap (((v5 : Nat) : Int) + ((v5 / 4294967296 : Nat) : Int)) = ((v5 + v5 / 4294967296 : Nat) : Int) := by
    rw [← Int.natCast_add, uw _ (by omega)]
  rw [q0, q1]
  have q2 : wrap64 ((v5 + v5 / 4294967296 : Nat) : Int) = ((v5 + v5 / 4294967296 : Nat) : Int) := by unfold wrap64; omega
  rw [q2, i64_and127]
  clear a0 a1 b0 b1 q0 q1 q2
  congr 1
  have x3 : v3 / 256 = c1 + 256 * (c2 + 256 * (c3 + 256 * (c4 + 256 * (c5 + 256 * (c6 + 256 * c7))))) := by omega
  have x4 : v4 = (c0 + c1) + 256 * (c1 + c2) + 65536 * ((c2 + c3) + 256 * (c3 + c4) + 65536 * ((c4 + c5) + 256 * (c5 + c6) + 65536 * ((c6 + c7) + 256 * c7))) := by omega
  have y4 : v4 / 65536 = (c2 + c3) + 256 * (c3 + c4) + 65536 * ((c4 + c5) + 256 * (c5 + c6) + 65536 * ((c6 + c7) + 256 * c7)) := by
    clear h5 h4 hv x3 hv3
    omega
  have x5 : v5 = (c0 + c1 + c2 + c3) + 256 * (c1 + c2 + c3 + c4) + 65536 * (c2 + c3 + c4 + c5 + 256 * (c3 + c4 + c5 + c6)) + 4294967296 * ((c4 + c5 + c6 + c7) + 256 * (c5 + c6 + c7) + 65536 * ((c6 + c7) + 256 * c7)) := by
    clear h4 hv x3 hv3
    omega
  have y5 : v5 / 4294967296 = (c4 + c5 + c6 + c7) + 256 * (c5 + c6 + c7) + 65536 * ((c6 + c7) + 256 * c7) := by
    clear h4 hv x3 hv3 y4 x4 h5
    omega
  have z5 : (v5 + v5 / 4294967296) % 128 = c0 + (c1 + (c2 + (c3 + (c4 + (c5 + (c6 + (c7 + 0))))))) := by
    clear h4 hv x3 hv3 y4 x4 h5
    rw [y5]
    omega
  rw [← z5]
  exact (Int.natCast_emod _ 128).symm
end Go.Proofs.YtimodbkfjaknhaaDoor.BPlain
