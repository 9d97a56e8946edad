/- The document's sum, plain: its loops come to the sum that is reckoned the other way round. -/
import Derived.Test.YtlbplbbkljjnnaaDoorMSumOfx1
namespace Go.Proofs.YtlbplbbkljjnnaaDoor.MSumOf
open Go.RowKit Go.Proofs Go.Proofs.YtlbplbbkljjnnaaDoorW.PrintWords Go.Proofs.YtlbplbbkljjnnaaDoorW.PrintLast Go.Proofs.YtlbplbbkljjnnaaDoorW.PrintMore

theorem bit_of (v : Crc.W) : v.getLsbD 0 = decide (v.toNat % 2 = 1) := by rw [BitVec.getLsbD, Nat.testBit_zero]
theorem top_of (v : Crc.W) : v.getLsbD 31 = decide (v.toNat / 2147483648 = 1) := by
  rw [BitVec.getLsbD, Nat.testBit_eq_decide_div_mod_eq]
  have := v.isLt
  have e : v.toNat / 2 ^ 31 < 2 := by omega
  congr 1
  rw [Nat.mod_eq_of_lt e]
theorem shl_w (v : Crc.W) : ((v.toNat : Int) * (2 : Int)) % (4294967296 : Int) = ((v <<< 1).toNat : Int) := by
  rw [BitVec.toNat_shiftLeft, Nat.shiftLeft_eq]
  have := v.isLt
  omega
theorem half_w (v : Crc.W) : ((v >>> 1).toNat : Int) = (v.toNat : Int) / (2 : Int) := (Of.shr_w v).symm
theorem doc_byte (s : ByteArray) (i : Int) (k : Nat) : ∀ (d t : Nat) (v r : Crc.W), 8 - t = d → t ≤ 8 → v.toNat < 256 →
    whirligigref25_Of.l1 (k + d + 1) s r.toNat i v.toNat t = whirligigref25_Of.l0 k s (Crc.tsRun r (Crc.bitsOf v d)).toNat (wrap64 (i + 1)) := by
  intro d
  induction d with
  | zero =>
    intro t v r hd ht hv
    simp only [whirligigref25_Of.l1]
    rw [if_neg (by omega)]
    rfl
  | succ d ih =>
    intro t v r hd ht hv
    obtain ⟨K, hK⟩ : ∃ K, K = k + d + 1 := ⟨_, rfl⟩
    rw [show k + (d + 1) + 1 = (k + d + 1) + 1 by omega]
    rw [← hK] at ih ⊢
    simp only [whirligigref25_Of.l1]
    have hr := r.isLt
    have e1 : wrap64 ((t : Int) + 1) = ((t + 1 : Nat) : Int) := by unfold wrap64; omega
    have e2 : (Int.tdiv (v.toNat : Int) 2) % (256 : Int) = ((v >>> 1).toNat : Int) := by
      rw [half_w, Int.tdiv_eq_ediv_of_nonneg (by omega)]
      omega
    have e3 : (Int.tdiv (r.toNat : Int) 2147483648) % (4294967296 : Int) = ((r.toNat / 2147483648 : Nat) : Int) := by
      rw [Int.tdiv_eq_ediv_of_nonneg (by omega)]
      omega
    have e4 : (Int.tmod (v.toNat : Int) 2) % (4294967296 : Int) = ((v.toNat % 2 : Nat) : Int) := by
      rw [Int.tmod_eq_emod_of_nonneg (by omega)]
      omega
    have hv2 : (v >>> 1).toNat < 256 := by
      have := half_w v
      omega
    have hx : Go.bits .xor .u32 (((r.toNat : Int) * 2) % 4294967296) 79764919 = (((r <<< 1) ^^^ Crc.ploy).toNat : Int) := by
      rw [shl_w]
      have := Of.xor_w (r <<< 1) Crc.ploy
      rw [show (Crc.ploy.toNat : Int) = 79764919 from rfl] at this
      exact this
    rw [if_pos (by omega), e1, e2, e3, e4, hx, shl_w]
    have hstep : ∀ b : Bool, v.getLsbD 0 = b → Crc.tsRun r (Crc.bitsOf v (d + 1)) = Crc.tsRun (Crc.ts r b) (Crc.bitsOf (v >>> 1) d) := fun b hb => by
      show Crc.tsRun (Crc.ts r (v.getLsbD 0)) _ = _
      rw [hb]
    have h1 : r.toNat / 2147483648 < 2 := by omega
    have h2 : v.toNat % 2 < 2 := by omega
    by_cases h : ((r.toNat / 2147483648 : Nat) : Int) = ((v.toNat % 2 : Nat) : Int)
    · have hts : Crc.ts r (v.getLsbD 0) = r <<< 1 := by
        unfold Crc.ts
        rw [top_of, bit_of, show r.toNat / 2147483648 = v.toNat % 2 by omega]
        simp
      rw [if_pos h, ih (t + 1) (v >>> 1) (r <<< 1) (by omega) (by omega) hv2, hstep _ rfl, hts]
    · have hts : Crc.ts r (v.getLsbD 0) = (r <<< 1) ^^^ Crc.ploy := by
        unfold Crc.ts
        rw [top_of, bit_of]
        rcases (by omega : (r.toNat / 2147483648 = 0 ∧ v.toNat % 2 = 1) ∨ (r.toNat / 2147483648 = 1 ∧ v.toNat % 2 = 0)) with ⟨h4, h5⟩ | ⟨h4, h5⟩
        · rw [h4, h5]; rfl
        · rw [h4, h5]; rfl
      rw [if_neg h, ih (t + 1) (v >>> 1) ((r <<< 1) ^^^ Crc.ploy) (by omega) (by omega) hv2, hstep _ rfl, hts]
theorem doc_bytes (s : ByteArray) (hs : s.size ≤ 3000) (K : Nat) : ∀ (m i : Nat) (r : Crc.W), s.size - i = m → i ≤ s.size →
    whirligigref25_Of.l0 (K + 1 + 10 * m) s r.toNat i = (whirligigref25_turned.f K ((4294967295 - ((Crc.tsRun r (Crc.allBits (s.data.toList.drop i))).toNat : Int)) % 4294967296)).bind fun t => some t := by
  intro m
  induction m with
  | zero =>
    intro i r hm hi
    have hl := data_length s
    simp only [whirligigref25_Of.l0]
    rw [if_neg (by omega), List.drop_eq_nil_of_le (by omega)]
    rfl
  | succ m ih =>
    intro i r hm hi
    have hl := data_length s
    have hlt : i < s.data.toList.length := by omega
    obtain ⟨K2, hK2⟩ : ∃ K2, K2 = K + 1 + 10 * m + 8 + 1 := ⟨_, rfl⟩
    rw [show K + 1 + 10 * (m + 1) = (K + 1 + 10 * m + 8 + 1) + 1 by omega, ← hK2]
    simp only [whirligigref25_Of.l0]
    rw [if_pos (by omega), if_pos (by omega)]
    have hb : bt s (i : Int) = ((Crc.byteW (s.data.toList.getD i 0)).toNat : Int) := by
      rw [← rd_bytesOf]
      unfold rd bytesOf Crc.byteW
      have := (s.data.toList.getD i 0).toNat_lt
      rw [BitVec.toNat_ofNat, Nat.mod_eq_of_lt (by omega), Int.toNat_natCast]
      simp only [List.getD_eq_getElem?_getD, List.getElem?_map]
      cases s.data.toList[i]? <;> rfl
    have hb2 : (Crc.byteW (s.data.toList.getD i 0)).toNat < 256 := by
      have := (s.data.toList.getD i 0).toNat_lt
      unfold Crc.byteW
      rw [BitVec.toNat_ofNat, Nat.mod_eq_of_lt (by omega)]
      omega
    have h8 := doc_byte s i (K + 1 + 10 * m) 8 0 (Crc.byteW (s.data.toList.getD i 0)) r rfl (by omega) hb2
    rw [show ((0 : Nat) : Int) = 0 from rfl] at h8
    have e1 : wrap64 ((i : Int) + 1) = ((i + 1 : Nat) : Int) := by unfold wrap64; omega
    rw [hb, hK2, h8, e1, ih (i + 1) _ (by omega) (by omega)]
    rw [List.drop_eq_getElem_cons hlt]
    congr 5
    show _ = (Crc.tsRun r (Crc.bitsB _ ++ Crc.allBits _)).toNat
    unfold Crc.tsRun
    rw [List.foldl_append]
    unfold Crc.bitsB
    rw [List.getD_eq_getElem?_getD, List.getElem?_eq_getElem hlt]
    rfl
theorem turn_l0 (y : Nat) (v : Crc.W) (hy : y = v.reverse.toNat) : ∀ (d t k : Nat), 32 - t = d → t ≤ 32 → d < k →
    whirligigref25_turned.l0 k ((v.toNat / 2 ^ t : Nat) : Int) ((y / 2 ^ (32 - t) : Nat) : Int) t = some (y : Int) := by
  intro d
  induction d with
  | zero =>
    intro t k hd ht hk
    obtain ⟨k, rfl⟩ : ∃ j, k = j + 1 := ⟨k - 1, by omega⟩
    obtain rfl : t = 32 := by omega
    simp only [whirligigref25_turned.l0]
    rw [if_neg (by omega)]
    simp
  | succ d ih =>
    intro t k hd ht hk
    obtain ⟨k, rfl⟩ : ∃ j, k = j + 1 := ⟨k - 1, by omega⟩
    simp only [whirligigref25_turned.l0]
    have hv := v.isLt
    have hy2 : y < 4294967296 := by rw [hy]; exact v.reverse.isLt
    have e1 : wrap64 ((t : Int) + 1) = ((t + 1 : Nat) : Int) := by unfold wrap64; omega
    have hq : v.toNat / 2 ^ t < 4294967296 := Nat.lt_of_le_of_lt (Nat.div_le_self _ _) hv
    have e2 : (Int.tdiv ((v.toNat / 2 ^ t : Nat) : Int) 2) % (4294967296 : Int) = ((v.toNat / 2 ^ (t + 1) : Nat) : Int) := by
      rw [Int.tdiv_eq_ediv_of_nonneg (Int.natCast_nonneg _), Nat.pow_succ, ← Nat.div_div_eq_div_mul]
      generalize v.toNat / 2 ^ t = q at hq ⊢
      omega
    have hbit : (v.toNat / 2 ^ t) % 2 = (y / 2 ^ (31 - t)) % 2 := by
      have h1 : v.reverse.getLsbD (31 - t) = v.getLsbD t := by rw [Crc.rev_bit _ _ (by omega), show 31 - (31 - t) = t by omega]
      rw [BitVec.getLsbD, BitVec.getLsbD, Nat.testBit_eq_decide_div_mod_eq, Nat.testBit_eq_decide_div_mod_eq, ← hy] at h1
      have h2 := decide_eq_decide.1 h1
      generalize v.toNat / 2 ^ t = q at h2 ⊢
      generalize y / 2 ^ (31 - t) = u at h2 ⊢
      omega
    have hpow : y / 2 ^ (32 - t) = y / 2 ^ (31 - t) / 2 := by
      rw [show 32 - t = (31 - t) + 1 by omega, Nat.pow_succ, Nat.div_div_eq_div_mul]
    have hq2 : y / 2 ^ (31 - t) < 4294967296 := Nat.lt_of_le_of_lt (Nat.div_le_self _ _) hy2
    have e3 : ((((((y / 2 ^ (32 - t) : Nat) : Int) * 2) % 4294967296) + (Int.tmod ((v.toNat / 2 ^ t : Nat) : Int) 2)) % 4294967296) = ((y / 2 ^ (32 - (t + 1)) : Nat) : Int) := by
      rw [Int.tmod_eq_emod_of_nonneg (Int.natCast_nonneg _), show 32 - (t + 1) = 31 - t by omega, hpow]
      generalize v.toNat / 2 ^ t = q at hq hbit ⊢
      generalize y / 2 ^ (31 - t) = u at hbit hq2 ⊢
      omega
    rw [if_pos (by omega), e1, e2, e3]
    exact ih (t + 1) k (by omega) (by omega) (by omega)
theorem turned_f (v : Crc.W) (k : Nat) (hk : 40 ≤ k) : whirligigref25_turned.f k v.toNat = some (v.reverse.toNat : Int) := by
  unfold whirligigref25_turned.f
  have h := turn_l0 v.reverse.toNat v rfl 32 0 k rfl (by omega) (by omega)
  have hlt : v.reverse.toNat / 2 ^ 32 = 0 := Nat.div_eq_of_lt v.reverse.isLt
  rw [Nat.pow_zero, Nat.div_one, Nat.sub_zero, hlt] at h
  exact h
theorem ref_of (s : ByteArray) (hs : s.size ≤ 3000) : whirligigref25_Of.f (41 + 10 * s.size) s = some ((Crc.of s.data.toList).toNat : Int) := by
  unfold whirligigref25_Of.f
  have h := doc_bytes s hs 40 s.size 0 0xffffffff#32 rfl (by omega)
  rw [show (((0xffffffff#32 : Crc.W).toNat : Nat) : Int) = 4294967295 from rfl, show ((0 : Nat) : Int) = 0 from rfl, List.drop_zero] at h
  rw [h]
  generalize hr : Crc.tsRun 0xffffffff#32 (Crc.allBits s.data.toList) = r
  have e : (4294967295 - (r.toNat : Int)) % 4294967296 = ((~~~ r).toNat : Int) := by
    rw [BitVec.toNat_not]
    have := r.isLt
    omega
  rw [e, turned_f _ _ (by omega), ← hr, Crc.of_doc]
  rfl
end Go.Proofs.YtlbplbbkljjnnaaDoor.MSumOf
