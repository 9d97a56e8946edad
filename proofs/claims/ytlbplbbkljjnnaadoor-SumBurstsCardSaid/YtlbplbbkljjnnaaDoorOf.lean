/- sum.Of walked: it makes of texts the sum of all their bytes. -/
import Derived.Test.YtlbplbbkljjnnaaDoorProg
import Derived.Test.YtlbplbbkljjnnaaDoorCrc
import Derived.Test.YtlbplbbkljjnnaaDoorWWords
import Derived.Test.YtlbplbbkljjnnaaDoorWMore
import Derived.WalkKit
import Derived.WalkSpells
import Derived.Outline
import Derived.KernelRfl
import Derived.Lib.Hide
import Derived.Lib.ConvBytes
import Derived.Laws.BitsAllLaws
import Derived.RowKit3
namespace Go.Proofs.YtlbplbbkljjnnaaDoor.Of
open Go.RowKit Go.Proofs Go.Proofs.YtlbplbbkljjnnaaDoorW.PrintWords Go.Proofs.YtlbplbbkljjnnaaDoorW.PrintMore
set_option linter.unusedVariables false
set_option linter.unusedSimpArgs false

theorem v_lt (v : Crc.W) : v.toNat < 4294967296 := v.isLt
theorem xor_w (v u : Crc.W) : bits .xor .u32 (v.toNat : Int) (u.toNat : Int) = ((v ^^^ u).toNat : Int) := by
  rw [u32_xor_nat _ _ (v_lt v) (v_lt u), BitVec.toNat_xor]
theorem and_one (v : Crc.W) : bits .and .u32 (v.toNat : Int) 1 = if v.getLsbD 0 then 1 else 0 := by
  have h := u32_and_nat v.toNat 1 (v_lt v) (by omega)
  rw [show ((1 : Nat) : Int) = 1 from rfl] at h
  rw [h, nat_mask1]
  have : v.getLsbD 0 = decide (v.toNat % 2 = 1) := by
    rw [BitVec.getLsbD, Nat.testBit_zero]
  rw [this]
  by_cases h2 : v.toNat % 2 = 1
  · rw [h2]; simp
  · have : v.toNat % 2 = 0 := by omega
    rw [this]; simp
theorem shr_w (v : Crc.W) : (v.toNat : Int) / (2 : Int) = ((v >>> 1).toNat : Int) := by
  rw [BitVec.toNat_ushiftRight, Nat.shiftRight_eq_div_pow]
  omega
theorem st_one (v : Crc.W) (h : v.getLsbD 0 = true) : bits .xor .u32 ((v.toNat : Int) / 2) 3988292384 = ((Crc.st v).toNat : Int) := by
  have e := xor_w (v >>> 1) Crc.poly
  rw [show (Crc.poly.toNat : Int) = 3988292384 from rfl] at e
  have e2 := shr_w v
  rw [e2, e]
  unfold Crc.st
  rw [if_pos h]
theorem st_two (v : Crc.W) (h : v.getLsbD 0 = false) : (v.toNat : Int) / 2 = ((Crc.st v).toNat : Int) := by
  have e2 := shr_w v
  rw [e2]
  unfold Crc.st
  rw [h]
  rfl
theorem not_w (v : Crc.W) : bits .xor .u32 4294967295 (v.toNat : Int) = ((~~~ v).toNat : Int) := by
  have e := xor_w 4294967295#32 v
  rw [show ((4294967295#32 : Crc.W).toNat : Int) = 4294967295 from rfl] at e
  rw [e]
  congr 2
theorem byte_xor (v : Crc.W) (c : UInt8) : bits .xor .u32 (v.toNat : Int) (c.toNat : Int) = ((v ^^^ Crc.byteW c).toNat : Int) := by
  have e : ((Crc.byteW c).toNat : Int) = (c.toNat : Int) := by
    have := c.toNat_lt
    unfold Crc.byteW
    rw [BitVec.toNat_ofNat, Nat.mod_eq_of_lt (by omega)]
  rw [← e, xor_w]

/-- All bytes of the first k texts. -/
def flat (l : List ByteArray) (k : Nat) : List UInt8 := (l.take k).flatMap (·.data.toList)
theorem flat_succ (l : List ByteArray) (k : Nat) (h : k < l.length) : flat l (k + 1) = flat l k ++ (l.getD k ByteArray.empty).data.toList := by
  unfold flat
  rw [List.take_succ_eq_append_getElem h, List.flatMap_append, List.getD_eq_getElem?_getD, List.getElem?_eq_getElem h]
  simp
def ones : Crc.W := 0xffffffff#32

set_option maxRecDepth 100000 in
set_option maxHeartbeats 4000000 in
theorem of_any (A : Option Addr) (c : Nat) (l : List ByteArray) (w : World) (hr : Kd.C Kd.string w A l.length l) (hc : l.length ≤ c) (hs : ∀ s ∈ l, s.size ≤ 4611686018427387904) :
    Calls Tryd.prog 9 #[.slice A l.length c] w fun e w' => e = .returned (.int .u32 ((Crc.of (l.flatMap (·.data.toList))).toNat : Int)) ∧ Below w.heap.size w w' := by
  have hl : l.length ≤ 9223372036854775807 := Kd.C_max hr
  have HR := Aside0.mk hr
  have HS := Aside0.mk hs
  clear hr hs
  go_enter Tryd.func9, Tryd.ntmps9
  go_wp2_with fail
  go_loopw [3, 10] (fun s i wr => ∃ k : Nat, k ≤ l.length ∧ i = .int .i64 k ∧ s = .int .u32 ((Crc.bytes ones (flat l k)).toNat : Int) ∧ Aside0 (Below w.heap.size w wr)) (fun _ i _ => l.length - (intOf i).toNat)
  case atStart => exact ⟨0, Nat.zero_le _, rfl, rfl, ⟨Below.refl _ _⟩⟩
  case round =>
    obtain ⟨k, hk, rfl, rfl, HB⟩ := hrel
    by_cases hlt : k < l.length
    · obtain ⟨ad, rfl, hcell⟩ := Kd.at_string (Kd.C_below HR.out HB.out) (k : Int) (by omega) (by omega)
      rw [Int.toNat_natCast] at hcell
      have hfs := flat_succ l k hlt
      have e1 : rdOf ByteArray.empty l (k : Int) = l.getD k ByteArray.empty := by unfold rdOf; rw [Int.toNat_natCast]
      rw [e1] at hcell
      have hsz : (l.getD k ByteArray.empty).size ≤ 4611686018427387904 := HS.out _ (by rw [List.getD_eq_getElem?_getD, List.getElem?_eq_getElem hlt]; exact List.getElem_mem hlt)
      have HFS := Aside0.mk hfs
      clear hfs e1
      generalize l.getD k ByteArray.empty = s at hcell hsz HFS
      have hcb : ∀ t, Crc.bytes ones (flat l k ++ t) = Crc.bytes (Crc.bytes ones (flat l k)) t := fun t => Crc.bytes_append _ _ _
      have HCB := Aside0.mk hcb
      clear hcb
      generalize Crc.bytes ones (flat l k) = v at HCB ⊢
      have hwk : IntKind.i64.wrap ((k : Int) + 1) = (k : Int) + 1 := by rw [IntKind.wrap_i64]; omega
      have kb := fun W => print_bytes (P := Tryd.prog) 9 27 5 Tryd.underlying9 Tryd.underlying27 Tryd.underlying5 s W
      obtain ⟨wo, rfl⟩ : ∃ wo : World, wo = wr := ⟨_, rfl⟩
      go_wp2_with fail
      have hcl : ∀ j, j < s.size → (Lib.bytesWorld wo 5 s).cell? ⟨wo.heap.size, j, none⟩ = some (.int .u8 ((s.data.toList.getD j 0).toNat : Int)) := by
        intro j hj
        have h1 := bytes_reads wo 5 s (by omega)
        obtain ⟨ad, e, hc2⟩ := h1.2.2 (by omega)
        injection e with e
        subst e
        have h2 := hc2 j hj
        rw [add_plain] at h2
        rw [h2]
        have h' : j < s.data.toList.length := by rw [data_length]; exact hj
        simp [bytesOf, List.getD_eq_getElem?_getD, List.getElem?_eq_getElem h']
      have HB2 := Aside0.mk (bytes_below HB.out HB.out.size 5 s)
      have HCL := Aside0.mk hcl
      clear hcl HB hcell kb
      generalize Lib.bytesWorld wo 5 s = W at HB2 HCL ⊢
      have hsl : s.data.toList.length = s.size := data_length s
      have HSL := Aside0.mk hsl
      clear hsl
      go_loop [3, 17] (fun q i => ∃ j : Nat, j ≤ s.size ∧ i = .int .i64 j ∧ q = .int .u32 ((Crc.bytes v (s.data.toList.take j)).toNat : Int)) (fun _ i => s.size - (intOf i).toNat)
      case atStart => exact ⟨0, Nat.zero_le _, rfl, rfl⟩
      case round =>
        obtain ⟨j, hj, rfl, rfl⟩ := hrel
        by_cases hjl : j < s.size
        · have hcell := HCL.out j hjl
          have htk : s.data.toList.take (j + 1) = s.data.toList.take j ++ [s.data.toList.getD j 0] := by
            have h' : j < s.data.toList.length := by rw [HSL.out]; exact hjl
            rw [List.take_succ_eq_append_getElem h', List.getD_eq_getElem?_getD, List.getElem?_eq_getElem h']
            rfl
          have hnx : Crc.bytes v (s.data.toList.take (j + 1)) = Crc.sts 8 (Crc.bytes v (s.data.toList.take j) ^^^ Crc.byteW (s.data.toList.getD j 0)) := by
            rw [htk, Crc.bytes_append]
            rfl
          have hx := byte_xor (Crc.bytes v (s.data.toList.take j)) (s.data.toList.getD j 0)
          have HNX := Aside0.mk hnx
          clear htk hnx
          generalize s.data.toList.getD j 0 = b at hcell hx HNX
          generalize Crc.bytes v (s.data.toList.take j) = x at hx HNX ⊢
          generalize x ^^^ Crc.byteW b = y at hx HNX
          have hbl : (b.toNat : Int) < 256 := by have := b.toNat_lt; omega
          have hwj : IntKind.i64.wrap ((j : Int) + 1) = (j : Int) + 1 := by rw [IntKind.wrap_i64]; omega
          go_wp2_with fail
          go_loop [3, 25] (fun q i => ∃ t : Nat, t ≤ 8 ∧ i = .int .i64 t ∧ q = .int .u32 ((Crc.sts t y).toNat : Int)) (fun _ i => 8 - (intOf i).toNat)
          case atStart => exact ⟨0, Nat.zero_le _, rfl, rfl⟩
          case round =>
            obtain ⟨t, ht, rfl, rfl⟩ := hrel
            have hwt : IntKind.i64.wrap ((t : Int) + 1) = (t : Int) + 1 := by rw [IntKind.wrap_i64]; omega
            by_cases htl : t < 8
            · have hst := Crc.sts_succ t y
              have HST := Aside0.mk hst
              clear hst
              generalize Crc.sts t y = z at HST ⊢
              have hz := v_lt z
              by_cases hb : z.getLsbD 0 = true
              · have h1 := and_one z
                rw [if_pos hb] at h1
                have h2 := st_one z hb
                go_wp2
                go_round
                case rel => exact ⟨t + 1, by omega, by go_num, by rw [HST.out]⟩
                case measure => simp [intOf]; omega
              · have hb' : z.getLsbD 0 = false := by simpa using hb
                have h1 := and_one z
                rw [if_neg hb] at h1
                have h2 := st_two z hb'
                go_wp2
                go_round
                case rel => exact ⟨t + 1, by omega, by go_num, by rw [HST.out]⟩
                case measure => simp [intOf]; omega
            · have ht8 : ¬ ((t : Int) < 8) := by omega
              have et : t = 8 := by omega
              have HT := Aside0.mk et
              clear et
              go_wp2
              go_round
              case rel => exact ⟨j + 1, by omega, by go_num, by rw [HNX.out, HT.out]⟩
              case measure => simp [intOf]; omega
        · have hjl2 : ¬ ((j : Int) < (s.size : Int)) := by omega
          have hfin : Crc.bytes v (s.data.toList.take j) = Crc.bytes v s.data.toList := by rw [List.take_of_length_le (by rw [HSL.out]; omega)]
          rw [hfin]
          have HF := Aside0.mk (HCB.out s.data.toList)
          rw [← HFS.out] at HF
          clear hfin
          go_wp2
          go_roundw
          case rel => exact ⟨k + 1, by omega, by go_num, by rw [HF.out], HB2⟩
          case measure => simp [intOf]; omega
    · have hle : ¬ ((k : Int) < (l.length : Int)) := by omega
      have hfl : flat l k = l.flatMap (·.data.toList) := by unfold flat; rw [List.take_of_length_le (by omega)]
      rw [hfl]
      have hn := not_w (Crc.bytes ones (l.flatMap (·.data.toList)))
      have HN := Aside0.mk hn
      clear hn hfl
      generalize hG : Crc.bytes ones (l.flatMap (·.data.toList)) = v at HN ⊢
      have HG := Aside0.mk hG
      clear hG
      go_wp2
      go_ret
      refine ⟨?_, HB.out⟩
      show Ending.returned (.int .u32 (bits .xor .u32 4294967295 (v.toNat : Int))) = _
      rw [HN.out, ← HG.out]
      rfl
end Go.Proofs.YtlbplbbkljjnnaaDoor.Of
