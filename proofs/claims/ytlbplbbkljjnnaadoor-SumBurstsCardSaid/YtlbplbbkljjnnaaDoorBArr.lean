/- A text's bytes in a block of their own: read, written, made a text again. -/
import Derived.Test.YtlbplbbkljjnnaaDoorGiven
import Derived.Test.YtlbplbbkljjnnaaDoorFlip
namespace Go.Proofs.YtlbplbbkljjnnaaDoor.BArr
open Go.RowKit Go.Proofs Go.Proofs.YtlbplbbkljjnnaaDoorW.PrintWords Go.Proofs.YtlbplbbkljjnnaaDoorW.PrintMore
set_option linter.unusedVariables false
structure Row (w : World) (g : Nat) (l : List UInt8) (W : World) : Prop where
  blk : ∃ cs lo, W.heap[g]? = some (.cells cs 5 (lo, lo + 1)) ∧ l.length ≤ lo ∧ l.length ≤ cs.size ∧ ∀ j, j < l.length → cs[j]? = some (.int .u8 ((l.getD j 0).toNat : Int))
  below : Below w.heap.size w W
  ge : w.heap.size ≤ g
theorem Row.cell {w : World} {g : Nat} {l : List UInt8} {W : World} (h : Row w g l W) (i : Nat) (hi : i < l.length) : W.cell? ⟨g, i, none⟩ = some (.int .u8 ((l.getD i 0).toNat : Int)) := by
  obtain ⟨cs, lo, hb, h1, h2, h3⟩ := h.blk
  rw [cell_of_row W g i cs 5 (lo, lo + 1) hb]
  exact h3 i hi
theorem Row.free {w : World} {g : Nat} {l : List UInt8} {W : World} (h : Row w g l W) (i : Nat) (hi : i < l.length) : W.frozen? ⟨g, i, none⟩ = false := by
  obtain ⟨cs, lo, hb, h1, h2, h3⟩ := h.blk
  have : ¬ lo ≤ i := by omega
  simp [World.frozen?, hb, this]
theorem Row.put {w : World} {g : Nat} {l : List UInt8} {W : World} (h : Row w g l W) (i : Nat) (hi : i < l.length) (c : UInt8) : Row w g (l.set i c) (W.setCell ⟨g, i, none⟩ (.int .u8 (c.toNat : Int))) := by
  obtain ⟨cs, lo, hb, h1, h2, h3⟩ := h.blk
  refine ⟨⟨cs.setIfInBounds i (.int .u8 (c.toNat : Int)), lo, by simp [World.setCell, Array.getElem?_modify, hb], by rw [List.length_set]; exact h1, by simpa using h2, fun j hj => ?_⟩, h.below.setCell (p := ⟨g, i, none⟩) h.ge _, h.ge⟩
  rw [List.length_set] at hj
  rw [List.getD_eq_getElem?_getD]
  by_cases e : i = j
  · subst e
    rw [List.getElem?_set_self hi, Array.getElem?_setIfInBounds_self_of_lt (by omega)]
    rfl
  · rw [List.getElem?_set_ne e, Array.getElem?_setIfInBounds_ne e, h3 j hj, List.getD_eq_getElem?_getD]
def ints (l : List UInt8) : List Int := l.map fun c => (c.toNat : Int)
theorem Row.reads {w : World} {g : Nat} {l : List UInt8} {W : World} (h : Row w g l W) (hl : l.length ≤ 9223372036854775807) : ReadsInt W .u8 (some ⟨g, 0, none⟩) l.length (ints l) := by
  refine ⟨by unfold ints; rw [List.length_map], hl, fun _ => ⟨_, rfl, fun j hj => ?_⟩⟩
  rw [add_plain, h.cell j hj]
  simp [ints, List.getD_eq_getElem?_getD, List.getElem?_eq_getElem hj]
theorem str_ints (l : List UInt8) : (strOfNums (ints l)).data.toList = l := by
  rw [strOfNums_data]
  unfold ints
  rw [List.map_map]
  conv => rhs; rw [← List.map_id l]
  apply List.map_congr_left
  intro c hc
  simp
theorem str_ints_size (l : List UInt8) : (strOfNums (ints l)).size = l.length := by rw [strOfNums_size]; unfold ints; rw [List.length_map]
theorem start (w w1 : World) (hb : Below w.heap.size w w1) (s : ByteArray) : Row w w1.heap.size s.data.toList (Lib.bytesWorld w1 5 s) := by
  refine ⟨⟨_, _, Lib.bytesWorld_at_new w1 5 s, ?_, ?_, fun j hj => ?_⟩, bytes_below hb hb.size 5 s, hb.size⟩
  · rw [data_length]; simp [Lib.bytesCells]
  · rw [data_length]; simp [Lib.bytesCells]
  · rw [data_length] at hj
    have h1 := Lib.bytesWorld_cell w1 5 s j hj
    rw [cell_of_row _ _ _ _ _ _ (Lib.bytesWorld_at_new w1 5 s)] at h1
    exact h1
theorem xor_byte (c : UInt8) (t : Nat) (ht : t < 8) : bits .xor .u8 (c.toNat : Int) ((2 ^ t : Nat) : Int) = ((Flip.flipB c t).toNat : Int) := by
  rw [u8_xor_nat _ _ c.toNat_lt (Flip.pow8 t ht), Flip.flipB_toNat c t ht]
theorem xor_two (c : UInt8) (t : Nat) (ht : t < 8) : bits .xor .u8 (c.toNat : Int) ((2 : Int) ^ t % 256) = ((Flip.flipB c t).toNat : Int) := by
  have e : ((2 : Int) ^ t % 256) = ((2 ^ t : Nat) : Int) := by
    have h := Flip.pow8 t ht
    rw [show (2 : Int) ^ t = ((2 ^ t : Nat) : Int) by simp]
    generalize 2 ^ t = x at h
    omega
  rw [e, xor_byte c t ht]
theorem flip_at (l : List UInt8) (q t : Nat) (ht : t < 8) : Flip.flip l (8 * q + t) = l.set q (Flip.flipB (l.getD q 0) t) := by
  unfold Flip.flip
  rw [show (8 * q + t) / 8 = q by omega, show (8 * q + t) % 8 = t by omega]
theorem conv {w : World} {g : Nat} {l : List UInt8} {W : World} (h : Row w g l W) (n c : Nat) (hn : l.length = n) (hl : n ≤ 9223372036854775807) : (convert 27 9 (.slice (some ⟨g, 0, none⟩) n c)).run Tryd.prog W = .ok (.string (strOfNums (ints l))) W := by
  subst hn
  exact string_of_reads Tryd.underlying27 Tryd.underlying5 Tryd.underlying9 (h.reads hl)
/-- The sum of one text. -/
theorem one_of (S : ByteArray) (hS : S.size ≤ 4611686018427387904) (W : World) : Calls Tryd.prog 9 #[.slice (some ⟨W.heap.size, 0, none⟩) 1 1] (W.alloc (.cells #[.string S] 9)) fun e w' => e = .returned (.int .u32 ((Crc.of S.data.toList).toNat : Int)) ∧ Below (W.heap.size + 1) (W.alloc (.cells #[.string S] 9)) w' := by
  have h := Of.of_any (some ⟨W.heap.size, 0, none⟩) 1 [S] _ (Show.one_str W S) (Nat.le_refl _) (by simpa using hS)
  rw [show ([S].flatMap fun x => x.data.toList) = S.data.toList by simp] at h
  simpa using h
end Go.Proofs.YtlbplbbkljjnnaaDoor.BArr
