/- Sums of 32 bits, plain: the step that goes to the right, the step of the document that goes to the left, that both agree, and that texts which differ in a run of at most 32 bits have other sums. -/
namespace Go.Proofs.YtlbplbbkljjnnaaDoor.Crc

abbrev W := BitVec 32
/-- The polynomial, the lowest power last. -/
def poly : W := 0xedb88320#32
/-- The polynomial, the highest power first. -/
def ploy : W := 0x04c11db7#32
def bitW (b : Bool) : W := if b then 1#32 else 0#32
/-- One step to the right. -/
def st (s : W) : W := if s.getLsbD 0 then (s >>> 1) ^^^ poly else s >>> 1
/-- The document's step to the left. -/
def ts (r : W) (b : Bool) : W := if r.getLsbD 31 != b then (r <<< 1) ^^^ ploy else r <<< 1

theorem st_bit (s : W) (i : Nat) (_hi : i < 32) : (st s).getLsbD i = (s.getLsbD (1 + i) ^^ (s.getLsbD 0 && poly.getLsbD i)) := by
  unfold st
  by_cases h : s.getLsbD 0 = true
  · rw [if_pos h, BitVec.getLsbD_xor, BitVec.getLsbD_ushiftRight, h, Bool.true_and]
  · rw [if_neg h, BitVec.getLsbD_ushiftRight]
    simp only [Bool.not_eq_true] at h
    rw [h, Bool.false_and, Bool.xor_false]
theorem st_xor (a b : W) : st (a ^^^ b) = st a ^^^ st b := by
  apply BitVec.eq_of_getLsbD_eq
  intro i hi
  rw [BitVec.getLsbD_xor, st_bit _ _ hi, st_bit _ _ hi, st_bit _ _ hi, BitVec.getLsbD_xor, BitVec.getLsbD_xor]
  cases a.getLsbD (1 + i) <;> cases b.getLsbD (1 + i) <;> cases a.getLsbD 0 <;> cases b.getLsbD 0 <;> cases poly.getLsbD i <;> rfl
theorem st_zero : st 0#32 = 0#32 := by decide
theorem st_even (a : W) (h : a.getLsbD 0 = false) : st a = a >>> 1 := by unfold st; rw [h]; rfl
theorem st_inj0 (a : W) (h : st a = 0#32) : a = 0#32 := by
  have h31 := st_bit a 31 (by omega)
  rw [h] at h31
  have h0 : a.getLsbD 0 = false := by
    have e : a.getLsbD (1 + 31) = false := BitVec.getLsbD_of_ge _ _ (by omega)
    rw [e] at h31
    have p : poly.getLsbD 31 = true := by decide
    rw [p] at h31
    simpa using h31
  apply BitVec.eq_of_getLsbD_eq
  intro i hi
  cases i with
  | zero => rw [h0]; simp
  | succ i =>
    have := st_bit a i (by omega)
    rw [h, h0] at this
    rw [Nat.add_comm i 1]
    simpa using this.symm

/-- Bits, one behind the other. -/
def run (s : W) (l : List Bool) : W := l.foldl (fun s b => st (s ^^^ bitW b)) s
theorem run_nil (s : W) : run s [] = s := rfl
theorem run_cons (s : W) (b : Bool) (l : List Bool) : run s (b :: l) = run (st (s ^^^ bitW b)) l := rfl
theorem run_append (s : W) (l r : List Bool) : run s (l ++ r) = run (run s l) r := by unfold run; rw [List.foldl_append]
theorem bitW_xor (a b : Bool) : bitW (a ^^ b) = bitW a ^^^ bitW b := by cases a <;> cases b <;> decide
theorem xor4 (a b c d : W) : (a ^^^ b) ^^^ (c ^^^ d) = (a ^^^ c) ^^^ (b ^^^ d) := by
  rw [BitVec.xor_assoc, BitVec.xor_assoc, ← BitVec.xor_assoc b c d, BitVec.xor_comm b c, BitVec.xor_assoc c b d]
/-- Two states and two rows of bits: the difference goes on by itself. -/
theorem run_xor : ∀ (l f : List Bool) (s d : W), l.length = f.length → run (s ^^^ d) (List.zipWith Bool.xor l f) = run s l ^^^ run d f := by
  intro l
  induction l with
  | nil => intro f s d h; cases f with
    | nil => rfl
    | cons _ _ => cases h
  | cons a l ih =>
    intro f s d h
    cases f with
    | nil => cases h
    | cons b f =>
      rw [List.zipWith_cons_cons, run_cons, run_cons, run_cons, ← ih f _ _ (by simpa using h)]
      congr 1
      rw [← st_xor]
      congr 1
      rw [show Bool.xor a b = (a ^^ b) from rfl, bitW_xor, xor4]
theorem run_zero_none (n : Nat) : ∀ d : W, run d (List.replicate n false) = 0#32 → d = 0#32 := by
  induction n with
  | zero => intro d h; exact h
  | succ n ih =>
    intro d h
    rw [List.replicate_succ, run_cons] at h
    have := ih _ h
    rw [show bitW false = 0#32 from rfl, BitVec.xor_zero] at this
    exact st_inj0 _ this
theorem xor_eq_zero {a b : W} (h : a = b) : a ^^^ b = 0#32 := by rw [h, BitVec.xor_self]

/-- The bits of a word from the i-th on, n of them. -/
def bitsOf (x : W) : Nat → List Bool
  | 0 => []
  | n + 1 => x.getLsbD 0 :: bitsOf (x >>> 1) n
theorem bitsOf_length (n : Nat) : ∀ x : W, (bitsOf x n).length = n := by
  induction n with
  | zero => intro x; rfl
  | succ n ih => intro x; simp [bitsOf, ih]
theorem bitsOf_get (n : Nat) : ∀ (x : W) (i : Nat), i < n → (bitsOf x n)[i]? = some (x.getLsbD i) := by
  induction n with
  | zero => intro x i h; omega
  | succ n ih =>
    intro x i h
    cases i with
    | zero => rfl
    | succ i =>
      show (bitsOf (x >>> 1) n)[i]? = _
      rw [ih _ _ (by omega), BitVec.getLsbD_ushiftRight, Nat.add_comm]
/-- n steps. -/
def sts : Nat → W → W
  | 0, s => s
  | n + 1, s => sts n (st s)
theorem sts_succ (n : Nat) : ∀ s, sts (n + 1) s = st (sts n s) := by
  induction n with
  | zero => intro s; rfl
  | succ n ih => intro s; show sts (n + 1) (st s) = _; rw [ih]; rfl
theorem low_split (c : W) : c = bitW (c.getLsbD 0) ^^^ (c ^^^ bitW (c.getLsbD 0)) := by
  rw [BitVec.xor_comm c, ← BitVec.xor_assoc, BitVec.xor_self, BitVec.zero_xor]
theorem bitW_get (b : Bool) (i : Nat) : (bitW b).getLsbD i = (decide (i = 0) && b) := by
  cases b
  · simp [bitW]
  · simp [bitW, BitVec.getLsbD_one]
theorem low_rest (c : W) : st (c ^^^ bitW (c.getLsbD 0)) = c >>> 1 := by
  rw [st_even _ (by rw [BitVec.getLsbD_xor, bitW_get]; simp)]
  apply BitVec.eq_of_getLsbD_eq
  intro i hi
  rw [BitVec.getLsbD_ushiftRight, BitVec.getLsbD_ushiftRight, BitVec.getLsbD_xor, bitW_get]
  simp
/-- n bits at once, and n steps: the same as bit by bit, and what stands above them is left. -/
theorem run_bits (n : Nat) : ∀ s c : W, sts n (s ^^^ c) = run s (bitsOf c n) ^^^ (c >>> n) := by
  induction n with
  | zero => intro s c; simp [sts, bitsOf, run_nil]
  | succ n ih =>
    intro s c
    have e : st (s ^^^ c) = st (s ^^^ bitW (c.getLsbD 0)) ^^^ (c >>> 1) := by
      conv => lhs; rw [low_split c, ← BitVec.xor_assoc]
      rw [st_xor, low_rest]
    show sts n (st (s ^^^ c)) = _
    rw [e, ih]
    show _ = run (st (s ^^^ bitW (c.getLsbD 0))) (bitsOf (c >>> 1) n) ^^^ _
    rw [← BitVec.shiftRight_add, Nat.add_comm n 1]
theorem sts_zero (n : Nat) : ∀ a, sts n a = 0#32 → a = 0#32 := by
  induction n with
  | zero => intro a h; exact h
  | succ n ih => intro a h; exact st_inj0 _ (ih _ h)

/-- A byte as a word. -/
def byteW (c : UInt8) : W := BitVec.ofNat 32 c.toNat
def bitsB (c : UInt8) : List Bool := bitsOf (byteW c) 8
/-- One byte. -/
def byte (s : W) (c : UInt8) : W := sts 8 (s ^^^ byteW c)
theorem byteW_hi (c : UInt8) : byteW c >>> 8 = 0#32 := by
  apply BitVec.eq_of_toNat_eq
  rw [BitVec.toNat_ushiftRight, byteW, BitVec.toNat_ofNat, Nat.shiftRight_eq_div_pow]
  have := c.toNat_lt
  rw [Nat.mod_eq_of_lt (by omega), Nat.div_eq_of_lt (by omega)]
  rfl
theorem byte_run (s : W) (c : UInt8) : byte s c = run s (bitsB c) := by
  unfold byte bitsB
  rw [run_bits, byteW_hi, BitVec.xor_zero]
/-- All bits of bytes. -/
def allBits (l : List UInt8) : List Bool := l.flatMap bitsB
def bytes (s : W) (l : List UInt8) : W := l.foldl byte s
theorem bytes_run (l : List UInt8) : ∀ s, bytes s l = run s (allBits l) := by
  induction l with
  | nil => intro s; rfl
  | cons c l ih =>
    intro s
    show bytes (byte s c) l = run s (bitsB c ++ allBits l)
    rw [ih, run_append, byte_run]
theorem bytes_append (s : W) (l r : List UInt8) : bytes s (l ++ r) = bytes (bytes s l) r := by unfold bytes; rw [List.foldl_append]
/-- The sum. -/
def of (l : List UInt8) : W := ~~~ (bytes 0xffffffff#32 l)
theorem of_ne {l r : List UInt8} (h : bytes 0xffffffff#32 l ≠ bytes 0xffffffff#32 r) : of l ≠ of r := by
  intro e
  apply h
  unfold of at e
  have := congrArg (fun x => ~~~ x) e
  simpa using this

theorem allBits_length (l : List UInt8) : (allBits l).length = 8 * l.length := by
  unfold allBits
  rw [List.length_flatMap]
  induction l with
  | nil => rfl
  | cons c l ih => simp only [List.map_cons, List.sum_cons, List.length_cons, ih]; rw [show (bitsB c).length = 8 from bitsOf_length 8 _]; omega
theorem allBits_get : ∀ (l : List UInt8) (k : Nat), k < 8 * l.length → (allBits l)[k]? = (l[k / 8]?).map fun c => (byteW c).getLsbD (k % 8) := by
  intro l
  induction l with
  | nil => intro k h; simp at h
  | cons c l ih =>
    intro k h
    show (bitsB c ++ allBits l)[k]? = _
    have hb : (bitsB c).length = 8 := bitsOf_length 8 _
    by_cases hk : k < 8
    · rw [List.getElem?_append_left (by omega), show bitsB c = bitsOf (byteW c) 8 from rfl, bitsOf_get _ _ _ hk, Nat.div_eq_of_lt hk, Nat.mod_eq_of_lt hk]
      rfl
    · rw [List.getElem?_append_right (by omega), hb, ih (k - 8) (by simp at h; omega), show k / 8 = (k - 8) / 8 + 1 by omega, show k % 8 = (k - 8) % 8 by omega]
      rfl
/-- Two texts of one length whose bits differ just in a run of at most 32 bits, and there somewhere, have other sums. -/
theorem burst {l r : List UInt8} (hl : l.length = r.length) (p n : Nat) (f : W) (hp : p + n ≤ 8 * l.length) (hf : f ≠ 0#32) (hf2 : f >>> n = 0#32)
    (h : ∀ k, k < 8 * l.length → (allBits r)[k]? = (allBits l)[k]?.map fun b => (b ^^ (decide (p ≤ k) && decide (k < p + n) && f.getLsbD (k - p)))) : of r ≠ of l := by
  apply of_ne
  rw [bytes_run, bytes_run]
  have e : allBits r = List.zipWith Bool.xor (allBits l) (List.replicate p false ++ (bitsOf f n ++ List.replicate (8 * l.length - (p + n)) false)) := by
    apply List.ext_getElem?
    intro k
    by_cases hk : k < 8 * l.length
    · rw [h k hk, List.getElem?_zipWith]
      have h1 : k < (allBits l).length := by rw [allBits_length]; exact hk
      rw [List.getElem?_eq_getElem h1]
      have e2 : (List.replicate p false ++ (bitsOf f n ++ List.replicate (8 * l.length - (p + n)) false))[k]? = some (decide (p ≤ k) && decide (k < p + n) && f.getLsbD (k - p)) := by
        by_cases k1 : k < p
        · rw [List.getElem?_append_left (by simpa using k1), List.getElem?_replicate, if_pos k1]
          have : ¬ p ≤ k := by omega
          simp [this]
        · rw [List.getElem?_append_right (by simp; omega), List.length_replicate]
          have k1' : p ≤ k := by omega
          by_cases k2 : k < p + n
          · rw [List.getElem?_append_left (by rw [bitsOf_length]; omega), bitsOf_get _ _ _ (by omega)]
            simp [k1', k2]
          · rw [List.getElem?_append_right (by rw [bitsOf_length]; omega), bitsOf_length, List.getElem?_replicate, if_pos (by omega)]
            simp [k2]
      rw [e2]
      rfl
    · rw [List.getElem?_eq_none (by rw [allBits_length]; omega), List.getElem?_eq_none (by rw [List.length_zipWith, allBits_length]; omega)]
  rw [e]
  intro h2
  have hx := run_xor (allBits l) (List.replicate p false ++ (bitsOf f n ++ List.replicate (8 * l.length - (p + n)) false)) 0xffffffff#32 0#32 (by rw [allBits_length]; simp [bitsOf_length]; omega)
  rw [BitVec.xor_zero, h2] at hx
  have hz : run 0#32 (List.replicate p false ++ (bitsOf f n ++ List.replicate (8 * l.length - (p + n)) false)) = 0#32 := by
    have := congrArg (fun x => run 0xffffffff#32 (allBits l) ^^^ x) hx
    simp only [← BitVec.xor_assoc, BitVec.xor_self, BitVec.zero_xor] at this
    exact this.symm
  rw [run_append, run_append] at hz
  have h0 := run_zero_none _ _ hz
  have hr : run 0#32 (List.replicate p false) = 0#32 := by
    clear hz h0 hx h2 e h hp
    induction p with
    | zero => rfl
    | succ p ih => rw [List.replicate_succ, run_cons, show st (0#32 ^^^ bitW false) = 0#32 by decide, ih]
  rw [hr] at h0
  have hb := run_bits n 0#32 f
  rw [BitVec.zero_xor, h0, hf2, BitVec.xor_zero] at hb
  exact hf (sts_zero _ _ hb)

/-- The document's steps, byte for byte. -/
def tsRun (r : W) (l : List Bool) : W := l.foldl ts r
theorem rev_bit (x : W) (i : Nat) (hi : i < 32) : x.reverse.getLsbD i = x.getLsbD (31 - i) := by
  rw [BitVec.getLsbD_reverse, BitVec.getMsbD]
  simp [hi]
theorem poly_ploy : ∀ i : Fin 32, poly.getLsbD i = ploy.getLsbD (31 - i) := by decide
theorem st_ts (r : W) (b : Bool) : st (r.reverse ^^^ bitW b) = (ts r b).reverse := by
  apply BitVec.eq_of_getLsbD_eq
  intro i hi
  rw [st_bit _ _ hi, rev_bit _ _ hi, BitVec.getLsbD_xor, BitVec.getLsbD_xor, bitW_get, bitW_get, rev_bit _ _ (by omega : 0 < 32)]
  have e1 : decide (1 + i = 0) = false := by simp
  rw [e1, Bool.false_and, Bool.xor_false]
  have e2 := poly_ploy ⟨i, hi⟩
  simp only at e2
  rw [e2]
  have e3 : r.reverse.getLsbD (1 + i) = (r <<< 1).getLsbD (31 - i) := by
    rw [BitVec.getLsbD_shiftLeft]
    by_cases h31 : i = 31
    · subst h31
      rw [BitVec.getLsbD_of_ge _ _ (by omega)]
      simp
    · rw [rev_bit _ _ (by omega), show 31 - (1 + i) = 31 - i - 1 by omega]
      have h1 : 31 - i < 32 := by omega
      have h2 : ¬ 31 - i < 1 := by omega
      simp [h1, h2]
  rw [e3]
  unfold ts
  show _ = _
  cases h : r.getLsbD 31 <;> cases b
  · simp
  · simp
  · simp
  · simp
theorem run_ts (l : List Bool) : ∀ r : W, run r.reverse l = (tsRun r l).reverse := by
  induction l with
  | nil => intro r; rfl
  | cons b l ih => intro r; rw [run_cons, st_ts, ih]; rfl
theorem rev_not (r : W) : (~~~ r).reverse = ~~~ r.reverse := by
  apply BitVec.eq_of_getLsbD_eq
  intro i hi
  rw [rev_bit _ _ hi, BitVec.getLsbD_not, BitVec.getLsbD_not, rev_bit _ _ hi]
  have : 31 - i < 32 := by omega
  simp [hi, this]
theorem rev_ones : (0xffffffff#32).reverse = 0xffffffff#32 := by
  show (BitVec.allOnes 32).reverse = BitVec.allOnes 32
  apply BitVec.eq_of_getLsbD_eq
  intro i hi
  rw [rev_bit _ _ hi, BitVec.getLsbD_allOnes, BitVec.getLsbD_allOnes]
  have : 31 - i < 32 := by omega
  simp [hi, this]
/-- The document's sum is the sum. -/
theorem of_doc (l : List UInt8) : (~~~ (tsRun 0xffffffff#32 (allBits l))).reverse = of l := by
  rw [rev_not, ← run_ts, rev_ones, ← bytes_run]
  rfl
end Go.Proofs.YtlbplbbkljjnnaaDoor.Crc
