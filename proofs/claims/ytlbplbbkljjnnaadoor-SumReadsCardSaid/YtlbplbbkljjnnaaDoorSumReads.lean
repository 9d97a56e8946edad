/- SumReads: plain, and its walk with what the row lists. -/
import Derived.Test.YtlbplbbkljjnnaaDoorMSumReadsx1
import Derived.Test.YtlbplbbkljjnnaaDoorSumOf
namespace Go.Proofs.YtlbplbbkljjnnaaDoor.SumReads
set_option linter.ambiguousOpen false
open Go.RowKit Go.Proofs Go.Proofs.YtlbplbbkljjnnaaDoorW.PrintWords Go.Proofs.YtlbplbbkljjnnaaDoorW.PrintMore MSumReads Digs Read
set_option linter.unusedVariables false
set_option linter.ambiguousOpen false

/-- A row of letters as a text. -/
def strN (l : List Nat) : ByteArray := strOfNums (l.map fun (b : Nat) => (b : Int))
theorem dg_dgN (d : Nat) : Show.dg d = ((dgN d : Nat) : Int) := by unfold Show.dg dgN; split <;> omega
theorem hx_hxN (n : Nat) : ∀ k, Show.hx n k = (hxN n k).map fun (b : Nat) => (b : Int)
  | 0 => rfl
  | k + 1 => by
    rw [hxN, List.map_cons, ← hx_hxN n k, ← dg_dgN]
    unfold Show.hx
    rw [List.range_succ_eq_map, List.map_cons, List.map_map]
    congr 1
    apply List.map_congr_left
    intro i hi
    simp only [Function.comp]
    rw [show k + 1 - 1 - (i + 1) = k - 1 - i by omega]
theorem show_eq (n : Nat) : strOfNums (Show.hx n 8) = strN (hxN n 8) := by rw [hx_hxN]; rfl
theorem strN_size (l : List Nat) : (strN l).size = l.length := by unfold strN; rw [Show.str_size, List.length_map]
theorem numsN_strN (l : List Nat) (h : ∀ b ∈ l, b < 256) : numsN (strN l) = l := by
  unfold numsN strN strOfNums
  simp only [List.map_map]
  conv => rhs; rw [← List.map_id l]
  apply List.map_congr_left
  intro b hb
  have := h b hb
  simp
  omega
theorem strN_numsN (s : ByteArray) : strN (numsN s) = s := by
  apply ByteArray.ext
  apply Array.ext'
  unfold numsN strN strOfNums
  simp only [List.map_map]
  conv => rhs; rw [← List.map_id s.data.toList]
  apply List.map_congr_left
  intro b hb
  simp
theorem hxN_lt (n : Nat) : ∀ k, ∀ b ∈ hxN n k, b < 256
  | 0, b, h => by cases h
  | k + 1, b, h => by
    rw [hxN] at h
    rcases List.mem_cons.1 h with rfl | h
    · have : n / 16 ^ k % 16 < 16 := Nat.mod_lt _ (by omega)
      unfold dgN
      split <;> omega
    · exact hxN_lt n k b h
theorem strN_cons (x : Nat) (l : List Nat) : strN [x] ++ strN l = strN (x :: l) := by
  apply ByteArray.ext
  simp [strN, strOfNums]
def lit : ByteArray := ⟨#[48, 49, 50, 51, 52, 53, 54, 55, 56, 57, 97, 98, 99, 100, 101, 102]⟩
theorem lit_cut : ∀ d : Fin 16, (lit.extract d.val (d.val + 1)) = strN [dgN d.val] := by decide +kernel
theorem wr0 (x : Nat) (h : x < 100) : wrap64 (x : Int) = (x : Int) := by unfold wrap64; omega
theorem wr1 (x : Nat) (h : x < 100) : wrap64 ((x : Int) + 1) = ((x + 1 : Nat) : Int) := by unfold wrap64; omega
theorem quo16 (q : Nat) (h : q < 4294967296) : (Int.tdiv ((q : Nat) : Int) 16) % (4294967296 : Int) = ((q / 16 : Nat) : Int) := by
  rw [Int.tdiv_eq_ediv_of_nonneg (Int.natCast_nonneg _)]
  omega
theorem rem16 (q : Nat) : Int.tmod ((q : Nat) : Int) 16 = ((q % 16 : Nat) : Int) := by
  rw [Int.tmod_eq_emod_of_nonneg (Int.natCast_nonneg _)]
  omega
theorem show_l0 (n : Nat) (hn : n < 4294967296) : ∀ (d t k : Nat), 8 - t = d → t ≤ 8 → d < k →
    whirligigref25_Show.l0 k ((n / 16 ^ t : Nat) : Int) lit (strN (hxN n t)) t = some (strN (hxN n 8)) := by
  intro d
  induction d with
  | zero =>
    intro t k hd ht hk
    obtain ⟨k, rfl⟩ : ∃ j, k = j + 1 := ⟨k - 1, by omega⟩
    obtain rfl : t = 8 := by omega
    simp only [whirligigref25_Show.l0]
    rw [if_neg (by omega)]
  | succ d ih =>
    intro t k hd ht hk
    obtain ⟨k, rfl⟩ : ∃ j, k = j + 1 := ⟨k - 1, by omega⟩
    simp only [whirligigref25_Show.l0]
    have e0 : n / 16 ^ (t + 1) = n / 16 ^ t / 16 := by rw [Nat.pow_succ, Nat.div_div_eq_div_mul]
    have hx : hxN n (t + 1) = dgN (n / 16 ^ t % 16) :: hxN n t := rfl
    have hsz : (strN (hxN n t)).size = t := by rw [strN_size, hxN_length]
    have hI := ih (t + 1) k (by omega) (by omega) (by omega)
    rw [e0, hx] at hI
    have hq : n / 16 ^ t < 4294967296 := Nat.lt_of_le_of_lt (Nat.div_le_self _ _) hn
    generalize n / 16 ^ t = q at hI hq ⊢
    have hd16 : q % 16 < 16 := Nat.mod_lt _ (by omega)
    have b1 : q % 16 < 100 := by omega
    have b2 : t < 100 := by omega
    have b3 : t < 8 := by omega
    have c1 : (0 : Int) ≤ ((q % 16 : Nat) : Int) := Int.natCast_nonneg _
    have c2 : ((q % 16 : Nat) : Int) ≤ ((q % 16 + 1 : Nat) : Int) := by omega
    have c3 : ((q % 16 + 1 : Nat) : Int) ≤ 16 := by omega
    have c4 : (t : Int) < 8 := by omega
    have c5 : (strN [dgN (q % 16)]).size + (strN (hxN n t)).size ≤ 9223372036854775807 := by
      rw [strN_size, hsz]
      simp only [List.length_cons, List.length_nil]
      omega
    have e0 := rem16 q
    have e1 : wrap64 (Int.tmod ((q : Nat) : Int) 16) = ((q % 16 : Nat) : Int) := by rw [e0]; exact wr0 _ b1
    have e2 := wr1 (q % 16) b1
    have e3 := wr1 t b2
    have e4 := quo16 q hq
    have hl := lit_cut ⟨q % 16, hd16⟩
    have hls : (lit.size : Int) = 16 := rfl
    rw [e1, e2, e3, e4, hls, Int.toNat_natCast, Int.toNat_natCast, hl, strN_cons]
    rw [if_pos c4, if_pos c1, if_pos c2, if_pos c3, if_pos c5]
    exact hI
theorem refShow (n k : Nat) (hn : n < 4294967296) (hk : 9 ≤ k) : whirligigref25_Show.f k n = some (strN (hxN n 8)) := by
  unfold whirligigref25_Show.f
  have h := show_l0 n hn 8 0 k rfl (by omega) (by omega)
  rw [Nat.pow_zero, Nat.div_one] at h
  exact h
theorem bt_nums (s : ByteArray) (i : Nat) (hi : i < s.size) : (numsN s)[i]? = some (bt s i).toNat := by
  have h1 := bt_at s i (by simpa using hi)
  have h2 : i < s.data.toList.length := by rw [data_length]; exact hi
  unfold numsN
  rw [List.getElem?_map, List.getElem?_eq_getElem h2, ← h1]
  simp
  rfl
theorem shown_l0 (s : ByteArray) (h8 : s.size = 8) : ∀ (d i k : Nat), 8 - i = d → i ≤ 8 → d < k →
    whirligiglaw25_shown.l0 k s 8 i = some (((numsN s).drop i).all fun b => (dv b).isSome) := by
  intro d
  induction d with
  | zero =>
    intro i k hd hi hk
    obtain ⟨k, rfl⟩ : ∃ j, k = j + 1 := ⟨k - 1, by omega⟩
    obtain rfl : i = 8 := by omega
    simp only [whirligiglaw25_shown.l0]
    rw [if_neg (by omega), List.drop_of_length_le (by rw [numsN_length, h8]; omega)]
    rfl
  | succ d ih =>
    intro i k hd hi hk
    obtain ⟨k, rfl⟩ : ∃ j, k = j + 1 := ⟨k - 1, by omega⟩
    simp only [whirligiglaw25_shown.l0]
    have hb := bt_nums s i (by omega)
    have hr := bt_range s i
    have hlt : i < (numsN s).length := by rw [numsN_length]; omega
    rw [List.getElem?_eq_getElem hlt] at hb
    have hb2 := Option.some.inj hb
    rw [List.drop_eq_getElem_cons hlt, List.all_cons, hb2]
    have e3 : wrap64 ((i : Int) + 1) = ((i + 1 : Nat) : Int) := by unfold wrap64; omega
    rw [e3, ih (i + 1) k (by omega) (by omega) (by omega), if_pos (by omega), if_pos (by omega), if_pos (by omega)]
    generalize bt s i = b at hr ⊢
    have none_ : (b < 48 ∨ (57 < b ∧ b < 97) ∨ 102 < b) → (dv b.toNat).isSome = false := fun h => by unfold dv; rw [if_neg (by omega), if_neg (by omega)]; rfl
    have some_ : ((48 ≤ b ∧ b ≤ 57) ∨ (97 ≤ b ∧ b ≤ 102)) → (dv b.toNat).isSome = true := fun h => by
      unfold dv
      by_cases h2 : 48 ≤ b.toNat ∧ b.toNat ≤ 57
      · rw [if_pos h2]; rfl
      · rw [if_neg h2, if_pos (by omega)]; rfl
    by_cases h1 : b < 48
    · rw [if_pos h1, if_pos (by omega : b < 97), none_ (by omega)]; rfl
    · rw [if_neg h1]
      by_cases h2 : b > 57
      · rw [if_pos h2]
        by_cases h3 : b < 97
        · rw [if_pos h3, none_ (by omega)]; rfl
        · rw [if_neg h3]
          by_cases h4 : b > 102
          · rw [if_pos h4, none_ (by omega)]; rfl
          · rw [if_neg h4, some_ (by omega)]; rfl
      · rw [if_neg h2, some_ (by omega)]; rfl
theorem pure : whirligiglaw25_SumReads.Pure := by
  intro a0 a1 h0 h1
  have hp : (16 : Nat) ^ 8 = 4294967296 := by decide
  have hw : 0 ≤ a0 ∧ a0 < 4294967296 := by
    have := bounds_u32 h0
    omega
  obtain ⟨n, rfl⟩ : ∃ n : Nat, a0 = n := ⟨a0.toNat, by omega⟩
  have hn : n < 4294967296 := by omega
  have hrd : readF (strN (hxN n 8)) = ((n : Int), 0) := by
    unfold readF
    rw [if_pos (by rw [strN_size, hxN_length]), numsN_strN _ (hxN_lt n 8), read_hx, hp, Nat.mul_zero, Nat.zero_add, Nat.mod_eq_of_lt hn]
  obtain ⟨k, hk⟩ : ∃ k : Nat, 20 ≤ k := ⟨20, Nat.le_refl _⟩
  refine ⟨k + 1, ?_⟩
  unfold whirligiglaw25_SumReads.f whirligiglaw25_anchor.f
  rw [Option.bind_some, if_pos rfl]
  have e1 : sum_Show.f (n : Int) = some (strN (hxN n 8)) := by
    unfold sum_Show.f
    rw [if_pos hw, Int.toNat_natCast, show_eq]
  have e2 : sum_Read.f (strN (hxN n 8)) = some ((n : Int), 0) := by
    unfold sum_Read.f
    have h8 : (strN (hxN n 8)).size = 8 := by rw [strN_size, hxN_length]
    rw [if_pos (Nat.le_trans (Nat.le_of_eq h8) (by decide)), hrd]
  rw [e1, Option.bind_some, e2, Option.bind_some, refShow n (k + 1) hn (by omega), Option.bind_some, if_pos rfl]
  simp only [if_true, bne_self_eq_false]
  simp only [whirligiglaw25_SumReads.j0]
  have e3 : sum_Read.f a1 = some (readF a1) := by unfold sum_Read.f; rw [if_pos (by omega)]
  rw [if_neg (by simp), e3, Option.bind_some]
  unfold readF
  by_cases h8 : a1.size = 8
  · rw [if_pos h8]
    have hl : (numsN a1).length = 8 := by rw [numsN_length, h8]
    cases hr : readL (numsN a1) 0 with
    | some y =>
      simp only [if_true]
      have hy := read_lt _ _ hr
      rw [hl, hp] at hy
      have hx := (hx_read _ _ _ hr).2
      rw [hl] at hx
      rw [refShow y k hy (by omega), Option.bind_some, hx, strN_numsN]
      simp
    | none =>
      simp only []
      rw [if_neg (by decide), if_pos trivial, if_pos trivial]
      unfold whirligiglaw25_shown.f
      rw [if_pos (by omega)]
      have h := shown_l0 a1 h8 8 0 k rfl (by omega) (by omega)
      rw [show (a1.size : Int) = 8 by omega]
      rw [show ((0 : Nat) : Int) = 0 from rfl] at h
      rw [h, Option.bind_some, List.drop_zero, ← readL_isSome _ 0, hr]
      rfl
  · rw [if_neg h8]
    simp only []
    rw [if_neg (by decide), if_pos trivial, if_pos trivial]
    unfold whirligiglaw25_shown.f
    rw [if_neg (by omega)]
    rfl
theorem sumReads_walk (a0 : Int) (a1 : ByteArray) (w : World) (w0 : (Lit.int .u32 a0).wf = true) (w1 : a1.size ≤ 140737488351232) (hL : laidMetH Tryd.prog Rows.sumReadsRow.laid w) :
    Calls Tryd.prog 6 #[.int .u32 a0, .string a1] w fun e w' => e = .returned (.bool true) ∧ Below w.heap.size w w' :=
  haveI : TabFact w := ⟨SumOf.tab_of hL⟩
  whirligiglaw25_SumReads.walk pure a0 a1 w w0 w1
end Go.Proofs.YtlbplbbkljjnnaaDoor.SumReads
