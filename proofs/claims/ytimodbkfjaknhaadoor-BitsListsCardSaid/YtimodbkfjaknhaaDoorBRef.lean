/- The reference's text of a set is the numbers' digits with commas between. -/
import Derived.Test.YtimodbkfjaknhaaDoorBShow
import Derived.Test.YtimodbkfjaknhaaDoorBMask
import Derived.Test.YtimodbkfjaknhaaDoorMBitsRefx1
namespace Go.Proofs.YtimodbkfjaknhaaDoor.MBitsRef
open Go Go.RowKit Go.Proofs Go.Proofs.YtimodbkfjaknhaaDoorW.PrintWords Go.Proofs.YtimodbkfjaknhaaDoorW.PrintMore BPlain
set_option linter.unusedVariables false
theorem ba (a b : List UInt8) : (⟨a.toArray⟩ : ByteArray) ++ ⟨b.toArray⟩ = ⟨(a ++ b).toArray⟩ := by
  apply ByteArray.ext
  rw [ByteArray.data_append]
  simp
theorem digits : ∀ k < 64, whirligigref10_Digits.f ((k : Nat) : Int) = some (⟨(Lib.decDigits k).toArray⟩ : ByteArray) := by decide +kernel
theorem join_cons (x y : List UInt8) (r : List (List UInt8)) : Lib.join (x :: y :: r) [44] = x ++ [44] ++ Lib.join (y :: r) [44] := by simp [Lib.join, List.intercalate, List.intersperse]
theorem join_snoc : ∀ (xs : List (List UInt8)) (y : List UInt8), xs ≠ [] → Lib.join (xs ++ [y]) [44] = Lib.join xs [44] ++ [44] ++ y
  | [], _, h => absurd rfl h
  | [x], y, _ => by
    have e : Lib.join [x] [44] = x := by simp [Lib.join]
    have e2 : Lib.join [y] [44] = y := by simp [Lib.join]
    rw [List.singleton_append, join_cons, e, e2]
  | x :: z :: r, y, _ => by
    have ih := join_snoc (z :: r) y (by simp)
    rw [List.cons_append, List.cons_append, join_cons, join_cons, ← List.cons_append, ih]
    simp only [List.append_assoc]
theorem show_l0 (L : List Int) (h64 : L.length ≤ 64) (hL : ∀ x ∈ L, ∃ k : Nat, x = (k : Int) ∧ k < 64) : ∀ (m i : Nat), i + m = L.length → whirligigref10_Show.l0 (m + 1) (Seq.joined (L.take i)) L (i : Int) = some (Seq.joined L)
  | 0, i, hi => by
    rw [whirligigref10_Show.l0, if_neg (by omega), List.take_of_length_le (by omega)]
  | m + 1, i, hi => by
    have ih := show_l0 L h64 hL m (i + 1) (by omega)
    obtain ⟨k, hk, hk64⟩ := hL L[i] (List.getElem_mem (by omega))
    have hd : whirligigref10_Digits.f (rd L (i : Int)) = some (Seq.dig (k : Int)) := by
      rw [MBitsSets.rd_at L i (by omega), hk, digits k hk64]
      rfl
    have hlong := Seq.join_long (L.take i) (by rw [List.length_take]; omega) (fun x hx => hL x (List.mem_of_mem_take hx))
    have hs : (Seq.joined (L.take i)).size ≤ 1000 := by simpa [Seq.joined, ByteArray.size] using hlong
    have hds : (Seq.dig (k : Int)).size ≤ 2 := by
      have := Seq.dec_len k hk64
      simpa [Seq.dig, ByteArray.size] using this
    have ht : L.take (i + 1) = L.take i ++ [(k : Int)] := by rw [List.take_succ_eq_append_getElem (by omega), hk]
    have hsz : (Seq.joined (L.take i) ++ (⟨#[44]⟩ : ByteArray)).size = (Seq.joined (L.take i)).size + 1 := ByteArray.size_append
    rw [ht] at ih
    rw [whirligigref10_Show.l0, if_pos (by omega), MBitsSets.w64 i (by omega)]
    by_cases h0 : (i : Int) > 0
    · rw [if_pos h0, if_pos (by omega), if_pos (by omega), hd, Option.bind_some, if_pos (by omega)]
      refine Eq.trans ?_ ih
      congr 1
      unfold Seq.joined
      rw [List.map_append, List.map_append, show ([(k : Int)].map Seq.dig).map (·.data.toList) = [Lib.decDigits k] from rfl, join_snoc _ _ (by
        intro e
        have := congrArg List.length e
        rw [List.length_map, List.length_map, List.length_take, List.length_nil] at this
        omega), ← ba, ← ba]
      rfl
    · obtain rfl : i = 0 := by omega
      rw [if_neg h0, if_pos (by omega), hd, Option.bind_some, if_pos (by omega)]
      refine Eq.trans ?_ ih
      congr 1
      unfold Seq.joined
      rw [List.map_append, List.map_append, show ([(k : Int)].map Seq.dig).map (·.data.toList) = [Lib.decDigits k] from rfl, List.take_zero]
      have e : Lib.join [Lib.decDigits k] [44] = Lib.decDigits k := by simp [Lib.join]
      rw [List.map_nil, List.map_nil, List.nil_append, e]
      apply ByteArray.ext
      rw [ByteArray.data_append]
      simp [Lib.join]
      rfl
theorem list_l0 : ∀ (m j : Nat) (s : Nat) (acc : List Int) (k : Nat), j + m = 64 → acc.length ≤ j → s < 18446744073709551616 → m + 1 ≤ k → whirligigref10_List.l0 k (s : Int) acc (j : Int) = some (acc ++ els m j s)
  | 0, j, s, acc, k + 1, hj, _, _, _ => by
    rw [whirligigref10_List.l0, if_neg (by omega), els, List.append_nil]
  | m + 1, j, s, acc, k + 1, hj, ha, hs, hk => by
    have e1 : Int.tmod (s : Int) 2 = ((s % 2 : Nat) : Int) := by rw [Int.tmod_eq_emod_of_nonneg (by omega)]; omega
    have e2 : IntKind.u64.wrap (Int.tdiv (s : Int) 2) = ((s / 2 : Nat) : Int) := by rw [Int.tdiv_eq_ediv_of_nonneg (by omega), IntKind.wrap_u64]; omega
    rw [whirligigref10_List.l0, if_pos (by omega), e1, e2, MBitsSets.w64 j (by omega), els]
    by_cases h : s % 2 = 1
    · rw [if_pos (by omega), if_pos (by omega), if_pos h, list_l0 m (j + 1) (s / 2) _ k (by omega) (by simp; omega) (by omega) (by omega)]
      simp
    · rw [if_neg (by omega), if_neg h, list_l0 m (j + 1) (s / 2) _ k (by omega) (by omega) (by omega) (by omega)]
      simp
theorem list_f (k s : Nat) (hs : s < 18446744073709551616) (hk : 65 ≤ k) : whirligigref10_List.f k (s : Int) = some (lst s) :=
  list_l0 64 0 s [] k rfl (Nat.le_refl _) hs hk
theorem show_f (s : Nat) (hs : s < 18446744073709551616) : ∃ k, whirligigref10_Show.f k (s : Int) = some (Seq.joined (lst s)) := by
  obtain ⟨h64, hL⟩ := Seq.lst_all s
  have h := show_l0 (lst s) h64 hL (lst s).length 0 (by omega)
  refine ⟨65 + (lst s).length + 1, ?_⟩
  rw [whirligigref10_Show.f, list_f _ s hs (by omega), Option.bind_some]
  have hm : ∀ d, whirligigref10_Show.l0 ((lst s).length + 1 + d) (⟨#[]⟩ : ByteArray) (lst s) 0 = some (Seq.joined (lst s)) := by
    intro d
    induction d with
    | zero => exact h
    | succ d ih =>
      have := (whirligigref10_Show.mono_l ((lst s).length + 1 + d)) (⟨#[]⟩ : ByteArray) (lst s) 0
      exact this _ ih
  have := hm 65
  rwa [show (lst s).length + 1 + 65 = 65 + (lst s).length + 1 by omega] at this
theorem ref_list (s : Nat) (hs : s < 18446744073709551616) (w : World) : Calls Tryd.prog 7 #[.int .u64 (s : Int)] w fun e w' => ∃ v0_ : Value, e = .returned (v0_) ∧ Kd.R (Kd.int .i64) 3 w' w.heap.size (fun _ => True) v0_ (lst s) ∧ Below w.heap.size w w' :=
  whirligigref10_List.calls 65 (s : Int) (lst s) w (list_f 65 s hs (Nat.le_refl _))
theorem ref_show (s : Nat) (hs : s < 18446744073709551616) (w : World) : Calls Tryd.prog 10 #[.int .u64 (s : Int)] w fun e w' => e = .returned (.string (Seq.joined (lst s))) ∧ Below w.heap.size w w' := by
  obtain ⟨k, hk⟩ := show_f s hs
  exact whirligigref10_Show.calls k (s : Int) _ w hk
end Go.Proofs.YtimodbkfjaknhaaDoor.MBitsRef
