/- BitsSets: the plain law, and the law's call. -/
import Derived.Test.YtimodbkfjaknhaaDoorBMask
import Derived.Test.YtimodbkfjaknhaaDoorBTab
import Derived.Test.YtimodbkfjaknhaaDoorMBitsSetsx2
namespace Go.Proofs.YtimodbkfjaknhaaDoor.MBitsSets
open Go Go.RowKit Go.Proofs Go.Proofs.YtimodbkfjaknhaaDoorW.PrintWords BPlain
set_option linter.unusedVariables false
theorem bs {α β : Type} {o : Option α} {a : α} {f : α → Option β} {r : Option β} (h : o = some a) (h2 : f a = r) : o.bind f = r := by
  subst h
  exact h2
theorem it {α : Type} {c : Prop} [Decidable c] {x y r : α} (h : c) (h2 : x = r) : (if c then x else y) = r := by
  rw [if_pos h]
  exact h2
theorem el {α : Type} {c : Prop} [Decidable c] {x y r : α} (h : ¬ c) (h2 : y = r) : (if c then x else y) = r := by
  rw [if_neg h]
  exact h2
/-- Whether the numbers below n of one are in the other. -/
def inn (s t : Nat) : Nat → Bool
  | 0 => true
  | n + 1 => inn s t n && (!s.testBit n || t.testBit n)
theorem inn_all (s t : Nat) : ∀ n, inn s t n = true ↔ ∀ i < n, s.testBit i = true → t.testBit i = true
  | 0 => by simp [inn]
  | n + 1 => by
    rw [inn, Bool.and_eq_true, inn_all s t n]
    constructor
    · rintro ⟨h, hn⟩ i hi hs
      by_cases e : i = n
      · subst e
        simpa [hs] using hn
      · exact h i (by omega) hs
    · intro h
      refine ⟨fun i hi => h i (by omega), ?_⟩
      cases hs : s.testBit n
      · rfl
      · simp [h n (by omega) hs]
theorem in_f (s t : Nat) (hs : s < 18446744073709551616) (ht : t < 18446744073709551616) : bits_Set_In.f (s : Int) (t : Int) = some (inn s t 64) := by
  have e : Go.bits .andNot .u64 (s : Int) (t : Int) = ((nl s t : Nat) : Int) := u64_andNot_nat s t hs ht
  rw [bits_Set_In.f, e]
  congr 1
  rw [Bool.eq_iff_iff, beq_iff_eq, inn_all]
  constructor
  · intro h i hi hb
    have h0 : nl s t = 0 := by omega
    have := congrArg (fun x => x.testBit i) h0
    simp only [nl_bit s t i ht, Nat.zero_testBit, hb] at this
    simpa [hi] using this
  · intro h
    rw [nl_zero s t ht (fun i hb => ?_)]
    · rfl
    · by_cases hi : i < 64
      · exact h i hi hb
      · rw [top s i hs hi] at hb
        cases hb
/-- One round's facts make the next round. -/
theorem loop (s t : Nat) (L : List Int) (hs : s < 18446744073709551616) (ht : t < 18446744073709551616) (hL : L.length ≤ 100) : ∀ (m n : Nat), n + m = 64 →
    whirligiglaw10_BitsSets.l0 (170 + m + 1) (s : Int) (t : Int) L (lst s) (lst t) ((s ||| msk L : Nat) : Int) ((nl s (msk L) : Nat) : Int) ((s ||| t : Nat) : Int) ((s &&& t : Nat) : Int) ((nl s t : Nat) : Int) (inn s t n) (n : Int) = some true
  | 0, n, hn => by
    obtain rfl : n = 64 := by omega
    have j1 : ∀ a b : Nat, a < 18446744073709551616 → b < 18446744073709551616 → Go.bits .or .u64 (a : Int) (b : Int) = ((a ||| b : Nat) : Int) := u64_or_nat
    rw [whirligiglaw10_BitsSets.l0]
    refine el (by omega) (bs (in_f s t hs ht) (it (by cases inn s t 64 <;> rfl) (bs (join0 169 _) (it rfl (bs (join2 167 _ _ _) (bs (join1 168 _ _) ?_))))))
    rw [j1 s t hs ht, j1 t s ht hs, j1 _ s (or_lt _ _ hs ht) hs]
    have e : s ||| t ||| s = t ||| s := by rw [Nat.or_comm s t, Nat.or_assoc, Nat.or_self]
    rw [e, beq_self_eq_true]
  | m + 1, n, hn => by
    have ih := loop s t L hs ht hL m (n + 1) (by omega)
    have h64 : decide ((0 : Int) ≤ (n : Int) ∧ (n : Int) < 64) = true := decide_eq_true (by omega)
    have a1 : whirligigref10_Has.f (170 + m + 1) (lst s) (n : Int) = some (s.testBit n) := by
      rw [has_lst s _ _ hs (by omega), h64]
      rfl
    have a2 : whirligigref10_Has.f (170 + m + 1) (lst t) (n : Int) = some (t.testBit n) := by
      rw [has_lst t _ _ ht (by omega), h64]
      rfl
    have a3 : whirligigref10_Has.f (170 + m + 1) L (n : Int) = some (decide ((n : Int) ∈ L)) := has_f L _ _ (by omega) (by omega)
    have hm : (msk L).testBit n = decide ((n : Int) ∈ L) := by
      rw [msk_bit, decide_eq_true (show n < 64 by omega)]
      rfl
    have hh : ∀ x : Nat, x < 18446744073709551616 → bits_Set_Has.f (x : Int) (n : Int) = some (x.testBit n) := fun x hx => by
      rw [bits_has x _ hx, h64]
      rfl
    have b1 : bits_Set_Has.f ((s ||| msk L : Nat) : Int) (n : Int) = some (s.testBit n || decide ((n : Int) ∈ L)) := by
      rw [hh _ (or_lt _ _ hs (msk_lt L)), Nat.testBit_or, hm]
    have b2 : bits_Set_Has.f ((nl s (msk L) : Nat) : Int) (n : Int) = some (s.testBit n && !decide ((n : Int) ∈ L)) := by
      rw [hh _ (nl_lt _ _ hs), nl_bit _ _ _ (msk_lt L), hm, decide_eq_true (show n < 64 by omega), Bool.true_and]
    have b3 : bits_Set_Has.f ((s ||| t : Nat) : Int) (n : Int) = some (s.testBit n || t.testBit n) := by
      rw [hh _ (or_lt _ _ hs ht), Nat.testBit_or]
    have b4 : bits_Set_Has.f ((s &&& t : Nat) : Int) (n : Int) = some (s.testBit n && t.testBit n) := by
      rw [hh _ (and_lt _ _ hs), Nat.testBit_and]
    have b5 : bits_Set_Has.f ((nl s t : Nat) : Int) (n : Int) = some (s.testBit n && !t.testBit n) := by
      rw [hh _ (nl_lt _ _ hs), nl_bit _ _ _ ht, decide_eq_true (show n < 64 by omega), Bool.true_and]
    rw [inn] at ih
    rw [show 170 + (m + 1) + 1 = (170 + m + 1) + 1 by omega, whirligiglaw10_BitsSets.l0, w64 n (by omega)]
    refine it (by omega) (bs a1 (bs a2 (bs a3 (bs b1 ?_))))
    generalize inn s t n = x at ih ⊢
    generalize decide ((n : Int) ∈ L) = z at *
    cases hsn : s.testBit n <;> rw [hsn] at b2 b3 b4 b5 ih
    · refine el (by simp) (el (by cases z <;> decide) (bs b2 (el (by simp) (bs b3 (el (by simp) (bs b4 (el (by simp) (bs b5 (el (by simp) ?_)))))))))
      cases x
      · exact el (by decide) ih
      · exact it rfl ih
    · refine it rfl (el (by simp) (bs b2 (el (by simp) (bs b3 (el (by simp) (bs b4 (el (by simp) (bs b5 (el (by simp) ?_)))))))))
      cases x
      · exact el (by decide) ih
      · exact it rfl (by simpa using ih)
theorem nat_of {a : Int} (h : (Lit.int .u64 a).wf = true) : ∃ n : Nat, a = (n : Int) ∧ n < 18446744073709551616 := by
  have h : (0 : Int) ≤ a ∧ a ≤ 18446744073709551615 := by simpa [Lit.wf, IntKind.min, IntKind.max, IntKind.signed, IntKind.bits] using h
  exact ⟨a.toNat, by omega, by omega⟩
theorem pure_ok : whirligiglaw10_BitsSets.Pure := by
  intro a0 a1 L a3 w0 w1 _ _ _ w3
  obtain ⟨s, rfl, hs⟩ := nat_of w0
  obtain ⟨t, rfl, ht⟩ := nat_of w1
  refine ⟨236, ?_⟩
  refine bs (show whirligiglaw10_anchor.f = some true from rfl) (it rfl ?_)
  by_cases hL : (L.length : Int) > 100
  · exact it hL rfl
  · have hl : L.length ≤ 100 := by omega
    refine el hL (bs (list_f 236 s hs (by decide)) (bs (list_f 236 t ht (by decide)) (bs (of_f L 236 (by omega) (by omega)) (bs (set_f L 236 (by omega) (by omega)) (it rfl (bs (bits_has s a3 hs) (bs (has_lst s 236 a3 hs (by decide)) (el (by simp) (bs (count s hs) ?_)))))))))
    rw [show (236 : Nat) = 235 + 1 from rfl, whirligiglaw10_BitsSets.j0]
    have e1 : Go.bits .or .u64 (s : Int) (t : Int) = ((s ||| t : Nat) : Int) := u64_or_nat s t hs ht
    have e2 : bits_Set_Meet.f (s : Int) (t : Int) = some ((s &&& t : Nat) : Int) := congrArg some (u64_and_nat s t hs ht)
    have e3 : bits_Set_Less.f (s : Int) (t : Int) = some ((nl s t : Nat) : Int) := congrArg some (u64_andNot_nat s t hs ht)
    refine el (by simp) (bs (with_f L 235 s (by omega) (by omega) hs) (bs (without_f L 235 s (by omega) (by omega) hs) (bs ((join1 233 _ _).trans (congrArg some e1)) (bs e2 (bs e3 (loop s t L hs ht hl 64 0 rfl))))))
theorem bitsSets_walk (a0 a1 : Int) (a2 : Option Addr) (cap2 : Nat) (z2 : List Int) (a3 : Int) (w : World) (w0 : (Lit.int .u64 a0).wf = true) (w1 : (Lit.int .u64 a1).wf = true) (hr2 : ReadsInt w .i64 a2 z2.length z2) (hc2 : z2.length ≤ cap2) (hw2 : ∀ x ∈ z2, (Lit.int .i64 x).wf = true) (y2 : z2.length * 8 ≤ 140737488351232) (w3 : (Lit.int .i64 a3).wf = true) (hL : laidMetH Tryd.prog Rows.bitsSetsRow.laid w) :
    Calls Tryd.prog 5 #[.int .u64 a0, .int .u64 a1, .slice a2 z2.length cap2, .int .i64 a3] w fun e w' => e = .returned (.bool true) ∧ Below w.heap.size w w' := by
  haveI : TabFact w := ⟨tab_of hL⟩
  obtain ⟨k, h⟩ := pure_ok a0 a1 z2 a3 w0 w1 (Nat.le_trans (show z2.length ≤ 17592186043904 by omega) (by decide)) y2 hw2 w3
  exact whirligiglaw10_BitsSets.calls k a0 a1 _ _ z2 a3 true w (Kd.C_of_reads (d := (0 : Int)) (h1 := fun _ => rfl) hr2) hc2 h
end Go.Proofs.YtimodbkfjaknhaaDoor.MBitsSets
