/- Match tells of any two strings what the reference's Match tells, and First the least index at which it tells yes; so EventMatches answers true for any name and any list of descriptors. -/
import Derived.Test.YtihmbfheaghfaaaEvMatches
import Derived.Lib.Strings
import Derived.Lib.IndexBytes
import Derived.Lib.PathFns
namespace Go.Proofs.Ytihmbfheaghfaaa.PureM
open Go.RowKit Go.Proofs.Ytihmbfheaghfaaa.PEventMatches Go.Proofs.YtihmbfheaghfaaaW.PrintWords Go.Proofs.YtihmbfheaghfaaaW.PrintLast

/-- What Match tells, of lists of bytes. -/
def mt (c n : List UInt8) : Bool :=
  if c = [42] then n != [] else c != [] && c.isPrefixOf n && (n.drop c.length == [] || (n.drop c.length).head? == some 46)

theorem hasPrefix_f (a b : ByteArray) : stringslite_HasPrefix.f a b = some (b.data.toList.isPrefixOf a.data.toList) := by
  unfold stringslite_HasPrefix.f
  have ha := Lib.size_eq a
  have hb := Lib.size_eq b
  by_cases h : (a.size : Int) ≥ (b.size : Int)
  · rw [if_pos h, if_pos (by omega), if_pos (by omega), Lib.toList_data, Lib.toList_data, Lib.extract_data]
    rw [List.drop_zero, Int.toNat_natCast, Nat.sub_zero, hb]
    congr 1
    rw [Bool.eq_iff_iff, beq_iff_eq, List.isPrefixOf_iff_prefix, List.prefix_iff_eq_take]
    exact eq_comm
  · rw [if_neg h]
    congr 1
    symm
    rw [Bool.eq_false_iff]
    intro hp
    have := (List.isPrefixOf_iff_prefix.1 hp).length_le
    omega

theorem cutPrefix_f (a b : ByteArray) : strings_CutPrefix.f a b = some (if b.data.toList.isPrefixOf a.data.toList then (a.extract b.size a.size, true) else (a, false)) := by
  unfold strings_CutPrefix.f stringslite_CutPrefix.f
  rw [hasPrefix_f]
  have ha := Lib.size_eq a
  have hb := Lib.size_eq b
  simp only [Option.bind_some]
  by_cases h : b.data.toList.isPrefixOf a.data.toList = true
  · have := (List.isPrefixOf_iff_prefix.1 h).length_le
    rw [if_pos h, if_pos h, if_pos (by omega), if_pos (by omega)]
    rfl
  · rw [if_neg h, if_neg h]
    rfl

theorem bt_zero (s : ByteArray) (h : 0 < s.size) (c : UInt8) : (bt s 0 == (c.toNat : Int)) = (s.data.toList.head? == some c) := by
  obtain ⟨⟨l⟩⟩ := s
  cases l with
  | nil => exact absurd h (by decide)
  | cons x r =>
    have e : bt ⟨⟨x :: r⟩⟩ 0 = (x.toNat : Int) := rfl
    rw [e]
    simp only [List.head?_cons]
    rw [Bool.eq_iff_iff, beq_iff_eq, beq_iff_eq]
    constructor
    · intro hx
      have : x.toNat = c.toNat := by omega
      rw [UInt8.toNat_inj.1 this]
    · intro hx
      injection hx with hx
      rw [hx]

theorem match_f (c n : ByteArray) : event_Match.f c n = some (mt c.data.toList n.data.toList) := by
  unfold event_Match.f mt
  rw [cutPrefix_f]
  simp only [Lib.toList_data, Option.bind_some]
  by_cases h1 : c.data.toList = [42]
  · rw [if_pos h1, if_pos h1]
  · rw [if_neg h1, if_neg h1]
    by_cases h2 : c.data.toList.isPrefixOf n.data.toList = true
    · rw [if_pos h2]
      simp only [if_true]
      rw [h2]
      by_cases h3 : c.data.toList = []
      · rw [if_pos h3, h3]; rfl
      · rw [if_neg h3]
        have e := Lib.extract_to_end n c.size
        have hc := Lib.size_eq c
        rw [hc] at e
        rw [hc]
        have hne : (c.data.toList != []) = true := by simpa using h3
        rw [hne]
        generalize hg : n.extract c.data.toList.length n.size = g at e ⊢
        by_cases h4 : g.data.toList = []
        · rw [if_pos h4]
          rw [← e, h4]; rfl
        · rw [if_neg h4]
          have h0 : 0 < g.size := by
            rw [Lib.size_eq g]
            exact List.length_pos_iff.2 h4
          rw [if_pos (by omega)]
          have hb := bt_zero g h0 46
          rw [show (46 : Int) = ((46 : UInt8).toNat : Int) from rfl, hb, ← e]
          congr 1
          have : (g.data.toList == []) = false := by simpa using h4
          rw [this]
          rfl
    · rw [if_neg h2]
      simp only [Bool.false_eq_true, if_false]
      rw [Bool.eq_false_iff.2 h2]
      simp

theorem bt_nat (s : ByteArray) (i : Nat) (h : i < s.size) (c : UInt8) : (bt s (i : Int) == (c.toNat : Int)) = ((s.data.toList.drop i).head? == some c) := by
  have hl := Lib.size_eq s
  rw [List.head?_drop, List.getElem?_eq_getElem (by omega)]
  have e : bt s (i : Int) = ((s[i]'h).toNat : Int) := (bt_at s i h).symm
  rw [e]
  rw [Bool.eq_iff_iff, beq_iff_eq, beq_iff_eq]
  have : s.data.toList[i]'(by omega) = s[i]'h := rfl
  rw [this]
  constructor
  · intro hx
    rw [UInt8.toNat_inj.1 (by omega : (s[i]'h).toNat = c.toNat)]
  · intro hx
    injection hx with hx
    rw [hx]

theorem ref_f (c n : ByteArray) : whirligigref12_Match.f c n = some (mt c.data.toList n.data.toList) := by
  unfold whirligigref12_Match.f mt
  have hn := Lib.size_eq n
  have hc := Lib.size_eq c
  simp only [Lib.toList_data]
  by_cases h1 : c.data.toList = [42]
  · rw [if_pos h1, if_pos h1]
  rw [if_neg h1, if_neg h1]
  by_cases h2 : c.data.toList = []
  · rw [if_pos h2, h2]; rfl
  rw [if_neg h2]
  have hne : (c.data.toList != []) = true := by simpa using h2
  by_cases h3 : (n.size : Int) < (c.size : Int)
  · rw [if_pos h3]
    have : c.data.toList.isPrefixOf n.data.toList = false := by
      rw [Bool.eq_false_iff]
      intro hp
      have := (List.isPrefixOf_iff_prefix.1 hp).length_le
      omega
    rw [this]; simp
  rw [if_neg h3, if_pos (by omega), if_pos (by omega), Lib.extract_data, List.drop_zero, Int.toNat_natCast, Nat.sub_zero]
  by_cases h4 : n.data.toList.take c.size = c.data.toList
  · have hp : c.data.toList.isPrefixOf n.data.toList = true := by
      rw [List.isPrefixOf_iff_prefix, List.prefix_iff_eq_take, ← hc]; exact h4.symm
    rw [if_pos h4, hp, hne]
    by_cases h5 : (n.size : Int) = (c.size : Int)
    · rw [if_pos h5, List.drop_eq_nil_of_le (by omega)]; rfl
    · rw [if_neg h5, if_pos (by omega)]
      have hb := bt_nat n c.size (by omega) 46
      rw [show (46 : Int) = ((46 : UInt8).toNat : Int) from rfl, hb, hc]
      have : (n.data.toList.drop c.data.toList.length == []) = false := by
        rw [beq_eq_false_iff_ne]
        intro he
        have := congrArg List.length he
        rw [List.length_drop] at this
        simp only [List.length_nil] at this
        omega
      rw [this]; rfl
  · rw [if_neg h4]
    have hp : c.data.toList.isPrefixOf n.data.toList = false := by
      rw [Bool.eq_false_iff]
      intro hp
      rw [List.isPrefixOf_iff_prefix, List.prefix_iff_eq_take, ← hc] at hp
      exact h4 hp.symm
    rw [hp]; simp

theorem anchor_f : whirligiglaw12_anchor.f = some true := by
  unfold whirligiglaw12_anchor.f event_Done.f
  rw [match_f, match_f, match_f]
  decide +kernel

/-- Does the j-th descriptor match? -/
def mj (l : List ByteArray) (n : ByteArray) (j : Nat) : Bool := mt (rdOf ByteArray.empty l (j : Int)).data.toList n.data.toList

/-- What First comes to from the index i on: the least index from i on that matches, or -1. -/
theorem first_l (n : ByteArray) (l : List ByteArray) (hl : l.length ≤ 140737488351232) : ∀ (d k i : Nat), l.length - i = d → i ≤ l.length → d < k →
    ∃ r, event_First.l0 k n l (l.length : Int) (i : Int) = some r ∧ ((∀ j, i ≤ j → j < l.length → mj l n j = false) ∧ r = -1 ∨ ∃ m : Nat, r = m ∧ i ≤ m ∧ m < l.length ∧ mj l n m = true ∧ ∀ j, i ≤ j → j < m → mj l n j = false) := by
  intro d
  induction d with
  | zero =>
    intro k i hd hi hk
    obtain ⟨k, rfl⟩ : ∃ m, k = m + 1 := ⟨k - 1, by omega⟩
    refine ⟨-1, ?_, .inl ⟨fun j h1 h2 => by omega, rfl⟩⟩
    simp only [event_First.l0]
    rw [if_neg (by omega)]
  | succ d ih =>
    intro k i hd hi hk
    obtain ⟨k, rfl⟩ : ∃ m, k = m + 1 := ⟨k - 1, by omega⟩
    simp only [event_First.l0]
    rw [if_pos (by omega), if_pos (by omega), if_pos (by omega), match_f, Option.bind_some]
    have hw : wrap64 ((i : Int) + 1) = ((i + 1 : Nat) : Int) := by unfold wrap64; omega
    rw [hw]
    by_cases hm : mt (rdOf ByteArray.empty l (i : Int)).data.toList n.data.toList = true
    · exact ⟨i, by rw [if_pos hm], .inr ⟨i, rfl, Nat.le_refl _, by omega, hm, fun j h1 h2 => by omega⟩⟩
    · obtain ⟨r, hr, h⟩ := ih k (i + 1) (by omega) (by omega) (by omega)
      refine ⟨r, by rw [if_neg hm]; exact hr, ?_⟩
      have hmf : mj l n i = false := Bool.eq_false_iff.2 hm
      rcases h with ⟨h, rfl⟩ | ⟨m, rfl, h1, h2, h3, h4⟩
      · refine .inl ⟨fun j hj1 hj2 => ?_, rfl⟩
        by_cases hji : j = i
        · rw [hji]; exact hmf
        · exact h j (by omega) hj2
      · refine .inr ⟨m, rfl, by omega, h2, h3, fun j hj1 hj2 => ?_⟩
        by_cases hji : j = i
        · rw [hji]; exact hmf
        · exact h4 j (by omega) hj2

/-- The law's loop: from i - 1 down, x being the least index from i on that matches (or -1). -/
theorem law_l (n : ByteArray) (l : List ByteArray) (hl : l.length ≤ 50) : ∀ (i k : Nat) (x : Int), i ≤ l.length → i + l.length + 1 < k →
    ((∀ j, i ≤ j → j < l.length → mj l n j = false) ∧ x = -1 ∨ ∃ m : Nat, x = m ∧ i ≤ m ∧ m < l.length ∧ mj l n m = true ∧ ∀ j, i ≤ j → j < m → mj l n j = false) →
    whirligiglaw12_EventMatches.l0 k n l x ((i : Int) - 1) = some true := by
  intro i
  induction i with
  | zero =>
    intro k x hi hk hx
    obtain ⟨k, rfl⟩ : ∃ m, k = m + 1 := ⟨k - 1, by omega⟩
    simp only [whirligiglaw12_EventMatches.l0]
    rw [if_neg (by omega)]
    obtain ⟨r, hr, h⟩ := first_l n l (by omega) l.length k 0 (by omega) (by omega) (by omega)
    have hr' : event_First.f k n l = some r := hr
    rw [hr', Option.bind_some]
    have : r = x := by
      rcases h with ⟨h, rfl⟩ | ⟨m, rfl, h1, h2, h3, h4⟩ <;> rcases hx with ⟨g, rfl⟩ | ⟨m', rfl, g1, g2, g3, g4⟩
      · rfl
      · rw [h m' (by omega) g2] at g3; cases g3
      · rw [g m (by omega) h2] at h3; cases h3
      · by_cases e : m < m'
        · rw [g4 m (by omega) e] at h3; cases h3
        · by_cases e' : m' < m
          · rw [h4 m' (by omega) e'] at g3; cases g3
          · congr 1; omega
    rw [this]
    simp
  | succ i ih =>
    intro k x hi hk hx
    obtain ⟨k, rfl⟩ : ∃ m, k = m + 1 := ⟨k - 1, by omega⟩
    simp only [whirligiglaw12_EventMatches.l0]
    have e1 : (((i + 1 : Nat) : Int) - 1) = (i : Int) := by omega
    have hw : wrap64 ((i : Int) - 1) = (i : Int) - 1 := by unfold wrap64; omega
    rw [e1, if_pos (by omega), if_pos (by omega), if_pos (by omega), match_f, Option.bind_some, ref_f, Option.bind_some]
    rw [if_neg (by simp), Option.bind_some, hw]
    by_cases hm : mt (rdOf ByteArray.empty l (i : Int)).data.toList n.data.toList = true
    · rw [if_pos hm]
      exact ih k i (by omega) (by omega) (.inr ⟨i, rfl, Nat.le_refl _, by omega, hm, fun j h1 h2 => by omega⟩)
    · rw [if_neg hm]
      have hmf : mj l n i = false := Bool.eq_false_iff.2 hm
      refine ih k x (by omega) (by omega) ?_
      rcases hx with ⟨h, rfl⟩ | ⟨m, rfl, h1, h2, h3, h4⟩
      · refine .inl ⟨fun j hj1 hj2 => ?_, rfl⟩
        by_cases hji : j = i
        · rw [hji]; exact hmf
        · exact h j (by omega) hj2
      · refine .inr ⟨m, rfl, by omega, h2, h3, fun j hj1 hj2 => ?_⟩
        by_cases hji : j = i
        · rw [hji]; exact hmf
        · exact h4 j (by omega) hj2

theorem law_f (n : ByteArray) (l : List ByteArray) (hl : l.length ≤ 140737488351232) : ∃ k, whirligiglaw12_EventMatches.f k n l = some true := by
  refine ⟨2 * l.length + 2, ?_⟩
  unfold whirligiglaw12_EventMatches.f
  rw [anchor_f, Option.bind_some, if_pos rfl]
  by_cases h : (l.length : Int) > 50
  · rw [if_pos h]
  · rw [if_neg h]
    have hw : wrap64 ((l.length : Int) - 1) = (l.length : Int) - 1 := by unfold wrap64; omega
    rw [hw]
    exact law_l n l (by omega) l.length _ (-1) (Nat.le_refl _) (by omega) (.inl ⟨fun j h1 h2 => by omega, rfl⟩)

/-- The walk's end: the call answers true and writes nothing. -/
theorem walk (a0 : ByteArray) (A1 : Option Addr) (c1 : Nat) (l1 : List ByteArray) (w : World) (_w0 : a0.size ≤ 140737488351232) (hr : Kd.C Kd.string w A1 l1.length l1) (hc : l1.length ≤ c1) (hy : l1.length * 16 ≤ 140737488351232) :
    Calls Try.prog 4 #[.string a0, .slice A1 l1.length c1] w fun e w' => e = .returned (.bool true) ∧ Below w.heap.size w w' := by
  obtain ⟨k, hk⟩ := law_f a0 l1 (by omega)
  refine (whirligiglaw12_EventMatches.calls k a0 A1 c1 l1 true w hr hc hk).mono ?_
  rintro e w' ⟨rfl, hd⟩
  exact ⟨rfl, hd.below⟩
end Go.Proofs.Ytihmbfheaghfaaa.PureM
