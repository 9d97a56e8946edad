/- Match is transitive: of any three strings (each of at most 140737488351232 bytes), a descriptor that matches a descriptor which matches a name matches that name, but where the middle one is the star and the first one is not. -/
import Derived.Test.YtihmbfheaghfaaaDoorEvParts
import Derived.Lib.Strings
import Derived.Lib.IndexBytes
import Derived.Lib.PathFns
namespace Go.Proofs.YtihmbfheaghfaaaDoor.Pure
open Go.RowKit Go.Proofs.YtihmbfheaghfaaaDoor.PEventParts Go.Proofs.YtihmbfheaghfaaaDoorW.PrintWords Go.Proofs.YtihmbfheaghfaaaDoorW.PrintLast

/-- What Match tells, of lists of bytes. -/
def mt (c n : List UInt8) : Bool :=
  if c = [42] then n != [] else c != [] && c.isPrefixOf n && (n.drop c.length == [] || (n.drop c.length).head? == some 46)

theorem hasPrefix_f (a b : ByteArray) : stringslite_HasPrefix.f a b = some (b.data.toList.isPrefixOf a.data.toList) := by
  unfold stringslite_HasPrefix.f
  have ha := Lib.size_eq a
  have hb := Lib.size_eq b
  by_cases h : (a.size : Int) ≥ (b.size : Int)
  · rw [if_pos h, if_pos (by omega), if_pos (by omega), Lib.toList_data, Lib.toList_data, Lib.extract_data]
    rw [List.drop_zero, Int.toNat_natCast, Nat.sub_zero, hb]
    congr 1
    rw [Bool.eq_iff_iff, beq_iff_eq, List.isPrefixOf_iff_prefix, List.prefix_iff_eq_take]
    exact eq_comm
  · rw [if_neg h]
    congr 1
    symm
    rw [Bool.eq_false_iff]
    intro hp
    have := (List.isPrefixOf_iff_prefix.1 hp).length_le
    omega

theorem cutPrefix_f (a b : ByteArray) : strings_CutPrefix.f a b = some (if b.data.toList.isPrefixOf a.data.toList then (a.extract b.size a.size, true) else (a, false)) := by
  unfold strings_CutPrefix.f stringslite_CutPrefix.f
  rw [hasPrefix_f]
  have ha := Lib.size_eq a
  have hb := Lib.size_eq b
  simp only [Option.bind_some]
  by_cases h : b.data.toList.isPrefixOf a.data.toList = true
  · have := (List.isPrefixOf_iff_prefix.1 h).length_le
    rw [if_pos h, if_pos h, if_pos (by omega), if_pos (by omega)]
    rfl
  · rw [if_neg h, if_neg h]
    rfl

theorem bt_zero (s : ByteArray) (h : 0 < s.size) (c : UInt8) : (bt s 0 == (c.toNat : Int)) = (s.data.toList.head? == some c) := by
  obtain ⟨⟨l⟩⟩ := s
  cases l with
  | nil => exact absurd h (by decide)
  | cons x r =>
    have e : bt ⟨⟨x :: r⟩⟩ 0 = (x.toNat : Int) := rfl
    rw [e]
    simp only [List.head?_cons]
    rw [Bool.eq_iff_iff, beq_iff_eq, beq_iff_eq]
    constructor
    · intro hx
      have : x.toNat = c.toNat := by omega
      rw [UInt8.toNat_inj.1 this]
    · intro hx
      injection hx with hx
      rw [hx]

theorem match_f (c n : ByteArray) : event_Match.f c n = some (mt c.data.toList n.data.toList) := by
  unfold event_Match.f mt
  rw [cutPrefix_f]
  simp only [Lib.toList_data, Option.bind_some]
  by_cases h1 : c.data.toList = [42]
  · rw [if_pos h1, if_pos h1]
  · rw [if_neg h1, if_neg h1]
    by_cases h2 : c.data.toList.isPrefixOf n.data.toList = true
    · rw [if_pos h2]
      simp only [if_true]
      rw [h2]
      by_cases h3 : c.data.toList = []
      · rw [if_pos h3, h3]; rfl
      · rw [if_neg h3]
        have e := Lib.extract_to_end n c.size
        have hc := Lib.size_eq c
        rw [hc] at e
        rw [hc]
        have hne : (c.data.toList != []) = true := by simpa using h3
        rw [hne]
        generalize hg : n.extract c.data.toList.length n.size = g at e ⊢
        by_cases h4 : g.data.toList = []
        · rw [if_pos h4]
          rw [← e, h4]; rfl
        · rw [if_neg h4]
          have h0 : 0 < g.size := by
            rw [Lib.size_eq g]
            exact List.length_pos_iff.2 h4
          rw [if_pos (by omega)]
          have hb := bt_zero g h0 46
          rw [show (46 : Int) = ((46 : UInt8).toNat : Int) from rfl, hb, ← e]
          congr 1
          have : (g.data.toList == []) = false := by simpa using h4
          rw [this]
          rfl
    · rw [if_neg h2]
      simp only [Bool.false_eq_true, if_false]
      rw [Bool.eq_false_iff.2 h2]
      simp

theorem anchor_f : whirligiglaw12_anchor.f = some true := by
  unfold whirligiglaw12_anchor.f event_Done.f
  rw [match_f, match_f, match_f]
  decide +kernel

end Go.Proofs.YtihmbfheaghfaaaDoor.Pure
