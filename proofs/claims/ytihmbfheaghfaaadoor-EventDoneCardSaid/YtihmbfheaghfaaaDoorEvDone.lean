/- The event of a completed state: any two strings of at most 200 bytes that are names are told apart by Done and Match; of any other strings the law answers true at once. -/
import Derived.Test.YtihmbfheaghfaaaDoorDoneLaw
import Derived.Test.YtihmbfheaghfaaaDoorTokens
namespace Go.Proofs.YtihmbfheaghfaaaDoor.EvDone
open Go.RowKit Go.Proofs Go.Proofs.YtihmbfheaghfaaaDoorW.PrintWords Go.Proofs.YtihmbfheaghfaaaDoorW.PrintMore Parts DoneLaw
set_option linter.unusedVariables false
def pre : ByteArray := ⟨#[100, 111, 110, 101, 46, 115, 116, 97, 116, 101, 46]⟩
def preL : List UInt8 := [100, 111, 110, 101, 46, 115, 116, 97, 116, 101, 46]
theorem match_f (c n : ByteArray) : PEventDone.event_Match.f c n = some (Pure.mt c.data.toList n.data.toList) := Pure.match_f c n
theorem done_f (a : ByteArray) (ha : a.size ≤ 200) : PEventDone.event_Done.f a = some (pre ++ a) := by
  unfold PEventDone.event_Done.f
  rw [if_pos (by omega)]
  rfl
theorem pre_data (a : ByteArray) : (pre ++ a).data.toList = preL ++ a.data.toList := by
  rw [ByteArray.data_append, Array.toList_append]
  rfl
theorem mt1 (la : List UInt8) : Pure.mt done1.data.toList (preL ++ la) = false := rfl
theorem mt2 (la : List UInt8) : Pure.mt done2.data.toList (preL ++ la) = true := rfl
theorem mt3 (la : List UInt8) : Pure.mt done3.data.toList (preL ++ la) = true := rfl
theorem pre_prefix (la lb : List UInt8) : (preL ++ lb).isPrefixOf (preL ++ la) = lb.isPrefixOf la := by
  unfold preL
  simp [List.isPrefixOf]
theorem mt_own (la lb : List UInt8) (h : (46 : UInt8) ∉ la) : Pure.mt (preL ++ lb) (preL ++ la) = (la == lb) := by
  have e1 : ¬ (preL ++ lb = [42]) := fun e => by cases e
  have e2 : (preL ++ lb != []) = true := rfl
  have e3 : (preL ++ la).drop (preL ++ lb).length = la.drop lb.length := by
    rw [List.length_append, ← List.drop_drop, List.drop_left]
  unfold Pure.mt
  rw [if_neg e1, e2, e3, pre_prefix, Bool.true_and, Bool.eq_iff_iff, beq_iff_eq, Bool.and_eq_true, List.isPrefixOf_iff_prefix]
  constructor
  · rintro ⟨⟨t, rfl⟩, h2⟩
    rw [List.drop_left] at h2
    cases t with
    | nil => exact List.append_nil _
    | cons c t =>
      exfalso
      have : c = 46 := by simpa using h2
      subst this
      exact h (List.mem_append_right _ List.mem_cons_self)
  · rintro rfl
    exact ⟨List.prefix_refl _, by rw [List.drop_length]; rfl⟩
theorem count_none (la : List UInt8) (h : (46 : UInt8) ∉ la) : Lib.count la [46] = 0 := by
  rcases Lib.index_spec la [46] with ⟨h1, _⟩ | ⟨i, h1, _, h2, _⟩
  · exact Lib.count_miss h1
  · exfalso
    unfold Lib.occAt at h2
    cases hd : la.drop i with
    | nil => rw [hd] at h2; cases h2
    | cons c r =>
      rw [hd] at h2
      have : c = 46 := (List.cons_prefix_cons.1 (List.isPrefixOf_iff_prefix.1 h2)).1.symm
      subst this
      have hm : (46 : UInt8) ∈ la.drop i := by rw [hd]; exact List.mem_cons_self
      exact h (List.mem_of_mem_drop hm)
theorem count_pre (la : List UInt8) (h : (46 : UInt8) ∉ la) : Lib.count (preL ++ la) [46] = 2 := by
  have e1 : Lib.index (preL ++ la) [46] = (4 : Nat) := rfl
  rw [Lib.count_hit (by simp) e1]
  have e2 : (preL ++ la).drop (4 + [(46 : UInt8)].length) = [115, 116, 97, 116, 101, 46] ++ la := rfl
  have e3 : Lib.index ([115, 116, 97, 116, 101, 46] ++ la) [46] = (5 : Nat) := rfl
  rw [e2, Lib.count_hit (by simp) e3]
  have e4 : ([115, 116, 97, 116, 101, 46] ++ la).drop (5 + [(46 : UInt8)].length) = la := rfl
  rw [e4, count_none la h]
theorem first_f (a : ByteArray) (k : Nat) (hk : 1300 ≤ k) : PEventDone.event_First.f k (pre ++ a) [done1, done2, done3] = some 1 := by
  obtain ⟨k, rfl⟩ : ∃ j, k = j + 1 + 1 := ⟨k - 2, by omega⟩
  unfold PEventDone.event_First.f
  have e0 : rdOf ByteArray.empty [done1, done2, done3] 0 = done1 := rfl
  have e1 : rdOf ByteArray.empty [done1, done2, done3] 1 = done2 := rfl
  have e2 : wrap64 (0 + 1) = 1 := by decide +kernel
  have e3 : (([done1, done2, done3] : List ByteArray).length : Int) = 3 := rfl
  rw [e3, PEventDone.event_First.l0, if_pos (by decide), if_pos (by decide), if_pos (by rw [e3]; decide), e0, match_f, pre_data, mt1, Option.bind_some, if_neg (by decide), e2,
    PEventDone.event_First.l0, if_pos (by decide), if_pos (by decide), if_pos (by rw [e3]; decide), e1, match_f, pre_data, mt2, Option.bind_some, if_pos rfl]
theorem eventDone_walk (a b : ByteArray) (w : World) (w0 : a.size ≤ 140737488351232) (w1 : b.size ≤ 140737488351232) (hS : w.ShapedOpen Tryd.prog) :
    Calls Tryd.prog 3 #[.string a, .string b] w fun e w' => e = .returned (.bool true) ∧ Below w.heap.size w w' := by
  by_cases h : 200 < a.size ∨ 200 < b.size
  · exact law_size a b w h
  · have ha : a.size ≤ 200 := by omega
    have hb : b.size ≤ 200 := by omega
    obtain ⟨x, nx, dx⟩ := PEventDone.name_f a ha 1300 (Nat.le_refl _)
    obtain ⟨y, ny, dy⟩ := PEventDone.name_f b hb 1300 (Nat.le_refl _)
    by_cases hxy : x = false ∨ y = false
    · exact law_none a b 1300 x y w ha hb nx ny hxy
    · obtain rfl : x = true := by cases x with | true => rfl | false => exact absurd (.inl rfl) hxy
      obtain rfl : y = true := by cases y with | true => rfl | false => exact absurd (.inr rfl) hxy
      have nd := PEventDone.no_dot a (dx rfl)
      have hz : (pre ++ a).size ≤ 300 := by rw [ByteArray.size_append]; show 11 + a.size ≤ 300; omega
      refine law_in a b 1300 w (max_of hS) ha hb nx ny (pre ++ a) (pre ++ b) hz (done_f a ha) (done_f b hb) (first_f a 1300 (Nat.le_refl _)) ?_ ?_ ?_
      · rw [match_f, pre_data, mt3]
      · rw [match_f, pre_data, pre_data, mt_own _ _ nd, Lib.toList_data, Lib.toList_data]
      · have hc : Lib.countB (pre ++ a) dot = 2 := by
          show Lib.count (pre ++ a).data.toList [46] = 2
          rw [pre_data, count_pre _ nd]
        rw [(cut_all _).1, hc]
end Go.Proofs.YtihmbfheaghfaaaDoor.EvDone
