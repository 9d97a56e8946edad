/- Push appends all names or none, and Pop gives them back in order: of any two lists of at most fifty names the law's walk answers true; of longer ones at once. -/
import Derived.Test.YtnkoibbaimhegaaQAnchor
namespace Go.Proofs.Ytnkoibbaimhegaa.MQ
open Go.RowKit Go.Proofs Go.Proofs.YtnkoibbaimhegaaW.PrintWords Go.Proofs.YtnkoibbaimhegaaW.PrintLast Go.Proofs.YtnkoibbaimhegaaW.PrintMore
set_option linter.unusedVariables false
theorem push_l0 (x : List ByteArray) (hx : x.length ≤ 8) : ∀ (d i k : Nat), x.length - i = d → d < k → i ≤ x.length → whirligiglaw13_QueuePushes.l0 k (x.drop i) x (x.length : Int) i = some true := by
  intro d
  induction d with
  | zero =>
    intro i k hd hk hi
    obtain ⟨k, rfl⟩ : ∃ j, k = j + 1 := ⟨k - 1, by omega⟩
    have h0 : x.drop i = [] := List.drop_of_length_le (by omega)
    have hp : queue_Pop.f [] = some ((⟨#[]⟩ : ByteArray), ([] : List ByteArray), false) := by unfold queue_Pop.f; rw [if_pos (by rfl)]
    have he : (⟨#[]⟩ : ByteArray).toList = ([] : List UInt8) := by rw [Lib.toList_data]
    rw [whirligiglaw13_QueuePushes.l0, if_neg (by omega), h0, hp, Option.bind_some, if_neg (by decide), he, if_pos rfl]
    rfl
  | succ d ih =>
    intro i k hd hk hi
    obtain ⟨k, rfl⟩ : ∃ j, k = j + 1 := ⟨k - 1, by omega⟩
    have c1 : (i : Int) < (x.length : Int) := by omega
    have c2 : i < x.length := by omega
    have hl : (x.drop i).length = x.length - i := List.length_drop
    have hr : rdOf ByteArray.empty (x.drop i) 0 = rdOf ByteArray.empty x (i : Int) := by
      unfold rdOf
      rw [Int.toNat_natCast, Int.toNat_zero, List.getD_eq_getElem?_getD, List.getD_eq_getElem?_getD, List.getElem?_drop, Nat.add_zero]
    have hc : slices_Clone_string_string.f ((x.drop i).drop 1) = some (x.drop (i + 1)) := by
      unfold slices_Clone_string_string.f
      rw [List.drop_drop, if_pos (by rw [List.length_drop]; omega)]
    have hp : queue_Pop.f (x.drop i) = some (rdOf ByteArray.empty x (i : Int), x.drop (i + 1), true) := by
      unfold queue_Pop.f
      rw [hl, if_neg (by omega), if_pos (by omega), if_pos (by omega), hc, Option.bind_some, hr]
    rw [whirligiglaw13_QueuePushes.l0, if_pos c1, if_pos (Int.natCast_nonneg i), if_pos c1, hp, Option.bind_some, if_pos rfl, if_pos rfl, wr_succ i (by omega)]
    exact ih (i + 1) k (by omega) (by omega) (by omega)
theorem queuePushes_f (l m : List ByteArray) : whirligiglaw13_QueuePushes.f 1000 l m = some true := by
  unfold whirligiglaw13_QueuePushes.f
  rw [anchor_f 1000 (by decide), Option.bind_some, if_pos rfl]
  by_cases h1 : (l.length : Int) > 50
  · rw [if_pos h1, whirligiglaw13_QueuePushes.j0, if_pos rfl]
  · rw [if_neg h1, whirligiglaw13_QueuePushes.j0]
    by_cases h2 : (m.length : Int) > 50
    · rw [decide_eq_true h2, if_pos rfl]
    · have e1 : wrap64 ((l.length : Int) + (m.length : Int)) = (l.length : Int) + (m.length : Int) := wr_fit _ (by omega) (by omega)
      rw [decide_eq_false h2, if_neg (by decide)]
      by_cases h3 : (l.length : Int) + (m.length : Int) > 8
      · have hp : queue_Push.f l m = some (l, 40) := by
          unfold queue_Push.f slices_Clone_string_string.f
          rw [e1, if_pos h3, if_pos (by clear e1; omega), Option.bind_some]
        rw [hp, Option.bind_some, Option.bind_some, if_pos (by show 0 + l.length < _; clear e1; omega), Option.bind_some, if_pos (by show ([] ++ l).length + m.length < _; rw [List.nil_append]; clear e1; omega), Option.bind_some,
          if_pos (by show ((([] ++ l) ++ m).length : Int) > 8; rw [List.nil_append, List.length_append]; clear e1; omega), if_pos rfl, texts_f l 999 (by clear e1; omega) (by clear e1; omega), Option.bind_some]
      · have hp : queue_Push.f l m = some (l ++ m, 0) := by
          unfold queue_Push.f slices_Concat_string_string.f
          have e2 : ([l, m] : List (List ByteArray)).flatten = l ++ m := by simp
          rw [e1, if_neg h3, e2, if_pos (by rw [List.length_append]; clear e1; omega), Option.bind_some]
        have hlen : (l ++ m).length ≤ 8 := by rw [List.length_append]; clear e1; omega
        rw [hp, Option.bind_some, Option.bind_some, if_pos (by show 0 + l.length < _; clear e1; omega), Option.bind_some, if_pos (by show ([] ++ l).length + m.length < _; rw [List.nil_append]; clear e1; omega), Option.bind_some, List.nil_append,
          if_neg (by clear e1; omega), if_pos rfl, texts_f (l ++ m) 999 (by omega) (by omega), Option.bind_some, whirligiglaw13_QueuePushes.j1, if_neg (by decide)]
        exact push_l0 (l ++ m) hlen ((l ++ m).length - 0) 0 998 rfl (by omega) (by omega)
theorem queuePushes_walk (A : Option Addr) (c : Nat) (l : List ByteArray) (A1 : Option Addr) (c1 : Nat) (m : List ByteArray) (W : World) (hr : Kd.C Kd.string W A l.length l) (hc : l.length ≤ c) (hr1 : Kd.C Kd.string W A1 m.length m) (hc1 : m.length ≤ c1) :
    Calls Try.prog 5 #[.slice A l.length c, .slice A1 m.length c1] W fun e w' => e = .returned (.bool true) ∧ Below W.heap.size W w' :=
  whirligiglaw13_QueuePushes.calls 1000 A c l A1 c1 m true W hr hc hr1 hc1 (queuePushes_f l m)
end Go.Proofs.Ytnkoibbaimhegaa.MQ
