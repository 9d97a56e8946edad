/- Timers, plain: the document's example; texts that are the same. -/
import Derived.Test.YtnkoibbaimhegaaMQueueTimersx4
import Derived.Lib.Strings
import Derived.Lib.IndexBytes
import Derived.Lib.PathFns
namespace Go.Proofs.Ytnkoibbaimhegaa.MQ
open Go.RowKit Go.Proofs Go.Proofs.YtnkoibbaimhegaaW.PrintWords Go.Proofs.YtnkoibbaimhegaaW.PrintLast Go.Proofs.YtnkoibbaimhegaaW.PrintMore
set_option linter.unusedVariables false
theorem wr_fit (x : Int) (h0 : -9223372036854775808 ≤ x) (h1 : x ≤ 9223372036854775807) : wrap64 x = x := by unfold wrap64; omega
theorem wr_succ (i : Nat) (h : i ≤ 1000000) : wrap64 ((i : Int) + 1) = ((i + 1 : Nat) : Int) := (wr_fit _ (by omega) (by omega)).trans (by omega)
def tb : S25 := ⟨5, 0, ⟨#[98]⟩⟩
def ta : S25 := ⟨3, 0, ⟨#[97]⟩⟩
theorem arm_ab : queue_Arm.f [tb] 3 0 ⟨#[97]⟩ = some ([ta, tb], 0) := by
  unfold queue_Arm.f armF
  rw [if_neg (by decide), if_pos (show Sorted [tb] from List.pairwise_singleton _ _)]
  rfl
theorem due_ab (k : Nat) (hk : 3 ≤ k) : queue_Due.f k [ta, tb] 4 = some ([⟨#[97]⟩], [tb]) := by
  obtain ⟨k, rfl⟩ : ∃ j, k = j + 1 + 1 + 1 := ⟨k - 3, by omega⟩
  have e0 : rd_T25 [ta, tb] 0 = ta := rfl
  have e1 : rd_T25 [ta, tb] 1 = tb := rfl
  have e2 : wrap64 (0 + 1) = 1 := by decide +kernel
  have e3 : (([ta, tb] : List S25).length : Int) = 2 := rfl
  have e4 : ¬ (ta.f0 > 4) := by show ¬ ((3 : Int) > 4); decide
  have e5 : tb.f0 > 4 := by show (5 : Int) > 4; decide
  have e6 : queue_Timer_18.f ([ta, tb].drop (1 : Int).toNat) = some [tb] := by
    unfold queue_Timer_18.f
    exact if_pos (by show 1 * 32 ≤ _; decide)
  unfold queue_Due.f
  rw [e3, queue_Due.l0, if_pos (by decide), if_pos (by decide), if_pos (by rw [e3]; decide), e0, if_neg e4, if_pos (by show (0 : Nat) < _; decide), e2,
    queue_Due.l0, if_pos (by decide), if_pos (by decide), if_pos (by rw [e3]; decide), e1, if_pos e5, if_pos (by rw [e3]; decide), e6, Option.bind_some]
  rfl
theorem anchor_f (k : Nat) (hk : 3 ≤ k) : whirligiglaw13_anchor.f k = some true := by
  unfold whirligiglaw13_anchor.f
  have h1 : queue_Arm.f (([(⟨5, 0, (⟨#[98]⟩ : ByteArray)⟩ : S25)] : List (S25))) 3 0 (⟨#[97]⟩ : ByteArray) = some ([ta, tb], 0) := arm_ab
  have h2 : rdOf ByteArray.empty [(⟨#[97]⟩ : ByteArray)] 0 = ⟨#[97]⟩ := rfl
  have h3 : (rd_T25 [tb] 0).f2 = ⟨#[98]⟩ := rfl
  have h4 : ((⟨#[97]⟩ : ByteArray)).toList = ([97] : List UInt8) := by rw [Lib.toList_data]
  have h5 : ((⟨#[98]⟩ : ByteArray)).toList = ([98] : List UInt8) := by rw [Lib.toList_data]
  rw [h1, Option.bind_some, due_ab k hk, Option.bind_some, if_pos rfl, if_pos (by rfl), if_pos (by show (0 : Int) < 1; decide), h2, h4, if_pos rfl, if_pos (by rfl), if_pos (by show (0 : Int) < 1; decide), h3, h5]
  rfl
theorem texts_l0 (x : List ByteArray) (hx : x.length ≤ 1000) : ∀ (d i k : Nat), x.length - i = d → d < k → i ≤ x.length → whirligiglaw13_texts.l0 k x x (x.length : Int) i = some true := by
  intro d
  induction d with
  | zero =>
    intro i k hd hk hi
    obtain ⟨k, rfl⟩ : ∃ j, k = j + 1 := ⟨k - 1, by omega⟩
    rw [whirligiglaw13_texts.l0, if_neg (by omega)]
  | succ d ih =>
    intro i k hd hk hi
    obtain ⟨k, rfl⟩ : ∃ j, k = j + 1 := ⟨k - 1, by omega⟩
    have c1 : (i : Int) < (x.length : Int) := by omega
    rw [whirligiglaw13_texts.l0, if_pos c1, if_pos (Int.natCast_nonneg i), if_pos c1, if_pos c1, if_pos rfl, wr_succ i (by omega)]
    exact ih (i + 1) k (by omega) (by omega) (by omega)
theorem texts_f (x : List ByteArray) (k : Nat) (hx : x.length ≤ 1000) (hk : x.length < k) : whirligiglaw13_texts.f k x x = some true := by
  unfold whirligiglaw13_texts.f
  rw [if_pos rfl]
  exact texts_l0 x hx (x.length - 0) 0 k rfl (by omega) (by omega)
end Go.Proofs.Ytnkoibbaimhegaa.MQ
