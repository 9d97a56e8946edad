/- BitsLaws: the plain law, and the law's call. -/
import Derived.Test.YtimodbkfjaknhaaDoorBNat
import Derived.Test.YtimodbkfjaknhaaDoorBTab
import Derived.Test.YtimodbkfjaknhaaDoorMBitsLawsx1
namespace Go.Proofs.YtimodbkfjaknhaaDoor.MBitsLaws
open Go Go.RowKit Go.Proofs Go.Proofs.YtimodbkfjaknhaaDoorW.PrintWords BPlain
set_option linter.unusedVariables false
theorem join1 (k : Nat) (a b : Int) : bits_Set_Join.f (k + 2) a [b] = some (Go.bits .or .u64 a b) := by
  simp [bits_Set_Join.f, bits_Set_Join.l0, rd, wrap64]
theorem join2 (k : Nat) (a b c : Int) : bits_Set_Join.f (k + 3) a [b, c] = some (Go.bits .or .u64 (Go.bits .or .u64 a b) c) := by
  simp [bits_Set_Join.f, bits_Set_Join.l0, rd, wrap64]
theorem count (s : Nat) (h : s < 18446744073709551616) : bits_Set_Count.f (s : Int) = some ((cnt 64 s : Nat) : Int) := by
  have e : bits_OnesCount64.f (s : Int) = some ((cnt 64 s : Nat) : Int) := ones s h
  rw [bits_Set_Count.f, e]
  rfl
theorem nat_of {a : Int} (h : (Lit.int .u64 a).wf = true) : ∃ n : Nat, a = (n : Int) ∧ n < 18446744073709551616 := by
  have h : (0 : Int) ≤ a ∧ a ≤ 18446744073709551615 := by simpa [Lit.wf, IntKind.min, IntKind.max, IntKind.signed, IntKind.bits] using h
  exact ⟨a.toNat, by omega, by omega⟩
theorem bs {α β : Type} {o : Option α} {a : α} {f : α → Option β} {r : Option β} (h : o = some a) (h2 : f a = r) : o.bind f = r := by
  subst h
  exact h2
theorem it {α : Type} {c : Prop} [Decidable c] {x y r : α} (h : c) (h2 : x = r) : (if c then x else y) = r := by
  rw [if_pos h]
  exact h2
theorem pure_ok : whirligiglaw10_BitsLaws.Pure := by
  intro a0 a1 a2 w0 w1 w2
  obtain ⟨s, rfl, hs⟩ := nat_of w0
  obtain ⟨t, rfl, ht⟩ := nat_of w1
  obtain ⟨u, rfl, hu⟩ := nat_of w2
  refine ⟨3, ?_⟩
  have dl : ∀ x y : Nat, x < 18446744073709551616 → y < 18446744073709551616 → Go.bits .andNot .u64 (x : Int) (y : Int) = ((nl x y : Nat) : Int) := fun x y hx hy => u64_andNot_nat x y hx hy
  have m := and_lt s t hs
  have j := or_lt s t hs ht
  have e1 : Go.bits .or .u64 (s : Int) (t : Int) = ((s ||| t : Nat) : Int) := u64_or_nat s t hs ht
  have e2 : Go.bits .and .u64 (s : Int) (t : Int) = ((s &&& t : Nat) : Int) := u64_and_nat s t hs ht
  have e3 : Go.bits .or .u64 ((nl s u : Nat) : Int) ((nl t u : Nat) : Int) = ((nl s u ||| nl t u : Nat) : Int) := u64_or_nat _ _ (nl_lt _ _ hs) (nl_lt _ _ ht)
  have e4 : Go.bits .or .u64 ((s &&& t : Nat) : Int) ((nl s t : Nat) : Int) = (((s &&& t) ||| nl s t : Nat) : Int) := u64_or_nat _ _ m (nl_lt _ _ hs)
  have e5 : Go.bits .or .u64 ((s ||| t : Nat) : Int) (u : Int) = ((s ||| t ||| u : Nat) : Int) := u64_or_nat _ _ j hu
  have b1 : bits_Set_Less.f ((s ||| t : Nat) : Int) (u : Int) = some ((nl (s ||| t) u : Nat) : Int) := congrArg some (dl _ _ j hu)
  have b2 : bits_Set_Less.f (s : Int) (u : Int) = some ((nl s u : Nat) : Int) := congrArg some (dl _ _ hs hu)
  have b3 : bits_Set_Less.f (t : Int) (u : Int) = some ((nl t u : Nat) : Int) := congrArg some (dl _ _ ht hu)
  have b4 : bits_Set_Less.f (s : Int) (t : Int) = some ((nl s t : Nat) : Int) := congrArg some (dl _ _ hs ht)
  have b5 : bits_Set_Meet.f (s : Int) (t : Int) = some ((s &&& t : Nat) : Int) := congrArg some e2
  have b6 : bits_Set_In.f ((s &&& t : Nat) : Int) (s : Int) = some true := by
    rw [bits_Set_In.f, dl _ _ m hs, law3 s t hs]
    rfl
  have b7 : bits_Set_In.f (s : Int) ((s ||| t ||| u : Nat) : Int) = some true := by
    rw [bits_Set_In.f, dl _ _ hs (or_lt _ _ j hu), law4 s t u hs ht hu]
    rfl
  have c1 : whirligiglaw10_anchor.f = some true := rfl
  have j1 : ∀ a b c : Int, Go.bits .or .u64 a b = c → bits_Set_Join.f 3 a [b] = some c := fun a b c h => (join1 1 a b).trans (congrArg some h)
  refine bs c1 (it rfl (bs (j1 _ _ _ e1) ?_))
  refine bs b1 (bs b2 (bs b3 (bs (j1 _ _ _ e3) ?_)))
  refine it (congrArg Int.ofNat (law1 s t u hu)) ?_
  refine bs b5 (bs b4 (bs (j1 _ _ _ (e4.trans (congrArg Int.ofNat (law2 s t hs ht)))) ?_))
  refine it rfl ?_
  refine bs b5 (bs b6 (it rfl ?_))
  refine bs ((join2 0 _ _ _).trans (congrArg some ((congrArg (fun x => Go.bits .or .u64 x (u : Int)) e1).trans e5))) ?_
  refine bs b7 (it rfl ?_)
  refine bs (j1 _ _ _ e1) ?_
  refine bs (count _ j) (bs (count _ hs) (bs (count _ ht) (bs b5 (bs (count _ m) ?_))))
  exact congrArg some (beq_iff_eq.2 (law5 s t hs ht))
theorem bitsLaws_walk (a0 a1 a2 : Int) (w : World) (w0 : (Lit.int .u64 a0).wf = true) (w1 : (Lit.int .u64 a1).wf = true) (w2 : (Lit.int .u64 a2).wf = true) (hL : laidMetH Tryd.prog Rows.bitsLawsRow.laid w) :
    Calls Tryd.prog 4 #[.int .u64 a0, .int .u64 a1, .int .u64 a2] w fun e w' => e = .returned (.bool true) ∧ Below w.heap.size w w' :=
  haveI : TabFact w := ⟨tab_of hL⟩
  whirligiglaw10_BitsLaws.walk pure_ok a0 a1 a2 w w0 w1 w2
end Go.Proofs.YtimodbkfjaknhaaDoor.MBitsLaws
