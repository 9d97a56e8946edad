/-
  No cell of these rows narrows 'for every input' (looked for: loops, veiled, ifaces, maps, wideKeys, modest, calm, conditions, laid).
  DERIVED. THE GIVEN ROWS OF THIS SEAT. 2 by the template 'for every input the law returns true; each argument reads behind the call as it read before'; 0 by the template 'total and deterministic' (their statements: YtihmbfheaghfaaaTotals.lean).
  GIVEN WITH THE SEED: the statements are not yours to turn. If you find one false, say at which input.
  Laid BY PROGRAM, IN A SANDBOX (cutbox-rows.mjs): the forced cells as the released guide's own fill.sh prints them over the translation 980817d8c6302c33… (all of the seat's roots in one cut). By AI agents, Wed Nov 11 2026. No macro, syntax, notation, axiom, sorry.
-/
import Derived.Test.YtihmbfheaghfaaaChecked
import GoSem.Claim
import GoSem.ClaimJoined
import GoSem.ClaimMapViews
import Derived.JoinedTies
import Derived.KernelRfl
namespace Go.Proofs.Ytihmbfheaghfaaa
/- THE CELL 'sum', in the pinned program and in every row, IS THE sha256 OF THE DUMP (.gsa) THAT YtihmbfheaghfaaaProg.lean LOADS. Nothing in Lean hashes anything: it is a label: what it is worth is what the hold of that sum in a sandbox is worth. -/
noncomputable def Try.pinned : Pinned := { name := "ytihmbfheaghfaaa", sum := "980817d8c6302c331cad618618331eda4bd0780b7b5b2151328900f081121596", checked := Try.checked }
namespace Rows
def none {H : Type} : Left H := { results := [], args := [] }

/-- 'whirligiglaw12.EventChains': WHATEVER THE INPUT: true; the input reads as it did. -/
def eventChainsSpec : ChangeSpec := { name := "eventChains", fn := fun _ => fun
  | [d1, d2, d3] => { results := [.lit (.bool true)], args := [d1, d2, d3] }
  | _ => none }
def eventChainsRow : OpenClaim := { program := "ytihmbfheaghfaaa", sum := "980817d8c6302c331cad618618331eda4bd0780b7b5b2151328900f081121596", func := "whirligig/whirligiglaw12.EventChains", spec := "eventChains", apart := false }
def EventChainsSaid : Prop := eventChainsRow.holds Try.pinned (OpenSpec.ofChange eventChainsSpec)

/-- ITS FALSE NEIGHBOUR: 'it returns false'. Refute it at one input. -/
def eventChainsWrong : ChangeSpec := { name := "eventChains", fn := fun _ => fun
  | [d1, d2, d3] => { results := [.lit (.bool false)], args := [d1, d2, d3] }
  | _ => none }
def EventChainsWrongFalsely : Prop := eventChainsRow.holds Try.pinned (OpenSpec.ofChange eventChainsWrong)

/-- 'whirligiglaw12.EventMatches': WHATEVER THE INPUT: true; the input reads as it did. -/
def eventMatchesSpec : ChangeSpec := { name := "eventMatches", fn := fun _ => fun
  | [d1, d2] => { results := [.lit (.bool true)], args := [d1, d2] }
  | _ => none }
def eventMatchesRow : OpenClaim := { program := "ytihmbfheaghfaaa", sum := "980817d8c6302c331cad618618331eda4bd0780b7b5b2151328900f081121596", func := "whirligig/whirligiglaw12.EventMatches", spec := "eventMatches", apart := false }
def EventMatchesSaid : Prop := eventMatchesRow.holds Try.pinned (OpenSpec.ofChange eventMatchesSpec)

/-- ITS FALSE NEIGHBOUR: 'it returns false'. Refute it at one input. -/
def eventMatchesWrong : ChangeSpec := { name := "eventMatches", fn := fun _ => fun
  | [d1, d2] => { results := [.lit (.bool false)], args := [d1, d2] }
  | _ => none }
def EventMatchesWrongFalsely : Prop := eventMatchesRow.holds Try.pinned (OpenSpec.ofChange eventMatchesWrong)

/- THE SECOND FORM. 'bulk': how many values and letters a reading holds, each counted each time it is reached (what is shared counts as often as it is met; a slice's spare places count too). A statement '..UptoSaid' is the law's where the arguments, and the package variables that the reading takes, are together of bulk at most 1048576: NARROWER than '..Said'. Prove '..Said' where nothing that the law and all that it calls make is longer than what came in: it says more and counts as full. Else prove '..UptoSaid'. A law counts once. -/
mutual
def uptoBulk {H : Type} : DataW H → Nat
  | .lit (.string bytes) => bytes.length + 1
  | .lit _ => 1
  | .nil => 1
  | .ptr d => uptoBulk d + 1
  | .slice elems spare => uptoBulkAll elems + uptoBulkAll spare + 1
  | .agg parts => uptoBulkAll parts + 1
  | .iface _ d => uptoBulk d + 1
  | .map entries => uptoBulkEntries entries + 1
  | .held _ => 1
def uptoBulkAll {H : Type} : List (DataW H) → Nat
  | [] => 0
  | d :: r => uptoBulk d + uptoBulkAll r
def uptoBulkEntries {H : Type} : List (Lit × DataW H) → Nat
  | [] => 0
  | x :: r => uptoBulkEntry x + uptoBulkEntries r
def uptoBulkEntry {H : Type} : Lit × DataW H → Nat
  | (.string bytes, d) => bytes.length + uptoBulk d + 1
  | (_, d) => uptoBulk d + 1
 end
def uptoSmall : (H : Type) → List (DataW H) → Bool := fun _ ds => decide (uptoBulkAll ds ≤ 1048576)
def OpenSpec.upto (s : _root_.Go.ChangeSpec) : _root_.Go.OpenSpec := { _root_.Go.OpenSpec.ofChange s with cond := some uptoSmall }

/-- 'whirligiglaw12.EventChains', WHERE WHAT IT READS IS OF BULK AT MOST 1048576: true; the input reads as it did. -/
def eventChainsUptoRow : OpenClaim := { program := "ytihmbfheaghfaaa", sum := "980817d8c6302c331cad618618331eda4bd0780b7b5b2151328900f081121596", func := "whirligig/whirligiglaw12.EventChains", spec := "eventChains", apart := false, narrowed := true }
def EventChainsUptoSaid : Prop := eventChainsUptoRow.holds Try.pinned (OpenSpec.upto eventChainsSpec)

/-- 'whirligiglaw12.EventMatches', WHERE WHAT IT READS IS OF BULK AT MOST 1048576: true; the input reads as it did. -/
def eventMatchesUptoRow : OpenClaim := { program := "ytihmbfheaghfaaa", sum := "980817d8c6302c331cad618618331eda4bd0780b7b5b2151328900f081121596", func := "whirligig/whirligiglaw12.EventMatches", spec := "eventMatches", apart := false, narrowed := true }
def EventMatchesUptoSaid : Prop := eventMatchesUptoRow.holds Try.pinned (OpenSpec.upto eventMatchesSpec)

end Rows
end Go.Proofs.Ytihmbfheaghfaaa
