/- SumOf: plain, and its walk with what the row lists. -/
import Derived.Test.YtlbplbbkljjnnaaDoorDoc
import Derived.Test.YtlbplbbkljjnnaaDoorMSumOfx2
import Derived.Test.YtlbplbbkljjnnaaDoorRows
import Derived.MakeChecks
import Derived.OpenShut
import Derived.FnData
import Derived.ProofKit
namespace Go.Proofs.YtlbplbbkljjnnaaDoor.SumOf
open Go.RowKit Go.Proofs Go.Proofs.YtlbplbbkljjnnaaDoorW.PrintWords Go.Proofs.YtlbplbbkljjnnaaDoorW.PrintMore MSumOf
set_option linter.unusedVariables false
set_option maxRecDepth 100000

/-- The listed table's numbers. -/
def tabZ : List Int := [0, 1, 56, 2, 57, 49, 28, 3, 61, 58, 42, 50, 38, 29, 17, 4, 62, 47, 59, 36, 45, 43, 51, 22, 53, 39, 33, 30, 24, 18, 12, 5, 63, 55, 48, 27, 60, 41, 37, 16, 46, 35, 44, 21, 52, 32, 23, 11, 54, 26, 40, 15, 34, 20, 31, 10, 25, 14, 19, 9, 13, 8, 7, 6]
theorem tabZ_eq : (Rows.laid_math_bits_deBruijn64tab : DataW Unit) = .agg (tabZ.map fun n => .lit (.int .u8 n)) := rfl
/-- What the rows list gives the table's fact. -/
theorem tab_of {W : World} (h : laidMetH Tryd.prog Rows.sumOfRow.laid W) : Show.Tab W := by
  rw [MakeChecks.laidMetH_plain _ _ _ (by kernel_rfl)] at h
  obtain ⟨ps, ⟨_, _, _, _, _, q0, _, _, _, _, ⟨g, t, cs, fuel, p, q, hg, ht, hv, hd, _, _⟩, _⟩, _, _⟩ := h
  obtain rfl := Option.some.inj ((show Tryd.prog.globalNamed "math/bits.deBruijn64tab" = some 2 by kernel_rfl).symm.trans hg)
  have hv2 := hv
  have hlt : 2 < W.heap.size := by
    unfold World.var? at hv2
    rw [hg] at hv2
    simp only [Option.bind_some] at hv2
    by_cases hl : 2 < W.heap.size
    · exact hl
    · rw [Array.getElem?_eq_none (by omega)] at hv2
      cases hv2
  have tt : (Tryd.prog.globals[2]?).map (·.type) = some 54 := by kernel_rfl
  obtain rfl := Option.some.inj (tt.symm.trans ht)
  obtain ⟨xs, m, _, ex, _, hl, hel⟩ := DataW.trod_array Tryd.underlying54 hd
  have c5 : Tryd.prog.cellsOf 5 = 1 := by kernel_rfl
  have hE := hel 15 (by decide)
  rw [c5, Nat.mul_one, List.getElem?_eq_getElem (by omega)] at hE
  obtain ⟨z, e1, e2, _⟩ := DataW.trod_int Tryd.underlying5 hE
  have hlen : tabZ.length = 64 := by kernel_rfl
  rw [tabZ_eq] at ex
  have e3 : (xs.map (·.1)) = tabZ.map fun n => .lit (.int .u8 n) := (DataW.agg.inj (Prod.mk.inj ex).1).symm
  have e4 : (xs.map (·.1))[15]? = (tabZ.map fun n => (DataW.lit (.int .u8 n) : DataW Unit))[15]? := by rw [e3]
  rw [List.getElem?_map, List.getElem?_map, List.getElem?_eq_getElem (by omega : 15 < xs.length), e2] at e4
  have hz : z = 4 := by
    simp only [tabZ, Option.map_some, Option.some.injEq, DataW.lit.injEq, Lit.int.injEq, true_and, List.getElem?_cons_succ, List.getElem?_cons_zero] at e4
    exact e4
  refine ⟨?_, hlt⟩
  have hc := World.var?_cell hg hv 15
  have : cs.toList[15]? = some (.int .u8 z) := by
    have h0 : ((cs.toList.drop 15).take 1)[0]? = some (.int .u8 z) := by rw [e1]; rfl
    simpa using h0
  rw [hc, ← hz]
  simpa using this

theorem sum_eq (l : List ByteArray) (h : ∀ s ∈ l, s.size ≤ 4611686018427387904) : sum_Of.f l = some ((Crc.of (l.flatMap (·.data.toList))).toNat : Int) := by
  unfold sum_Of.f
  rw [if_pos (List.all_eq_true.2 fun s hs => decide_eq_true (h s hs))]
theorem cut_join (a : ByteArray) (m : Nat) : (a.extract 0 m).data.toList ++ (a.extract m a.size).data.toList = a.data.toList := by
  rw [ByteArray.data_extract, ByteArray.data_extract, Array.toList_extract, Array.toList_extract]
  simp only [List.extract_eq_take_drop, List.drop_zero, Nat.sub_zero]
  rw [List.take_of_length_le (i := a.size - m)]
  · exact List.take_append_drop m _
  · rw [List.length_drop]; simp
theorem pure : whirligiglaw25_SumOf.Pure := by
  intro a0 a1 h0 h1
  by_cases hs : a0.size ≤ 3000
  · refine ⟨41 + 10 * a0.size, ?_⟩
    unfold whirligiglaw25_SumOf.f whirligiglaw25_anchor.f
    simp only [Option.bind_some, if_true]
    rw [if_neg (by omega), ref_of a0 hs, Option.bind_some, sum_eq [a0] (by intro s hs; simp at hs; subst hs; omega), Option.bind_some]
    have e1 : ([a0].flatMap fun x => x.data.toList) = a0.data.toList := by simp
    rw [e1, if_pos rfl]
    have hm : 0 ≤ mx 0 (mn a1 a0.size) ∧ mx 0 (mn a1 a0.size) ≤ (a0.size : Int) := by unfold mx mn; split <;> split <;> omega
    generalize mx 0 (mn a1 a0.size) = q at hm ⊢
    have hx : ∀ i j, (a0.extract i j).size ≤ a0.size := fun i j => by rw [ByteArray.size_extract]; omega
    rw [if_pos hm.1, if_pos hm.2, sum_eq _ (by intro s hs; simp at hs; rcases hs with rfl | rfl; have := hx 0 q.toNat; omega; have := hx q.toNat a0.size; omega), Option.bind_some]
    have e2 : ([a0.extract 0 q.toNat, a0.extract q.toNat a0.size].flatMap fun x => x.data.toList) = a0.data.toList := by
      simp only [List.flatMap_cons, List.flatMap_nil, List.append_nil]
      exact cut_join a0 _
    rw [e2, if_pos rfl, sum_eq [] (by simp), Option.bind_some]
    decide +kernel
  · refine ⟨0, ?_⟩
    unfold whirligiglaw25_SumOf.f whirligiglaw25_anchor.f
    simp only [Option.bind_some, if_true]
    rw [if_pos (by omega)]
theorem sumOf_walk (a0 : ByteArray) (a1 : Int) (w : World) (w0 : a0.size ≤ 140737488351232) (w1 : (Lit.int .i64 a1).wf = true) (hL : laidMetH Tryd.prog Rows.sumOfRow.laid w) :
    Calls Tryd.prog 3 #[.string a0, .int .i64 a1] w fun e w' => e = .returned (.bool true) ∧ Below w.heap.size w w' :=
  haveI : TabFact w := ⟨tab_of hL⟩
  whirligiglaw25_SumOf.walk pure a0 a1 w w0 w1
end Go.Proofs.YtlbplbbkljjnnaaDoor.SumOf
