/- Words walked: of whatever strings, numbers and lists of numbers, boxed as interface values. -/
import Derived.Test.YthpfekjbfhldcaaDoorSDig
import Derived.Test.YthpfekjbfhldcaaDoorShelf
import Derived.Lib.SmallJoins
import Derived.Lib.AppendIntMem
import Derived.Lib.Strings
namespace Go.Proofs.YthpfekjbfhldcaaDoor.SayP
open Go Go.RowKit Go.Proofs Go.Proofs.YthpfekjbfhldcaaDoorW.PrintWords Go.Proofs.YthpfekjbfhldcaaDoorW.PrintLast Go.Proofs.YthpfekjbfhldcaaDoorW.PrintMore
set_option linter.unusedVariables false
set_option linter.unusedSimpArgs false
theorem info9 : (Tryd.prog.info? 9).map (fun i => (i.zero, i.size, i.bytes)) = some (some (.string ByteArray.empty), 1, 16) := by kernel_rfl
/-- What the library's table holds. -/
structure Tab (w : World) : Prop where
  tab : Lib.TabIs Tryd.prog w "internal/strconv.uint64pow10" .u64 Lib.pow10Tab
theorem Tab.below {w w' : World} (h : Tab w) (hb : Below w.heap.size w w') : Tab w' := ⟨Go.Joins.tab_stays (g := 0) (by kernel_rfl) h.tab hb (Nat.le_refl _)⟩
def dec (n : Int) : ByteArray := ⟨(Lib.itoa n).toArray⟩
theorem itoa_any (n : Int) (h : InI n) (w : World) (hT : Tab w) : Calls Tryd.prog 17 #[.int .i64 n] w fun e w' => e = .returned (.string (dec n)) ∧ Below w.heap.size w w' := by
  refine (Tryd.strconv_Itoa n h.1 h.2 w hT.tab).mono ?_
  rintro e w' ⟨rfl, k, os, rfl⟩
  exact ⟨rfl, Lib.below_grow _ _ (Nat.le_refl _) _ _⟩
/-- Texts with a separator between each two. -/
def joinB (xs : List ByteArray) (sep : ByteArray) : ByteArray := ⟨(Lib.join (xs.map (·.data.toList)) sep.data.toList).toArray⟩
theorem join_any (e base : Nat) (ok : Nat → Prop) (v : Value) (xs : List ByteArray) (sep : ByteArray) (w : World) (hR : Kd.string.R e w base ok v xs) (hN : xs.length ≤ 140737488355328) (hlen : (joinB xs sep).size ≤ 140737488355328) :
    Calls Tryd.prog 18 #[v, .string sep] w fun e w' => e = .returned (.string (joinB xs sep)) ∧ Below w.heap.size w w' := by
  rcases Nat.eq_zero_or_pos xs.length with h0 | h0
  · obtain ⟨A, c, rfl⟩ := Kd.R_slice hR
    obtain rfl := List.eq_nil_of_length_eq_zero h0
    refine (Tryd.strings_Join_none A c sep w).mono ?_
    rintro e w' ⟨rfl, rfl⟩
    exact ⟨rfl, Below.refl _ _⟩
  · obtain ⟨g, cap, rfl, hg, hgw, _⟩ := Kd.R_form hR h0
    obtain ⟨_, hcap, hC⟩ := Kd.R_reads' hR
    refine Tryd.strings_Join g 0 cap xs sep w (fun j x hx => ?_) hgw hN hcap hlen
    obtain ⟨hl, rfl⟩ := List.getElem?_eq_some_iff.1 hx
    obtain ⟨ad, ea, hcell⟩ := (Kd.reads_of_C (enc := Value.string) (d := ByteArray.empty) (h1 := fun _ => rfl) hC).2.2 h0
    cases ea
    have := hcell j hl
    rw [add_plain, List.getD_eq_getElem?_getD, List.getElem?_eq_getElem hl] at this
    rw [Nat.zero_add]
    exact this
/-- A thing in an interface value. -/
inductive It where
  | s (b : ByteArray)
  | n (k : Int)
  | l (A : Option Addr) (c : Nat) (ks : List Int)
def It.val : It → Value
  | .s b => .iface 9 (.string b)
  | .n k => .iface 3 (.int .i64 k)
  | .l A c ks => .iface 22 (.slice A ks.length c)
theorem It.one (x : It) : x.val.oneCell' = true := by cases x <;> rfl
def It.out : It → List ByteArray
  | .s b => [b]
  | .n k => [dec k]
  | .l _ _ ks => ks.map dec
def It.ok (w : World) : It → Prop
  | .s _ => True
  | .n k => InI k
  | .l A c ks => (Kd.int .i64).C w A ks.length ks ∧ ks.length ≤ c ∧ ∀ k ∈ ks, InI k
def outs (l : List It) : List ByteArray := l.flatMap It.out
abbrev itK : Kd It := Kd.scalar It.val It.one
theorem It.ok_below {w w' : World} {x : It} (h : x.ok w) (hb : Below w.heap.size w w') : x.ok w' := by
  cases x with
  | s b => trivial
  | n k => exact h
  | l A c ks => exact ⟨Kd.C_below h.1 hb, h.2⟩
theorem outs_at (l : List It) (k : Nat) (x : It) (h : l[k]? = some x) : outs (l.take (k + 1)) = outs (l.take k) ++ x.out := by
  obtain ⟨hk, rfl⟩ := List.getElem?_eq_some_iff.1 h
  rw [List.take_succ_eq_append_getElem hk, outs, List.flatMap_append, List.flatMap_singleton]
  rfl
theorem outs_le (l : List It) (k : Nat) : (outs (l.take k)).length ≤ (outs l).length := by
  conv => rhs; rw [← List.take_append_drop k l]
  rw [outs, outs, List.flatMap_append, List.length_append]
  omega
theorem asS (W : World) (b : ByteArray) : (Instr.typeAssert (.iface 9 (.string b)) 20 9 true).run Tryd.prog W = .ok (.tuple #[.string b, .bool true]) W := by kernel_rfl
theorem asN (W : World) (k : Int) : (Instr.typeAssert (.iface 3 (.int .i64 k)) 20 9 true).run Tryd.prog W = .ok (.tuple #[.string ⟨#[]⟩, .bool false]) W := by kernel_rfl
theorem asN2 (W : World) (k : Int) : (Instr.typeAssert (.iface 3 (.int .i64 k)) 20 3 true).run Tryd.prog W = .ok (.tuple #[.int .i64 k, .bool true]) W := by kernel_rfl
theorem asL (W : World) (A : Option Addr) (n c : Nat) : (Instr.typeAssert (.iface 22 (.slice A n c)) 20 9 true).run Tryd.prog W = .ok (.tuple #[.string ⟨#[]⟩, .bool false]) W := by kernel_rfl
theorem asL2 (W : World) (A : Option Addr) (n c : Nat) : (Instr.typeAssert (.iface 22 (.slice A n c)) 20 3 true).run Tryd.prog W = .ok (.tuple #[.int .i64 0, .bool false]) W := by kernel_rfl
theorem asL3 (W : World) (A : Option Addr) (n c : Nat) : (Instr.typeAssert (.iface 22 (.slice A n c)) 20 22 true).run Tryd.prog W = .ok (.tuple #[.slice A n c, .bool true]) W := by kernel_rfl
theorem it_at {w : World} {A : Option Addr} {l : List It} (h : itK.C w A l.length l) (k : Nat) (x : It) (hk : l[k]? = some x) : ∃ ad, A = some ad ∧ w.cell? (ad.add k) = some x.val := by
  obtain ⟨hl, rfl⟩ := List.getElem?_eq_some_iff.1 hk
  obtain ⟨ad, e, hc⟩ := (Kd.reads_of_C (enc := It.val) (d := It.n 0) (h1 := It.one) h).2.2 (by omega)
  refine ⟨ad, e, ?_⟩
  have := hc k hl
  rwa [List.getD_eq_getElem?_getD, List.getElem?_eq_getElem hl] at this
def blank : ByteArray := ⟨#[32]⟩
set_option maxHeartbeats 8000000 in
set_option maxRecDepth 100000 in
theorem words_any (A : Option Addr) (c : Nat) (l : List It) (w : World) (hT : Tab w) (hC : itK.C w A l.length l) (hc : l.length ≤ c) (hl : l.length ≤ 1000) (hok : ∀ x ∈ l, x.ok w) (hn : (outs l).length ≤ 1000) (hj : (joinB (outs l) blank).size ≤ 140737488355328) :
    Calls Tryd.prog 7 #[.slice A l.length c] w fun e w' => e = .returned (.string (joinB (outs l) blank)) ∧ Below w.heap.size w w' := by
  have HC := Aside0.mk hC
  have HCC := Aside0.mk hc
  have HT := Aside0.mk hT
  have HOK := Aside0.mk hok
  have HN := Aside0.mk hn
  have HJ := Aside0.mk hj
  have HL := Aside0.mk hl
  have HB := Aside0.mk (Below.refl w.heap.size w)
  clear hC hc hT hok hn hj hl
  go_enter Tryd.func7, Tryd.ntmps7
  go_wp2
  go_loopw [3, 13] (fun v3 v13 wr => ∃ k : Nat, v13 = .int .i64 k ∧ k ≤ l.length ∧ Aside0 (Kd.string.R 9 wr w.heap.size (fun _ => True) v3 (outs (l.take k))) ∧ Aside0 (Below w.heap.size w wr)) (fun _ v13 _ => l.length - (intOf v13).toNat)
  case atStart => exact ⟨0, rfl, Nat.zero_le _, ⟨Kd.R_nil _ _ _ _ _⟩, HB⟩
  case round =>
    clear HB
    obtain ⟨k, rfl, hk, HR, HB⟩ := hrel
    have HK := Aside0.mk hk
    clear hk
    by_cases hlt : k < l.length
    · obtain ⟨x, hx⟩ : ∃ x, l[k]? = some x := ⟨l[k], List.getElem?_eq_getElem hlt⟩
      obtain ⟨ad, eA, hc⟩ := it_at (Kd.C_below HC.out HB.out) k x hx
      have HO := Aside0.mk (outs_at l k x hx)
      have HX := Aside0.mk (HOK.out x (List.mem_of_getElem? hx))
      have HLE := Aside0.mk (outs_le l (k + 1))
      have hl1 := HL.out
      cases eA
      clear hx
      generalize outs (l.take k) = ys at HR HO
      have hq1 : decide ((k : Int) < (l.length : Int)) = true := decide_eq_true (by omega)
      have hq2 : (0 ≤ (k : Int)) = True := eq_true (Int.natCast_nonneg _)
      have HLT := Aside0.mk hlt
      cases x with
      | s b =>
        have HLEN := Aside0.mk (show (ys.length + 1) * 16 ≤ 140737488355328 by have h1 := HLE.out; have h2 := HN.out; rw [HO.out, List.length_append] at h1; change _ + 1 ≤ _ at h1; omega)
        have e1 := fun W => asS W b
        replace hc : wr.cell? (ad.add k) = some (.iface 9 (.string b)) := hc
        go_wp2_with (first | ((with_reducible refine gate_builtin (b := .append) (xs := #[.tmp 21, .tmp 23]) rfl ?_); at_builtin; refine Kd.R_append Kd.string (w0 := w) w.heap.size rfl (.tmp 21) (.tmp 23) 25 9 (.string ByteArray.empty) 16 rfl Tryd.underlying25 info9 rfl (by decide) (by decide) u3 ys b [.string b] (fun _ => True) (fun _ => False) rfl rfl rfl (fun _ hk => hk.elim) (fun _ _ => trivial) HR.out HB.out HB.out.size HLEN.out ?_; intro v1 w1 ho hb hg hat; have HR1 := Aside0.mk ho; have HB1 := Aside0.mk hb; clear ho hb hg hat HR HB))
        go_roundw
        case rel => exact ⟨k + 1, by go_num, HLT.out, ⟨by rw [HO.out]; exact HR1.out⟩, HB1⟩
        case measure => have := HLT.out; simp [intOf]; omega
      | n z =>
        have HLEN := Aside0.mk (show (ys.length + 1) * 16 ≤ 140737488355328 by have h1 := HLE.out; have h2 := HN.out; rw [HO.out, List.length_append] at h1; change _ + 1 ≤ _ at h1; omega)
        have e1 := fun W => asN W z
        have e2 := fun W => asN2 W z
        have HZ : Aside0 (InI z) := ⟨HX.out⟩
        have HTW := Aside0.mk (HT.out.below HB.out)
        replace hc : wr.cell? (ad.add k) = some (.iface 3 (.int .i64 z)) := hc
        go_wp2_with (first | (go_at_call 17; (with_reducible refine (itoa_any z HZ.out _ HTW.out).mono ?_); rintro e w5 ⟨rfl, hb⟩; have HR2 := Aside0.mk (Kd.R_below HR.out hb); have HB2 := Aside0.mk (HB.out.trans (hb.mono HB.out.size)); clear hb HR HB) | ((with_reducible refine gate_builtin (b := .append) (xs := #[.tmp 28, .tmp 31]) rfl ?_); at_builtin; refine Kd.R_append Kd.string (w0 := w) w.heap.size rfl (.tmp 28) (.tmp 31) 25 9 (.string ByteArray.empty) 16 rfl Tryd.underlying25 info9 rfl (by decide) (by decide) u3 ys (dec z) [.string ((dec z))] (fun _ => True) (fun _ => False) rfl rfl rfl (fun _ hk => hk.elim) (fun _ _ => trivial) HR2.out HB2.out HB2.out.size HLEN.out ?_; intro v1 w1 ho hb hg hat; have HR1 := Aside0.mk ho; have HB1 := Aside0.mk hb; clear ho hb hg hat HR2 HB2))
        go_roundw
        case rel => exact ⟨k + 1, by go_num, HLT.out, ⟨by rw [HO.out]; exact HR1.out⟩, HB1⟩
        case measure => have := HLT.out; simp [intOf]; omega
      | l A2 c2 ks =>
        have e1 := fun W => asL W A2 ks.length c2
        have e2 := fun W => asL2 W A2 ks.length c2
        have e3 := fun W => asL3 W A2 ks.length c2
        have HX2 : Aside0 ((Kd.int .i64).C w A2 ks.length ks ∧ ks.length ≤ c2 ∧ ∀ k ∈ ks, InI k) := ⟨HX.out⟩
        have HTOT := Aside0.mk (show ys.length + ks.length ≤ 1000 by have h1 := HLE.out; have h2 := HN.out; rw [HO.out, List.length_append] at h1; change _ + (ks.map dec).length ≤ _ at h1; rw [List.length_map] at h1; omega)
        replace hc : wr.cell? (ad.add k) = some (.iface 22 (.slice A2 ks.length c2)) := hc
        clear HX
        go_wp2
        clear e1 e2 e3 hc hq1
        obtain ⟨wo, hwo⟩ : ∃ wo : World, wo = wr := ⟨wr, rfl⟩
        subst hwo
        go_loopw [3, 38] (fun v3 v38 wi => ∃ j : Nat, v38 = .int .i64 j ∧ j ≤ ks.length ∧ Aside0 (Kd.string.R 9 wi w.heap.size (fun _ => True) v3 (ys ++ (ks.take j).map dec)) ∧ Aside0 (Below w.heap.size w wi) ) (fun _ v38 _ => ks.length - (intOf v38).toNat)
        case atStart => exact ⟨0, rfl, Nat.zero_le _, ⟨by rw [List.take_zero, List.map_nil, List.append_nil]; exact HR.out⟩, HB⟩
        case round =>
          clear HR HB
          obtain ⟨j, rfl, hj, HR, HB⟩ := hrel
          have HJJ := Aside0.mk hj
          clear hj
          have htt := HTOT.out
          by_cases hlj : j < ks.length
          · have hz := (HX2.out.2.2 ks[j] (List.getElem_mem hlj))
            obtain ⟨ad2, eA2, hc2⟩ := Kd.at_int (Kd.C_below HX2.out.1 HB.out) (j : Int) (Int.natCast_nonneg _) (by omega)
            have hrd : rd ks (j : Int) = ks[j] := by unfold rd; rw [Int.toNat_natCast, List.getD_eq_getElem?_getD, List.getElem?_eq_getElem hlj]; rfl
            rw [hrd, Int.toNat_natCast] at hc2
            have HS := Aside0.mk (show (ks.take (j + 1)).map dec = (ks.take j).map dec ++ [dec ks[j]] by rw [List.take_succ_eq_append_getElem hlj, List.map_append]; rfl)
            cases eA2
            clear hrd
            generalize ks[j] = z at hc2 hz HS
            have HZ : Aside0 (InI z) := ⟨hz⟩
            clear hz
            have hq1 : decide ((j : Int) < (ks.length : Int)) = true := decide_eq_true (by omega)
            have hq2 : (0 ≤ (j : Int)) = True := eq_true (Int.natCast_nonneg _)
            have HLJ := Aside0.mk hlj
            have HTI := Aside0.mk (HT.out.below HB.out)
            have HLEN := Aside0.mk (show ((ys ++ (ks.take j).map dec).length + 1) * 16 ≤ 140737488355328 by rw [List.length_append, List.length_map, List.length_take]; omega)
            go_wp2_with (first | (go_at_call 17; (with_reducible refine (itoa_any z HZ.out _ HTI.out).mono ?_); rintro e w5 ⟨rfl, hb⟩; have HR2 := Aside0.mk (Kd.R_below HR.out hb); have HB2 := Aside0.mk (HB.out.trans (hb.mono HB.out.size)); clear hb HR HB) | ((with_reducible refine gate_builtin (b := .append) (xs := #[.tmp 42, .tmp 45]) rfl ?_); at_builtin; refine Kd.R_append Kd.string (w0 := w) w.heap.size rfl (.tmp 42) (.tmp 45) 25 9 (.string ByteArray.empty) 16 rfl Tryd.underlying25 info9 rfl (by decide) (by decide) u3 (ys ++ (ks.take j).map dec) (dec z) [.string ((dec z))] (fun _ => True) (fun _ => False) rfl rfl rfl (fun _ hk => hk.elim) (fun _ _ => trivial) HR2.out HB2.out HB2.out.size HLEN.out ?_; intro v1 w1 ho hb hg hat; have HR1 := Aside0.mk ho; have HB1 := Aside0.mk hb; clear ho hb hg hat HR2 HB2))
            go_roundw
            case rel => exact ⟨j + 1, by go_num, HLJ.out, ⟨by rw [HS.out, ← List.append_assoc]; exact HR1.out⟩, HB1⟩
            case measure => have := HLJ.out; simp [intOf]; omega
          · obtain rfl : j = ks.length := by have := HJJ.out; omega
            rw [List.take_length] at HR
            have hq1 : decide ((ks.length : Int) < (ks.length : Int)) = false := decide_eq_false (Int.lt_irrefl _)
            go_wp2
            go_roundw
            case rel => exact ⟨k + 1, by go_num, HLT.out, ⟨by rw [HO.out]; exact HR.out⟩, HB⟩
            case measure => have := HLT.out; simp [intOf]; omega
    · obtain rfl : k = l.length := by have := HK.out; omega
      clear hlt
      rw [List.take_length] at HR
      have HX := Aside0.mk (join_any 9 _ _ _ (outs l) blank wr HR.out (by have := HN.out; omega) HJ.out)
      go_wp2_with (go_at_call 18; refine HX.out.mono ?_; rintro e w2 ⟨rfl, hb2⟩)
      go_ret
      exact ⟨rfl, HB.out.trans (hb2.mono HB.out.size)⟩
end Go.Proofs.YthpfekjbfhldcaaDoor.SayP
