/- val.Value.Show and val.Read walked: of whatever value and whatever string, with what the library's table and its two errors hold. -/
import Derived.Test.YtbbdlcmcndhhkaaDoorMValReckonsx3
import Derived.Test.YtbbdlcmcndhhkaaDoorMValReckonsx4
import Derived.Test.YtbbdlcmcndhhkaaDoorPlain
import Derived.Test.YtbbdlcmcndhhkaaDoorShelf
import Derived.Lib.SmallJoins
import Derived.Lib.AppendIntMem
import Derived.Lib.Strings
import Derived.Lib.IndexBytes
import Derived.Lib.PathFns
namespace Go.Proofs.YtbbdlcmcndhhkaaDoor.MValReckons
open Go.RowKit Go.Proofs Go.Proofs.YtbbdlcmcndhhkaaDoorW.PrintWords Go.Proofs.YtbbdlcmcndhhkaaDoorW.PrintLast Go.Proofs.YtbbdlcmcndhhkaaDoorW.PrintMore
set_option linter.unusedVariables false
set_option linter.unusedSimpArgs false
/-- What the library's variables hold. -/
structure Tab (w : World) : Prop where
  tab : Lib.TabIs Tryd.prog w "internal/strconv.uint64pow10" .u64 Lib.pow10Tab
  syn : ∃ te pe, w.cell? ⟨0, 0, none⟩ = some (.iface te pe)
  rng : ∃ te pe, w.cell? ⟨1, 0, none⟩ = some (.iface te pe)
theorem Tab.below {w w' : World} (h : Tab w) (hb : Below w.heap.size w w') : Tab w' := by
  obtain ⟨te, pe, h1⟩ := h.syn
  obtain ⟨tf, pf, h2⟩ := h.rng
  exact ⟨Go.Joins.tab_stays (g := 2) (by kernel_rfl) h.tab hb (Nat.le_refl _), ⟨te, pe, (hb.cell (World.block_lt_of_cell? w _ h1)).trans h1⟩, ⟨tf, pf, (hb.cell (World.block_lt_of_cell? w _ h2)).trans h2⟩⟩
theorem formatInt_any (n : Int) (h0 : -9223372036854775808 ≤ n) (h1 : n ≤ 9223372036854775807) (w : World) (hT : Tab w) :
    Calls Tryd.prog 29 #[.int .i64 n, .int .i64 10] w fun e w' => e = .returned (.string ⟨(Lib.itoa n).toArray⟩) ∧ Below w.heap.size w w' := by
  have h : Calls Tryd.prog 29 #[.int .i64 n, .int .i64 10] w fun e w' => e = .returned (.string ⟨(Lib.itoa n).toArray⟩) ∧ ∃ k os, w' = Go.Sort.grow (w.drewN k) os := Any.strconv_FormatInt_10 Tryd.laysM173 n h0 h1 w hT.tab
  refine h.mono ?_
  rintro e w' ⟨rfl, k, os, rfl⟩
  exact ⟨rfl, Lib.below_grow _ _ (Nat.le_refl _) _ _⟩
/-- What ParseInt answers: a number and no error, or an error. -/
theorem parseInt_any (s : ByteArray) (hs : s.size ≤ 1000) (w : World) (hT : Tab w) :
    Calls Tryd.prog 27 #[.string s, .int .i64 10, .int .i64 64] w fun e w' => (∃ v : Int, ∃ er : Value, e = .returned (.tuple #[.int .i64 v, er]) ∧ ((er = .nilIface ∧ Lib.parseIntB 64 s.data.toList = .ok v) ∨ (∃ te pe, er = .iface te pe ∧ ∀ u, Lib.parseIntB 64 s.data.toList ≠ .ok u))) ∧ Below w.heap.size w w' := by
  cases h : Lib.parseIntB 64 s.data.toList with
  | ok v =>
    have hp : Calls Tryd.prog 27 #[.string s, .int .i64 10, .int .i64 64] w fun e w' => e = .returned (.tuple #[.int .i64 v, .nilIface]) ∧ (w' = w ∨ ∃ t, w' = Lib.bytesWorld w 5 t) := Any.strconv_ParseInt_10_at64_ok Tryd.laysC174 s (by omega) v h w
    refine hp.mono ?_
    rintro e w' ⟨rfl, hw⟩
    refine ⟨⟨v, .nilIface, rfl, .inl ⟨rfl, rfl⟩⟩, ?_⟩
    rcases hw with rfl | ⟨t, rfl⟩
    · exact Below.refl _ _
    · exact Lib.bytesWorld_below _ _ _
  | «syntax» =>
    obtain ⟨te, pe, h1⟩ := hT.syn
    have hp : Calls Tryd.prog 27 #[.string s, .int .i64 10, .int .i64 64] w fun e w' => ∃ N, e = .returned (.tuple #[.int .i64 (0), .iface 79 (.pointer (some ⟨N, 0, none⟩))]) ∧ w.heap.size ≤ N ∧ w'.heap[N]? = some (.cells #[.string ⟨#[80, 97, 114, 115, 101, 73, 110, 116]⟩, .string s, .iface te pe] 93 (0, 0)) ∧ Below w.heap.size w w' :=
      Any.strconv_ParseInt_10_at64_syntax Tryd.laysC174 s (by omega) h (.iface te pe) w h1 (.inr ⟨te, pe, rfl⟩)
    refine hp.mono ?_
    rintro e w' ⟨N, rfl, _, _, hb⟩
    exact ⟨⟨0, _, rfl, .inr ⟨_, _, rfl, fun u hu => by cases hu⟩⟩, hb⟩
  | range =>
    obtain ⟨te, pe, h1⟩ := hT.rng
    have hp : Calls Tryd.prog 27 #[.string s, .int .i64 10, .int .i64 64] w fun e w' => ∃ N, e = .returned (.tuple #[.int .i64 (Lib.intSat 64 s.data.toList), .iface 79 (.pointer (some ⟨N, 0, none⟩))]) ∧ w.heap.size ≤ N ∧ w'.heap[N]? = some (.cells #[.string ⟨#[80, 97, 114, 115, 101, 73, 110, 116]⟩, .string s, .iface te pe] 93 (0, 0)) ∧ Below w.heap.size w w' :=
      Any.strconv_ParseInt_10_at64_range Tryd.laysC174 s (by omega) h (.iface te pe) w h1 (.inr ⟨te, pe, rfl⟩)
    refine hp.mono ?_
    rintro e w' ⟨N, rfl, _, _, hb⟩
    exact ⟨⟨_, _, rfl, .inr ⟨_, _, rfl, fun u hu => by cases hu⟩⟩, hb⟩
/-- A truth as a text. -/
def bStr : Bool → ByteArray
  | true => ⟨#[116, 114, 117, 101]⟩
  | false => ⟨#[102, 97, 108, 115, 101]⟩
set_option maxHeartbeats 1000000 in
theorem formatBool_in (b : Bool) (w : World) : Calls Tryd.prog 46 #[.bool b] w fun e w' => e = .returned (.string (bStr b)) ∧ Below w.heap.size w w' := by
  have HB := Aside0.mk (Below.refl w.heap.size w)
  cases b with
  | true =>
    go_enter Tryd.func46, Tryd.ntmps46
    go_wp2
    go_ret
    exact ⟨rfl, HB.out⟩
  | false =>
    go_enter Tryd.func46, Tryd.ntmps46
    go_wp2
    go_ret
    exact ⟨rfl, HB.out⟩
set_option maxHeartbeats 1000000 in
theorem formatBool_any (b : Bool) (w : World) : Calls Tryd.prog 30 #[.bool b] w fun e w' => e = .returned (.string (bStr b)) ∧ Below w.heap.size w w' := by
  have HC := Aside0.mk (formatBool_in b w)
  go_enter Tryd.func30, Tryd.ntmps30
  go_wp2_with fail
  refine HC.out.mono ?_
  rintro e w1 ⟨rfl, hb⟩
  have HB := Aside0.mk hb
  clear hb
  go_wp2
  go_ret
  exact ⟨rfl, HB.out⟩
/-- What Show answers. -/
def showF (k n : Int) (s : ByteArray) : ByteArray := if k = 1 then ⟨(Lib.itoa n).toArray⟩ else if k = 2 then bStr (n != 0) else ((⟨#[39]⟩ : ByteArray) ++ s) ++ (⟨#[39]⟩ : ByteArray)
set_option maxHeartbeats 4000000 in
set_option maxRecDepth 100000 in
theorem show_any (k n : Int) (s : ByteArray) (hs : s.size ≤ 140737488351232) (h0 : -9223372036854775808 ≤ n) (h1 : n ≤ 9223372036854775807) (w : World) (hT : Tab w) :
    Calls Tryd.prog 13 #[.agg #[.int .i64 k, .int .i64 n, .string s]] w fun e w' => e = .returned (.string (showF k n s)) ∧ Below w.heap.size w w' := by
  have hu24 := Tryd.underlying24
  have hb1 : Below w.heap.size w (w.alloc (.cells #[.int .i64 k, .int .i64 n, .string s] 24)) := below_alloc (Below.refl _ _) _
  have HB1 := Aside0.mk hb1
  have HF := Aside0.mk (formatInt_any n h0 h1 _ (hT.below hb1))
  have HG := Aside0.mk (formatBool_any (n != 0) (w.alloc (.cells #[.int .i64 k, .int .i64 n, .string s] 24)))
  have b0 : (w.alloc (.cells #[.int .i64 k, .int .i64 n, .string s] 24)).cell? ⟨w.heap.size, 0, none⟩ = some (.int .i64 k) := by rw [World.cell?_alloc_new]; rfl
  have b1 : (w.alloc (.cells #[.int .i64 k, .int .i64 n, .string s] 24)).cell? ⟨w.heap.size, 1, none⟩ = some (.int .i64 n) := by rw [World.cell?_alloc_new]; rfl
  have b2 : (w.alloc (.cells #[.int .i64 k, .int .i64 n, .string s] 24)).cell? ⟨w.heap.size, 2, none⟩ = some (.string s) := by rw [World.cell?_alloc_new]; rfl
  clear hb1
  by_cases hk1 : k = 1
  · subst hk1
    go_enter Tryd.func13, Tryd.ntmps13
    go_wp2_with fail
    refine HF.out.mono ?_
    rintro e w2 ⟨rfl, hb⟩
    have HB2 := Aside0.mk (below_step HB1.out hb)
    clear hb
    go_wp2
    go_ret
    exact ⟨rfl, HB2.out⟩
  · by_cases hk2 : k = 2
    · subst hk2
      go_enter Tryd.func13, Tryd.ntmps13
      go_wp2_with fail
      refine HG.out.mono ?_
      rintro e w2 ⟨rfl, hb⟩
      have HB2 := Aside0.mk (below_step HB1.out hb)
      clear hb
      go_wp2
      go_ret
      exact ⟨rfl, HB2.out⟩
    · have hz : showF k n s = ((⟨#[39]⟩ : ByteArray) ++ s) ++ (⟨#[39]⟩ : ByteArray) := by unfold showF; rw [if_neg hk1, if_neg hk2]
      have HZ := Aside0.mk hz
      clear hz
      go_enter Tryd.func13, Tryd.ntmps13
      go_wp2
      go_ret
      exact ⟨by rw [HZ.out]; rfl, HB1.out⟩
theorem of_any (n : Int) (w : World) : Calls Tryd.prog 25 #[.int .i64 n] w fun e w' => e = .returned (.agg #[.int .i64 1, .int .i64 n, .string ⟨#[]⟩]) ∧ Below w.heap.size w w' := val_Of.calls n 1 n ⟨#[]⟩ w rfl
theorem truth_any (b : Bool) (w : World) : Calls Tryd.prog 24 #[.bool b] w fun e w' => e = .returned (.agg #[.int .i64 2, .int .i64 (if b = true then 1 else 0), .string ⟨#[]⟩]) ∧ Below w.heap.size w w' := by
  cases b with
  | true => exact val_Truth.calls true 2 1 ⟨#[]⟩ w rfl
  | false => exact val_Truth.calls false 2 0 ⟨#[]⟩ w rfl
theorem word_any (s : ByteArray) (w : World) : Calls Tryd.prog 26 #[.string s] w fun e w' => e = .returned (.agg #[.int .i64 3, .int .i64 0, .string s]) ∧ Below w.heap.size w w' := val_Word.calls s 3 0 s w rfl
end Go.Proofs.YtbbdlcmcndhhkaaDoor.MValReckons
