/- bytes.Cut at a newline, walked down to the byte's index. -/
import Derived.Test.YtlnllcgepplneaaMFrameLinesx0
import Derived.Shelf.Bytes.SlIndexAt
import Derived.Shelf.RegionOpenPlain
namespace Go.Proofs.Ytlnllcgepplneaa.MFrameLines
open Go.RowKit Go.Proofs Go.Proofs.YtlnllcgepplneaaW.PrintWords Go.Proofs.YtlnllcgepplneaaW.PrintLast Go.Proofs.YtlnllcgepplneaaW.PrintMore
set_option linter.unusedVariables false
set_option linter.unusedSimpArgs false
/-- Where the first newline is, or the length. -/
def nl (l : List Int) : Nat := l.findIdx (fun x => x == 10)
def nlI (l : List Int) : Int := if nl l < l.length then (nl l : Int) else -1
/-- Numbers that are bytes. -/
def Byt (l : List Int) : Prop := ∀ x ∈ l, 0 ≤ x ∧ x < 256
theorem index_nl : ∀ l : List Int, Byt l → Lib.indexByte (Lib.bytesOf l) 10 = nlI l
  | [], _ => rfl
  | x :: r, h => by
    have ih := index_nl r (fun y hy => h y (List.mem_cons_of_mem _ hy))
    have hx := h x List.mem_cons_self
    have e : Lib.bytesOf (x :: r) = UInt8.ofNat x.toNat :: Lib.bytesOf r := rfl
    rw [e, Lib.indexByte, ih]
    by_cases hc : x = 10
    · subst hc
      rw [if_pos (by decide)]
      unfold nlI nl
      rw [List.findIdx_cons]
      simp
    · have hne : ¬ (UInt8.ofNat x.toNat == 10) = true := by
        intro hb
        have hb := eq_of_beq hb
        have := congrArg UInt8.toNat hb
        rw [UInt8.toNat_ofNat'] at this
        have h10 : (10 : UInt8).toNat = 10 := rfl
        omega
      have hn : nl (x :: r) = nl r + 1 := by
        unfold nl
        rw [List.findIdx_cons, beq_eq_false_iff_ne.2 hc]
        rfl
      rw [if_neg hne]
      unfold nlI
      rw [hn, List.length_cons]
      by_cases hlt : nl r < r.length
      · have hz : ¬ ((nl r : Int) == -1) = true := by intro hb; have := eq_of_beq hb; omega
        have hq : nl r + 1 < r.length + 1 := by omega
        simp only [if_pos hlt, if_pos hq, if_neg hz]
        omega
      · have hq : ¬ nl r + 1 < r.length + 1 := by omega
        simp only [if_neg hlt, if_neg hq]
        rfl
set_option maxHeartbeats 2000000 in
set_option maxRecDepth 100000 in
theorem indexByte_calls (A : Option Addr) (n c : Nat) (l : List Int) (w : World) (h : Kd.C (Kd.int .u8) w A n l) (hb : Byt l) :
    Calls Try.prog 16 #[.slice A n c, .int .u8 10] w fun e w' => e = .returned (.int .i64 (nlI l)) ∧ w' = w := by
  have hr : ReadsInt w .u8 A n l := Kd.reads_of_C (d := (0 : Int)) h
  have hrun : (Extern.BytealgIndexByte.indexByte #[.slice A n c, .int .u8 10]).run Try.prog w = .ok (.int .i64 (nlI l)) w := by
    rcases A with _ | ad
    · have hl : l = [] := by
        rcases Nat.eq_zero_or_pos n with h0 | h0
        · exact List.eq_nil_of_length_eq_zero (hr.1.trans h0)
        · obtain ⟨ad, h, _⟩ := hr.2.2 h0
          cases h
      subst hl
      exact Lib.run_indexByteNil w n c 10
    · rw [← index_nl l hb]
      refine Lib.run_indexByteAt w ad n c l hr.1 (fun i hi => ?_) 10
      obtain ⟨a2, e, hc⟩ := hr.2.2 (by omega)
      cases e
      exact hc i hi
  go_enter Try.func16, Try.ntmps16
  go_wp2
  rw [run_callFunc_extern Try.func21 (by kernel_rfl) (by kernel_rfl) (by kernel_rfl) (e := Extern.BytealgIndexByte.indexByte) (by kernel_rfl), hrun]
  simp only [Result.andThen]
  rw [Oper.upon_value]
  go_wp2
  go_ret
  exact ⟨rfl, rfl⟩
set_option maxHeartbeats 2000000 in
set_option maxRecDepth 100000 in
theorem index_calls (A : Option Addr) (n c b : Nat) (l : List Int) (w : World) (h : Kd.C (Kd.int .u8) w A n l) (hb : Byt l) (h10 : w.cell? ⟨b, 0, none⟩ = some (.int .u8 10)) :
    Calls Try.prog 15 #[.slice A n c, .slice (some ⟨b, 0, none⟩) 1 1] w fun e w' => e = .returned (.int .i64 (nlI l)) ∧ w' = w := by
  have hcon := indexByte_calls A n c l w h hb
  clear h hb
  go_enter Try.func15, Try.ntmps15
  go_wp2_with (go_at_call 16; refine hcon.mono ?_; rintro e w' ⟨rfl, rfl⟩)
  go_ret
  exact ⟨rfl, rfl⟩
set_option maxHeartbeats 2000000 in
set_option maxRecDepth 100000 in
/-- Cut at a newline that is there. -/
theorem cut_there (A : Option Addr) (n c b : Nat) (l : List Int) (w : World) (h : Kd.C (Kd.int .u8) w A n l) (hb : Byt l) (hc : n ≤ c) (hn : n ≤ 4611686018427387904) (h10 : w.cell? ⟨b, 0, none⟩ = some (.int .u8 10)) (hi : nl l < n) :
    Calls Try.prog 12 #[.slice A n c, .slice (some ⟨b, 0, none⟩) 1 1] w fun e w' => e = .returned (.tuple #[.slice A (nl l) c, .slice (if c = nl l + 1 then A else A.map (fun x => x.add (nl l + 1))) (n - (nl l + 1)) (c - (nl l + 1)), .bool true]) ∧ ∃ q, w' = w.drewN q := by
  have hcon := index_calls A n c b l w h hb h10
  have hl : l.length = n := h.1
  have e : nlI l = (nl l : Int) := by unfold nlI; rw [if_pos (by omega)]
  rw [e] at hcon
  generalize nl l = j at *
  have mixed : Try.prog.follows .mixedOrders = true := by kernel_rfl
  have hr : (j : Int) + 1 ≤ (n : Int) := by omega
  have hrc : (j : Int) + 1 ≤ (c : Int) := by omega
  have hr0 : (0 : Int) ≤ (j : Int) := by omega
  have hr1 : (0 : Int) ≤ (j : Int) + 1 := by omega
  have hr2 : (j : Int) ≤ (c : Int) := by omega
  have hw : IntKind.i64.wrap ((j : Int) + 1) = (j : Int) + 1 := by rw [IntKind.wrap_i64]; omega
  clear h hb e hl
  go_enter Try.func12, Try.ntmps12
  go_wp2_with (go_at_call 15; refine hcon.mono ?_; rintro e w' ⟨rfl, rfl⟩)
  go_region_o
  all_goals go_wp2
  all_goals go_ret3
  all_goals exact ⟨by simp [*], _, rfl⟩
set_option maxHeartbeats 2000000 in
set_option maxRecDepth 100000 in
/-- Cut where there is none. -/
theorem cut_none (A : Option Addr) (n c b : Nat) (l : List Int) (w : World) (h : Kd.C (Kd.int .u8) w A n l) (hb : Byt l) (h10 : w.cell? ⟨b, 0, none⟩ = some (.int .u8 10)) (hi : ¬ nl l < n) :
    Calls Try.prog 12 #[.slice A n c, .slice (some ⟨b, 0, none⟩) 1 1] w fun e w' => e = .returned (.tuple #[.slice A n c, .slice none 0 0, .bool false]) ∧ ∃ q, w' = w.drewN q := by
  have hcon := index_calls A n c b l w h hb h10
  have hl : l.length = n := h.1
  have e : nlI l = -1 := by unfold nlI; rw [if_neg (by omega)]
  rw [e] at hcon
  clear h hb e hl hi
  go_enter Try.func12, Try.ntmps12
  go_wp2_with (go_at_call 15; refine hcon.mono ?_; rintro e w' ⟨rfl, rfl⟩)
  go_ret3
  exact ⟨rfl, 0, rfl⟩
end Go.Proofs.Ytlnllcgepplneaa.MFrameLines
