/- val.Read walked: the truths, a text in quotes, a number, and what is none of these. -/
import Derived.Test.YtbbdlcmcndhhkaaDoorVShow
namespace Go.Proofs.YtbbdlcmcndhhkaaDoor.MValReckons
open Go.RowKit Go.Proofs Go.Proofs.YtbbdlcmcndhhkaaDoorW.PrintWords Go.Proofs.YtbbdlcmcndhhkaaDoorW.PrintLast Go.Proofs.YtbbdlcmcndhhkaaDoorW.PrintMore
set_option linter.unusedVariables false
set_option linter.unusedSimpArgs false
theorem truthLit_t (w : World) : Calls Tryd.prog 24 #[.bool true] w fun e w' => e = .returned (.agg #[.int .i64 2, .int .i64 1, .string ⟨#[]⟩]) ∧ Below w.heap.size w w' := truth_any true w
theorem truthLit_f (w : World) : Calls Tryd.prog 24 #[.bool false] w fun e w' => e = .returned (.agg #[.int .i64 2, .int .i64 0, .string ⟨#[]⟩]) ∧ Below w.heap.size w w' := truth_any false w
set_option maxHeartbeats 4000000 in
set_option maxRecDepth 100000 in
theorem read_true (s : ByteArray) (hs : s.toList = ([116, 114, 117, 101] : List UInt8)) (w : World) : Calls Tryd.prog 10 #[.string s] w fun e w' => e = .returned (.tuple #[.agg #[(.int .i64 2), (.int .i64 1), (.string (⟨#[]⟩ : ByteArray))], .int .i64 0]) ∧ Below w.heap.size w w' := by
  have hu24 := Tryd.underlying24
  have HB := Aside0.mk (Below.refl w.heap.size w)
  have c1 : (s.toList == ([116, 114, 117, 101] : List UInt8)) = true := beq_iff_eq.mpr hs
  clear hs
  go_enter Tryd.func10, Tryd.ntmps10
  go_wp2_with (first | ((with_reducible refine gate_dst (N := 2) rfl ?_); (try (refine gate_guard (by rfl) ?_; dsimp only)); refine box_event ?hg (N := 2) ?hd (cs := #[.int .i64 0, .int .i64 0, .string (⟨#[]⟩ : ByteArray)]) (t := 24) ?hr ?_; (case hd => rfl); (case hg => rfl); (case hr => first | (go_simp; done) | (go_simp; rfl)); intro gb hg w1 hbox hb; have n0_ := Aside0.mk (below_step (by repeat (first | (with_reducible first | exact HB.out | apply below_alloc | apply pw_below_drewN | apply below_drew1 | refine below_set ?_ GE.out) | exact HB.out)) hb); have BK := Aside0.mk hbox; have GE := Aside0.mk ((by rw [hg]; exact (below_size (by repeat (first | (with_reducible first | exact HB.out | apply below_alloc | apply pw_below_drewN | apply below_drew1 | refine below_set ?_ GE.out) | exact HB.out)))) : w.heap.size ≤ gb); clear HB; have HB := n0_; clear n0_; clear hb hbox hg; have bkc0 : w1.cell? ⟨gb, 0, none⟩ = some (.int .i64 0) := (blk_cell BK.out 0).trans rfl; have bkc1 : w1.cell? ⟨gb, 1, none⟩ = some (.int .i64 0) := (blk_cell BK.out 1).trans rfl; have bkc2 : w1.cell? ⟨gb, 2, none⟩ = some (.string (⟨#[]⟩ : ByteArray)) := (blk_cell BK.out 2).trans rfl; have bkz0 := blk_frozen BK.out 0; have bkz1 := blk_frozen BK.out 1; have bkz2 := blk_frozen BK.out 2) | (go_at_call 24; refine (truthLit_t _).mono ?_; rintro e w2 ⟨rfl, hb⟩; have n0_ := Aside0.mk (below_step (by repeat (first | (with_reducible first | exact HB.out | apply below_alloc | apply pw_below_drewN | apply below_drew1 | refine below_set ?_ GE.out) | exact HB.out)) hb); have k0_ := Aside0.mk (blk_below (by (with_reducible repeat (first | refine blk_drewN ?_ _ | refine blk_drew ?_ | refine blk_alloc ?_ _)); exact BK.out) hb); clear HB; have HB := n0_; clear n0_; clear BK; have BK := k0_; clear k0_; clear hb; have bkw2c0 : w2.cell? ⟨gb, 0, none⟩ = some (.int .i64 0) := (blk_cell BK.out 0).trans rfl; have bkw2c1 : w2.cell? ⟨gb, 1, none⟩ = some (.int .i64 0) := (blk_cell BK.out 1).trans rfl; have bkw2c2 : w2.cell? ⟨gb, 2, none⟩ = some (.string (⟨#[]⟩ : ByteArray)) := (blk_cell BK.out 2).trans rfl; have bkw2z0 := blk_frozen BK.out 0; have bkw2z1 := blk_frozen BK.out 1; have bkw2z2 := blk_frozen BK.out 2))
  refine bodyPost_ret (results_ct rfl _ _ gb 24 #[(.int .i64 2), (.int .i64 1), (.string (⟨#[]⟩ : ByteArray))] (0, 0) _ rfl (by (with_reducible repeat (first | refine blk_drewN ?_ _ | refine blk_drew ?_ | refine blk_alloc ?_ _)); refine blk_put (cs := #[(.int .i64 2), (.int .i64 1), (.string (⟨#[]⟩ : ByteArray))]) ?_ 2 _ rfl; (with_reducible repeat (first | refine blk_drewN ?_ _ | refine blk_drew ?_ | refine blk_alloc ?_ _)); refine blk_put (cs := #[(.int .i64 2), (.int .i64 0), (.string (⟨#[]⟩ : ByteArray))]) ?_ 1 _ rfl; (with_reducible repeat (first | refine blk_drewN ?_ _ | refine blk_drew ?_ | refine blk_alloc ?_ _)); refine blk_put (cs := #[(.int .i64 0), (.int .i64 0), (.string (⟨#[]⟩ : ByteArray))]) ?_ 0 _ rfl; (with_reducible repeat (first | refine blk_drewN ?_ _ | refine blk_drew ?_ | refine blk_alloc ?_ _)); exact BK.out) Tryd.underlying24 rfl (by kernel_rfl)) rfl ?_
  exact ⟨rfl, (by repeat (first | (with_reducible first | exact HB.out | apply below_alloc | apply pw_below_drewN | apply below_drew1 | refine below_set ?_ GE.out) | exact HB.out))⟩
set_option maxHeartbeats 4000000 in
set_option maxRecDepth 100000 in
theorem read_false (s : ByteArray) (hs : s.toList = ([102, 97, 108, 115, 101] : List UInt8)) (w : World) : Calls Tryd.prog 10 #[.string s] w fun e w' => e = .returned (.tuple #[.agg #[(.int .i64 2), (.int .i64 0), (.string (⟨#[]⟩ : ByteArray))], .int .i64 0]) ∧ Below w.heap.size w w' := by
  have hu24 := Tryd.underlying24
  have HB := Aside0.mk (Below.refl w.heap.size w)
  have c1 : (s.toList == ([116, 114, 117, 101] : List UInt8)) = false := by rw [hs]; decide
  have c2 : (s.toList == ([102, 97, 108, 115, 101] : List UInt8)) = true := beq_iff_eq.mpr hs
  clear hs
  go_enter Tryd.func10, Tryd.ntmps10
  go_wp2_with (first | ((with_reducible refine gate_dst (N := 2) rfl ?_); (try (refine gate_guard (by rfl) ?_; dsimp only)); refine box_event ?hg (N := 2) ?hd (cs := #[.int .i64 0, .int .i64 0, .string (⟨#[]⟩ : ByteArray)]) (t := 24) ?hr ?_; (case hd => rfl); (case hg => rfl); (case hr => first | (go_simp; done) | (go_simp; rfl)); intro gb hg w1 hbox hb; have n0_ := Aside0.mk (below_step (by repeat (first | (with_reducible first | exact HB.out | apply below_alloc | apply pw_below_drewN | apply below_drew1 | refine below_set ?_ GE.out) | exact HB.out)) hb); have BK := Aside0.mk hbox; have GE := Aside0.mk ((by rw [hg]; exact (below_size (by repeat (first | (with_reducible first | exact HB.out | apply below_alloc | apply pw_below_drewN | apply below_drew1 | refine below_set ?_ GE.out) | exact HB.out)))) : w.heap.size ≤ gb); clear HB; have HB := n0_; clear n0_; clear hb hbox hg; have bkc0 : w1.cell? ⟨gb, 0, none⟩ = some (.int .i64 0) := (blk_cell BK.out 0).trans rfl; have bkc1 : w1.cell? ⟨gb, 1, none⟩ = some (.int .i64 0) := (blk_cell BK.out 1).trans rfl; have bkc2 : w1.cell? ⟨gb, 2, none⟩ = some (.string (⟨#[]⟩ : ByteArray)) := (blk_cell BK.out 2).trans rfl; have bkz0 := blk_frozen BK.out 0; have bkz1 := blk_frozen BK.out 1; have bkz2 := blk_frozen BK.out 2) | (go_at_call 24; refine (truthLit_f _).mono ?_; rintro e w2 ⟨rfl, hb⟩; have n0_ := Aside0.mk (below_step (by repeat (first | (with_reducible first | exact HB.out | apply below_alloc | apply pw_below_drewN | apply below_drew1 | refine below_set ?_ GE.out) | exact HB.out)) hb); have k0_ := Aside0.mk (blk_below (by (with_reducible repeat (first | refine blk_drewN ?_ _ | refine blk_drew ?_ | refine blk_alloc ?_ _)); exact BK.out) hb); clear HB; have HB := n0_; clear n0_; clear BK; have BK := k0_; clear k0_; clear hb; have bkw2c0 : w2.cell? ⟨gb, 0, none⟩ = some (.int .i64 0) := (blk_cell BK.out 0).trans rfl; have bkw2c1 : w2.cell? ⟨gb, 1, none⟩ = some (.int .i64 0) := (blk_cell BK.out 1).trans rfl; have bkw2c2 : w2.cell? ⟨gb, 2, none⟩ = some (.string (⟨#[]⟩ : ByteArray)) := (blk_cell BK.out 2).trans rfl; have bkw2z0 := blk_frozen BK.out 0; have bkw2z1 := blk_frozen BK.out 1; have bkw2z2 := blk_frozen BK.out 2))
  refine bodyPost_ret (results_ct rfl _ _ gb 24 #[(.int .i64 2), (.int .i64 0), (.string (⟨#[]⟩ : ByteArray))] (0, 0) _ rfl (by (with_reducible repeat (first | refine blk_drewN ?_ _ | refine blk_drew ?_ | refine blk_alloc ?_ _)); refine blk_put (cs := #[(.int .i64 2), (.int .i64 0), (.string (⟨#[]⟩ : ByteArray))]) ?_ 2 _ rfl; (with_reducible repeat (first | refine blk_drewN ?_ _ | refine blk_drew ?_ | refine blk_alloc ?_ _)); refine blk_put (cs := #[(.int .i64 2), (.int .i64 0), (.string (⟨#[]⟩ : ByteArray))]) ?_ 1 _ rfl; (with_reducible repeat (first | refine blk_drewN ?_ _ | refine blk_drew ?_ | refine blk_alloc ?_ _)); refine blk_put (cs := #[(.int .i64 0), (.int .i64 0), (.string (⟨#[]⟩ : ByteArray))]) ?_ 0 _ rfl; (with_reducible repeat (first | refine blk_drewN ?_ _ | refine blk_drew ?_ | refine blk_alloc ?_ _)); exact BK.out) Tryd.underlying24 rfl (by kernel_rfl)) rfl ?_
  exact ⟨rfl, (by repeat (first | (with_reducible first | exact HB.out | apply below_alloc | apply pw_below_drewN | apply below_drew1 | refine below_set ?_ GE.out) | exact HB.out))⟩
/-- Is it a text in quotes? -/
def textB (s : ByteArray) : Bool := decide (1 < s.size) && ((bt s 0 == 39) && ((bt s ((s.size - 1 : Nat) : Int) == 39) && plainB (s.extract 1 (s.size - 1))))
set_option maxHeartbeats 4000000 in
set_option maxRecDepth 100000 in
theorem read_text (s : ByteArray) (hsz : s.size ≤ 1000) (h1 : s.toList ≠ ([116, 114, 117, 101] : List UInt8)) (h2 : s.toList ≠ ([102, 97, 108, 115, 101] : List UInt8)) (w : World) (ht : textB s = true) : Calls Tryd.prog 10 #[.string s] w fun e w' => e = .returned (.tuple #[.agg #[(.int .i64 3), (.int .i64 0), (.string (s.extract 1 (s.size - 1)))], .int .i64 0]) ∧ Below w.heap.size w w' := by
  have hu24 := Tryd.underlying24
  have HB := Aside0.mk (Below.refl w.heap.size w)
  have c1 : (s.toList == ([116, 114, 117, 101] : List UInt8)) = false := beq_eq_false_iff_ne.mpr h1
  have c2 : (s.toList == ([102, 97, 108, 115, 101] : List UInt8)) = false := beq_eq_false_iff_ne.mpr h2
  clear h1 h2
  obtain ⟨ji, hji⟩ : ∃ j : Nat, j = s.size - 1 := ⟨_, rfl⟩
  unfold textB at ht
  rw [Bool.and_eq_true, Bool.and_eq_true, Bool.and_eq_true] at ht
  obtain ⟨d1, d2, d3, d4⟩ := ht
  rw [← hji] at d3 d4 ⊢
  have d0 := of_decide_eq_true d1
  have HSZ := Aside0.mk hsz
  have n1 : decide ((1 : Int) < (s.size : Int)) = true := decide_eq_true (by omega)
  have q12 : (0 < s.size) = True := eq_true (by omega)
  have qi12 : ((0 : Int) < (s.size : Int)) = True := eq_true (by omega)
  have hx12 : ∀ h : 0 < s.size, ((s[0]'h).toNat : Int) = bt s 0 := bt_at s 0
  have hwj : IntKind.i64.wrap ((s.size : Int) - 1) = (ji : Int) := by rw [IntKind.wrap_i64]; omega
  have p17 : (0 ≤ (ji : Int)) = True := eq_true (by omega)
  have q17 : ((ji : Int) < (s.size : Int)) = True := eq_true (by omega)
  have p18 : ((1 : Int) ≤ (ji : Int)) = True := eq_true (by omega)
  have q18 : ((ji : Int) ≤ (s.size : Int)) = True := eq_true (by omega)
  have hx17 : ∀ h : ji < s.size, ((s[ji]'h).toNat : Int) = bt s (ji : Int) := fun h => bt_at s (ji : Int) h
  have r17 : (ji < s.size) = True := eq_true (by omega)
  clear hsz hji d0
  go_enter Tryd.func10, Tryd.ntmps10
  go_wp2_with (first | ((with_reducible refine gate_dst (N := 2) rfl ?_); (try (refine gate_guard (by rfl) ?_; dsimp only)); refine box_event ?hg (N := 2) ?hd (cs := #[.int .i64 0, .int .i64 0, .string (⟨#[]⟩ : ByteArray)]) (t := 24) ?hr ?_; (case hd => rfl); (case hg => rfl); (case hr => first | (go_simp; done) | (go_simp; rfl)); intro gb hg w1 hbox hb; have n0_ := Aside0.mk (below_step (by repeat (first | (with_reducible first | exact HB.out | apply below_alloc | apply pw_below_drewN | apply below_drew1 | refine below_set ?_ GE.out) | exact HB.out)) hb); have BK := Aside0.mk hbox; have GE := Aside0.mk ((by rw [hg]; exact (below_size (by repeat (first | (with_reducible first | exact HB.out | apply below_alloc | apply pw_below_drewN | apply below_drew1 | refine below_set ?_ GE.out) | exact HB.out)))) : w.heap.size ≤ gb); clear HB; have HB := n0_; clear n0_; clear hb hbox hg; have bkc0 : w1.cell? ⟨gb, 0, none⟩ = some (.int .i64 0) := (blk_cell BK.out 0).trans rfl; have bkc1 : w1.cell? ⟨gb, 1, none⟩ = some (.int .i64 0) := (blk_cell BK.out 1).trans rfl; have bkc2 : w1.cell? ⟨gb, 2, none⟩ = some (.string (⟨#[]⟩ : ByteArray)) := (blk_cell BK.out 2).trans rfl; have bkz0 := blk_frozen BK.out 0; have bkz1 := blk_frozen BK.out 1; have bkz2 := blk_frozen BK.out 2) | (go_at_call 17; refine (plain_calls (s.extract 1 ji) (by rw [ByteArray.size_extract]; have := HSZ.out; omega) _).mono ?_; rintro e w5 ⟨rfl, hb⟩; have n0_ := Aside0.mk (below_step (by repeat (first | (with_reducible first | exact HB.out | apply below_alloc | apply pw_below_drewN | apply below_drew1 | refine below_set ?_ GE.out) | exact HB.out)) hb); have k0_ := Aside0.mk (blk_below (by (with_reducible repeat (first | refine blk_drewN ?_ _ | refine blk_drew ?_ | refine blk_alloc ?_ _)); exact BK.out) hb); clear HB; have HB := n0_; clear n0_; clear BK; have BK := k0_; clear k0_; clear hb; have bkw5c0 : w5.cell? ⟨gb, 0, none⟩ = some (.int .i64 0) := (blk_cell BK.out 0).trans rfl; have bkw5c1 : w5.cell? ⟨gb, 1, none⟩ = some (.int .i64 0) := (blk_cell BK.out 1).trans rfl; have bkw5c2 : w5.cell? ⟨gb, 2, none⟩ = some (.string (⟨#[]⟩ : ByteArray)) := (blk_cell BK.out 2).trans rfl; have bkw5z0 := blk_frozen BK.out 0; have bkw5z1 := blk_frozen BK.out 1; have bkw5z2 := blk_frozen BK.out 2) | (go_at_call 26; refine (word_any _ _).mono ?_; rintro e w6 ⟨rfl, hb⟩; have n0_ := Aside0.mk (below_step (by repeat (first | (with_reducible first | exact HB.out | apply below_alloc | apply pw_below_drewN | apply below_drew1 | refine below_set ?_ GE.out) | exact HB.out)) hb); have k0_ := Aside0.mk (blk_below (by (with_reducible repeat (first | refine blk_drewN ?_ _ | refine blk_drew ?_ | refine blk_alloc ?_ _)); exact BK.out) hb); clear HB; have HB := n0_; clear n0_; clear BK; have BK := k0_; clear k0_; clear hb; have bkw6c0 : w6.cell? ⟨gb, 0, none⟩ = some (.int .i64 0) := (blk_cell BK.out 0).trans rfl; have bkw6c1 : w6.cell? ⟨gb, 1, none⟩ = some (.int .i64 0) := (blk_cell BK.out 1).trans rfl; have bkw6c2 : w6.cell? ⟨gb, 2, none⟩ = some (.string (⟨#[]⟩ : ByteArray)) := (blk_cell BK.out 2).trans rfl; have bkw6z0 := blk_frozen BK.out 0; have bkw6z1 := blk_frozen BK.out 1; have bkw6z2 := blk_frozen BK.out 2))
  refine bodyPost_ret (results_ct rfl _ _ gb 24 #[(.int .i64 3), (.int .i64 0), (.string (s.extract 1 ji))] (0, 0) _ rfl (by (with_reducible repeat (first | refine blk_drewN ?_ _ | refine blk_drew ?_ | refine blk_alloc ?_ _)); refine blk_put (cs := #[(.int .i64 3), (.int .i64 0), (.string (⟨#[]⟩ : ByteArray))]) ?_ 2 _ rfl; (with_reducible repeat (first | refine blk_drewN ?_ _ | refine blk_drew ?_ | refine blk_alloc ?_ _)); refine blk_put (cs := #[(.int .i64 3), (.int .i64 0), (.string (⟨#[]⟩ : ByteArray))]) ?_ 1 _ rfl; (with_reducible repeat (first | refine blk_drewN ?_ _ | refine blk_drew ?_ | refine blk_alloc ?_ _)); refine blk_put (cs := #[(.int .i64 0), (.int .i64 0), (.string (⟨#[]⟩ : ByteArray))]) ?_ 0 _ rfl; (with_reducible repeat (first | refine blk_drewN ?_ _ | refine blk_drew ?_ | refine blk_alloc ?_ _)); exact BK.out) Tryd.underlying24 rfl (by kernel_rfl)) rfl ?_
  exact ⟨rfl, (by repeat (first | (with_reducible first | exact HB.out | apply below_alloc | apply pw_below_drewN | apply below_drew1 | refine below_set ?_ GE.out) | exact HB.out))⟩
theorem parse_range {s : List UInt8} {v : Int} (h : Lib.parseIntB 64 s = .ok v) : -9223372036854775808 ≤ v ∧ v ≤ 9223372036854775807 := by
  unfold Lib.parseIntB at h
  split at h
  · cases h
  · dsimp only at h
    split at h
    · cases h
    · cases h
    · split at h
      · cases h
      · split at h
        · cases h
        · rename_i c r u hu n1 n2
          cases h
          simp only [not_and, Nat.not_le, Nat.not_lt] at n1 n2
          split
          · rename_i hn
            have := n2 hn
            omega
          · rename_i hn
            have := n1 hn
            omega
theorem show_num (v : Int) (h0 : -9223372036854775808 ≤ v) (h1 : v ≤ 9223372036854775807) (w : World) (hT : Tab w) : Calls Tryd.prog 13 #[.agg #[.int .i64 1, .int .i64 v, .string ⟨#[]⟩]] w fun e w' => e = .returned (.string ⟨(Lib.itoa v).toArray⟩) ∧ Below w.heap.size w w' := show_any 1 v ⟨#[]⟩ (by decide) h0 h1 w hT
/-- The number that is written so: kind, number, error. -/
def numF (s : ByteArray) : Int × Int × Int :=
  match Lib.parseIntB 64 s.data.toList with
  | .ok v => if Lib.itoa v = s.toList then (1, v, 0) else (0, 0, 11)
  | _ => (0, 0, 11)
theorem numF_none {s : ByteArray} (h : ∀ u, Lib.parseIntB 64 s.data.toList ≠ .ok u) : numF s = (0, 0, 11) := by
  unfold numF
  split
  · rename_i v hv
    exact absurd hv (h v)
  · rfl
theorem numF_ok {s : ByteArray} {v : Int} (h : Lib.parseIntB 64 s.data.toList = .ok v) : numF s = if Lib.itoa v = s.toList then (1, v, 0) else (0, 0, 11) := by
  unfold numF
  rw [h]
set_option maxHeartbeats 4000000 in
set_option maxRecDepth 100000 in
theorem read_rest (s : ByteArray) (hsz : s.size ≤ 1000) (h1 : s.toList ≠ ([116, 114, 117, 101] : List UInt8)) (h2 : s.toList ≠ ([102, 97, 108, 115, 101] : List UInt8)) (w : World) (hT : Tab w) (ht : textB s = false) : Calls Tryd.prog 10 #[.string s] w fun e w' => e = .returned (.tuple #[.agg #[(.int .i64 (numF s).1), (.int .i64 (numF s).2.1), (.string (⟨#[]⟩ : ByteArray))], .int .i64 (numF s).2.2]) ∧ Below w.heap.size w w' := by
  have hu24 := Tryd.underlying24
  have HB := Aside0.mk (Below.refl w.heap.size w)
  have c1 : (s.toList == ([116, 114, 117, 101] : List UInt8)) = false := beq_eq_false_iff_ne.mpr h1
  have c2 : (s.toList == ([102, 97, 108, 115, 101] : List UInt8)) = false := beq_eq_false_iff_ne.mpr h2
  clear h1 h2
  obtain ⟨ji, hji⟩ : ∃ j : Nat, j = s.size - 1 := ⟨_, rfl⟩
  have HSZ := Aside0.mk hsz
  have HT := Aside0.mk hT
  have HTB := Aside0.mk ht
  have HJI := Aside0.mk hji
  clear hsz hT ht hji
  go_enter Tryd.func10, Tryd.ntmps10
  go_upto_region 3 with (first | ((with_reducible refine gate_dst (N := 2) rfl ?_); (try (refine gate_guard (by rfl) ?_; dsimp only)); refine box_event ?hg (N := 2) ?hd (cs := #[.int .i64 0, .int .i64 0, .string (⟨#[]⟩ : ByteArray)]) (t := 24) ?hr ?_; (case hd => rfl); (case hg => rfl); (case hr => first | (go_simp; done) | (go_simp; rfl)); intro gb hg w1 hbox hb; have n0_ := Aside0.mk (below_step (by repeat (first | (with_reducible first | exact HB.out | apply below_alloc | apply pw_below_drewN | apply below_drew1 | refine below_set ?_ GE.out) | exact HB.out)) hb); have BK := Aside0.mk hbox; have GE := Aside0.mk ((by rw [hg]; exact (below_size (by repeat (first | (with_reducible first | exact HB.out | apply below_alloc | apply pw_below_drewN | apply below_drew1 | refine below_set ?_ GE.out) | exact HB.out)))) : w.heap.size ≤ gb); clear HB; have HB := n0_; clear n0_; clear hb hbox hg; have bkc0 : w1.cell? ⟨gb, 0, none⟩ = some (.int .i64 0) := (blk_cell BK.out 0).trans rfl; have bkc1 : w1.cell? ⟨gb, 1, none⟩ = some (.int .i64 0) := (blk_cell BK.out 1).trans rfl; have bkc2 : w1.cell? ⟨gb, 2, none⟩ = some (.string (⟨#[]⟩ : ByteArray)) := (blk_cell BK.out 2).trans rfl; have bkz0 := blk_frozen BK.out 0; have bkz1 := blk_frozen BK.out 1; have bkz2 := blk_frozen BK.out 2))
  (try simp only [Act.put, List.setIfInBounds_toArray, List.set_cons_zero, List.set_cons_succ])
  go_cut [17] (fun v17 wc => v17 = .bool false ∧ Aside0 (wc.heap[gb]? = some (.cells #[(.int .i64 0), (.int .i64 0), (.string (⟨#[]⟩ : ByteArray))] 24 (0, 0))) ∧ Aside0 (Below w.heap.size w wc))
  case first =>
    have ht := HTB.out
    unfold textB at ht
    rw [← HJI.out] at ht
    by_cases d1 : 1 < s.size
    · have n1 : decide ((1 : Int) < (s.size : Int)) = true := decide_eq_true (by omega)
      rw [decide_eq_true d1, Bool.true_and] at ht
      have q12 : (0 < s.size) = True := eq_true (by omega)
      have qi12 : ((0 : Int) < (s.size : Int)) = True := eq_true (by omega)
      have hx12 : ∀ h : 0 < s.size, ((s[0]'h).toNat : Int) = bt s 0 := bt_at s 0
      cases d2 : (bt s 0 == 39) with
      | false =>
        clear ht
        go_wp2_with (fail)
        go_meet
        case rel => exact ⟨rfl, ⟨(by (with_reducible repeat (first | refine blk_drewN ?_ _ | refine blk_drew ?_ | refine blk_alloc ?_ _)); exact BK.out)⟩, ⟨(by repeat (first | (with_reducible first | exact HB.out | apply below_alloc | apply pw_below_drewN | apply below_drew1 | refine below_set ?_ GE.out) | exact HB.out))⟩⟩
      | true =>
        rw [d2, Bool.true_and] at ht
        have HJ := HJI.out
        have HS2 := HSZ.out
        have hwj : IntKind.i64.wrap ((s.size : Int) - 1) = (ji : Int) := by rw [IntKind.wrap_i64]; omega
        have p17 : (0 ≤ (ji : Int)) = True := eq_true (by omega)
        have q17 : ((ji : Int) < (s.size : Int)) = True := eq_true (by omega)
        have p18 : ((1 : Int) ≤ (ji : Int)) = True := eq_true (by omega)
        have q18 : ((ji : Int) ≤ (s.size : Int)) = True := eq_true (by omega)
        have hx17 : ∀ h : ji < s.size, ((s[ji]'h).toNat : Int) = bt s (ji : Int) := fun h => bt_at s (ji : Int) h
        have r17 : (ji < s.size) = True := eq_true (by omega)
        clear HJ HS2 d1
        cases d3 : (bt s (ji : Int) == 39) with
        | false =>
          clear ht
          go_wp2_with (fail)
          go_meet
          case rel => exact ⟨rfl, ⟨(by (with_reducible repeat (first | refine blk_drewN ?_ _ | refine blk_drew ?_ | refine blk_alloc ?_ _)); exact BK.out)⟩, ⟨(by repeat (first | (with_reducible first | exact HB.out | apply below_alloc | apply pw_below_drewN | apply below_drew1 | refine below_set ?_ GE.out) | exact HB.out))⟩⟩
        | true =>
          rw [d3, Bool.true_and] at ht
          go_wp2_with (first | (go_at_call 17; refine (plain_calls (s.extract 1 ji) (by rw [ByteArray.size_extract]; have := HSZ.out; omega) _).mono ?_; rintro e w5 ⟨rfl, hb⟩; have n0_ := Aside0.mk (below_step (by repeat (first | (with_reducible first | exact HB.out | apply below_alloc | apply pw_below_drewN | apply below_drew1 | refine below_set ?_ GE.out) | exact HB.out)) hb); have k0_ := Aside0.mk (blk_below (by (with_reducible repeat (first | refine blk_drewN ?_ _ | refine blk_drew ?_ | refine blk_alloc ?_ _)); exact BK.out) hb); clear HB; have HB := n0_; clear n0_; clear BK; have BK := k0_; clear k0_; clear hb; have bkw5c0 : w5.cell? ⟨gb, 0, none⟩ = some (.int .i64 0) := (blk_cell BK.out 0).trans rfl; have bkw5c1 : w5.cell? ⟨gb, 1, none⟩ = some (.int .i64 0) := (blk_cell BK.out 1).trans rfl; have bkw5c2 : w5.cell? ⟨gb, 2, none⟩ = some (.string (⟨#[]⟩ : ByteArray)) := (blk_cell BK.out 2).trans rfl; have bkw5z0 := blk_frozen BK.out 0; have bkw5z1 := blk_frozen BK.out 1; have bkw5z2 := blk_frozen BK.out 2))
          go_meet
          case rel => exact ⟨rfl, ⟨(by (with_reducible repeat (first | refine blk_drewN ?_ _ | refine blk_drew ?_ | refine blk_alloc ?_ _)); exact BK.out)⟩, ⟨(by repeat (first | (with_reducible first | exact HB.out | apply below_alloc | apply pw_below_drewN | apply below_drew1 | refine below_set ?_ GE.out) | exact HB.out))⟩⟩
    · have n1 : decide ((1 : Int) < (s.size : Int)) = false := decide_eq_false (by omega)
      clear ht d1
      go_wp2_with (fail)
      go_meet
      case rel => exact ⟨rfl, ⟨(by (with_reducible repeat (first | refine blk_drewN ?_ _ | refine blk_drew ?_ | refine blk_alloc ?_ _)); exact BK.out)⟩, ⟨(by repeat (first | (with_reducible first | exact HB.out | apply below_alloc | apply pw_below_drewN | apply below_drew1 | refine below_set ?_ GE.out) | exact HB.out))⟩⟩
  case rest =>
    obtain ⟨rfl, BK, HB⟩ := hcut
    try clear bkc0 bkc1 bkc2 bkz0 bkz1 bkz2
    go_wp2_with fail
    refine (parseInt_any s HSZ.out _ (HT.out.below HB.out)).mono ?_
    rintro e w5 ⟨⟨v, er, rfl, her⟩, hb⟩
    have n0_ := Aside0.mk (below_step (by repeat (first | (with_reducible first | exact HB.out | apply below_alloc | apply pw_below_drewN | apply below_drew1 | refine below_set ?_ GE.out) | exact HB.out)) hb); have k0_ := Aside0.mk (blk_below (by (with_reducible repeat (first | refine blk_drewN ?_ _ | refine blk_drew ?_ | refine blk_alloc ?_ _)); exact BK.out) hb); clear HB; have HB := n0_; clear n0_; clear BK; have BK := k0_; clear k0_; clear hb; have bkw5c0 : w5.cell? ⟨gb, 0, none⟩ = some (.int .i64 0) := (blk_cell BK.out 0).trans rfl; have bkw5c1 : w5.cell? ⟨gb, 1, none⟩ = some (.int .i64 0) := (blk_cell BK.out 1).trans rfl; have bkw5c2 : w5.cell? ⟨gb, 2, none⟩ = some (.string (⟨#[]⟩ : ByteArray)) := (blk_cell BK.out 2).trans rfl; have bkw5z0 := blk_frozen BK.out 0; have bkw5z1 := blk_frozen BK.out 1; have bkw5z2 := blk_frozen BK.out 2
    rcases her with ⟨rfl, hv⟩ | ⟨te, pe, rfl, hno⟩
    · have hvr := parse_range hv
      have HVR := Aside0.mk hvr
      have hnf := numF_ok hv
      clear hvr hv
      by_cases hcmp : Lib.itoa v = s.toList
      · rw [if_pos hcmp] at hnf
        have HNF := Aside0.mk hnf
        have ce : (Lib.itoa v == s.toList) = true := beq_iff_eq.mpr hcmp
        clear hnf hcmp
        go_upto_region 7 with (first | (go_at_call 25; refine (of_any _ _).mono ?_; rintro e w6 ⟨rfl, hb⟩; have n0_ := Aside0.mk (below_step (by repeat (first | (with_reducible first | exact HB.out | apply below_alloc | apply pw_below_drewN | apply below_drew1 | refine below_set ?_ GE.out) | exact HB.out)) hb); have k0_ := Aside0.mk (blk_below (by (with_reducible repeat (first | refine blk_drewN ?_ _ | refine blk_drew ?_ | refine blk_alloc ?_ _)); exact BK.out) hb); clear HB; have HB := n0_; clear n0_; clear BK; have BK := k0_; clear k0_; clear hb; have bkw6c0 : w6.cell? ⟨gb, 0, none⟩ = some (.int .i64 0) := (blk_cell BK.out 0).trans rfl; have bkw6c1 : w6.cell? ⟨gb, 1, none⟩ = some (.int .i64 0) := (blk_cell BK.out 1).trans rfl; have bkw6c2 : w6.cell? ⟨gb, 2, none⟩ = some (.string (⟨#[]⟩ : ByteArray)) := (blk_cell BK.out 2).trans rfl; have bkw6z0 := blk_frozen BK.out 0; have bkw6z1 := blk_frozen BK.out 1; have bkw6z2 := blk_frozen BK.out 2) | ((with_reducible refine gate_dst (N := 6) rfl ?_); (try (refine gate_guard (by rfl) ?_; dsimp only)); refine box_event ?hg (N := 6) ?hd (cs := #[.int .i64 0, .int .i64 0, .string (⟨#[]⟩ : ByteArray)]) (t := 24) ?hr ?_; (case hd => rfl); (case hg => rfl); (case hr => first | (go_simp; done) | (go_simp; rfl)); intro gv hg w7 hbox hb; have HNE : Aside0 (gb ≠ gv) := ⟨by rw [hg]; exact Nat.ne_of_lt (blk_lt (by (with_reducible repeat (first | refine blk_drewN ?_ _ | refine blk_drew ?_ | refine blk_alloc ?_ _)); exact BK.out))⟩; have n0_ := Aside0.mk (below_step (by repeat (first | (with_reducible first | exact HB.out | apply below_alloc | apply pw_below_drewN | apply below_drew1 | refine below_set ?_ GE.out) | exact HB.out)) hb); have k0_ := Aside0.mk (blk_below (by (with_reducible repeat (first | refine blk_drewN ?_ _ | refine blk_drew ?_ | refine blk_alloc ?_ _)); exact BK.out) hb); have BKV := Aside0.mk hbox; have GEV := Aside0.mk ((by rw [hg]; exact (below_size (by repeat (first | (with_reducible first | exact HB.out | apply below_alloc | apply pw_below_drewN | apply below_drew1 | refine below_set ?_ GE.out) | exact HB.out)))) : w.heap.size ≤ gv); clear HB; have HB := n0_; clear n0_; clear BK; have BK := k0_; clear k0_; clear hb hbox hg; have bkvc0 : w7.cell? ⟨gv, 0, none⟩ = some (.int .i64 0) := (blk_cell BKV.out 0).trans rfl; have bkvc1 : w7.cell? ⟨gv, 1, none⟩ = some (.int .i64 0) := (blk_cell BKV.out 1).trans rfl; have bkvc2 : w7.cell? ⟨gv, 2, none⟩ = some (.string (⟨#[]⟩ : ByteArray)) := (blk_cell BKV.out 2).trans rfl; have bkvz0 := blk_frozen BKV.out 0; have bkvz1 := blk_frozen BKV.out 1; have bkvz2 := blk_frozen BKV.out 2; have bkw7c0 : w7.cell? ⟨gb, 0, none⟩ = some (.int .i64 0) := (blk_cell BK.out 0).trans rfl; have bkw7c1 : w7.cell? ⟨gb, 1, none⟩ = some (.int .i64 0) := (blk_cell BK.out 1).trans rfl; have bkw7c2 : w7.cell? ⟨gb, 2, none⟩ = some (.string (⟨#[]⟩ : ByteArray)) := (blk_cell BK.out 2).trans rfl; have bkw7z0 := blk_frozen BK.out 0; have bkw7z1 := blk_frozen BK.out 1; have bkw7z2 := blk_frozen BK.out 2))
        obtain ⟨w9, hw9⟩ : ∃ w9, w9 = ((w7.setCell ⟨gv, 0, none⟩ (.int .i64 1)).setCell ⟨gv, 1, none⟩ (.int .i64 v)).setCell ⟨gv, 2, none⟩ (.string ⟨#[]⟩) := ⟨_, rfl⟩
        rw [← hw9]
        have B9 : w9.heap[gb]? = some (.cells #[(.int .i64 0), (.int .i64 0), (.string (⟨#[]⟩ : ByteArray))] 24 (0, 0)) := by rw [hw9]; exact blk_far (blk_far (blk_far BK.out HNE.out _) HNE.out _) HNE.out _
        have V9 : w9.heap[gv]? = some (.cells #[(.int .i64 1), (.int .i64 v), (.string (⟨#[]⟩ : ByteArray))] 24 (0, 0)) := by rw [hw9]; exact blk_put (cs := #[.int .i64 1, .int .i64 v, .string ⟨#[]⟩]) (blk_put (cs := #[.int .i64 1, .int .i64 0, .string ⟨#[]⟩]) (blk_put (cs := #[.int .i64 0, .int .i64 0, .string ⟨#[]⟩]) BKV.out 0 _ rfl) 1 _ rfl) 2 _ rfl
        have H9 : Below w.heap.size w w9 := by rw [hw9]; exact below_set (below_set (below_set HB.out GEV.out) GEV.out) GEV.out
        clear hw9 BK BKV HB
        have BK := Aside0.mk B9
        have BKV := Aside0.mk V9
        have HB := Aside0.mk H9
        clear B9 V9 H9
        have b9c0 : w9.cell? ⟨gb, 0, none⟩ = some (.int .i64 0) := (blk_cell BK.out 0).trans rfl; have b9c1 : w9.cell? ⟨gb, 1, none⟩ = some (.int .i64 0) := (blk_cell BK.out 1).trans rfl; have b9c2 : w9.cell? ⟨gb, 2, none⟩ = some (.string (⟨#[]⟩ : ByteArray)) := (blk_cell BK.out 2).trans rfl; have b9z0 := blk_frozen BK.out 0; have b9z1 := blk_frozen BK.out 1; have b9z2 := blk_frozen BK.out 2
        have v9c0 : w9.cell? ⟨gv, 0, none⟩ = some (.int .i64 1) := (blk_cell BKV.out 0).trans rfl; have v9c1 : w9.cell? ⟨gv, 1, none⟩ = some (.int .i64 v) := (blk_cell BKV.out 1).trans rfl; have v9c2 : w9.cell? ⟨gv, 2, none⟩ = some (.string (⟨#[]⟩ : ByteArray)) := (blk_cell BKV.out 2).trans rfl; have v9z0 := blk_frozen BKV.out 0; have v9z1 := blk_frozen BKV.out 1; have v9z2 := blk_frozen BKV.out 2
        go_wp2_with (go_at_call 13; refine (show_num v HVR.out.1 HVR.out.2 _ (HT.out.below (by repeat (first | (with_reducible first | exact HB.out | apply below_alloc | apply pw_below_drewN | apply below_drew1 | refine below_set ?_ GE.out) | exact HB.out)))).mono ?_; rintro e w8 ⟨rfl, hb⟩; have n0_ := Aside0.mk (below_step (by repeat (first | (with_reducible first | exact HB.out | apply below_alloc | apply pw_below_drewN | apply below_drew1 | refine below_set ?_ GE.out) | exact HB.out)) hb); have k0_ := Aside0.mk (blk_below (by (with_reducible repeat (first | refine blk_drewN ?_ _ | refine blk_drew ?_ | refine blk_alloc ?_ _)); exact BK.out) hb); have k1_ := Aside0.mk (blk_below (by (with_reducible repeat (first | refine blk_drewN ?_ _ | refine blk_drew ?_ | refine blk_alloc ?_ _)); exact BKV.out) hb); clear HB; have HB := n0_; clear n0_; clear BK; have BK := k0_; clear k0_; clear BKV; have BKV := k1_; clear k1_; clear hb; have bkw8c0 : w8.cell? ⟨gb, 0, none⟩ = some (.int .i64 0) := (blk_cell BK.out 0).trans rfl; have bkw8c1 : w8.cell? ⟨gb, 1, none⟩ = some (.int .i64 0) := (blk_cell BK.out 1).trans rfl; have bkw8c2 : w8.cell? ⟨gb, 2, none⟩ = some (.string (⟨#[]⟩ : ByteArray)) := (blk_cell BK.out 2).trans rfl; have bkw8z0 := blk_frozen BK.out 0; have bkw8z1 := blk_frozen BK.out 1; have bkw8z2 := blk_frozen BK.out 2; have bkvw8c0 : w8.cell? ⟨gv, 0, none⟩ = some (.int .i64 1) := (blk_cell BKV.out 0).trans rfl; have bkvw8c1 : w8.cell? ⟨gv, 1, none⟩ = some (.int .i64 v) := (blk_cell BKV.out 1).trans rfl; have bkvw8c2 : w8.cell? ⟨gv, 2, none⟩ = some (.string (⟨#[]⟩ : ByteArray)) := (blk_cell BKV.out 2).trans rfl; have bkvw8z0 := blk_frozen BKV.out 0; have bkvw8z1 := blk_frozen BKV.out 1; have bkvw8z2 := blk_frozen BKV.out 2)
        refine bodyPost_ret (results_ct rfl _ _ gb 24 #[(.int .i64 1), (.int .i64 v), (.string (⟨#[]⟩ : ByteArray))] (0, 0) _ rfl (by (with_reducible repeat (first | refine blk_drewN ?_ _ | refine blk_drew ?_ | refine blk_alloc ?_ _)); refine blk_put (cs := #[(.int .i64 1), (.int .i64 v), (.string (⟨#[]⟩ : ByteArray))]) ?_ 2 _ rfl; (with_reducible repeat (first | refine blk_drewN ?_ _ | refine blk_drew ?_ | refine blk_alloc ?_ _)); refine blk_put (cs := #[(.int .i64 1), (.int .i64 0), (.string (⟨#[]⟩ : ByteArray))]) ?_ 1 _ rfl; (with_reducible repeat (first | refine blk_drewN ?_ _ | refine blk_drew ?_ | refine blk_alloc ?_ _)); refine blk_put (cs := #[(.int .i64 0), (.int .i64 0), (.string (⟨#[]⟩ : ByteArray))]) ?_ 0 _ rfl; (with_reducible repeat (first | refine blk_drewN ?_ _ | refine blk_drew ?_ | refine blk_alloc ?_ _)); exact BK.out) Tryd.underlying24 rfl (by kernel_rfl)) rfl ?_
        exact ⟨by rw [HNF.out]; rfl, (by repeat (first | (with_reducible first | exact HB.out | apply below_alloc | apply pw_below_drewN | apply below_drew1 | refine below_set ?_ GE.out) | exact HB.out))⟩
      · rw [if_neg hcmp] at hnf
        have HNF := Aside0.mk hnf
        have ce : (Lib.itoa v == s.toList) = false := beq_eq_false_iff_ne.mpr hcmp
        clear hnf hcmp
        go_upto_region 7 with (first | (go_at_call 25; refine (of_any _ _).mono ?_; rintro e w6 ⟨rfl, hb⟩; have n0_ := Aside0.mk (below_step (by repeat (first | (with_reducible first | exact HB.out | apply below_alloc | apply pw_below_drewN | apply below_drew1 | refine below_set ?_ GE.out) | exact HB.out)) hb); have k0_ := Aside0.mk (blk_below (by (with_reducible repeat (first | refine blk_drewN ?_ _ | refine blk_drew ?_ | refine blk_alloc ?_ _)); exact BK.out) hb); clear HB; have HB := n0_; clear n0_; clear BK; have BK := k0_; clear k0_; clear hb; have bkw6c0 : w6.cell? ⟨gb, 0, none⟩ = some (.int .i64 0) := (blk_cell BK.out 0).trans rfl; have bkw6c1 : w6.cell? ⟨gb, 1, none⟩ = some (.int .i64 0) := (blk_cell BK.out 1).trans rfl; have bkw6c2 : w6.cell? ⟨gb, 2, none⟩ = some (.string (⟨#[]⟩ : ByteArray)) := (blk_cell BK.out 2).trans rfl; have bkw6z0 := blk_frozen BK.out 0; have bkw6z1 := blk_frozen BK.out 1; have bkw6z2 := blk_frozen BK.out 2) | ((with_reducible refine gate_dst (N := 6) rfl ?_); (try (refine gate_guard (by rfl) ?_; dsimp only)); refine box_event ?hg (N := 6) ?hd (cs := #[.int .i64 0, .int .i64 0, .string (⟨#[]⟩ : ByteArray)]) (t := 24) ?hr ?_; (case hd => rfl); (case hg => rfl); (case hr => first | (go_simp; done) | (go_simp; rfl)); intro gv hg w7 hbox hb; have HNE : Aside0 (gb ≠ gv) := ⟨by rw [hg]; exact Nat.ne_of_lt (blk_lt (by (with_reducible repeat (first | refine blk_drewN ?_ _ | refine blk_drew ?_ | refine blk_alloc ?_ _)); exact BK.out))⟩; have n0_ := Aside0.mk (below_step (by repeat (first | (with_reducible first | exact HB.out | apply below_alloc | apply pw_below_drewN | apply below_drew1 | refine below_set ?_ GE.out) | exact HB.out)) hb); have k0_ := Aside0.mk (blk_below (by (with_reducible repeat (first | refine blk_drewN ?_ _ | refine blk_drew ?_ | refine blk_alloc ?_ _)); exact BK.out) hb); have BKV := Aside0.mk hbox; have GEV := Aside0.mk ((by rw [hg]; exact (below_size (by repeat (first | (with_reducible first | exact HB.out | apply below_alloc | apply pw_below_drewN | apply below_drew1 | refine below_set ?_ GE.out) | exact HB.out)))) : w.heap.size ≤ gv); clear HB; have HB := n0_; clear n0_; clear BK; have BK := k0_; clear k0_; clear hb hbox hg; have bkvc0 : w7.cell? ⟨gv, 0, none⟩ = some (.int .i64 0) := (blk_cell BKV.out 0).trans rfl; have bkvc1 : w7.cell? ⟨gv, 1, none⟩ = some (.int .i64 0) := (blk_cell BKV.out 1).trans rfl; have bkvc2 : w7.cell? ⟨gv, 2, none⟩ = some (.string (⟨#[]⟩ : ByteArray)) := (blk_cell BKV.out 2).trans rfl; have bkvz0 := blk_frozen BKV.out 0; have bkvz1 := blk_frozen BKV.out 1; have bkvz2 := blk_frozen BKV.out 2; have bkw7c0 : w7.cell? ⟨gb, 0, none⟩ = some (.int .i64 0) := (blk_cell BK.out 0).trans rfl; have bkw7c1 : w7.cell? ⟨gb, 1, none⟩ = some (.int .i64 0) := (blk_cell BK.out 1).trans rfl; have bkw7c2 : w7.cell? ⟨gb, 2, none⟩ = some (.string (⟨#[]⟩ : ByteArray)) := (blk_cell BK.out 2).trans rfl; have bkw7z0 := blk_frozen BK.out 0; have bkw7z1 := blk_frozen BK.out 1; have bkw7z2 := blk_frozen BK.out 2))
        obtain ⟨w9, hw9⟩ : ∃ w9, w9 = ((w7.setCell ⟨gv, 0, none⟩ (.int .i64 1)).setCell ⟨gv, 1, none⟩ (.int .i64 v)).setCell ⟨gv, 2, none⟩ (.string ⟨#[]⟩) := ⟨_, rfl⟩
        rw [← hw9]
        have B9 : w9.heap[gb]? = some (.cells #[(.int .i64 0), (.int .i64 0), (.string (⟨#[]⟩ : ByteArray))] 24 (0, 0)) := by rw [hw9]; exact blk_far (blk_far (blk_far BK.out HNE.out _) HNE.out _) HNE.out _
        have V9 : w9.heap[gv]? = some (.cells #[(.int .i64 1), (.int .i64 v), (.string (⟨#[]⟩ : ByteArray))] 24 (0, 0)) := by rw [hw9]; exact blk_put (cs := #[.int .i64 1, .int .i64 v, .string ⟨#[]⟩]) (blk_put (cs := #[.int .i64 1, .int .i64 0, .string ⟨#[]⟩]) (blk_put (cs := #[.int .i64 0, .int .i64 0, .string ⟨#[]⟩]) BKV.out 0 _ rfl) 1 _ rfl) 2 _ rfl
        have H9 : Below w.heap.size w w9 := by rw [hw9]; exact below_set (below_set (below_set HB.out GEV.out) GEV.out) GEV.out
        clear hw9 BK BKV HB
        have BK := Aside0.mk B9
        have BKV := Aside0.mk V9
        have HB := Aside0.mk H9
        clear B9 V9 H9
        have b9c0 : w9.cell? ⟨gb, 0, none⟩ = some (.int .i64 0) := (blk_cell BK.out 0).trans rfl; have b9c1 : w9.cell? ⟨gb, 1, none⟩ = some (.int .i64 0) := (blk_cell BK.out 1).trans rfl; have b9c2 : w9.cell? ⟨gb, 2, none⟩ = some (.string (⟨#[]⟩ : ByteArray)) := (blk_cell BK.out 2).trans rfl; have b9z0 := blk_frozen BK.out 0; have b9z1 := blk_frozen BK.out 1; have b9z2 := blk_frozen BK.out 2
        have v9c0 : w9.cell? ⟨gv, 0, none⟩ = some (.int .i64 1) := (blk_cell BKV.out 0).trans rfl; have v9c1 : w9.cell? ⟨gv, 1, none⟩ = some (.int .i64 v) := (blk_cell BKV.out 1).trans rfl; have v9c2 : w9.cell? ⟨gv, 2, none⟩ = some (.string (⟨#[]⟩ : ByteArray)) := (blk_cell BKV.out 2).trans rfl; have v9z0 := blk_frozen BKV.out 0; have v9z1 := blk_frozen BKV.out 1; have v9z2 := blk_frozen BKV.out 2
        go_wp2_with (go_at_call 13; refine (show_num v HVR.out.1 HVR.out.2 _ (HT.out.below (by repeat (first | (with_reducible first | exact HB.out | apply below_alloc | apply pw_below_drewN | apply below_drew1 | refine below_set ?_ GE.out) | exact HB.out)))).mono ?_; rintro e w8 ⟨rfl, hb⟩; have n0_ := Aside0.mk (below_step (by repeat (first | (with_reducible first | exact HB.out | apply below_alloc | apply pw_below_drewN | apply below_drew1 | refine below_set ?_ GE.out) | exact HB.out)) hb); have k0_ := Aside0.mk (blk_below (by (with_reducible repeat (first | refine blk_drewN ?_ _ | refine blk_drew ?_ | refine blk_alloc ?_ _)); exact BK.out) hb); have k1_ := Aside0.mk (blk_below (by (with_reducible repeat (first | refine blk_drewN ?_ _ | refine blk_drew ?_ | refine blk_alloc ?_ _)); exact BKV.out) hb); clear HB; have HB := n0_; clear n0_; clear BK; have BK := k0_; clear k0_; clear BKV; have BKV := k1_; clear k1_; clear hb; have bkw8c0 : w8.cell? ⟨gb, 0, none⟩ = some (.int .i64 0) := (blk_cell BK.out 0).trans rfl; have bkw8c1 : w8.cell? ⟨gb, 1, none⟩ = some (.int .i64 0) := (blk_cell BK.out 1).trans rfl; have bkw8c2 : w8.cell? ⟨gb, 2, none⟩ = some (.string (⟨#[]⟩ : ByteArray)) := (blk_cell BK.out 2).trans rfl; have bkw8z0 := blk_frozen BK.out 0; have bkw8z1 := blk_frozen BK.out 1; have bkw8z2 := blk_frozen BK.out 2; have bkvw8c0 : w8.cell? ⟨gv, 0, none⟩ = some (.int .i64 1) := (blk_cell BKV.out 0).trans rfl; have bkvw8c1 : w8.cell? ⟨gv, 1, none⟩ = some (.int .i64 v) := (blk_cell BKV.out 1).trans rfl; have bkvw8c2 : w8.cell? ⟨gv, 2, none⟩ = some (.string (⟨#[]⟩ : ByteArray)) := (blk_cell BKV.out 2).trans rfl; have bkvw8z0 := blk_frozen BKV.out 0; have bkvw8z1 := blk_frozen BKV.out 1; have bkvw8z2 := blk_frozen BKV.out 2)
        refine bodyPost_ret (results_ct rfl _ _ gb 24 #[(.int .i64 0), (.int .i64 0), (.string (⟨#[]⟩ : ByteArray))] (0, 0) _ rfl (by (with_reducible repeat (first | refine blk_drewN ?_ _ | refine blk_drew ?_ | refine blk_alloc ?_ _)); refine blk_put (cs := #[(.int .i64 0), (.int .i64 0), (.string (⟨#[]⟩ : ByteArray))]) ?_ 2 _ rfl; (with_reducible repeat (first | refine blk_drewN ?_ _ | refine blk_drew ?_ | refine blk_alloc ?_ _)); refine blk_put (cs := #[(.int .i64 0), (.int .i64 0), (.string (⟨#[]⟩ : ByteArray))]) ?_ 1 _ rfl; (with_reducible repeat (first | refine blk_drewN ?_ _ | refine blk_drew ?_ | refine blk_alloc ?_ _)); refine blk_put (cs := #[(.int .i64 0), (.int .i64 0), (.string (⟨#[]⟩ : ByteArray))]) ?_ 0 _ rfl; (with_reducible repeat (first | refine blk_drewN ?_ _ | refine blk_drew ?_ | refine blk_alloc ?_ _)); exact BK.out) Tryd.underlying24 rfl (by kernel_rfl)) rfl ?_
        exact ⟨by rw [HNF.out]; rfl, (by repeat (first | (with_reducible first | exact HB.out | apply below_alloc | apply pw_below_drewN | apply below_drew1 | refine below_set ?_ GE.out) | exact HB.out))⟩
    · have HNF := Aside0.mk (numF_none hno)
      clear hno
      go_upto_region 7 with (first | (go_at_call 25; refine (of_any _ _).mono ?_; rintro e w6 ⟨rfl, hb⟩; have n0_ := Aside0.mk (below_step (by repeat (first | (with_reducible first | exact HB.out | apply below_alloc | apply pw_below_drewN | apply below_drew1 | refine below_set ?_ GE.out) | exact HB.out)) hb); have k0_ := Aside0.mk (blk_below (by (with_reducible repeat (first | refine blk_drewN ?_ _ | refine blk_drew ?_ | refine blk_alloc ?_ _)); exact BK.out) hb); clear HB; have HB := n0_; clear n0_; clear BK; have BK := k0_; clear k0_; clear hb; have bkw6c0 : w6.cell? ⟨gb, 0, none⟩ = some (.int .i64 0) := (blk_cell BK.out 0).trans rfl; have bkw6c1 : w6.cell? ⟨gb, 1, none⟩ = some (.int .i64 0) := (blk_cell BK.out 1).trans rfl; have bkw6c2 : w6.cell? ⟨gb, 2, none⟩ = some (.string (⟨#[]⟩ : ByteArray)) := (blk_cell BK.out 2).trans rfl; have bkw6z0 := blk_frozen BK.out 0; have bkw6z1 := blk_frozen BK.out 1; have bkw6z2 := blk_frozen BK.out 2) | ((with_reducible refine gate_dst (N := 6) rfl ?_); (try (refine gate_guard (by rfl) ?_; dsimp only)); refine box_event ?hg (N := 6) ?hd (cs := #[.int .i64 0, .int .i64 0, .string (⟨#[]⟩ : ByteArray)]) (t := 24) ?hr ?_; (case hd => rfl); (case hg => rfl); (case hr => first | (go_simp; done) | (go_simp; rfl)); intro gv hg w7 hbox hb; have HNE : Aside0 (gb ≠ gv) := ⟨by rw [hg]; exact Nat.ne_of_lt (blk_lt (by (with_reducible repeat (first | refine blk_drewN ?_ _ | refine blk_drew ?_ | refine blk_alloc ?_ _)); exact BK.out))⟩; have n0_ := Aside0.mk (below_step (by repeat (first | (with_reducible first | exact HB.out | apply below_alloc | apply pw_below_drewN | apply below_drew1 | refine below_set ?_ GE.out) | exact HB.out)) hb); have k0_ := Aside0.mk (blk_below (by (with_reducible repeat (first | refine blk_drewN ?_ _ | refine blk_drew ?_ | refine blk_alloc ?_ _)); exact BK.out) hb); have BKV := Aside0.mk hbox; have GEV := Aside0.mk ((by rw [hg]; exact (below_size (by repeat (first | (with_reducible first | exact HB.out | apply below_alloc | apply pw_below_drewN | apply below_drew1 | refine below_set ?_ GE.out) | exact HB.out)))) : w.heap.size ≤ gv); clear HB; have HB := n0_; clear n0_; clear BK; have BK := k0_; clear k0_; clear hb hbox hg; have bkvc0 : w7.cell? ⟨gv, 0, none⟩ = some (.int .i64 0) := (blk_cell BKV.out 0).trans rfl; have bkvc1 : w7.cell? ⟨gv, 1, none⟩ = some (.int .i64 0) := (blk_cell BKV.out 1).trans rfl; have bkvc2 : w7.cell? ⟨gv, 2, none⟩ = some (.string (⟨#[]⟩ : ByteArray)) := (blk_cell BKV.out 2).trans rfl; have bkvz0 := blk_frozen BKV.out 0; have bkvz1 := blk_frozen BKV.out 1; have bkvz2 := blk_frozen BKV.out 2; have bkw7c0 : w7.cell? ⟨gb, 0, none⟩ = some (.int .i64 0) := (blk_cell BK.out 0).trans rfl; have bkw7c1 : w7.cell? ⟨gb, 1, none⟩ = some (.int .i64 0) := (blk_cell BK.out 1).trans rfl; have bkw7c2 : w7.cell? ⟨gb, 2, none⟩ = some (.string (⟨#[]⟩ : ByteArray)) := (blk_cell BK.out 2).trans rfl; have bkw7z0 := blk_frozen BK.out 0; have bkw7z1 := blk_frozen BK.out 1; have bkw7z2 := blk_frozen BK.out 2))
      obtain ⟨w9, hw9⟩ : ∃ w9, w9 = ((w7.setCell ⟨gv, 0, none⟩ (.int .i64 1)).setCell ⟨gv, 1, none⟩ (.int .i64 v)).setCell ⟨gv, 2, none⟩ (.string ⟨#[]⟩) := ⟨_, rfl⟩
      rw [← hw9]
      have B9 : w9.heap[gb]? = some (.cells #[(.int .i64 0), (.int .i64 0), (.string (⟨#[]⟩ : ByteArray))] 24 (0, 0)) := by rw [hw9]; exact blk_far (blk_far (blk_far BK.out HNE.out _) HNE.out _) HNE.out _
      have V9 : w9.heap[gv]? = some (.cells #[(.int .i64 1), (.int .i64 v), (.string (⟨#[]⟩ : ByteArray))] 24 (0, 0)) := by rw [hw9]; exact blk_put (cs := #[.int .i64 1, .int .i64 v, .string ⟨#[]⟩]) (blk_put (cs := #[.int .i64 1, .int .i64 0, .string ⟨#[]⟩]) (blk_put (cs := #[.int .i64 0, .int .i64 0, .string ⟨#[]⟩]) BKV.out 0 _ rfl) 1 _ rfl) 2 _ rfl
      have H9 : Below w.heap.size w w9 := by rw [hw9]; exact below_set (below_set (below_set HB.out GEV.out) GEV.out) GEV.out
      clear hw9 BK BKV HB
      have BK := Aside0.mk B9
      have BKV := Aside0.mk V9
      have HB := Aside0.mk H9
      clear B9 V9 H9
      have b9c0 : w9.cell? ⟨gb, 0, none⟩ = some (.int .i64 0) := (blk_cell BK.out 0).trans rfl; have b9c1 : w9.cell? ⟨gb, 1, none⟩ = some (.int .i64 0) := (blk_cell BK.out 1).trans rfl; have b9c2 : w9.cell? ⟨gb, 2, none⟩ = some (.string (⟨#[]⟩ : ByteArray)) := (blk_cell BK.out 2).trans rfl; have b9z0 := blk_frozen BK.out 0; have b9z1 := blk_frozen BK.out 1; have b9z2 := blk_frozen BK.out 2
      have v9c0 : w9.cell? ⟨gv, 0, none⟩ = some (.int .i64 1) := (blk_cell BKV.out 0).trans rfl; have v9c1 : w9.cell? ⟨gv, 1, none⟩ = some (.int .i64 v) := (blk_cell BKV.out 1).trans rfl; have v9c2 : w9.cell? ⟨gv, 2, none⟩ = some (.string (⟨#[]⟩ : ByteArray)) := (blk_cell BKV.out 2).trans rfl; have v9z0 := blk_frozen BKV.out 0; have v9z1 := blk_frozen BKV.out 1; have v9z2 := blk_frozen BKV.out 2
      go_wp2
      refine bodyPost_ret (results_ct rfl _ _ gb 24 #[(.int .i64 0), (.int .i64 0), (.string (⟨#[]⟩ : ByteArray))] (0, 0) _ rfl (by (with_reducible repeat (first | refine blk_drewN ?_ _ | refine blk_drew ?_ | refine blk_alloc ?_ _)); refine blk_put (cs := #[(.int .i64 0), (.int .i64 0), (.string (⟨#[]⟩ : ByteArray))]) ?_ 2 _ rfl; (with_reducible repeat (first | refine blk_drewN ?_ _ | refine blk_drew ?_ | refine blk_alloc ?_ _)); refine blk_put (cs := #[(.int .i64 0), (.int .i64 0), (.string (⟨#[]⟩ : ByteArray))]) ?_ 1 _ rfl; (with_reducible repeat (first | refine blk_drewN ?_ _ | refine blk_drew ?_ | refine blk_alloc ?_ _)); refine blk_put (cs := #[(.int .i64 0), (.int .i64 0), (.string (⟨#[]⟩ : ByteArray))]) ?_ 0 _ rfl; (with_reducible repeat (first | refine blk_drewN ?_ _ | refine blk_drew ?_ | refine blk_alloc ?_ _)); exact BK.out) Tryd.underlying24 rfl (by kernel_rfl)) rfl ?_
      exact ⟨by rw [HNF.out]; rfl, (by repeat (first | (with_reducible first | exact HB.out | apply below_alloc | apply pw_below_drewN | apply below_drew1 | refine below_set ?_ GE.out) | exact HB.out))⟩
end Go.Proofs.YtbbdlcmcndhhkaaDoor.MValReckons
