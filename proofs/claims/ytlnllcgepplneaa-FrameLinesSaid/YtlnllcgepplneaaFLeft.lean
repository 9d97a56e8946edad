/- Left and End walked. -/
import Derived.Test.YtlnllcgepplneaaFFeed
namespace Go.Proofs.Ytlnllcgepplneaa.MFrameLines
open Go.RowKit Go.Proofs Go.Proofs.YtlnllcgepplneaaW.PrintWords Go.Proofs.YtlnllcgepplneaaW.PrintLast Go.Proofs.YtlnllcgepplneaaW.PrintMore
set_option linter.unusedVariables false
set_option linter.unusedSimpArgs false
set_option maxHeartbeats 4000000 in
theorem Sc.left {w : World} {base g : Nat} {v : Value} {cur : List Int} (h : Sc w base g v cur) : Calls Try.prog 10 #[.pointer (some ⟨g, 0, none⟩)] w fun e w' => e = .returned (.bool (decide (0 < cur.length))) ∧ w' = w := by
  obtain ⟨p, lo, od, so, h1, h2⟩ := h
  have c3 := h1.c3
  rw [← h2.hso]
  clear h1 h2
  go_enter Try.func10, Try.ntmps10
  go_wp2
  go_ret
  exact ⟨rfl, rfl⟩
set_option maxHeartbeats 4000000 in
set_option maxRecDepth 100000 in
theorem Sc.endNone {w : World} {base g : Nat} {v : Value} (h : Sc w base g v []) : Calls Try.prog 11 #[.pointer (some ⟨g, 0, none⟩)] w fun e w' => e = .returned (.tuple #[.agg #[.string ⟨#[]⟩, .int .i64 0], .bool false]) ∧ Sc w' base g v [] ∧ Oth g none w w' := by
  obtain ⟨p, lo, od, so, h1, h2⟩ := h
  obtain rfl : so = false := h2.hso
  have H := Aside0.mk h1
  have HR := Aside0.mk h2
  clear h1 h2
  go_enter Try.func11, Try.ntmps11
  go_upto_region 2 with (first | ((with_reducible refine gate_dst (N := 2) rfl ?_); refine box_event ?hg (N := 2) ?hd (cs := #[.string (⟨#[]⟩ : ByteArray), .int .i64 0]) (t := 35) ?hr ?_; (case hd => rfl); (case hg => rfl); (case hr => first | (go_simp; done) | (go_simp; rfl)); intro b2 hg w2 hbox hb; have N2 := Aside0.mk hg; have X2 := Aside0.mk hbox; have B2 := Aside0.mk hb; have H2 := Aside0.mk (H.out.below hb); have O2 := Aside0.mk (Oth.of_below hb g none); have g3 := H2.out.c3; clear hb hbox hg))
  have ng2 : b2 ≠ g := by have := H.out.lg; have := N2.out; omega
  have hv2 : v.ownBlock ≠ some b2 := fun e => by have := H.out.own_lt _ e; have := N2.out; omega
  have l2 : w.heap.size ≤ b2 := by have := N2.out; omega
  have c0 : w2.cell? ⟨b2, 0, none⟩ = some (.string ⟨#[]⟩) := (blk_cell X2.out 0).trans rfl
  have c1 : w2.cell? ⟨b2, 1, none⟩ = some (.int .i64 0) := (blk_cell X2.out 1).trans rfl
  have f0 := blk_frozen X2.out 0
  have f1 := blk_frozen X2.out 1
  clear N2
  go_wp2
  refine bodyPost_ret (results_ct rfl _ _ b2 35 #[.string ⟨#[]⟩, .int .i64 0] (0, 0) _ rfl (by refine blk_put (cs := #[.string (⟨#[]⟩ : ByteArray), .int .i64 0]) ?_ 1 _ rfl; refine blk_put (cs := #[.string (⟨#[]⟩ : ByteArray), .int .i64 0]) ?_ 0 _ rfl; exact X2.out) Try.underlying35 rfl (by kernel_rfl)) rfl ?_
  exact ⟨by rfl, ⟨_, _, _, _, (H2.out.other (j := 0) ng2 hv2 _).other (j := 1) ng2 hv2 _, HR.out⟩, (O2.out.other (j := 0) l2 _).other (j := 1) l2 _⟩
set_option maxHeartbeats 4000000 in
set_option maxRecDepth 100000 in
theorem Sc.endSome {w : World} {base g : Nat} {v : Value} {cur : List Int} (h : Sc w base g v cur) (hc : 0 < cur.length) : Calls Try.prog 11 #[.pointer (some ⟨g, 0, none⟩)] w fun e w' => e = .returned (.tuple #[.agg #[.string (lineOf cur).f0, .int .i64 (lineOf cur).f1], .bool true]) ∧ Sc w' base g (.slice none 0 0) [] ∧ Oth g none w w' := by
  obtain ⟨p, lo, od, so, h1, h2⟩ := h
  obtain rfl : so = true := h2.hso.trans (decide_eq_true hc)
  have H := Aside0.mk h1
  have HR := Aside0.mk h2
  clear h1 h2
  go_enter Try.func11, Try.ntmps11
  go_upto_region 3 with (first | ((with_reducible refine gate_dst (N := 2) rfl ?_); refine box_event ?hg (N := 2) ?hd (cs := #[.string (⟨#[]⟩ : ByteArray), .int .i64 0]) (t := 35) ?hr ?_; (case hd => rfl); (case hg => rfl); (case hr => first | (go_simp; done) | (go_simp; rfl)); intro b2 hg w2 hbox hb; have N2 := Aside0.mk hg; have X2 := Aside0.mk hbox; have B2 := Aside0.mk hb; have H2 := Aside0.mk (H.out.below hb); have O2 := Aside0.mk (Oth.of_below hb g none); have g3 := H2.out.c3; clear hb hbox hg))
  have ng2 : b2 ≠ g := by have := H.out.lg; have := N2.out; omega
  have l2 : w.heap.size ≤ b2 := by have := N2.out; omega
  have lt2 := St.lt_of_block X2.out
  have L2 := Aside0.mk l2
  have G2 := Aside0.mk ng2
  have LT2 := Aside0.mk lt2
  clear N2 l2 ng2 lt2 g3
  go_wp2_with (first | (go_at_call 14; refine (Sc.stop ⟨_, _, _, _, H2.out, HR.out⟩).mono ?_; rintro e w3 ⟨rfl, hs, ho⟩; have HS := Aside0.mk hs; have X3 := Aside0.mk ((ho.block b2 LT2.out G2.out (by simp)).trans X2.out); have O3 := Aside0.mk (O2.out.trans ho (.inl rfl)); clear hs ho; have c0 : w3.cell? ⟨b2, 0, none⟩ = some (.string ⟨#[]⟩) := (blk_cell X3.out 0).trans rfl; have c1 : w3.cell? ⟨b2, 1, none⟩ = some (.int .i64 0) := (blk_cell X3.out 1).trans rfl; have f0 := blk_frozen X3.out 0; have f1 := blk_frozen X3.out 1))
  refine bodyPost_ret (results_ct rfl _ _ b2 35 #[.string (lineOf cur).f0, .int .i64 (lineOf cur).f1] (0, 0) _ rfl (by refine blk_put (cs := #[.string (lineOf cur).f0, .int .i64 0]) ?_ 1 _ rfl; refine blk_put (cs := #[.string (⟨#[]⟩ : ByteArray), .int .i64 0]) ?_ 0 _ rfl; exact X3.out) Try.underlying35 rfl (by kernel_rfl)) rfl ?_
  obtain ⟨p, lo, od, so, h1, h2⟩ := HS.out
  exact ⟨by rfl, ⟨_, _, _, _, (h1.other (j := 0) G2.out (fun e => by cases e) _).other (j := 1) G2.out (fun e => by cases e) _, h2⟩, (O3.out.other (j := 0) L2.out _).other (j := 1) L2.out _⟩
end Go.Proofs.Ytlnllcgepplneaa.MFrameLines
