/- end walked: a reader's line, and the reader is empty. -/
import Derived.Test.YtlnllcgepplneaaFTak
import Derived.Test.YtlnllcgepplneaaFPlain
namespace Go.Proofs.Ytlnllcgepplneaa.MFrameLines
open Go.RowKit Go.Proofs Go.Proofs.YtlnllcgepplneaaW.PrintWords Go.Proofs.YtlnllcgepplneaaW.PrintLast Go.Proofs.YtlnllcgepplneaaW.PrintMore
set_option linter.unusedVariables false
set_option linter.unusedSimpArgs false
theorem St.conv {g base : Nat} {w : World} {v : Value} {p : List Int} {lo od so : Bool} (h : St w base g v p lo od so) : (convert 24 9 v).run Try.prog w = .ok (.string (strOfNums p)) w := by
  obtain ⟨A0, c0, hv, hpc, hC⟩ := Kd.R_reads h.own
  rw [hv]
  exact string_of_reads Try.underlying24 Try.underlying5 Try.underlying9 (Kd.reads_of_C (d := (0 : Int)) hC)
theorem St.lt_of_block {w : World} {k : Nat} {o : Obj} (h : w.heap[k]? = some o) : k < w.heap.size := (Array.getElem?_eq_some_iff.1 h).1
/-- A store into a block that is none of the reader's. -/
theorem St.other {g base b j : Nat} {w : World} {v : Value} {p : List Int} {lo od so : Bool} (h : St w base g v p lo od so) (hb : b ≠ g) (hv : v.ownBlock ≠ some b) (u : Value) : St (w.setCell ⟨b, j, none⟩ u) base g v p lo od so :=
  h.step (Below.heap_setCell w ⟨b, j, none⟩ u g (fun e => hb e.symm)) (fun k hk => Below.heap_setCell w ⟨b, j, none⟩ u k (fun e => by rw [e] at hk; exact hv hk)) (by simp)
theorem Oth.other {g b j : Nat} {row : Option Nat} {w w' : World} (h : Oth g row w w') (hb : w.heap.size ≤ b) (u : Value) : Oth g row w (w'.setCell ⟨b, j, none⟩ u) :=
  ⟨h.os, h.tape, h.output, by simpa using h.size, fun k hk h1 h2 => (Below.heap_setCell w' ⟨b, j, none⟩ u k (fun e => by change k = b at e; omega)).trans (h.block k hk h1 h2)⟩
theorem St.reset {g base : Nat} {w : World} {v : Value} {p : List Int} {lo od so : Bool} (h : St w base g v p lo od so) :
    St ((((w.setCell ⟨g, 0, none⟩ (.slice none 0 0)).setCell ⟨g, 1, none⟩ (.bool false)).setCell ⟨g, 2, none⟩ (.bool false)).setCell ⟨g, 3, none⟩ (.bool false)) base g (.slice none 0 0) [] false false false := by
  have h0 : St (w.setCell ⟨g, 0, none⟩ (.slice none 0 0)) base g (.slice none 0 0) [] lo od so :=
    ⟨World.cell?_setCell_same' _ _ _ (by rw [h.c0]; rfl), (setCell_ne (addr_ne_off (by omega)) _).trans h.c1, (setCell_ne (addr_ne_off (by omega)) _).trans h.c2, (setCell_ne (addr_ne_off (by omega)) _).trans h.c3,
     by rw [World.frozen?_setCell]; exact h.z0, by rw [World.frozen?_setCell]; exact h.z1, by rw [World.frozen?_setCell]; exact h.z2, by rw [World.frozen?_setCell]; exact h.z3,
     Kd.R_nil _ _ _ _ _, by simpa using h.lg, h.hb⟩
  exact ((h0.set1 false).set2 false).set3 false

set_option maxHeartbeats 4000000 in
set_option maxRecDepth 100000 in
theorem end_any (w : World) (base g : Nat) (v : Value) (p : List Int) (lo od so : Bool) (h : St w base g v p lo od so) :
    Calls Try.prog 14 #[.pointer (some ⟨g, 0, none⟩)] w fun e w' => e = .returned (.agg #[.string (if lo = true then ⟨#[]⟩ else if od = true then ⟨#[]⟩ else strOfNums p), .int .i64 (if lo = true then 15 else if od = true then 11 else 0)]) ∧
      St w' base g (.slice none 0 0) [] false false false ∧ Oth g none w w' := by
  have H := Aside0.mk h
  clear h
  go_enter Try.func14, Try.ntmps14
  go_upto_region 2 with (first | ((with_reducible refine gate_dst (N := 2) rfl ?_); refine box_event ?hg (N := 2) ?hd (cs := #[.string (⟨#[]⟩ : ByteArray), .int .i64 0]) (t := 35) ?hr ?_; (case hd => rfl); (case hg => rfl); (case hr => first | (go_simp; done) | (go_simp; rfl)); intro b2 hg w2 hbox hb; have N2 := Aside0.mk hg; have X2 := Aside0.mk hbox; have B2 := Aside0.mk hb; have H2 := Aside0.mk (H.out.below hb); have O2 := Aside0.mk (Oth.of_below hb g none); have g0_2 := H2.out.c0; have hcv := H2.out.conv; clear hb hbox hg) | ((with_reducible refine gate_dst (N := 3) rfl ?_); refine box_event ?hg (N := 3) ?hd (cs := #[.string (⟨#[]⟩ : ByteArray), .int .i64 0]) (t := 35) ?hr ?_; (case hd => rfl); (case hg => rfl); (case hr => first | (go_simp; done) | (go_simp; rfl)); intro b3 hg w3 hbox hb; have N3 := Aside0.mk hg; have X3 := Aside0.mk hbox; have B3 := Aside0.mk hb; have H3 := Aside0.mk (H2.out.below hb); have X23 := Aside0.mk ((hb.block b2 (St.lt_of_block X2.out)).trans X2.out); have O3 := Aside0.mk (O2.out.trans (Oth.of_below hb g none) (.inl rfl)); have z3_0 : w3.cell? ⟨b3, 0, none⟩ = some (.string (⟨#[]⟩ : ByteArray)) := (blk_cell X3.out 0).trans rfl; have z3_1 : w3.cell? ⟨b3, 1, none⟩ = some (.int .i64 0) := (blk_cell X3.out 1).trans rfl; have y3_0 := blk_frozen X3.out 0; have y3_1 := blk_frozen X3.out 1; clear hb hbox hg))
  have hv2 : v.ownBlock ≠ some b2 := fun e => by have := H.out.own_lt _ e; have := N2.out; omega
  have hv3 : v.ownBlock ≠ some b3 := fun e => by have := H2.out.own_lt _ e; have := N3.out; omega
  have ng2 : b2 ≠ g := by have := H.out.lg; have := N2.out; omega
  have ng3 : b3 ≠ g := by have := H2.out.lg; have := N3.out; omega
  have n23 : b2 ≠ b3 := by have := St.lt_of_block X2.out; have := N3.out; omega
  have l2 : w.heap.size ≤ b2 := by have := N2.out; omega
  have l3 : w.heap.size ≤ b3 := by have := N3.out; have := B2.out.size; omega
  have HA := Aside0.mk ((H3.out.other (j := 0) ng3 hv3 (.string (strOfNums p))).other (j := 1) ng3 hv3 (.int .i64 0))
  have XA3 := Aside0.mk (blk_put (cs := #[.string (strOfNums p), .int .i64 0]) (blk_put (cs := #[.string (⟨#[]⟩ : ByteArray), .int .i64 0]) X3.out 0 (.string (strOfNums p)) rfl) 1 (.int .i64 0) rfl)
  have XA2 := Aside0.mk ((Below.heap_setCell (w3.setCell ⟨b3, 0, none⟩ (.string (strOfNums p))) ⟨b3, 1, none⟩ (.int .i64 0) b2 n23).trans ((Below.heap_setCell w3 ⟨b3, 0, none⟩ (.string (strOfNums p)) b2 n23).trans X23.out))
  have OA := Aside0.mk ((O3.out.other (j := 0) l3 (.string (strOfNums p))).other (j := 1) l3 (.int .i64 0))
  generalize (w3.setCell ⟨b3, 0, none⟩ (.string (strOfNums p))).setCell ⟨b3, 1, none⟩ (.int .i64 0) = WA at HA XA3 XA2 OA ⊢
  clear z3_0 z3_1 y3_0 y3_1 g0_2 hcv X2 X3 X23 H2 H3 O2 O3 B2 B3 N2 N3
  have a0 : WA.cell? ⟨b3, 0, none⟩ = some (.string (strOfNums p)) := (blk_cell XA3.out 0).trans rfl
  have a1 : WA.cell? ⟨b3, 1, none⟩ = some (.int .i64 0) := (blk_cell XA3.out 1).trans rfl
  have f0 := blk_frozen XA3.out 0
  have f1 := blk_frozen XA3.out 1
  have g1 := HA.out.c1
  have g2 := HA.out.c2
  cases lo with
  | true =>
    go_upto_region 6 with (fail)
    have HB := Aside0.mk ((HA.out.other (j := 0) ng3 hv3 (.string ⟨#[]⟩)).other (j := 1) ng3 hv3 (.int .i64 15))
    have XB3 := Aside0.mk (blk_put (cs := #[.string ⟨#[]⟩, .int .i64 0]) (blk_put (cs := #[.string (strOfNums p), .int .i64 0]) XA3.out 0 (.string ⟨#[]⟩) rfl) 1 (.int .i64 15) rfl)
    have XB2 := Aside0.mk ((Below.heap_setCell (WA.setCell ⟨b3, 0, none⟩ (.string ⟨#[]⟩)) ⟨b3, 1, none⟩ (.int .i64 15) b2 n23).trans ((Below.heap_setCell WA ⟨b3, 0, none⟩ (.string ⟨#[]⟩) b2 n23).trans XA2.out))
    have OB := Aside0.mk ((OA.out.other (j := 0) l3 (.string ⟨#[]⟩)).other (j := 1) l3 (.int .i64 15))
    generalize (WA.setCell ⟨b3, 0, none⟩ (.string ⟨#[]⟩)).setCell ⟨b3, 1, none⟩ (.int .i64 15) = WB at HB XB3 XB2 OB ⊢
    clear HA XA3 XA2 OA a0 a1 f0 f1 g1 g2
    have k0 := HB.out.c0
    have k1 := HB.out.c1
    have k2 := HB.out.c2
    have k3 := HB.out.c3
    have m0 := HB.out.z0
    have m1 := HB.out.z1
    have m2 := HB.out.z2
    have m3 := HB.out.z3
    go_upto_region 7 with (fail)
    have HC := Aside0.mk HB.out.reset
    have FC := fun (k : Nat) (hk : k ≠ g) => (Below.heap_setCell (((WB.setCell ⟨g, 0, none⟩ (.slice none 0 0)).setCell ⟨g, 1, none⟩ (.bool false)).setCell ⟨g, 2, none⟩ (.bool false)) ⟨g, 3, none⟩ (.bool false) k hk).trans ((Below.heap_setCell ((WB.setCell ⟨g, 0, none⟩ (.slice none 0 0)).setCell ⟨g, 1, none⟩ (.bool false)) ⟨g, 2, none⟩ (.bool false) k hk).trans ((Below.heap_setCell (WB.setCell ⟨g, 0, none⟩ (.slice none 0 0)) ⟨g, 1, none⟩ (.bool false) k hk).trans (Below.heap_setCell WB ⟨g, 0, none⟩ (.slice none 0 0) k hk)))
    have XC3 := Aside0.mk ((FC b3 ng3).trans XB3.out)
    have XC2 := Aside0.mk ((FC b2 ng2).trans XB2.out)
    have OC := Aside0.mk ((((OB.out.setCell 0 (.slice none 0 0)).setCell 1 (.bool false)).setCell 2 (.bool false)).setCell 3 (.bool false))
    generalize ((((WB.setCell ⟨g, 0, none⟩ (.slice none 0 0)).setCell ⟨g, 1, none⟩ (.bool false)).setCell ⟨g, 2, none⟩ (.bool false)).setCell ⟨g, 3, none⟩ (.bool false)) = WC at HC XC3 XC2 OC ⊢
    clear k0 k1 k2 k3 m0 m1 m2 m3 FC
    have a0 : WC.cell? ⟨b3, 0, none⟩ = some (.string ⟨#[]⟩) := (blk_cell XC3.out 0).trans rfl
    have a1 : WC.cell? ⟨b3, 1, none⟩ = some (.int .i64 15) := (blk_cell XC3.out 1).trans rfl
    have c0 : WC.cell? ⟨b2, 0, none⟩ = some (.string ⟨#[]⟩) := (blk_cell XC2.out 0).trans rfl
    have c1 : WC.cell? ⟨b2, 1, none⟩ = some (.int .i64 0) := (blk_cell XC2.out 1).trans rfl
    have f0 := blk_frozen XC2.out 0
    have f1 := blk_frozen XC2.out 1
    go_wp2
    refine bodyPost_ret (results_cell_row rfl _ _ b2 35 #[.string ⟨#[]⟩, .int .i64 15] (0, 0) _ rfl (by refine blk_put (cs := #[.string ⟨#[]⟩, .int .i64 0]) ?_ 1 _ rfl; refine blk_put (cs := #[.string (⟨#[]⟩ : ByteArray), .int .i64 0]) ?_ 0 _ rfl; exact XC2.out) Try.underlying35 rfl (by kernel_rfl)) rfl ?_
    refine ⟨by rfl, ?_, ?_⟩
    · exact (HC.out.other (j := 0) ng2 (fun e => by cases e) _).other (j := 1) ng2 (fun e => by cases e) _
    · exact (OC.out.other (j := 0) l2 _).other (j := 1) l2 _
  | false =>
    cases od with
    | true =>
      go_upto_region 6 with (fail)
      have HB := Aside0.mk ((HA.out.other (j := 0) ng3 hv3 (.string ⟨#[]⟩)).other (j := 1) ng3 hv3 (.int .i64 11))
      have XB3 := Aside0.mk (blk_put (cs := #[.string ⟨#[]⟩, .int .i64 0]) (blk_put (cs := #[.string (strOfNums p), .int .i64 0]) XA3.out 0 (.string ⟨#[]⟩) rfl) 1 (.int .i64 11) rfl)
      have XB2 := Aside0.mk ((Below.heap_setCell (WA.setCell ⟨b3, 0, none⟩ (.string ⟨#[]⟩)) ⟨b3, 1, none⟩ (.int .i64 11) b2 n23).trans ((Below.heap_setCell WA ⟨b3, 0, none⟩ (.string ⟨#[]⟩) b2 n23).trans XA2.out))
      have OB := Aside0.mk ((OA.out.other (j := 0) l3 (.string ⟨#[]⟩)).other (j := 1) l3 (.int .i64 11))
      generalize (WA.setCell ⟨b3, 0, none⟩ (.string ⟨#[]⟩)).setCell ⟨b3, 1, none⟩ (.int .i64 11) = WB at HB XB3 XB2 OB ⊢
      clear HA XA3 XA2 OA a0 a1 f0 f1 g1 g2
      have k0 := HB.out.c0
      have k1 := HB.out.c1
      have k2 := HB.out.c2
      have k3 := HB.out.c3
      have m0 := HB.out.z0
      have m1 := HB.out.z1
      have m2 := HB.out.z2
      have m3 := HB.out.z3
      go_upto_region 7 with (fail)
      have HC := Aside0.mk HB.out.reset
      have FC := fun (k : Nat) (hk : k ≠ g) => (Below.heap_setCell (((WB.setCell ⟨g, 0, none⟩ (.slice none 0 0)).setCell ⟨g, 1, none⟩ (.bool false)).setCell ⟨g, 2, none⟩ (.bool false)) ⟨g, 3, none⟩ (.bool false) k hk).trans ((Below.heap_setCell ((WB.setCell ⟨g, 0, none⟩ (.slice none 0 0)).setCell ⟨g, 1, none⟩ (.bool false)) ⟨g, 2, none⟩ (.bool false) k hk).trans ((Below.heap_setCell (WB.setCell ⟨g, 0, none⟩ (.slice none 0 0)) ⟨g, 1, none⟩ (.bool false) k hk).trans (Below.heap_setCell WB ⟨g, 0, none⟩ (.slice none 0 0) k hk)))
      have XC3 := Aside0.mk ((FC b3 ng3).trans XB3.out)
      have XC2 := Aside0.mk ((FC b2 ng2).trans XB2.out)
      have OC := Aside0.mk ((((OB.out.setCell 0 (.slice none 0 0)).setCell 1 (.bool false)).setCell 2 (.bool false)).setCell 3 (.bool false))
      generalize ((((WB.setCell ⟨g, 0, none⟩ (.slice none 0 0)).setCell ⟨g, 1, none⟩ (.bool false)).setCell ⟨g, 2, none⟩ (.bool false)).setCell ⟨g, 3, none⟩ (.bool false)) = WC at HC XC3 XC2 OC ⊢
      clear k0 k1 k2 k3 m0 m1 m2 m3 FC
      have a0 : WC.cell? ⟨b3, 0, none⟩ = some (.string ⟨#[]⟩) := (blk_cell XC3.out 0).trans rfl
      have a1 : WC.cell? ⟨b3, 1, none⟩ = some (.int .i64 11) := (blk_cell XC3.out 1).trans rfl
      have c0 : WC.cell? ⟨b2, 0, none⟩ = some (.string ⟨#[]⟩) := (blk_cell XC2.out 0).trans rfl
      have c1 : WC.cell? ⟨b2, 1, none⟩ = some (.int .i64 0) := (blk_cell XC2.out 1).trans rfl
      have f0 := blk_frozen XC2.out 0
      have f1 := blk_frozen XC2.out 1
      go_wp2
      refine bodyPost_ret (results_cell_row rfl _ _ b2 35 #[.string ⟨#[]⟩, .int .i64 11] (0, 0) _ rfl (by refine blk_put (cs := #[.string ⟨#[]⟩, .int .i64 0]) ?_ 1 _ rfl; refine blk_put (cs := #[.string (⟨#[]⟩ : ByteArray), .int .i64 0]) ?_ 0 _ rfl; exact XC2.out) Try.underlying35 rfl (by kernel_rfl)) rfl ?_
      refine ⟨by rfl, ?_, ?_⟩
      · exact (HC.out.other (j := 0) ng2 (fun e => by cases e) _).other (j := 1) ng2 (fun e => by cases e) _
      · exact (OC.out.other (j := 0) l2 _).other (j := 1) l2 _
    | false =>
      go_upto_region 6 with (fail)
      have HB := HA
      have XB3 := XA3
      have XB2 := XA2
      have OB := OA
      clear a0 a1 f0 f1 g1 g2
      have k0 := HB.out.c0
      have k1 := HB.out.c1
      have k2 := HB.out.c2
      have k3 := HB.out.c3
      have m0 := HB.out.z0
      have m1 := HB.out.z1
      have m2 := HB.out.z2
      have m3 := HB.out.z3
      go_upto_region 7 with (fail)
      have HC := Aside0.mk HB.out.reset
      have FC := fun (k : Nat) (hk : k ≠ g) => (Below.heap_setCell (((WA.setCell ⟨g, 0, none⟩ (.slice none 0 0)).setCell ⟨g, 1, none⟩ (.bool false)).setCell ⟨g, 2, none⟩ (.bool false)) ⟨g, 3, none⟩ (.bool false) k hk).trans ((Below.heap_setCell ((WA.setCell ⟨g, 0, none⟩ (.slice none 0 0)).setCell ⟨g, 1, none⟩ (.bool false)) ⟨g, 2, none⟩ (.bool false) k hk).trans ((Below.heap_setCell (WA.setCell ⟨g, 0, none⟩ (.slice none 0 0)) ⟨g, 1, none⟩ (.bool false) k hk).trans (Below.heap_setCell WA ⟨g, 0, none⟩ (.slice none 0 0) k hk)))
      have XC3 := Aside0.mk ((FC b3 ng3).trans XB3.out)
      have XC2 := Aside0.mk ((FC b2 ng2).trans XB2.out)
      have OC := Aside0.mk ((((OB.out.setCell 0 (.slice none 0 0)).setCell 1 (.bool false)).setCell 2 (.bool false)).setCell 3 (.bool false))
      generalize ((((WA.setCell ⟨g, 0, none⟩ (.slice none 0 0)).setCell ⟨g, 1, none⟩ (.bool false)).setCell ⟨g, 2, none⟩ (.bool false)).setCell ⟨g, 3, none⟩ (.bool false)) = WC at HC XC3 XC2 OC ⊢
      clear k0 k1 k2 k3 m0 m1 m2 m3 FC
      have a0 : WC.cell? ⟨b3, 0, none⟩ = some (.string (strOfNums p)) := (blk_cell XC3.out 0).trans rfl
      have a1 : WC.cell? ⟨b3, 1, none⟩ = some (.int .i64 0) := (blk_cell XC3.out 1).trans rfl
      have c0 : WC.cell? ⟨b2, 0, none⟩ = some (.string ⟨#[]⟩) := (blk_cell XC2.out 0).trans rfl
      have c1 : WC.cell? ⟨b2, 1, none⟩ = some (.int .i64 0) := (blk_cell XC2.out 1).trans rfl
      have f0 := blk_frozen XC2.out 0
      have f1 := blk_frozen XC2.out 1
      go_wp2
      refine bodyPost_ret (results_cell_row rfl _ _ b2 35 #[.string (strOfNums p), .int .i64 0] (0, 0) _ rfl (by refine blk_put (cs := #[.string (strOfNums p), .int .i64 0]) ?_ 1 _ rfl; refine blk_put (cs := #[.string (⟨#[]⟩ : ByteArray), .int .i64 0]) ?_ 0 _ rfl; exact XC2.out) Try.underlying35 rfl (by kernel_rfl)) rfl ?_
      refine ⟨by rfl, ?_, ?_⟩
      · exact (HC.out.other (j := 0) ng2 (fun e => by cases e) _).other (j := 1) ng2 (fun e => by cases e) _
      · exact (OC.out.other (j := 0) l2 _).other (j := 1) l2 _
end Go.Proofs.Ytlnllcgepplneaa.MFrameLines
