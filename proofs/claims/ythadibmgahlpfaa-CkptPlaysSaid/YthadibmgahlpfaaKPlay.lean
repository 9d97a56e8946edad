/- CkptPlays: what its loop keeps. -/
import Derived.Test.YthadibmgahlpfaaKIs
import Derived.Test.YthadibmgahlpfaaKAnch
section
namespace Go.Proofs.Ythadibmgahlpfaa.MD
open Go Go.RowKit Go.Proofs Go.Maps Go.Proofs.YthadibmgahlpfaaW.PrintWords Go.Proofs.YthadibmgahlpfaaW.PrintLast Go.Proofs.YthadibmgahlpfaaW.PrintMore
set_option linter.unusedVariables false
set_option linter.unusedSimpArgs false
/-- A call: its kind, its place, its clock. -/
abbrev Op3 := Int × Int × Int
def kOp : Kd Op3 := Kd.iso (Kd.pair (Kd.int .i64) (Kd.pair (Kd.int .i64) (Kd.int .i64))) (fun x : Op3 => x)
theorem op3_at {w : World} {A : Option Addr} {n : Nat} {xs : List Op3} (h : Kd.C kOp w A n xs) (k : Nat) (hk : k < n) :
    ∃ ad, A = some ad ∧ w.cell? (ad.add (k * 3)) = some (.int .i64 (xs.getD k (0, 0, 0)).1) ∧ w.cell? ⟨(ad.add (k * 3)).block, (ad.add (k * 3)).off + 1, none⟩ = some (.int .i64 (xs.getD k (0, 0, 0)).2.1) ∧ w.cell? ⟨(ad.add (k * 3)).block, (ad.add (k * 3)).off + 2, none⟩ = some (.int .i64 (xs.getD k (0, 0, 0)).2.2) := by
  obtain ⟨ad, c, e, _, hK, hc0⟩ := Kd.C_get h (0, 0, 0) (k : Int) (by omega) (by omega)
  have hc : ∀ j u, c[j]? = some u → w.cell? (ad.add (k * 3 + j)) = some u := hc0
  obtain ⟨q0, q1, rfl, h0, q2, q3, rfl, h2, h3⟩ := hK
  obtain rfl : q0 = _ := h0
  obtain rfl : q2 = _ := h2
  obtain rfl : q3 = _ := h3
  exact ⟨ad, e, hc 0 _ rfl, by rw [← add_field _ _ 1 (by omega)]; exact hc 1 _ rfl, by rw [← add_field _ _ 2 (by omega)]; exact hc 2 _ rfl⟩
theorem IMap.block {w : World} {M n : Nat} {F : Int → Int} (h : IMap w M F n) : ∃ es clock, w.heap[M]? = some (.map es clock) := by
  obtain ⟨D, ⟨es, clock, hb, _⟩, _⟩ := h
  exact ⟨es, clock, hb⟩
theorem IMap.beside {w w' : World} {M n : Nat} {F : Int → Int} (h : IMap w M F n) (hb : Beside w w') : IMap w' M F n := by
  have hlt := h.lt
  obtain ⟨D, ⟨es, clock, hm, h4, h5, h6⟩, h2, h3⟩ := h
  exact ⟨D, ⟨es, clock, (hb.2 M hlt (fun c e => by rw [hm] at e; cases e) (fun c e => by rw [hm] at e; cases e)).trans hm, h4, h5, h6⟩, h2, h3⟩
theorem IMap.below {w w' : World} {M n : Nat} {F : Int → Int} (h : IMap w M F n) (hb : Below w.heap.size w w') : IMap w' M F n := h.kept (grown_of_below hb none) (by intro e; cases e)
/-- A keeper without marks, beside a new block. -/
theorem Keep.beside_new {base : Nat} {w : World} {B : Nat} {ev mo : Int} (o : Obj) (h : Keep base (fun _ => False) w B ev mo []) : Keep base (fun k => k = w.heap.size) (w.alloc o) B ev mo [] := by
  have h' := h.below ((Below.refl w.heap.size w).alloc (Nat.le_refl _) o)
  obtain ⟨v, h1, h2, h3, h4, h5, h6, h7⟩ := h.out
  obtain ⟨u1, u2, u3, u4, u5, u6⟩ : w.heap.size < (w.alloc o).heap.size ∧ True ∧ True ∧ True ∧ True ∧ True := ⟨by rw [World.size_alloc]; omega, trivial, trivial, trivial, trivial, trivial⟩
  have hB := blk_lt h1
  have hv : ∀ k, v.ownBlock = some k → k < w.heap.size := fun k e => by
    obtain ⟨c, hc⟩ := own_typed (own_of_R h3) k e
    exact blk_lt hc
  have hbl : Below w.heap.size w (w.alloc o) := (Below.refl w.heap.size w).alloc (Nat.le_refl _) o
  exact ⟨⟨v, blk_below h1 hbl, h2, Kd.R_below h3 hbl, h4, fun k e1 e2 => by have := hv k e1; omega, fun k e => by subst e; exact ⟨u1, by omega⟩, fun x hx => by cases hx⟩⟩
theorem mapUpd_L {P : Program} {ops : Array Oper} {rest : List Oper} {o : Oper} {a : Act} {Q : Exit → Act → World → Prop} {w w1 : World} {t : TypeId} {m x y : Operand} {M : Nat} {kv vv : Value}
    (ho : o.op = .mapUpdate t m x y) (hgd : o.guard = none) (hN : o.dst = none) (hm : a.eval m = .map (some M)) (hk : a.eval x = kv) (hv : a.eval y = vv) (hrun : (Instr.mapUpdate t (.map (some M)) kv vv).run P w = .ok () w1) (h : wpList P ops Q rest a w1) : wpList P ops Q (o :: rest) a w := by
  have he : (execOp a.eval o).run P w = .ok .skip w1 := by
    unfold execOp
    simp only [ho, hm, hk, hv, Sem.run_bind, Sem.run_pure, Result.andThen_ok, hrun]
  refine wpList_plain hgd fun K hK => ?_
  unfold Oper.wp
  rw [he]
  show K (a.put o.dst undef) _
  rw [hN]
  exact hK _ _ h
/-- What the law's loop keeps. -/
structure PL (w : World) (B M : Nat) (ev mo : Int) (l : List E) (v : Value) (L : List Int) (F : Int → Int) (n : Nat) (wr : World) : Prop where
  keep : Keep w.heap.size (fun k => k = M) wr B ev mo l
  inv : Inv mo l L F
  ints : Ints wr v L
  imap : IMap wr M F n
  below : Below w.heap.size w wr
  hM : w.heap.size ≤ M
theorem PL.next {w : World} {B M : Nat} {ev mo : Int} {l : List E} {v : Value} {L : List Int} {F : Int → Int} {n : Nat} {wr w' : World} (h : PL w B M ev mo l v L F n wr) (k : Below wr.heap.size wr w') : PL w B M ev mo l v L F n w' :=
  ⟨h.keep.below k, h.inv, h.ints.below k, h.imap.below k, h.below.trans (k.mono h.below.size), h.hM⟩
/-- The clocks get one more. -/
theorem PL.upd {w : World} {B M : Nat} {ev mo : Int} {l : List E} {v : Value} {L : List Int} {F : Int → Int} {n : Nat} {wr : World} (h : PL w B M ev mo l v L F n wr) (hn : n < 1000) {a c : Int} (ha : (Lit.int .i64 a).wf = true) (hc : (Lit.int .i64 c).wf = true) :
    ∃ w', (Instr.mapUpdate 44 (.map (some M)) (.int .i64 a) (.int .i64 c)).run Try.prog wr = .ok () w' ∧ Keep w.heap.size (fun k => k = M) w' B ev mo l ∧ IMap w' M (fun k => if k = a then c else F k) (n + 1) ∧ Below w.heap.size w w' ∧ (∀ (k : Nat) (o : Array Value) (t : TypeId), wr.heap[k]? = some (Obj.cells o t (0, 0)) → w'.heap[k]? = some (Obj.cells o t (0, 0))) := by
  obtain ⟨w', h1, h2, h3⟩ := h.imap.update (by unfold maxLen; omega) ha hc
  obtain ⟨es, clock, hb⟩ := h.imap.block
  refine ⟨w', h1, h.keep.move h3.size (fun k _ hk hlt => h3.block k hlt (fun e => hk (by injection e))), h2, h.below.grown h3 h.below.size (fun k e => by injection e with e; have := h.hM; omega), fun k o t hk => (h3.block k (blk_lt hk) (fun e => by injection e with e; subst e; have e2 := hb.symm.trans hk; cases e2)).trans hk⟩
end Go.Proofs.Ythadibmgahlpfaa.MD
end
section
namespace Go.Proofs.Ythadibmgahlpfaa.MD
open Go Go.RowKit Go.Proofs Go.Maps Go.Proofs.YthadibmgahlpfaaW.PrintWords Go.Proofs.YthadibmgahlpfaaW.PrintLast Go.Proofs.YthadibmgahlpfaaW.PrintMore
set_option linter.unusedVariables false
set_option linter.unusedSimpArgs false
theorem play_long (w : World) (ev mo at_ : Int) (A : Option Addr) (c : Nat) (xs : List Op3) (hl : 200 < xs.length) : Calls Try.prog 4 #[.int .i64 ev, .int .i64 mo, .slice A xs.length c, .int .i64 at_] w fun e w' => e = .returned (.bool true) ∧ Below w.heap.size w w' := by
  have d1 : (200 : Int) < (xs.length : Int) := by omega
  go_enter Try.func4, Try.ntmps4
  go_wp2_with (go_at_call 5; refine Hold.out ?_)
  refine ⟨?_⟩
  refine (anchor_any _).mono ?_
  rintro e w1 ⟨rfl, hb⟩
  have HB := Aside0.mk hb
  clear hb
  go_wp2
  go_ret
  exact ⟨rfl, HB.out⟩
theorem play_bad (w : World) (ev mo at_ : Int) (A : Option Addr) (c : Nat) (xs : List Op3) (hl : xs.length ≤ 200) (h : ev < 1 ∨ ev > 64 ∨ mo < 1 ∨ mo > 64) : Calls Try.prog 4 #[.int .i64 ev, .int .i64 mo, .slice A xs.length c, .int .i64 at_] w fun e w' => e = .returned (.bool true) ∧ Below w.heap.size w w' := by
  have d1 : ¬ ((200 : Int) < (xs.length : Int)) := by omega
  have HBAD := Aside0.mk h
  clear h hl
  by_cases h1 : ev < 1
  · go_enter Try.func4, Try.ntmps4
    go_wp2_with (go_at_call 5; refine Hold.out ?_)
    refine ⟨?_⟩
    refine (anchor_any _).mono ?_
    rintro e w1 ⟨rfl, hb⟩
    have HB := Aside0.mk hb
    clear hb
    go_wp2_with (go_at_call 6; refine Hold.out ?_)
    refine ⟨?_⟩
    refine (new_bad _ ev mo HBAD.out).mono ?_
    rintro e w2 ⟨rfl, hb⟩
    replace HB := Aside0.mk (HB.out.trans (hb.mono HB.out.size))
    clear hb
    go_wp2
    go_ret
    exact ⟨rfl, HB.out⟩
  · by_cases h2 : ev > 64
    · go_enter Try.func4, Try.ntmps4
      go_wp2_with (go_at_call 5; refine Hold.out ?_)
      refine ⟨?_⟩
      refine (anchor_any _).mono ?_
      rintro e w1 ⟨rfl, hb⟩
      have HB := Aside0.mk hb
      clear hb
      go_wp2_with (go_at_call 6; refine Hold.out ?_)
      refine ⟨?_⟩
      refine (new_bad _ ev mo HBAD.out).mono ?_
      rintro e w2 ⟨rfl, hb⟩
      replace HB := Aside0.mk (HB.out.trans (hb.mono HB.out.size))
      clear hb
      go_wp2
      go_ret
      exact ⟨rfl, HB.out⟩
    · by_cases h3 : mo < 1
      · go_enter Try.func4, Try.ntmps4
        go_wp2_with (go_at_call 5; refine Hold.out ?_)
        refine ⟨?_⟩
        refine (anchor_any _).mono ?_
        rintro e w1 ⟨rfl, hb⟩
        have HB := Aside0.mk hb
        clear hb
        go_wp2_with (go_at_call 6; refine Hold.out ?_)
        refine ⟨?_⟩
        refine (new_bad _ ev mo HBAD.out).mono ?_
        rintro e w2 ⟨rfl, hb⟩
        replace HB := Aside0.mk (HB.out.trans (hb.mono HB.out.size))
        clear hb
        go_wp2
        go_ret
        exact ⟨rfl, HB.out⟩
      · have h4 : mo > 64 := by have := HBAD.out; omega
        go_enter Try.func4, Try.ntmps4
        go_wp2_with (go_at_call 5; refine Hold.out ?_)
        refine ⟨?_⟩
        refine (anchor_any _).mono ?_
        rintro e w1 ⟨rfl, hb⟩
        have HB := Aside0.mk hb
        clear hb
        go_wp2_with (go_at_call 6; refine Hold.out ?_)
        refine ⟨?_⟩
        refine (new_bad _ ev mo HBAD.out).mono ?_
        rintro e w2 ⟨rfl, hb⟩
        replace HB := Aside0.mk (HB.out.trans (hb.mono HB.out.size))
        clear hb
        go_wp2
        go_ret
        exact ⟨rfl, HB.out⟩
set_option maxHeartbeats 16000000 in
set_option maxRecDepth 100000 in
theorem play_good (w : World) (ev mo at_ : Int) (A : Option Addr) (c : Nat) (xs : List Op3) (hx : Kd.C kOp w A xs.length xs) (hw : ∀ a ∈ xs, (Lit.int .i64 a.1).wf = true ∧ (Lit.int .i64 a.2.1).wf = true ∧ (Lit.int .i64 a.2.2).wf = true) (hl : xs.length ≤ 200) (h : 1 ≤ ev ∧ ev ≤ 64 ∧ 1 ≤ mo ∧ mo ≤ 64) : Calls Try.prog 4 #[.int .i64 ev, .int .i64 mo, .slice A xs.length c, .int .i64 at_] w fun e w' => e = .returned (.bool true) ∧ Below w.heap.size w w' := by
  have HG := Aside0.mk h
  have HX := Aside0.mk hx
  have HW := Aside0.mk hw
  have HLEN := Aside0.mk hl
  clear h hx hw hl
  have n1 : ¬ (ev < 1) := by have := HG.out; omega
  have n2 : ¬ (ev > 64) := by have := HG.out; omega
  have n3 : ¬ (mo < 1) := by have := HG.out; omega
  have n4 : ¬ (mo > 64) := by have := HG.out; omega
  have d1 : ¬ ((200 : Int) < (xs.length : Int)) := by have := HLEN.out; omega
  go_enter Try.func4, Try.ntmps4
  go_wp2_with (go_at_call 5; refine Hold.out ?_)
  refine ⟨?_⟩
  refine (anchor_any _).mono ?_
  rintro e w1 ⟨rfl, hb⟩
  have HB := Aside0.mk hb
  clear hb
  go_wp2_with (go_at_call 6; refine Hold.out ?_)
  refine ⟨?_⟩
  refine (new_any w.heap.size w1 ev mo HB.out.size HG.out.1 HG.out.2.1 HG.out.2.2.1 HG.out.2.2.2).mono ?_
  rintro e w2 ⟨B, rfl, hK, hb⟩
  have HK := Aside0.mk hK
  replace HB := Aside0.mk (HB.out.trans (hb.mono HB.out.size))
  clear hK hb
  have hmm := @run_makeMap Try.prog
  go_upto_region 11 with (fail)
  have HK2 := Aside0.mk (HK.out.beside_new (.map #[] 0))
  have HM2 := Aside0.mk (IMap.made w2)
  have HB2 := Aside0.mk (HB.out.alloc HB.out.size (.map #[] 0))
  have HMM : Aside0 (w.heap.size ≤ w2.heap.size) := ⟨HB.out.size⟩
  clear HK n1 n2 n3 n4 d1
  go_wp2
  clear hmm
  generalize w2.alloc (.map #[] 0) = w3 at HK2 HM2 HB2 ⊢
  obtain ⟨M, hM⟩ : ∃ z, z = w2.heap.size := ⟨_, rfl⟩
  rw [← hM] at HK2 HM2 HMM ⊢
  clear hM HB
  go_loopw [11, 59] (fun v vi wr => ∃ (k : Nat) (v0 : Value) (l : List E) (L : List Int) (F : Int → Int) (n : Nat), v0 = v ∧ vi = .int .i64 (k : Int) ∧ k ≤ xs.length ∧ Aside0 (n ≤ k ∧ PL w B M ev mo l v0 L F n wr)) (fun _ vi _ => xs.length - (intOf vi).toNat)
  case atStart => exact ⟨0, _, [], [], fun _ => 0, 0, rfl, rfl, Nat.zero_le _, ⟨Nat.le_refl _, HK2.out, Inv.nil mo HG.out.2.2.1 _, Ints.nil _, HM2.out, HB2.out, HMM.out⟩⟩
  case round =>
    clear HK2 HM2 HB2 HMM
    obtain ⟨k, v, l, L, F, n, rfl, rfl, hk, HPN⟩ := hrel
    have HP := Aside0.mk HPN.out.2
    have HNK := Aside0.mk HPN.out.1
    have HN := Aside0.mk HPN.out.2.inv
    clear HPN
    by_cases hlt : k < xs.length
    · have hn4 : (k : Int) < (xs.length : Int) := by omega
      have p : (0 : Int) ≤ (k : Int) := Int.natCast_nonneg _
      have wk : IntKind.i64.wrap ((k : Int) + 1) = (k : Int) + 1 := by have := HLEN.out; rw [IntKind.wrap_i64]; omega
      obtain ⟨ad, rfl, x0, x1, x2⟩ := op3_at HX.out k hlt
      have hwo := HW.out (xs.getD k (0, 0, 0)) (by rw [List.getD_eq_getElem?_getD, List.getElem?_eq_getElem hlt]; exact List.getElem_mem hlt)
      generalize xs.getD k (0, 0, 0) = o at x0 x1 x2 hwo
      obtain ⟨kd, t, ck⟩ := o
      simp only at x0 x1 x2 hwo
      have HWF := Aside0.mk hwo.2
      replace x0 := pw_cell_below HP.out.below x0
      replace x1 := pw_cell_below HP.out.below x1
      replace x2 := pw_cell_below HP.out.below x2
      have BSA := Aside0.mk (blk_new wr (.cells #[.int .i64 kd, .int .i64 t, .int .i64 ck] 46))
      have HPA := Aside0.mk (HP.out.next ((Below.refl wr.heap.size wr).alloc (Nat.le_refl _) (.cells #[.int .i64 kd, .int .i64 t, .int .i64 ck] 46)))
      have HLT := Aside0.mk hlt
      clear hwo hk hlt HP
      by_cases h1 : kd = 1
      · subst h1
        go_wp2_with (go_at_call 10; refine Hold.out ?_)
        refine ⟨?_⟩
        refine (refNote_any _ _ L ev mo t HPA.out.ints (by have := HN.out.length; have := HN.out.len; have := HG.out; omega) HG.out.1 HG.out.2.2.1).mono ?_
        rintro e w4 hRP
        obtain ⟨v', rfl, hI, hb⟩ := hRP.out
        have HP4 := Aside0.mk (HPA.out.next hb)
        have BS := Aside0.mk (blk_below BSA.out hb)
        have HI4 := Aside0.mk hI
        obtain ⟨r, hr⟩ : ∃ z, z = (refN ev mo t L).2 := ⟨_, rfl⟩
        obtain ⟨L', hL'⟩ : ∃ z, z = (refN ev mo t L).1 := ⟨_, rfl⟩
        rw [← hL'] at HI4
        rw [← hr]
        have HR1 := Aside0.mk hL'.symm
        have HR2 := Aside0.mk hr.symm
        have k1 := blk_cell BS.out 1
        clear hRP hI hb hr hL' BSA HPA
        obtain ⟨g, hg⟩ : ∃ g, g = wr.heap.size := ⟨_, rfl⟩
        rw [← hg] at BS k1 ⊢
        clear hg
        go_upto_region 18 with (fail)
        by_cases hq : nearL L t = t
        · have HQ := Aside0.mk hq
          have HQB : Aside0 ((nearL L t != t) = false) := ⟨by rw [hq]; exact bne_self_eq_false t⟩
          clear hq
          refine start_ (n := 10) (S := fun W => Below w4.heap.size w4 W) (ds := []) #[false, false, false, false, false, false, false, false, false, false] (by kernel_rfl) rfl rfl (below_drew1 (Below.refl _ _)) (fun hHeld => ?_)
          refine pure_ (i := 0) (N := some 76) (v := ?_) (a' := ?_) #[true, false, false, false, false, false, false, false, false, false] rfl rfl (by kernel_rfl) (fun _ _ _ h => h) (Or.inl ⟨by rfl, ?_⟩) ?_ ?_
          rotate_left
          · intro w'
            go_simp
            with_reducible rfl
          rotate_left
          · simp only [Act.put, List.setIfInBounds_toArray, List.set_cons_zero, List.set_cons_succ, i64_w, i32_w]
            rfl
          refine pure_ (i := 1) (N := some 77) (v := ?_) (a' := ?_) #[true, true, false, false, false, false, false, false, false, false] rfl rfl (by kernel_rfl) (fun _ _ _ h => h) (Or.inl ⟨by rfl, ?_⟩) ?_ ?_
          rotate_left
          · intro w'
            go_simp
            with_reducible rfl
          rotate_left
          · simp only [Act.put, List.setIfInBounds_toArray, List.set_cons_zero, List.set_cons_succ, i64_w, i32_w]
            rfl
          refine take_ (i := 2) (N := some 78) (v := ?_) (a' := ?_) #[true, true, true, false, false, false, false, false, false, false] rfl rfl (by kernel_rfl) (fun _ _ _ h => h) (Or.inl ⟨by rfl, ?_⟩) hHeld ?_ ?_
          rotate_left
          · rintro w' s0
            have e := pw_cell_below s0 k1
            go_simp
            with_reducible rfl
          rotate_left
          · simp only [Act.put, List.setIfInBounds_toArray, List.set_cons_zero, List.set_cons_succ, i64_w, i32_w]
            rfl
          refine pure_ (i := 4) (N := some 80) (v := ?_) (a' := ?_) #[true, true, true, false, true, false, false, false, false, false] rfl rfl (by kernel_rfl) (fun _ _ _ h => h) (Or.inl ⟨by rfl, ?_⟩) ?_ ?_
          rotate_left
          · intro w'
            go_simp
            with_reducible rfl
          rotate_left
          · simp only [Act.put, List.setIfInBounds_toArray, List.set_cons_zero, List.set_cons_succ, i64_w, i32_w]
            rfl
          refine take_ (i := 5) (N := some 81) (v := ?_) (a' := ?_) #[true, true, true, false, true, true, false, false, false, false] rfl rfl (by kernel_rfl) (fun _ _ _ h => h) (Or.inl ⟨by rfl, ?_⟩) hHeld ?_ ?_
          rotate_left
          · rintro w' s0
            have e := pw_cell_below s0 k1
            go_simp
            with_reducible rfl
          rotate_left
          · simp only [Act.put, List.setIfInBounds_toArray, List.set_cons_zero, List.set_cons_succ, i64_w, i32_w]
            rfl
          refine one_ (i := 3) (N := some 79) #[true, true, true, true, true, true, false, false, false, false] rfl rfl (by kernel_rfl) (by decide) (fun K hK => ?_)
          refine goes_ Try.func11 (by kernel_rfl) rfl #[v, .int .i64 t] (by rfl) rfl rfl (by (try simp only [List.map_toArray, List.map_cons, List.map_nil]); first | done | rfl) ?_
          refine (refNear_any _ _ L t (HP4.out.ints.below hHeld) (by have := HN.out.length; have := HN.out.len; have := HG.out; omega)).mono ?_
          rintro e w5 ⟨rfl, hb⟩
          refine ⟨_, rfl, ?_⟩
          refine hK.out _ _ (hHeld.trans (hb.mono hHeld.size)) (fun hHeld => ?_)
          clear hb
          rw [HQ.out]
          clear hK K
          refine norm_ (a' := ?_) ?_ ?_
          rotate_left
          · show Act.put _ (some 79) _ = _
            simp only [Act.put, List.setIfInBounds_toArray, List.set_cons_zero, List.set_cons_succ, i64_w, i32_w]
            rfl
          refine pure_ (i := 6) (N := some 82) (v := ?_) (a' := ?_) #[true, true, true, true, true, true, true, false, false, false] rfl rfl (by kernel_rfl) (fun _ _ _ h => h) (Or.inl ⟨by rfl, ?_⟩) ?_ ?_
          rotate_left
          · intro w'
            go_simp
            with_reducible rfl
          rotate_left
          · simp only [Act.put, List.setIfInBounds_toArray, List.set_cons_zero, List.set_cons_succ, i64_w, i32_w]
            rfl
          refine pure_ (i := 7) (N := some 83) (v := ?_) (a' := ?_) #[true, true, true, true, true, true, true, true, false, false] rfl rfl (by kernel_rfl) (fun _ _ _ h => h) (Or.inl ⟨by rfl, ?_⟩) ?_ ?_
          rotate_left
          · intro w'
            go_simp
            with_reducible rfl
          rotate_left
          · simp only [Act.put, List.setIfInBounds_toArray, List.set_cons_zero, List.set_cons_succ, i64_w, i32_w]
            rfl
          refine pure_ (i := 8) (N := some 84) (v := undef) (a' := _) #[true, true, true, true, true, true, true, true, true, false] rfl rfl (by kernel_rfl) (fun _ _ _ h => h) (Or.inr ⟨by rfl, rfl⟩) rfl ?_
          refine norm_ (a' := ?_) ?_ ?_
          rotate_left
          · show Act.put _ (some 84) _ = _
            simp only [Act.put, List.setIfInBounds_toArray, List.set_cons_zero, List.set_cons_succ, i64_w, i32_w]
            rfl
          refine pure_ (i := 9) (N := some 85) (v := ?_) (a' := ?_) #[true, true, true, true, true, true, true, true, true, true] rfl rfl (by kernel_rfl) (fun _ _ _ h => h) (Or.inl ⟨by rfl, ?_⟩) ?_ ?_
          rotate_left
          · intro w'
            go_simp
            with_reducible rfl
          rotate_left
          · simp only [Act.put, List.setIfInBounds_toArray, List.set_cons_zero, List.set_cons_succ, i64_w, i32_w]
            rfl
          refine done_ (by kernel_rfl) ?_
          have HK1 := Aside0.mk (HP4.out.next hHeld).keep
          have HM1 := Aside0.mk (HP4.out.next hHeld).imap
          have HI1 := Aside0.mk (HI4.out.below hHeld)
          have HB1 := Aside0.mk (HP4.out.next hHeld).below
          replace BS := Aside0.mk (blk_below BS.out hHeld)
          clear HI4 hHeld k1
          have HS1 : Aside0 (stepF L t ck r F = F) := ⟨by unfold stepF; rw [HQB.out]; rw [Bool.false_and]; rfl⟩
          have qr : (r != r) = false := bne_self_eq_false _
          go_upto_region 20 with (fail)
          refine start_ (n := 8) (S := fun W => Below w.heap.size w W ∧ W.heap[g]? = some (.cells #[.int .i64 1, .int .i64 t, .int .i64 ck] 46 (0, 0))) (ds := []) #[false, false, false, false, false, false, false, false] (by kernel_rfl) rfl rfl (⟨HB1.out.trans ((below_drew1 (Below.refl w5.heap.size w5)).mono HB1.out.size), blk_drew BS.out⟩) (fun hHeld => ?_)
          refine pure_ (i := 0) (N := some 91) (v := ?_) (a' := ?_) #[true, false, false, false, false, false, false, false] rfl rfl (by kernel_rfl) (fun _ _ _ h => h) (Or.inl ⟨by rfl, ?_⟩) ?_ ?_
          rotate_left
          · intro w'
            go_simp
            with_reducible rfl
          rotate_left
          · simp only [Act.put, List.setIfInBounds_toArray, List.set_cons_zero, List.set_cons_succ, i64_w, i32_w]
            rfl
          refine pure_ (i := 1) (N := some 92) (v := ?_) (a' := ?_) #[true, true, false, false, false, false, false, false] rfl rfl (by kernel_rfl) (fun _ _ _ h => h) (Or.inl ⟨by rfl, ?_⟩) ?_ ?_
          rotate_left
          · intro w'
            go_simp
            with_reducible rfl
          rotate_left
          · simp only [Act.put, List.setIfInBounds_toArray, List.set_cons_zero, List.set_cons_succ, i64_w, i32_w]
            rfl
          refine take_ (i := 2) (N := some 93) (v := ?_) (a' := ?_) #[true, true, true, false, false, false, false, false] rfl rfl (by kernel_rfl) (fun _ _ _ h => h) (Or.inl ⟨by rfl, ?_⟩) hHeld ?_ ?_
          rotate_left
          · rintro w' ⟨s0, s1⟩
            have k1 : w'.cell? ⟨g, 1, none⟩ = some (.int .i64 t) := blk_cell s1 1
            go_simp
            with_reducible rfl
          rotate_left
          · simp only [Act.put, List.setIfInBounds_toArray, List.set_cons_zero, List.set_cons_succ, i64_w, i32_w]
            rfl
          refine take_ (i := 3) (N := some 94) (v := ?_) (a' := ?_) #[true, true, true, true, false, false, false, false] rfl rfl (by kernel_rfl) (fun _ _ _ h => h) (Or.inl ⟨by rfl, ?_⟩) hHeld ?_ ?_
          rotate_left
          · rintro w' ⟨s0, s1⟩
            have k0 : w'.cell? ⟨g, 0, none⟩ = some (.int .i64 1) := blk_cell s1 0
            have k1 : w'.cell? ⟨g, 1, none⟩ = some (.int .i64 t) := blk_cell s1 1
            have k2 : w'.cell? ⟨g, 2, none⟩ = some (.int .i64 ck) := blk_cell s1 2
            go_simp
            with_reducible rfl
          rotate_left
          · simp only [Act.put, List.setIfInBounds_toArray, List.set_cons_zero, List.set_cons_succ, i64_w, i32_w]
            rfl
          refine pure_ (i := 6) (N := some 97) (v := ?_) (a' := ?_) #[true, true, true, true, false, false, true, false] rfl rfl (by kernel_rfl) (fun _ _ _ h => h) (Or.inl ⟨by rfl, ?_⟩) ?_ ?_
          rotate_left
          · intro w'
            go_simp
            with_reducible rfl
          rotate_left
          · simp only [Act.put, List.setIfInBounds_toArray, List.set_cons_zero, List.set_cons_succ, i64_w, i32_w]
            rfl
          refine one_ (i := 4) (N := some 95) #[true, true, true, true, true, false, true, false] rfl rfl (by kernel_rfl) (by decide) (fun K hK => ?_)
          refine goes_ Try.func12 (by kernel_rfl) rfl #[.agg #[.int .i64 1, .int .i64 t, .int .i64 ck]] (by rfl) rfl rfl (by (try simp only [List.map_toArray, List.map_cons, List.map_nil]); first | done | rfl) ?_
          refine (noted_any _ 1 t ck).mono ?_
          rintro e w6 ⟨vn, rfl, hSN, hb⟩
          have hb6 : Below w5.heap.size w5 w6 := (below_drew1 (Below.refl w5.heap.size w5)).trans (hb.mono (Nat.le_refl _))
          have HSN := Aside0.mk hSN
          have HK6 := Aside0.mk (HK1.out.below hb6)
          have HM6 := Aside0.mk (HM1.out.below hb6)
          have HI6 := Aside0.mk (HI1.out.below hb6)
          have HB6 := Aside0.mk (HB1.out.trans (hb6.mono HB1.out.size))
          refine ⟨_, rfl, ?_⟩
          refine hK.out _ _ ⟨HB6.out, blk_below hHeld.2 hb⟩ (fun hHeld => ?_)
          clear hb hb6 hSN
          clear hK K
          refine norm_ (a' := ?_) ?_ ?_
          rotate_left
          · show Act.put _ (some 95) _ = _
            simp only [Act.put, List.setIfInBounds_toArray, List.set_cons_zero, List.set_cons_succ, i64_w, i32_w]
            rfl
          refine one_ (i := 5) (N := some 96) #[true, true, true, true, true, true, true, false] rfl rfl (by kernel_rfl) (by decide) (fun K hK => ?_)
          refine goes_ Try.func7 (by kernel_rfl) rfl #[.pointer (some ⟨B, 0, none⟩), .int .i64 t, vn] (by rfl) rfl rfl (by (try simp only [List.map_toArray, List.map_cons, List.map_nil]); first | done | rfl) ?_
          refine (note_any w.heap.size _ _ B ev mo l t vn (nS t ck) HK6.out HN.out.rise (by have := HN.out.len; have := HG.out; omega) HG.out.1 HG.out.2.2.1 HSN.out (by rw [tot_nS]; decide) HB6.out.size).mono ?_
          rintro e w7 hnd
          obtain ⟨r2, l', rfl, hPn, hK7, hBs, hBl⟩ := hnd.out
          obtain ⟨hr2, hInv⟩ := HN.out.note HG.out.2.2.1 hPn HWF.out.1 HWF.out.2
          rw [HR2.out] at hr2
          subst hr2
          rw [HR1.out, HS1.out] at hInv
          have HP7 := Aside0.mk (PL.mk (w := w) hK7 hInv (HI6.out.beside hBs) (HM6.out.beside hBs) (HB6.out.trans hBl) HP4.out.hM)
          refine ⟨_, rfl, ?_⟩
          refine hK.out _ _ ⟨HB6.out.trans hBl, hBs.get hHeld.2 (by decide) (by decide)⟩ (fun hHeld => ?_)
          clear hnd hPn hK7 hBs hBl hInv
          clear hK K
          refine norm_ (a' := ?_) ?_ ?_
          rotate_left
          · show Act.put _ (some 96) _ = _
            simp only [Act.put, List.setIfInBounds_toArray, List.set_cons_zero, List.set_cons_succ, i64_w, i32_w]
            rfl
          refine pure_ (i := 7) (N := some 98) (v := ?_) (a' := ?_) #[true, true, true, true, true, true, true, true] rfl rfl (by kernel_rfl) (fun _ _ _ h => h) (Or.inl ⟨by rfl, ?_⟩) ?_ ?_
          rotate_left
          · intro w'
            go_simp
            with_reducible rfl
          rotate_left
          · simp only [Act.put, List.setIfInBounds_toArray, List.set_cons_zero, List.set_cons_succ, i64_w, i32_w]
            rfl
          refine done_ (by kernel_rfl) ?_
          clear BS HK1 HM1 HI1 HB1 hHeld HK6 HM6 HI6 HB6 HSN
          go_wp2_with (go_at_call 15; refine Hold.out ?_)
          refine ⟨?_⟩
          refine (is_any w.heap.size _ _ B ev mo _ _ _ M _ _ at_ HP7.out.keep HP7.out.ints HP7.out.imap HP7.out.inv (by have := HG.out; omega)).mono ?_
          rintro e w8 ⟨rfl, hb⟩
          have HP8 := Aside0.mk (HP7.out.next hb)
          clear hb
          go_wp2
          go_roundw
          case rel => exact ⟨k + 1, _, _, _, _, _, rfl, by go_num, HLT.out, ⟨Nat.le_succ_of_le HNK.out, HP8.out⟩⟩
          case measure => have := HLT.out; simp [intOf]; omega
        · have q : (nearL L t != t) = true := bne_iff_ne.2 hq
          have HQB := Aside0.mk q
          clear hq
          cases r with
          | false =>
            refine start_ (n := 10) (S := fun W => Below w4.heap.size w4 W) (ds := []) #[false, false, false, false, false, false, false, false, false, false] (by kernel_rfl) rfl rfl (below_drew1 (Below.refl _ _)) (fun hHeld => ?_)
            refine pure_ (i := 0) (N := some 76) (v := ?_) (a' := ?_) #[true, false, false, false, false, false, false, false, false, false] rfl rfl (by kernel_rfl) (fun _ _ _ h => h) (Or.inl ⟨by rfl, ?_⟩) ?_ ?_
            rotate_left
            · intro w'
              go_simp
              with_reducible rfl
            rotate_left
            · simp only [Act.put, List.setIfInBounds_toArray, List.set_cons_zero, List.set_cons_succ, i64_w, i32_w]
              rfl
            refine pure_ (i := 1) (N := some 77) (v := ?_) (a' := ?_) #[true, true, false, false, false, false, false, false, false, false] rfl rfl (by kernel_rfl) (fun _ _ _ h => h) (Or.inl ⟨by rfl, ?_⟩) ?_ ?_
            rotate_left
            · intro w'
              go_simp
              with_reducible rfl
            rotate_left
            · simp only [Act.put, List.setIfInBounds_toArray, List.set_cons_zero, List.set_cons_succ, i64_w, i32_w]
              rfl
            refine take_ (i := 2) (N := some 78) (v := ?_) (a' := ?_) #[true, true, true, false, false, false, false, false, false, false] rfl rfl (by kernel_rfl) (fun _ _ _ h => h) (Or.inl ⟨by rfl, ?_⟩) hHeld ?_ ?_
            rotate_left
            · rintro w' s0
              have e := pw_cell_below s0 k1
              go_simp
              with_reducible rfl
            rotate_left
            · simp only [Act.put, List.setIfInBounds_toArray, List.set_cons_zero, List.set_cons_succ, i64_w, i32_w]
              rfl
            refine pure_ (i := 4) (N := some 80) (v := ?_) (a' := ?_) #[true, true, true, false, true, false, false, false, false, false] rfl rfl (by kernel_rfl) (fun _ _ _ h => h) (Or.inl ⟨by rfl, ?_⟩) ?_ ?_
            rotate_left
            · intro w'
              go_simp
              with_reducible rfl
            rotate_left
            · simp only [Act.put, List.setIfInBounds_toArray, List.set_cons_zero, List.set_cons_succ, i64_w, i32_w]
              rfl
            refine take_ (i := 5) (N := some 81) (v := ?_) (a' := ?_) #[true, true, true, false, true, true, false, false, false, false] rfl rfl (by kernel_rfl) (fun _ _ _ h => h) (Or.inl ⟨by rfl, ?_⟩) hHeld ?_ ?_
            rotate_left
            · rintro w' s0
              have e := pw_cell_below s0 k1
              go_simp
              with_reducible rfl
            rotate_left
            · simp only [Act.put, List.setIfInBounds_toArray, List.set_cons_zero, List.set_cons_succ, i64_w, i32_w]
              rfl
            refine one_ (i := 3) (N := some 79) #[true, true, true, true, true, true, false, false, false, false] rfl rfl (by kernel_rfl) (by decide) (fun K hK => ?_)
            refine goes_ Try.func11 (by kernel_rfl) rfl #[v, .int .i64 t] (by rfl) rfl rfl (by (try simp only [List.map_toArray, List.map_cons, List.map_nil]); first | done | rfl) ?_
            refine (refNear_any _ _ L t (HP4.out.ints.below hHeld) (by have := HN.out.length; have := HN.out.len; have := HG.out; omega)).mono ?_
            rintro e w5 ⟨rfl, hb⟩
            refine ⟨_, rfl, ?_⟩
            refine hK.out _ _ (hHeld.trans (hb.mono hHeld.size)) (fun hHeld => ?_)
            clear hb
            clear hK K
            refine norm_ (a' := ?_) ?_ ?_
            rotate_left
            · show Act.put _ (some 79) _ = _
              simp only [Act.put, List.setIfInBounds_toArray, List.set_cons_zero, List.set_cons_succ, i64_w, i32_w]
              rfl
            refine pure_ (i := 6) (N := some 82) (v := ?_) (a' := ?_) #[true, true, true, true, true, true, true, false, false, false] rfl rfl (by kernel_rfl) (fun _ _ _ h => h) (Or.inl ⟨by rfl, ?_⟩) ?_ ?_
            rotate_left
            · intro w'
              go_simp
              with_reducible rfl
            rotate_left
            · simp only [Act.put, List.setIfInBounds_toArray, List.set_cons_zero, List.set_cons_succ, i64_w, i32_w]
              rfl
            refine pure_ (i := 7) (N := some 83) (v := ?_) (a' := ?_) #[true, true, true, true, true, true, true, true, false, false] rfl rfl (by kernel_rfl) (fun _ _ _ h => h) (Or.inl ⟨by rfl, ?_⟩) ?_ ?_
            rotate_left
            · intro w'
              go_simp
              with_reducible rfl
            rotate_left
            · simp only [Act.put, List.setIfInBounds_toArray, List.set_cons_zero, List.set_cons_succ, i64_w, i32_w]
              rfl
            refine pure_ (i := 8) (N := some 84) (v := ?_) (a' := ?_) #[true, true, true, true, true, true, true, true, true, false] rfl rfl (by kernel_rfl) (fun _ _ _ h => h) (Or.inl ⟨by rfl, ?_⟩) ?_ ?_
            rotate_left
            · intro w'
              go_simp
              with_reducible rfl
            rotate_left
            · simp only [Act.put, List.setIfInBounds_toArray, List.set_cons_zero, List.set_cons_succ, i64_w, i32_w]
              rfl
            refine pure_ (i := 9) (N := some 85) (v := ?_) (a' := ?_) #[true, true, true, true, true, true, true, true, true, true] rfl rfl (by kernel_rfl) (fun _ _ _ h => h) (Or.inl ⟨by rfl, ?_⟩) ?_ ?_
            rotate_left
            · intro w'
              go_simp
              with_reducible rfl
            rotate_left
            · simp only [Act.put, List.setIfInBounds_toArray, List.set_cons_zero, List.set_cons_succ, i64_w, i32_w]
              rfl
            refine done_ (by kernel_rfl) ?_
            have HK1 := Aside0.mk (HP4.out.next hHeld).keep
            have HM1 := Aside0.mk (HP4.out.next hHeld).imap
            have HI1 := Aside0.mk (HI4.out.below hHeld)
            have HB1 := Aside0.mk (HP4.out.next hHeld).below
            replace BS := Aside0.mk (blk_below BS.out hHeld)
            clear HI4 hHeld k1
            have HS1 : Aside0 (stepF L t ck false F = F) := ⟨by unfold stepF; rw [HQB.out]; rfl⟩
            go_upto_region 20 with (fail)
            refine start_ (n := 8) (S := fun W => Below w.heap.size w W ∧ W.heap[g]? = some (.cells #[.int .i64 1, .int .i64 t, .int .i64 ck] 46 (0, 0))) (ds := []) #[false, false, false, false, false, false, false, false] (by kernel_rfl) rfl rfl (⟨HB1.out.trans ((below_drew1 (Below.refl w5.heap.size w5)).mono HB1.out.size), blk_drew BS.out⟩) (fun hHeld => ?_)
            refine pure_ (i := 0) (N := some 91) (v := ?_) (a' := ?_) #[true, false, false, false, false, false, false, false] rfl rfl (by kernel_rfl) (fun _ _ _ h => h) (Or.inl ⟨by rfl, ?_⟩) ?_ ?_
            rotate_left
            · intro w'
              go_simp
              with_reducible rfl
            rotate_left
            · simp only [Act.put, List.setIfInBounds_toArray, List.set_cons_zero, List.set_cons_succ, i64_w, i32_w]
              rfl
            refine pure_ (i := 1) (N := some 92) (v := ?_) (a' := ?_) #[true, true, false, false, false, false, false, false] rfl rfl (by kernel_rfl) (fun _ _ _ h => h) (Or.inl ⟨by rfl, ?_⟩) ?_ ?_
            rotate_left
            · intro w'
              go_simp
              with_reducible rfl
            rotate_left
            · simp only [Act.put, List.setIfInBounds_toArray, List.set_cons_zero, List.set_cons_succ, i64_w, i32_w]
              rfl
            refine take_ (i := 2) (N := some 93) (v := ?_) (a' := ?_) #[true, true, true, false, false, false, false, false] rfl rfl (by kernel_rfl) (fun _ _ _ h => h) (Or.inl ⟨by rfl, ?_⟩) hHeld ?_ ?_
            rotate_left
            · rintro w' ⟨s0, s1⟩
              have k1 : w'.cell? ⟨g, 1, none⟩ = some (.int .i64 t) := blk_cell s1 1
              go_simp
              with_reducible rfl
            rotate_left
            · simp only [Act.put, List.setIfInBounds_toArray, List.set_cons_zero, List.set_cons_succ, i64_w, i32_w]
              rfl
            refine take_ (i := 3) (N := some 94) (v := ?_) (a' := ?_) #[true, true, true, true, false, false, false, false] rfl rfl (by kernel_rfl) (fun _ _ _ h => h) (Or.inl ⟨by rfl, ?_⟩) hHeld ?_ ?_
            rotate_left
            · rintro w' ⟨s0, s1⟩
              have k0 : w'.cell? ⟨g, 0, none⟩ = some (.int .i64 1) := blk_cell s1 0
              have k1 : w'.cell? ⟨g, 1, none⟩ = some (.int .i64 t) := blk_cell s1 1
              have k2 : w'.cell? ⟨g, 2, none⟩ = some (.int .i64 ck) := blk_cell s1 2
              go_simp
              with_reducible rfl
            rotate_left
            · simp only [Act.put, List.setIfInBounds_toArray, List.set_cons_zero, List.set_cons_succ, i64_w, i32_w]
              rfl
            refine pure_ (i := 6) (N := some 97) (v := ?_) (a' := ?_) #[true, true, true, true, false, false, true, false] rfl rfl (by kernel_rfl) (fun _ _ _ h => h) (Or.inl ⟨by rfl, ?_⟩) ?_ ?_
            rotate_left
            · intro w'
              go_simp
              with_reducible rfl
            rotate_left
            · simp only [Act.put, List.setIfInBounds_toArray, List.set_cons_zero, List.set_cons_succ, i64_w, i32_w]
              rfl
            refine one_ (i := 4) (N := some 95) #[true, true, true, true, true, false, true, false] rfl rfl (by kernel_rfl) (by decide) (fun K hK => ?_)
            refine goes_ Try.func12 (by kernel_rfl) rfl #[.agg #[.int .i64 1, .int .i64 t, .int .i64 ck]] (by rfl) rfl rfl (by (try simp only [List.map_toArray, List.map_cons, List.map_nil]); first | done | rfl) ?_
            refine (noted_any _ 1 t ck).mono ?_
            rintro e w6 ⟨vn, rfl, hSN, hb⟩
            have hb6 : Below w5.heap.size w5 w6 := (below_drew1 (Below.refl w5.heap.size w5)).trans (hb.mono (Nat.le_refl _))
            have HSN := Aside0.mk hSN
            have HK6 := Aside0.mk (HK1.out.below hb6)
            have HM6 := Aside0.mk (HM1.out.below hb6)
            have HI6 := Aside0.mk (HI1.out.below hb6)
            have HB6 := Aside0.mk (HB1.out.trans (hb6.mono HB1.out.size))
            refine ⟨_, rfl, ?_⟩
            refine hK.out _ _ ⟨HB6.out, blk_below hHeld.2 hb⟩ (fun hHeld => ?_)
            clear hb hb6 hSN
            clear hK K
            refine norm_ (a' := ?_) ?_ ?_
            rotate_left
            · show Act.put _ (some 95) _ = _
              simp only [Act.put, List.setIfInBounds_toArray, List.set_cons_zero, List.set_cons_succ, i64_w, i32_w]
              rfl
            refine one_ (i := 5) (N := some 96) #[true, true, true, true, true, true, true, false] rfl rfl (by kernel_rfl) (by decide) (fun K hK => ?_)
            refine goes_ Try.func7 (by kernel_rfl) rfl #[.pointer (some ⟨B, 0, none⟩), .int .i64 t, vn] (by rfl) rfl rfl (by (try simp only [List.map_toArray, List.map_cons, List.map_nil]); first | done | rfl) ?_
            refine (note_any w.heap.size _ _ B ev mo l t vn (nS t ck) HK6.out HN.out.rise (by have := HN.out.len; have := HG.out; omega) HG.out.1 HG.out.2.2.1 HSN.out (by rw [tot_nS]; decide) HB6.out.size).mono ?_
            rintro e w7 hnd
            obtain ⟨r2, l', rfl, hPn, hK7, hBs, hBl⟩ := hnd.out
            obtain ⟨hr2, hInv⟩ := HN.out.note HG.out.2.2.1 hPn HWF.out.1 HWF.out.2
            rw [HR2.out] at hr2
            subst hr2
            rw [HR1.out, HS1.out] at hInv
            have HP7 := Aside0.mk (PL.mk (w := w) hK7 hInv (HI6.out.beside hBs) (HM6.out.beside hBs) (HB6.out.trans hBl) HP4.out.hM)
            refine ⟨_, rfl, ?_⟩
            refine hK.out _ _ ⟨HB6.out.trans hBl, hBs.get hHeld.2 (by decide) (by decide)⟩ (fun hHeld => ?_)
            clear hnd hPn hK7 hBs hBl hInv
            clear hK K
            refine norm_ (a' := ?_) ?_ ?_
            rotate_left
            · show Act.put _ (some 96) _ = _
              simp only [Act.put, List.setIfInBounds_toArray, List.set_cons_zero, List.set_cons_succ, i64_w, i32_w]
              rfl
            refine pure_ (i := 7) (N := some 98) (v := ?_) (a' := ?_) #[true, true, true, true, true, true, true, true] rfl rfl (by kernel_rfl) (fun _ _ _ h => h) (Or.inl ⟨by rfl, ?_⟩) ?_ ?_
            rotate_left
            · intro w'
              go_simp
              with_reducible rfl
            rotate_left
            · simp only [Act.put, List.setIfInBounds_toArray, List.set_cons_zero, List.set_cons_succ, i64_w, i32_w]
              rfl
            refine done_ (by kernel_rfl) ?_
            clear BS HK1 HM1 HI1 HB1 hHeld HK6 HM6 HI6 HB6 HSN
            go_wp2_with (go_at_call 15; refine Hold.out ?_)
            refine ⟨?_⟩
            refine (is_any w.heap.size _ _ B ev mo _ _ _ M _ _ at_ HP7.out.keep HP7.out.ints HP7.out.imap HP7.out.inv (by have := HG.out; omega)).mono ?_
            rintro e w8 ⟨rfl, hb⟩
            have HP8 := Aside0.mk (HP7.out.next hb)
            clear hb
            go_wp2
            go_roundw
            case rel => exact ⟨k + 1, _, _, _, _, _, rfl, by go_num, HLT.out, ⟨Nat.le_succ_of_le HNK.out, HP8.out⟩⟩
            case measure => have := HLT.out; simp [intOf]; omega
          | true =>
            refine start_ (n := 10) (S := fun W => Below w4.heap.size w4 W) (ds := []) #[false, false, false, false, false, false, false, false, false, false] (by kernel_rfl) rfl rfl (below_drew1 (Below.refl _ _)) (fun hHeld => ?_)
            refine pure_ (i := 0) (N := some 76) (v := ?_) (a' := ?_) #[true, false, false, false, false, false, false, false, false, false] rfl rfl (by kernel_rfl) (fun _ _ _ h => h) (Or.inl ⟨by rfl, ?_⟩) ?_ ?_
            rotate_left
            · intro w'
              go_simp
              with_reducible rfl
            rotate_left
            · simp only [Act.put, List.setIfInBounds_toArray, List.set_cons_zero, List.set_cons_succ, i64_w, i32_w]
              rfl
            refine pure_ (i := 1) (N := some 77) (v := ?_) (a' := ?_) #[true, true, false, false, false, false, false, false, false, false] rfl rfl (by kernel_rfl) (fun _ _ _ h => h) (Or.inl ⟨by rfl, ?_⟩) ?_ ?_
            rotate_left
            · intro w'
              go_simp
              with_reducible rfl
            rotate_left
            · simp only [Act.put, List.setIfInBounds_toArray, List.set_cons_zero, List.set_cons_succ, i64_w, i32_w]
              rfl
            refine take_ (i := 2) (N := some 78) (v := ?_) (a' := ?_) #[true, true, true, false, false, false, false, false, false, false] rfl rfl (by kernel_rfl) (fun _ _ _ h => h) (Or.inl ⟨by rfl, ?_⟩) hHeld ?_ ?_
            rotate_left
            · rintro w' s0
              have e := pw_cell_below s0 k1
              go_simp
              with_reducible rfl
            rotate_left
            · simp only [Act.put, List.setIfInBounds_toArray, List.set_cons_zero, List.set_cons_succ, i64_w, i32_w]
              rfl
            refine pure_ (i := 4) (N := some 80) (v := ?_) (a' := ?_) #[true, true, true, false, true, false, false, false, false, false] rfl rfl (by kernel_rfl) (fun _ _ _ h => h) (Or.inl ⟨by rfl, ?_⟩) ?_ ?_
            rotate_left
            · intro w'
              go_simp
              with_reducible rfl
            rotate_left
            · simp only [Act.put, List.setIfInBounds_toArray, List.set_cons_zero, List.set_cons_succ, i64_w, i32_w]
              rfl
            refine take_ (i := 5) (N := some 81) (v := ?_) (a' := ?_) #[true, true, true, false, true, true, false, false, false, false] rfl rfl (by kernel_rfl) (fun _ _ _ h => h) (Or.inl ⟨by rfl, ?_⟩) hHeld ?_ ?_
            rotate_left
            · rintro w' s0
              have e := pw_cell_below s0 k1
              go_simp
              with_reducible rfl
            rotate_left
            · simp only [Act.put, List.setIfInBounds_toArray, List.set_cons_zero, List.set_cons_succ, i64_w, i32_w]
              rfl
            refine one_ (i := 3) (N := some 79) #[true, true, true, true, true, true, false, false, false, false] rfl rfl (by kernel_rfl) (by decide) (fun K hK => ?_)
            refine goes_ Try.func11 (by kernel_rfl) rfl #[v, .int .i64 t] (by rfl) rfl rfl (by (try simp only [List.map_toArray, List.map_cons, List.map_nil]); first | done | rfl) ?_
            refine (refNear_any _ _ L t (HP4.out.ints.below hHeld) (by have := HN.out.length; have := HN.out.len; have := HG.out; omega)).mono ?_
            rintro e w5 ⟨rfl, hb⟩
            refine ⟨_, rfl, ?_⟩
            refine hK.out _ _ (hHeld.trans (hb.mono hHeld.size)) (fun hHeld => ?_)
            clear hb
            clear hK K
            refine norm_ (a' := ?_) ?_ ?_
            rotate_left
            · show Act.put _ (some 79) _ = _
              simp only [Act.put, List.setIfInBounds_toArray, List.set_cons_zero, List.set_cons_succ, i64_w, i32_w]
              rfl
            refine pure_ (i := 6) (N := some 82) (v := ?_) (a' := ?_) #[true, true, true, true, true, true, true, false, false, false] rfl rfl (by kernel_rfl) (fun _ _ _ h => h) (Or.inl ⟨by rfl, ?_⟩) ?_ ?_
            rotate_left
            · intro w'
              go_simp
              with_reducible rfl
            rotate_left
            · simp only [Act.put, List.setIfInBounds_toArray, List.set_cons_zero, List.set_cons_succ, i64_w, i32_w]
              rfl
            refine pure_ (i := 7) (N := some 83) (v := ?_) (a' := ?_) #[true, true, true, true, true, true, true, true, false, false] rfl rfl (by kernel_rfl) (fun _ _ _ h => h) (Or.inl ⟨by rfl, ?_⟩) ?_ ?_
            rotate_left
            · intro w'
              go_simp
              with_reducible rfl
            rotate_left
            · simp only [Act.put, List.setIfInBounds_toArray, List.set_cons_zero, List.set_cons_succ, i64_w, i32_w]
              rfl
            refine pure_ (i := 8) (N := some 84) (v := ?_) (a' := ?_) #[true, true, true, true, true, true, true, true, true, false] rfl rfl (by kernel_rfl) (fun _ _ _ h => h) (Or.inl ⟨by rfl, ?_⟩) ?_ ?_
            rotate_left
            · intro w'
              go_simp
              with_reducible rfl
            rotate_left
            · simp only [Act.put, List.setIfInBounds_toArray, List.set_cons_zero, List.set_cons_succ, i64_w, i32_w]
              rfl
            refine pure_ (i := 9) (N := some 85) (v := ?_) (a' := ?_) #[true, true, true, true, true, true, true, true, true, true] rfl rfl (by kernel_rfl) (fun _ _ _ h => h) (Or.inl ⟨by rfl, ?_⟩) ?_ ?_
            rotate_left
            · intro w'
              go_simp
              with_reducible rfl
            rotate_left
            · simp only [Act.put, List.setIfInBounds_toArray, List.set_cons_zero, List.set_cons_succ, i64_w, i32_w]
              rfl
            refine done_ (by kernel_rfl) ?_
            have HP5 := Aside0.mk (HP4.out.next hHeld)
            replace BS := Aside0.mk (blk_below BS.out hHeld)
            have HI5 := Aside0.mk (HI4.out.below hHeld)
            have k1 := blk_cell BS.out 1
            have k2 := blk_cell BS.out 2
            clear HI4 hHeld
            obtain ⟨w6, hrun, hk6, hm6, hb6, hkp⟩ := HP5.out.upd (by have := HNK.out; have := HLT.out; have := HLEN.out; omega) HWF.out.1 HWF.out.2
            have HRUN := Aside0.mk hrun
            have HK1 := Aside0.mk hk6
            have HM1 := Aside0.mk hm6
            have HB1 := Aside0.mk hb6
            have HI1 := Aside0.mk (HI5.out.move (fun k c hk => hkp k c 3 hk))
            replace BS := Aside0.mk (hkp _ _ _ BS.out)
            clear hrun hk6 hm6 hb6 hkp HI5 HP5
            go_wp2_with (at_mapUpdate; refine Hold.out ?_)
            refine ⟨?_⟩
            refine mapUpd_L (t := 44) (M := M) rfl rfl rfl rfl rfl rfl HRUN.out ?_
            clear HRUN k1 k2
            generalize w5 = wzz at *
            obtain ⟨w5, hw5⟩ : ∃ z, z = w6 := ⟨_, rfl⟩
            rw [← hw5] at HK1 HM1 HB1 HI1 BS ⊢
            clear hw5
            have HS1 : Aside0 (stepF L t ck true F = fun k => if k = t then ck else F k) := ⟨by unfold stepF; rw [HQB.out]; rfl⟩
            go_upto_region 20 with (fail)
            refine start_ (n := 8) (S := fun W => Below w.heap.size w W ∧ W.heap[g]? = some (.cells #[.int .i64 1, .int .i64 t, .int .i64 ck] 46 (0, 0))) (ds := []) #[false, false, false, false, false, false, false, false] (by kernel_rfl) rfl rfl (⟨HB1.out.trans ((below_drew1 (Below.refl w5.heap.size w5)).mono HB1.out.size), blk_drew BS.out⟩) (fun hHeld => ?_)
            refine pure_ (i := 0) (N := some 91) (v := ?_) (a' := ?_) #[true, false, false, false, false, false, false, false] rfl rfl (by kernel_rfl) (fun _ _ _ h => h) (Or.inl ⟨by rfl, ?_⟩) ?_ ?_
            rotate_left
            · intro w'
              go_simp
              with_reducible rfl
            rotate_left
            · simp only [Act.put, List.setIfInBounds_toArray, List.set_cons_zero, List.set_cons_succ, i64_w, i32_w]
              rfl
            refine pure_ (i := 1) (N := some 92) (v := ?_) (a' := ?_) #[true, true, false, false, false, false, false, false] rfl rfl (by kernel_rfl) (fun _ _ _ h => h) (Or.inl ⟨by rfl, ?_⟩) ?_ ?_
            rotate_left
            · intro w'
              go_simp
              with_reducible rfl
            rotate_left
            · simp only [Act.put, List.setIfInBounds_toArray, List.set_cons_zero, List.set_cons_succ, i64_w, i32_w]
              rfl
            refine take_ (i := 2) (N := some 93) (v := ?_) (a' := ?_) #[true, true, true, false, false, false, false, false] rfl rfl (by kernel_rfl) (fun _ _ _ h => h) (Or.inl ⟨by rfl, ?_⟩) hHeld ?_ ?_
            rotate_left
            · rintro w' ⟨s0, s1⟩
              have k1 : w'.cell? ⟨g, 1, none⟩ = some (.int .i64 t) := blk_cell s1 1
              go_simp
              with_reducible rfl
            rotate_left
            · simp only [Act.put, List.setIfInBounds_toArray, List.set_cons_zero, List.set_cons_succ, i64_w, i32_w]
              rfl
            refine take_ (i := 3) (N := some 94) (v := ?_) (a' := ?_) #[true, true, true, true, false, false, false, false] rfl rfl (by kernel_rfl) (fun _ _ _ h => h) (Or.inl ⟨by rfl, ?_⟩) hHeld ?_ ?_
            rotate_left
            · rintro w' ⟨s0, s1⟩
              have k0 : w'.cell? ⟨g, 0, none⟩ = some (.int .i64 1) := blk_cell s1 0
              have k1 : w'.cell? ⟨g, 1, none⟩ = some (.int .i64 t) := blk_cell s1 1
              have k2 : w'.cell? ⟨g, 2, none⟩ = some (.int .i64 ck) := blk_cell s1 2
              go_simp
              with_reducible rfl
            rotate_left
            · simp only [Act.put, List.setIfInBounds_toArray, List.set_cons_zero, List.set_cons_succ, i64_w, i32_w]
              rfl
            refine pure_ (i := 6) (N := some 97) (v := ?_) (a' := ?_) #[true, true, true, true, false, false, true, false] rfl rfl (by kernel_rfl) (fun _ _ _ h => h) (Or.inl ⟨by rfl, ?_⟩) ?_ ?_
            rotate_left
            · intro w'
              go_simp
              with_reducible rfl
            rotate_left
            · simp only [Act.put, List.setIfInBounds_toArray, List.set_cons_zero, List.set_cons_succ, i64_w, i32_w]
              rfl
            refine one_ (i := 4) (N := some 95) #[true, true, true, true, true, false, true, false] rfl rfl (by kernel_rfl) (by decide) (fun K hK => ?_)
            refine goes_ Try.func12 (by kernel_rfl) rfl #[.agg #[.int .i64 1, .int .i64 t, .int .i64 ck]] (by rfl) rfl rfl (by (try simp only [List.map_toArray, List.map_cons, List.map_nil]); first | done | rfl) ?_
            refine (noted_any _ 1 t ck).mono ?_
            rintro e w6 ⟨vn, rfl, hSN, hb⟩
            have hb6 : Below w5.heap.size w5 w6 := (below_drew1 (Below.refl w5.heap.size w5)).trans (hb.mono (Nat.le_refl _))
            have HSN := Aside0.mk hSN
            have HK6 := Aside0.mk (HK1.out.below hb6)
            have HM6 := Aside0.mk (HM1.out.below hb6)
            have HI6 := Aside0.mk (HI1.out.below hb6)
            have HB6 := Aside0.mk (HB1.out.trans (hb6.mono HB1.out.size))
            refine ⟨_, rfl, ?_⟩
            refine hK.out _ _ ⟨HB6.out, blk_below hHeld.2 hb⟩ (fun hHeld => ?_)
            clear hb hb6 hSN
            clear hK K
            refine norm_ (a' := ?_) ?_ ?_
            rotate_left
            · show Act.put _ (some 95) _ = _
              simp only [Act.put, List.setIfInBounds_toArray, List.set_cons_zero, List.set_cons_succ, i64_w, i32_w]
              rfl
            refine one_ (i := 5) (N := some 96) #[true, true, true, true, true, true, true, false] rfl rfl (by kernel_rfl) (by decide) (fun K hK => ?_)
            refine goes_ Try.func7 (by kernel_rfl) rfl #[.pointer (some ⟨B, 0, none⟩), .int .i64 t, vn] (by rfl) rfl rfl (by (try simp only [List.map_toArray, List.map_cons, List.map_nil]); first | done | rfl) ?_
            refine (note_any w.heap.size _ _ B ev mo l t vn (nS t ck) HK6.out HN.out.rise (by have := HN.out.len; have := HG.out; omega) HG.out.1 HG.out.2.2.1 HSN.out (by rw [tot_nS]; decide) HB6.out.size).mono ?_
            rintro e w7 hnd
            obtain ⟨r2, l', rfl, hPn, hK7, hBs, hBl⟩ := hnd.out
            obtain ⟨hr2, hInv⟩ := HN.out.note HG.out.2.2.1 hPn HWF.out.1 HWF.out.2
            rw [HR2.out] at hr2
            subst hr2
            rw [HR1.out, HS1.out] at hInv
            have HP7 := Aside0.mk (PL.mk (w := w) hK7 hInv (HI6.out.beside hBs) (HM6.out.beside hBs) (HB6.out.trans hBl) HP4.out.hM)
            refine ⟨_, rfl, ?_⟩
            refine hK.out _ _ ⟨HB6.out.trans hBl, hBs.get hHeld.2 (by decide) (by decide)⟩ (fun hHeld => ?_)
            clear hnd hPn hK7 hBs hBl hInv
            clear hK K
            refine norm_ (a' := ?_) ?_ ?_
            rotate_left
            · show Act.put _ (some 96) _ = _
              simp only [Act.put, List.setIfInBounds_toArray, List.set_cons_zero, List.set_cons_succ, i64_w, i32_w]
              rfl
            refine pure_ (i := 7) (N := some 98) (v := ?_) (a' := ?_) #[true, true, true, true, true, true, true, true] rfl rfl (by kernel_rfl) (fun _ _ _ h => h) (Or.inl ⟨by rfl, ?_⟩) ?_ ?_
            rotate_left
            · intro w'
              go_simp
              with_reducible rfl
            rotate_left
            · simp only [Act.put, List.setIfInBounds_toArray, List.set_cons_zero, List.set_cons_succ, i64_w, i32_w]
              rfl
            refine done_ (by kernel_rfl) ?_
            clear BS HK1 HM1 HI1 HB1 hHeld HK6 HM6 HI6 HB6 HSN
            go_wp2_with (go_at_call 15; refine Hold.out ?_)
            refine ⟨?_⟩
            refine (is_any w.heap.size _ _ B ev mo _ _ _ M _ _ at_ HP7.out.keep HP7.out.ints HP7.out.imap HP7.out.inv (by have := HG.out; omega)).mono ?_
            rintro e w8 ⟨rfl, hb⟩
            have HP8 := Aside0.mk (HP7.out.next hb)
            clear hb
            go_wp2
            go_roundw
            case rel => exact ⟨k + 1, _, _, _, _, _, rfl, by go_num, HLT.out, ⟨Nat.succ_le_succ HNK.out, HP8.out⟩⟩
            case measure => have := HLT.out; simp [intOf]; omega
      · by_cases h2 : kd = 2
        · have q1 : (kd == 1) = false := beq_eq_false_iff_ne.2 h1
          clear h1
          subst h2
          generalize hW2 : wr.alloc (.cells #[.int .i64 2, .int .i64 t, .int .i64 ck] 46) = W2 at HPA BSA
          have HW2 := Aside0.mk hW2
          clear hW2
          go_wp2_with (go_at_call 13; refine Hold.out ?_)
          refine ⟨?_⟩
          rw [HW2.out]
          refine (cut_any w.heap.size _ _ B ev mo l t HPA.out.keep (by have := HN.out.len; have := HG.out; omega) HPA.out.below.size).mono ?_
          rintro e w3 ⟨rfl, hK3, hBs, hBl⟩
          have HK3 := Aside0.mk hK3
          have HM3 := Aside0.mk (HPA.out.imap.beside hBs)
          have HI3 := Aside0.mk (HPA.out.ints.beside hBs)
          have HB3 := Aside0.mk (HPA.out.below.trans hBl)
          have BS := Aside0.mk (hBs.get BSA.out (by decide) (by decide))
          have HMM := Aside0.mk HPA.out.hM
          have k1 := blk_cell BS.out 1
          clear hK3 hBs hBl HPA BSA HW2
          go_wp2_with (go_at_call 14; refine Hold.out ?_)
          refine ⟨?_⟩
          refine (refCut_any _ _ L t HI3.out (by have := HN.out.length; have := HN.out.len; have := HG.out; omega)).mono ?_
          rintro e w4 ⟨v', rfl, hI, hb⟩
          have HP7 := Aside0.mk (PL.mk (w := w) (HK3.out.below hb) (HN.out.cut t) hI (HM3.out.below hb) (HB3.out.trans (hb.mono HB3.out.size)) HMM.out)
          clear hI hb HK3 HM3 HI3 HB3 BS k1
          go_wp2_with (go_at_call 15; refine Hold.out ?_)
          refine ⟨?_⟩
          refine (is_any w.heap.size _ _ B ev mo _ _ _ M _ _ at_ HP7.out.keep HP7.out.ints HP7.out.imap HP7.out.inv (by have := HG.out; omega)).mono ?_
          rintro e w8 ⟨rfl, hb⟩
          have HP8 := Aside0.mk (HP7.out.next hb)
          clear hb
          go_wp2
          go_roundw
          case rel => exact ⟨k + 1, _, _, _, _, _, rfl, by go_num, HLT.out, ⟨Nat.le_succ_of_le HNK.out, HP8.out⟩⟩
          case measure => have := HLT.out; simp [intOf]; omega
        · have q1 : (kd == 1) = false := beq_eq_false_iff_ne.2 h1
          have q2 : (kd == 2) = false := beq_eq_false_iff_ne.2 h2
          clear h1 h2
          have HP7 := HPA
          clear HPA BSA
          go_wp2_with (go_at_call 15; refine Hold.out ?_)
          refine ⟨?_⟩
          refine (is_any w.heap.size _ _ B ev mo _ _ _ M _ _ at_ HP7.out.keep HP7.out.ints HP7.out.imap HP7.out.inv (by have := HG.out; omega)).mono ?_
          rintro e w8 ⟨rfl, hb⟩
          have HP8 := Aside0.mk (HP7.out.next hb)
          clear hb
          go_wp2
          go_roundw
          case rel => exact ⟨k + 1, _, _, _, _, _, rfl, by go_num, HLT.out, ⟨Nat.le_succ_of_le HNK.out, HP8.out⟩⟩
          case measure => have := HLT.out; simp [intOf]; omega
    · have hn4 : ¬ ((k : Int) < (xs.length : Int)) := by omega
      clear hlt hk
      go_wp2_with (go_at_call 16; refine Hold.out ?_)
      refine ⟨?_⟩
      refine (caps_any w.heap.size _ _ B ev mo l HP.out.keep).mono ?_
      rintro e w9 ⟨rfl, hb⟩
      have HB9 := Aside0.mk (HP.out.below.trans (hb.mono HP.out.below.size))
      clear hb
      go_wp2
      go_ret
      exact ⟨rfl, HB9.out⟩
end Go.Proofs.Ythadibmgahlpfaa.MD
end
