/- The law's own look at a ring: whether it has just these things; walked, for a ring that has them: it answers true. -/
import Derived.Test.YtejfpnmomlnjhaaParts
import Derived.Test.YtejfpnmomlnjhaaPop
import Derived.Test.YtejfpnmomlnjhaaPRingPlaysx1
namespace Go.Proofs.Ytejfpnmomlnjhaa.RI
open Go.RowKit Go.Shelf Go.Proofs Go.Proofs.YtejfpnmomlnjhaaW.PrintWords Go.Proofs.YtejfpnmomlnjhaaW.PrintMore Go.Proofs.Ytejfpnmomlnjhaa.Plain
attribute [local go_sem] Oper.semAt_some
set_option linter.unusedVariables false
set_option linter.unusedSimpArgs false

/-- The thing at a place of a list, the newest first. -/
def look (L : List Int) (z : Int) : Int × Bool := if 0 ≤ z ∧ z < L.length then (L.getD (L.length - 1 - z.toNat) 0, true) else (0, false)
theorem look_in {L : List Int} {z : Int} (h : 0 ≤ z ∧ z < L.length) : look L z = (L.getD (L.length - 1 - z.toNat) 0, true) := if_pos h
theorem look_out {L : List Int} {z : Int} (h : ¬ (0 ≤ z ∧ z < L.length)) : look L z = (0, false) := if_neg h
theorem at_look (w : World) (b g m f n : Nat) (buf : List Int) (z : Int) (L : List Int) (h : At w b g m f n buf) (hL : con 0 m f n buf = L) :
    Calls Try.prog 10 #[.pointer (some ⟨b, 0, none⟩), .int .i64 z] w fun e w' => e = .returned (.tuple #[.int .i64 (look L z).1, .bool (look L z).2]) ∧ Drawn0 w w' := by
  have hl : L.length = n := by rw [← hL]; exact con_length
  by_cases hz : 0 ≤ z ∧ z < L.length
  · rw [look_in hz]
    obtain ⟨i, rfl⟩ := Int.eq_ofNat_of_zero_le hz.1
    have := at_in w b g m f n buf i h (by omega)
    rw [hL] at this
    rw [hl]
    exact this
  · rw [look_out hz]
    exact at_out w b g m f n buf z h (by omega)
theorem ref_look (w : World) (A : Option Addr) (c : Nat) (z : Int) (L : List Int) (hr : Kd.C (Kd.int .i64) w A L.length L) (hc : L.length ≤ c) (hl : L.length ≤ 1000) (hz : z ≤ 1000) :
    Calls Try.prog 23 #[.slice A L.length c, .int .i64 z] w fun e w' => e = .returned (.tuple #[.int .i64 (look L z).1, .bool (look L z).2]) ∧ Drawn0 w w' := by
  refine PRingPlays.whirligigref20_At.calls A c L z _ _ w hr hc ?_
  unfold PRingPlays.whirligigref20_At.f
  by_cases h0 : z < 0
  · rw [if_pos h0, look_out (by omega)]
  · rw [if_neg h0]
    by_cases h1 : z ≥ (L.length : Int)
    · rw [if_pos h1, look_out (by omega)]
    · rw [if_neg h1]
      have e1 : wrap64 ((L.length : Int) - 1) = (L.length : Int) - 1 := by unfold wrap64; omega
      have e2 : wrap64 ((L.length : Int) - 1 - z) = (L.length : Int) - 1 - z := by unfold wrap64; omega
      rw [e1, e2, if_pos (by omega), if_pos (by omega), look_in (by omega)]
      simp only [rd]
      rw [show ((L.length : Int) - 1 - z).toNat = L.length - 1 - z.toNat by omega]

/-- The three boxes of the look: the list's, the bound's and the answer's. -/
structure Bx (w : World) (sv : Value) (st : Int) (r : Bool) (W : World) : Prop where
  c4 : W.cell? ⟨w.heap.size, 0, none⟩ = some sv
  c5 : W.cell? ⟨w.heap.size + 1, 0, none⟩ = some (.int .i64 st)
  c6 : W.cell? ⟨w.heap.size + 1 + 1, 0, none⟩ = some (.bool r)
  z6 : W.frozen? ⟨w.heap.size + 1 + 1, 0, none⟩ = false
  below : Below w.heap.size w W
  size : w.heap.size + 1 + 1 < W.heap.size
theorem Bx.next {w : World} {sv : Value} {st : Int} {r : Bool} {W W' : World} (h : Bx w sv st r W) (k : Below W.heap.size W W') : Bx w sv st r W' :=
  ⟨(k.cell (p := ⟨w.heap.size, 0, none⟩) (by have := h.size; show w.heap.size < _; omega)).trans h.c4, (k.cell (p := ⟨w.heap.size + 1, 0, none⟩) (by have := h.size; show w.heap.size + 1 < _; omega)).trans h.c5,
   (k.cell (p := ⟨w.heap.size + 1 + 1, 0, none⟩) h.size).trans h.c6, (k.frozen (p := ⟨w.heap.size + 1 + 1, 0, none⟩) h.size).trans h.z6, h.below.trans (k.mono h.below.size), Nat.lt_of_lt_of_le h.size k.size⟩
theorem Bx.set {w : World} {sv : Value} {st : Int} {r : Bool} {W : World} (h : Bx w sv st r W) (v : Bool) : Bx w sv st v (W.setCell ⟨w.heap.size + 1 + 1, 0, none⟩ (.bool v)) :=
  ⟨(setCell_ne (addr_ne_block (by omega)) _).trans h.c4, (setCell_ne (addr_ne_block (by omega)) _).trans h.c5, World.cell?_setCell_same' _ _ _ (by rw [h.c6]; rfl), by rw [World.frozen?_setCell]; exact h.z6,
   h.below.setCell (p := ⟨w.heap.size + 1 + 1, 0, none⟩) (by show w.heap.size ≤ w.heap.size + 1 + 1; omega) _, by simpa using h.size⟩
theorem bx_new (w : World) (sv : Value) (st : Int) : Bx w sv st false (((w.alloc (.cells #[sv] 22)).alloc (.cells #[.int .i64 st] 3)).alloc (.cells #[.bool false] 4)) := by
  refine ⟨?_, ?_, ?_, ?_, (((Below.refl _ w).alloc (Nat.le_refl _) _).alloc (by simp) _).alloc (by simp; omega) _, by simp⟩
  · rw [World.cell?_alloc_lt _ _ _ (by simp; omega), World.cell?_alloc2_first]; rfl
  · rw [World.cell?_alloc_lt _ _ _ (by simp)]
    have e := World.cell?_alloc_new (w := w.alloc (.cells #[sv] 22)) #[.int .i64 st] 3 0
    rw [World.size_alloc] at e
    exact e
  · have e := World.cell?_alloc_new (w := (w.alloc (.cells #[sv] 22)).alloc (.cells #[.int .i64 st] 3)) #[.bool false] 4 0
    rw [World.size_alloc, World.size_alloc] at e
    exact e
  · exact World.frozen?_alloc_at _ _ _ _ (by simp)

/-- The five places that are looked at. -/
def five (n : Nat) : List Int := [-1, 0, 1, (n : Int) - 1, n]
theorem five_le {n k : Nat} (hn : n ≤ 64) (hk : k < 5) : ((five n).getD k 0) ≤ 1000 := by
  match k, hk with
  | 0, _ => show (-1 : Int) ≤ 1000; decide
  | 1, _ => show (0 : Int) ≤ 1000; decide
  | 2, _ => show (1 : Int) ≤ 1000; decide
  | 3, _ => show (n : Int) - 1 ≤ 1000; omega
  | 4, _ => show (n : Int) ≤ 1000; omega

set_option maxRecDepth 100000 in
set_option maxHeartbeats 8000000 in
theorem is_any (w : World) (b g m f n : Nat) (buf : List Int) (A : Option Addr) (c : Nat) (L : List Int) (st : Int) (hat : At w b g m f n buf) (hL : con 0 m f n buf = L) (hr : Kd.C (Kd.int .i64) w A L.length L) (hc : L.length ≤ c) :
    Calls Try.prog 15 #[.pointer (some ⟨b, 0, none⟩), .slice A L.length c, .int .i64 st] w (End w) := by
  have hn : L.length = n := by rw [← hL]; exact con_length
  have h64 : n ≤ 64 := Nat.le_trans hat.nm hat.m64
  obtain rfl := hn
  refine (callsIn_wide (n := 5)).1 ?_
  refine callsIn_of_wp_marks Try.func15 rfl trivial ?_ rfl
  refine wpIn_wide.2 ?_
  simp only [Try.ntmps15, List.size_toArray, List.length_cons, List.length_nil, Nat.reduceAdd, Nat.reduceSub, Array.replicate_succ, Array.replicate_zero, List.push_toArray, List.append_toArray, List.nil_append, List.cons_append]
  have hb := bx_new w (.slice A L.length c) st
  have HAT := Lib.hid hat
  have HL := Lib.hid hL
  have HR := Lib.hid hr
  have HC := Lib.hid hc
  clear hat hL hr hc
  go_wp2_with fail
  generalize ((w.alloc (.cells #[.slice A L.length c] 22)).alloc (.cells #[.int .i64 st] 3)).alloc (.cells #[.bool false] 4) = W1 at hb ⊢
  have hc4 := hb.c4
  have hl0 : ((L.length : Int) != (L.length : Int)) = false := by simp
  have hat1 := HAT.out.below hb.below
  have hln := fun n => Calls.quiet_of_same (n := n) ((len_any (W1.drewN n) _ _ _ _ _ _ (hat1.drewN n)).mono fun _ _ h => ⟨h.1, h.2.symm⟩)
  have HLN := Lib.hid hln
  clear hat1 hln
  go_quiet ((go_at_call 8; with_reducible exact HLN.out _))
  have hs1 : IntKind.i64.wrap ((L.length : Int) - 1) = (L.length : Int) - 1 := by rw [IntKind.wrap_i64]; omega
  go_wp2
  have hb2 : Bx w (.slice A L.length c) st false ((W1.drewN nq).alloc (.cells #[.int .i64 (-1), .int .i64 0, .int .i64 1, .int .i64 ((L.length : Int) - 1), .int .i64 (L.length : Int)] 3)) :=
    hb.next ((below_drewN W1 nq).alloc (Nat.le_refl _) _)
  have hfv := fun j => World.cell?_alloc_new (w := W1.drewN nq) #[.int .i64 (-1), .int .i64 0, .int .i64 1, .int .i64 ((L.length : Int) - 1), .int .i64 (L.length : Int)] 3 j
  have hfi : ∀ j, j < 5 → ((W1.drewN nq).alloc (.cells #[.int .i64 (-1), .int .i64 0, .int .i64 1, .int .i64 ((L.length : Int) - 1), .int .i64 (L.length : Int)] 3)).cell? ⟨W1.heap.size, j, none⟩ = some (.int .i64 ((five L.length).getD j 0)) := by
    intro j hj
    refine (hfv j).trans ?_
    match j, hj with
    | 0, _ => rfl
    | 1, _ => rfl
    | 2, _ => rfl
    | 3, _ => rfl
    | 4, _ => rfl
  have HFI := Lib.hid hfi
  have HB2 := Lib.hid hb2
  clear hfv hfi hb2 hc4 hl0
  generalize (W1.drewN nq).alloc (.cells #[.int .i64 (-1), .int .i64 0, .int .i64 1, .int .i64 ((L.length : Int) - 1), .int .i64 (L.length : Int)] 3) = W2 at HFI HB2 ⊢
  go_loopw [30] (fun i wr => ∃ k : Nat, k ≤ 5 ∧ i = .int .i64 k ∧ ∃ nd, wr = W2.drewN nd) (fun i _ => 5 - (intOf i).toNat)
  case atStart => exact ⟨0, Nat.zero_le _, rfl, 0, rfl⟩
  case round =>
    obtain ⟨k, hk, rfl, nd, rfl⟩ := hrel
    have hc4 := HB2.out.c4
    have hat1 := HAT.out.below HB2.out.below
    have hr1 := Kd.C_below HR.out HB2.out.below
    by_cases hlt : k < 5
    · have hcell := HFI.out k hlt
      have hle := five_le h64 hlt
      generalize (five L.length).getD k 0 = z at hcell hle
      have hwk : IntKind.i64.wrap ((k : Int) + 1) = (k : Int) + 1 := by rw [IntKind.wrap_i64]; omega
      have h1 := fun n => at_look (W2.drewN n) _ _ _ _ _ _ z L (hat1.drewN n) HL.out
      have h2 := fun n => ref_look (W2.drewN n) A c z L (Kd.C_drewN hr1 n) HC.out (by omega) hle
      generalize look L z = q at h1 h2
      obtain ⟨q1, q2⟩ := q
      have hq1 : (q1 != q1) = false := by simp
      have hq2 : (q2 != q2) = false := by simp
      have H1 := Lib.hid h1
      have H2 := Lib.hid h2
      clear h1 h2 hat1 hr1 hle
      go_wp2_with (first | (go_at_call 10; refine (H1.out _).mono ?_; rintro e w' ⟨rfl, ⟨⟨d1, rfl⟩⟩⟩) | (go_at_call 23; refine (H2.out _).mono ?_; rintro e w' ⟨rfl, ⟨⟨d2, rfl⟩⟩⟩))
      go_roundw
      case rel => exact ⟨k + 1, by omega, by go_num, _, rfl⟩
      case measure => simp [intOf]; omega
    · have hk5 : ¬ ((k : Int) < 5) := by omega
      have hal := fun W => callsIn_wide.1 (all_in 5 (some ⟨b, 0, none⟩) W)
      have HAL := Lib.hid hal
      clear hal HLN hs1
      have hz13 : ((W2.drewN nd).alloc (.cells #[.int .i64 0] 3)).frozen? ⟨W2.heap.size, 0, none⟩ = false := World.frozen?_alloc_at _ _ _ _ rfl
      have hc13 : ((W2.drewN nd).alloc (.cells #[.int .i64 0] 3)).cell? ⟨W2.heap.size, 0, none⟩ = some (.int .i64 0) := World.cell?_alloc_new (w := W2.drewN nd) #[.int .i64 0] 3 0
      go_wp2_with (go_at_call 9; with_reducible refine (HAL.out _).mono ?_; rintro e w' ⟨rfl, rfl⟩)
      have hb4 : Bx w (.slice A L.length c) st false ((((W2.drewN nd).alloc (.cells #[.int .i64 0] 3)).setCell ⟨W2.heap.size, 0, none⟩ (.int .i64 0)).alloc (.cells #[.pointer (some ⟨b, 0, none⟩)] 24)) :=
        HB2.out.next ((((below_drewN W2 nd).alloc (Nat.le_refl _) _).setCell (p := ⟨W2.heap.size, 0, none⟩) (Nat.le_refl _) _).alloc (by simp) _)
      have hD2 : w.heap.size + 1 + 1 < W2.heap.size := HB2.out.size
      have hcB : ((((W2.drewN nd).alloc (.cells #[.int .i64 0] 3)).setCell ⟨W2.heap.size, 0, none⟩ (.int .i64 0)).alloc (.cells #[.pointer (some ⟨b, 0, none⟩)] 24)).cell? ⟨W2.heap.size + 1, 0, none⟩ = some (.pointer (some ⟨b, 0, none⟩)) := by
        have e := World.cell?_alloc_new (w := ((W2.drewN nd).alloc (.cells #[.int .i64 0] 3)).setCell ⟨W2.heap.size, 0, none⟩ (.int .i64 0)) #[.pointer (some ⟨b, 0, none⟩)] 24 0
        rw [show (((W2.drewN nd).alloc (.cells #[.int .i64 0] 3)).setCell ⟨W2.heap.size, 0, none⟩ (.int .i64 0)).heap.size = W2.heap.size + 1 by simp] at e
        exact e
      have hcn : ((((W2.drewN nd).alloc (.cells #[.int .i64 0] 3)).setCell ⟨W2.heap.size, 0, none⟩ (.int .i64 0)).alloc (.cells #[.pointer (some ⟨b, 0, none⟩)] 24)).cell? ⟨W2.heap.size, 0, none⟩ = some (.int .i64 0) := by
        rw [World.cell?_alloc_lt _ _ _ (by simp)]
        exact World.cell?_setCell_same' _ _ _ (by rw [hc13]; rfl)
      have hzn : ((((W2.drewN nd).alloc (.cells #[.int .i64 0] 3)).setCell ⟨W2.heap.size, 0, none⟩ (.int .i64 0)).alloc (.cells #[.pointer (some ⟨b, 0, none⟩)] 24)).frozen? ⟨W2.heap.size, 0, none⟩ = false := by
        rw [World.frozen?_alloc_past _ _ _ (by simp), World.frozen?_setCell]
        exact hz13
      have hsz4 : ((((W2.drewN nd).alloc (.cells #[.int .i64 0] 3)).setCell ⟨W2.heap.size, 0, none⟩ (.int .i64 0)).alloc (.cells #[.pointer (some ⟨b, 0, none⟩)] 24)).heap.size = W2.heap.size + 1 + 1 := by simp
      have HCB := Lib.hid hcB
      have HCN := Lib.hid hcn
      have HZN := Lib.hid hzn
      have HSZ := Lib.hid hsz4
      have HB4 := Lib.hid hb4
      clear hcB hcn hzn hb4 hz13 hc13 hsz4 hat1 hr1 hc4 HAL
      generalize (((W2.drewN nd).alloc (.cells #[.int .i64 0] 3)).setCell ⟨W2.heap.size, 0, none⟩ (.int .i64 0)).alloc (.cells #[.pointer (some ⟨b, 0, none⟩)] 24) = W4 at HCB HCN HZN HSZ HB4 ⊢
      have hat4 := HAT.out.below HB4.out.below
      have hr4 := Kd.C_below HR.out HB4.out.below
      have HAT4 := Lib.hid hat4
      have HR4 := Lib.hid hr4
      clear hat4 hr4
      obtain ⟨D0, hD0⟩ : ∃ D0, D0 = W2.heap.size := ⟨_, rfl⟩
      have HD0 := Lib.hid hD0
      rw [← hD0] at HCB HCN HZN HSZ hD2 ⊢
      clear hD0
      refine wpIn_wide (n := 5).1 ?_
      refine wpIn_rangeFunc_ownG rfl (by omega) (gf := 22) (lb := #[.pointer (some ⟨D0 + 1, 0, none⟩)]) rfl trivial (enters_of Try.func22 (by kernel_rfl) rfl)
        (all_stops 4 (by omega) (D0 + 1) b g m f L.length buf W4 (by rw [HSZ.out]; omega) HCB.out HAT4.out) KpS.trans (KpS.putObj (fun j hj => ?_)) (Below.refl _ _) (fun _ => rfl)
        (fun pre W => Below D0 W4 W ∧ W.cell? ⟨D0, 0, none⟩ = some (.int .i64 (pre.length : Int)) ∧ W.frozen? ⟨D0, 0, none⟩ = false)
        (fun cc pre W => (cc = .ret ∧ ∃ ini x, pre = ini ++ [x] ∧ ¬ (x.1 = ini.length ∧ x.2 = (look L ini.length).1)) ∨ (cc = .exit 2 ∧ (pre.length : Int) = st ∧ Below D0 W4 W ∧ W.cell? ⟨D0, 0, none⟩ = some (.int .i64 (pre.length : Int))))
        ?own ?ownx ⟨Below.refl _ _, HCN.out, HZN.out⟩
        (fun x => { tmps := #[Value.pointer (some { block := b, off := 0 }), Value.slice A L.length c, Value.int IntKind.i64 st, undef, Value.pointer (some { block := w.heap.size, off := 0 }), Value.pointer (some { block := w.heap.size + 1, off := 0 }), Value.pointer (some { block := w.heap.size + 1 + 1, off := 0 }), undef, u8, u9, u10, u11, u12, Value.pointer (some { block := D0, off := 0 }), .int .i64 (x.1 : Int), .int .i64 x.2, undef, undef, Value.pointer (some { block := b, off := 0 }), Value.int IntKind.i64 ↑L.length, Value.slice A L.length c, Value.int IntKind.i64 ↑L.length, Value.bool false, Value.slice A L.length c, Value.int IntKind.i64 ↑L.length, Value.int IntKind.i64 (↑L.length - 1), Value.slice A L.length c, Value.int IntKind.i64 ↑L.length, Value.slice (some { block := W1.heap.size, off := 0 }) 5 5, Value.int IntKind.i64 5, Value.int IntKind.i64 ↑k, Value.bool false, u32, u33, u34, u35, u36, u37, u38, u39, u40, u41, u42, u43, u44, u45, u46, u47, u48, u49, u50, u51, u52, u53, u54, Value.pointer (some { block := b, off := 0 }), Value.func (Fn.func 22) #[] #[Value.pointer (some { block := D0 + 1, off := 0 })], .int .i64 (x.1 : Int), .int .i64 x.2, undef, undef, undef, undef, undef, undef, undef, undef, undef, undef, undef, undef, undef, undef, undef, undef, undef, undef, undef, undef, undef, undef, undef, undef, undef, undef, undef, undef, undef, undef, undef, undef, undef, undef], defers := [] }) ?assign ?body ?done ?stop
      · have h1 := HAT4.out.lb
        have h2 := HAT4.out.lg
        have h3 := HSZ.out
        rcases hj with rfl | rfl | rfl
        · exact h1
        · exact h2
        · omega
      case own =>
        intro s X Y row hs hg hrow
        have hD4 : D0 < W4.heap.size := by have := HSZ.out; omega
        refine ⟨hs.1.grown hg (by have := hs.1.size; omega) (fun k e => by obtain ⟨hB, _⟩ := hrow k e; omega), cell_kept hs.2.1 hg (fun r e => (hrow r e).2), (frozen_kept hs.2.1 hg (fun r e => (hrow r e).2)).trans hs.2.2⟩
      case ownx =>
        intro cc s X Y row hs hg hrow
        have hD4 : D0 < W4.heap.size := by have := HSZ.out; omega
        rcases hs with hs | hs
        · exact .inl hs
        · exact .inr ⟨hs.1, hs.2.1, hs.2.2.1.grown hg (by have := hs.2.2.1.size; omega) (fun k e => by obtain ⟨hB, _⟩ := hrow k e; omega), cell_kept hs.2.2.2 hg (fun r e => (hrow r e).2)⟩
      case assign =>
        intro l x W K hK
        gi_wp2
        exact hK
      case body =>
        rintro l pre ⟨x1, x2⟩ W ⟨hI, hcn, hzn⟩ hpre
        have hbel : Below w.heap.size w W := HB4.out.below.trans (hI.mono (by omega))
        have hc4 := (hI.cell (p := ⟨w.heap.size, 0, none⟩) (by show w.heap.size < D0; omega)).trans HB4.out.c4
        have hc5 := (hI.cell (p := ⟨w.heap.size + 1, 0, none⟩) (by show w.heap.size + 1 < D0; omega)).trans HB4.out.c5
        have hc6 := (hI.cell (p := ⟨w.heap.size + 1 + 1, 0, none⟩) hD2).trans HB4.out.c6
        have hz6 := (hI.frozen (p := ⟨w.heap.size + 1 + 1, 0, none⟩) hD2).trans HB4.out.z6
        have href := ref_look W A c (pre.length : Int) L (Kd.C_below HR.out hbel) HC.out (by omega) (by omega)
        have hlk : look L pre.length = ((look L pre.length).1, true) := by rw [look_in (by omega)]
        rw [hlk] at href
        generalize hy : (look L pre.length).1 = y at href
        have hyy : ∀ ini : List (Nat × Int), ini.length = pre.length → (look L (ini.length : Int)).1 = y := fun ini e => by rw [e]; exact hy
        have HY := Lib.hid hyy
        have HREF := Lib.hid href
        clear href hy hyy hlk
        have hne5 : ¬ (D0 = w.heap.size + 1) := by omega
        have hne5' : ¬ (w.heap.size + 1 = D0) := by omega
        have hD4 : D0 < W4.heap.size := by have := HSZ.out; omega
        have hs1 : IntKind.i64.wrap ((pre.length : Int) + 1) = (pre.length : Int) + 1 := by rw [IntKind.wrap_i64]; omega
        have hge : ¬ ((L.length : Int) ≤ (pre.length : Int)) := by omega
        have hge2 : decide ((L.length : Int) ≤ (pre.length : Int)) = false := decide_eq_false hge
        have HI := Lib.hid hI
        clear hI hbel HB2 HB4 HFI HAT4 HR4 HCB HCN HZN
        by_cases hx1 : x1 = pre.length
        · subst hx1
          by_cases hx2 : x2 = y
          · subst hx2
            by_cases hst : (pre.length : Int) + 1 = st
            · have hsb : ((pre.length : Int) + 1 == st) = true := beq_iff_eq.2 hst
              have HST := Lib.hid hst
              clear hst
              gi_wp2_with (refine ⟨trivial, ?_⟩; gi_at_call 23; refine (CallsIn.inRound l (callsIn_wide.2 HREF.out)).mono ?_; rintro e w' ⟨rfl, ⟨⟨d1, rfl⟩⟩⟩)
              refine ⟨((keeps_drewN W d1).trans (KeepsOthers.setCell _ _ _)).from _, .inr ⟨rfl, ?_, (pw_below_drewN HI.out d1).setCell (p := ⟨D0, 0, none⟩) (Nat.le_refl _) _, ?_⟩⟩
              · rw [List.length_append]
                simpa using HST.out
              · rw [List.length_append]
                exact World.cell?_setCell_same' (W.drewN d1) _ _ (by rw [show (W.drewN d1).cell? ⟨D0, 0, none⟩ = _ from hcn]; rfl)
            · have hsb : ((pre.length : Int) + 1 == st) = false := beq_eq_false_iff_ne.2 hst
              have HST := Lib.hid hst
              clear hst
              gi_wp2_with (refine ⟨trivial, ?_⟩; gi_at_call 23; refine (CallsIn.inRound l (callsIn_wide.2 HREF.out)).mono ?_; rintro e w' ⟨rfl, ⟨⟨d1, rfl⟩⟩⟩)
              have hlb := HAT.out.lb
              have hlg := HAT.out.lg
              refine ⟨((keeps_drewN W d1).trans (KeepsOthers.setCell _ _ _)).from _, ⟨by simp, fun q hq => Below.heap_setCell (W.drewN d1) ⟨D0, 0, none⟩ _ q (by show q ≠ D0; rcases hq with rfl | rfl | rfl <;> omega)⟩, (pw_below_drewN HI.out d1).setCell (p := ⟨D0, 0, none⟩) (Nat.le_refl _) _, ?_, ?_⟩
              · rw [List.length_append]
                exact World.cell?_setCell_same' (W.drewN d1) _ _ (by rw [show (W.drewN d1).cell? ⟨D0, 0, none⟩ = _ from hcn]; rfl)
              · rw [World.frozen?_setCell]
                exact hzn
          · have hyb : (x2 != y) = true := bne_iff_ne.2 hx2
            have HNE := Lib.hid hx2
            clear hx2
            gi_wp2_with (refine ⟨trivial, ?_⟩; gi_at_call 23; refine (CallsIn.inRound l (callsIn_wide.2 HREF.out)).mono ?_; rintro e w' ⟨rfl, ⟨⟨d1, rfl⟩⟩⟩)
            refine ⟨((keeps_drewN W d1).trans (KeepsOthers.setCell _ _ _)).from _, .inl ⟨rfl, pre, _, rfl, fun h => HNE.out ?_⟩⟩
            exact h.2.trans (HY.out pre rfl)
        · have hxb : ((x1 : Int) != (pre.length : Int)) = true := bne_iff_ne.2 (by omega)
          have HNE := Lib.hid hx1
          clear hx1
          gi_wp2_with (refine ⟨trivial, ?_⟩; gi_at_call 23; refine (CallsIn.inRound l (callsIn_wide.2 HREF.out)).mono ?_; rintro e w' ⟨rfl, ⟨⟨d1, rfl⟩⟩⟩)
          exact ⟨((keeps_drewN W d1).trans (KeepsOthers.setCell _ _ _)).from _, .inl ⟨rfl, pre, _, rfl, fun h => HNE.out h.1⟩⟩
      case done =>
        rintro D ys W hD hys ⟨hI, hcn, hzn⟩ hK
        have hyl : ys.length = L.length := by rw [hys, upto_length]
        rw [hyl] at hcn
        have hDl : D0 < D := by have := HSZ.out; omega
        have hc4 := (hI.cell (p := ⟨w.heap.size, 0, none⟩) (by show w.heap.size < D0; omega)).trans HB4.out.c4
        have hc6 := (hI.cell (p := ⟨w.heap.size + 1 + 1, 0, none⟩) hD2).trans HB4.out.c6
        have hz6 := (hI.frozen (p := ⟨w.heap.size + 1 + 1, 0, none⟩) hD2).trans HB4.out.z6
        have hbx : Bx w (.slice A L.length c) st false W := ⟨hc4, (hI.cell (p := ⟨w.heap.size + 1, 0, none⟩) (by show w.heap.size + 1 < D0; omega)).trans HB4.out.c5, hc6, hz6, HB4.out.below.trans (hI.mono (by omega)), by have := hI.size; have := HSZ.out; omega⟩
        have hset := hbx.set true
        have HSET := Lib.hid hset
        have HHK := Lib.hid hK
        clear hset hbx hys hyl HB2 HB4 HFI HAT4 HR4 HCB HCN HZN hI hK
        go_wp2
        have hK' := (KeepsOthers.setCell W ⟨w.heap.size + 1 + 1, 0, none⟩ (.bool true)).same D _ HHK.out rfl
        refine ⟨by simp, .inl ⟨_, _, rfl, run_takeDeferred hK', ?_⟩⟩
        have hc5 := Go.cell_kept HSET.out.c6 (grownBy_putObj' _ D (.deferred none)) (fun r e => by cases e; exact ⟨_, hK', rfl⟩)
        refine ⟨.bool true, ?_, rfl, ?_⟩
        · simp [results, Try.f15, go_sem, hc5]
        · exact HSET.out.below.trans (belowK_b (w := w) (Nat.le_refl _) _ D _ _ (by omega) hK' rfl rfl)
      case stop =>
        rintro D cc pre W hD ⟨j, hj, rfl⟩ hx hK
        rcases hx with ⟨_, ini, x, he, hng⟩ | ⟨rfl, hst, hI, hcn⟩
        · exfalso
          cases j with
          | zero =>
            have := congrArg List.length he
            rw [upto_length, List.length_append] at this
            simp at this
          | succ j =>
            rw [upto_succ] at he
            have h1 := (List.append_inj' he rfl).1
            have h2 := (List.append_inj' he rfl).2
            injection h2 with h2
            rw [← h2, ← h1, HL.out, upto_length] at hng
            refine hng ⟨rfl, ?_⟩
            rw [look_in (by omega)]
            rfl
        · rw [upto_length] at hst hcn
          have hDl : D0 < D := by have := HSZ.out; omega
          have hc4 := (hI.cell (p := ⟨w.heap.size, 0, none⟩) (by show w.heap.size < D0; omega)).trans HB4.out.c4
          have hc5 := (hI.cell (p := ⟨w.heap.size + 1, 0, none⟩) (by show w.heap.size + 1 < D0; omega)).trans HB4.out.c5
          have hc6 := (hI.cell (p := ⟨w.heap.size + 1 + 1, 0, none⟩) hD2).trans HB4.out.c6
          have hz6 := (hI.frozen (p := ⟨w.heap.size + 1 + 1, 0, none⟩) hD2).trans HB4.out.z6
          have hbx : Bx w (.slice A L.length c) st false W := ⟨hc4, hc5, hc6, hz6, HB4.out.below.trans (hI.mono (by omega)), by have := hI.size; have := HSZ.out; omega⟩
          have hset := hbx.set true
          have HSET := Lib.hid hset
          have HHK := Lib.hid hK
          have hsb : ((j : Int) == st) = true := beq_iff_eq.2 hst
          have HST := Lib.hid hst
          clear hst hset hbx HB2 HB4 HFI HAT4 HR4 HCB HCN HZN hI hK
          by_cases hjl : (j : Int) = (L.length : Int)
          · have hjb : ((j : Int) == (L.length : Int)) = true := beq_iff_eq.2 hjl
            clear hjl
            refine wpIn_wide.2 ?_
            go_wp2
            have hK' := (KeepsOthers.setCell W ⟨w.heap.size + 1 + 1, 0, none⟩ (.bool true)).same D _ HHK.out rfl
            refine ⟨by simp, .inl ⟨_, _, rfl, run_takeDeferred hK', ?_⟩⟩
            have hc5 := Go.cell_kept HSET.out.c6 (grownBy_putObj' _ D (.deferred none)) (fun r e => by cases e; exact ⟨_, hK', rfl⟩)
            refine ⟨.bool true, ?_, rfl, ?_⟩
            · simp [results, Try.f15, go_sem, hc5]
            · exact HSET.out.below.trans (belowK_b (w := w) (Nat.le_refl _) _ D _ _ (by omega) hK' rfl rfl)
          · have hjb : ((j : Int) == (L.length : Int)) = false := beq_eq_false_iff_ne.2 hjl
            clear hjl
            refine wpIn_wide.2 ?_
            go_wp2
            have hK' := (KeepsOthers.setCell W ⟨w.heap.size + 1 + 1, 0, none⟩ (.bool true)).same D _ HHK.out rfl
            refine ⟨by simp, .inl ⟨_, _, rfl, run_takeDeferred hK', ?_⟩⟩
            have hc5 := Go.cell_kept HSET.out.c6 (grownBy_putObj' _ D (.deferred none)) (fun r e => by cases e; exact ⟨_, hK', rfl⟩)
            refine ⟨.bool true, ?_, rfl, ?_⟩
            · simp [results, Try.f15, go_sem, hc5]
            · exact HSET.out.below.trans (belowK_b (w := w) (Nat.le_refl _) _ D _ _ (by omega) hK' rfl rfl)
end Go.Proofs.Ytejfpnmomlnjhaa.RI
