/- RingPlays walked: for every maximum, every row of calls and every bound the call answers true. -/
import Derived.Test.YtejfpnmomlnjhaaIs
namespace Go.Proofs.Ytejfpnmomlnjhaa.RI
open Go.RowKit Go.Shelf Go.Proofs Go.Proofs.YtejfpnmomlnjhaaW.PrintWords Go.Proofs.YtejfpnmomlnjhaaW.PrintMore Go.Proofs.Ytejfpnmomlnjhaa.Plain
set_option linter.unusedVariables false
set_option linter.unusedSimpArgs false

/-- A call: its kind and its things. -/
abbrev Op := Int × List Int
def kOp : Kd Op := Kd.pair (Kd.int .i64) (Kd.slice 3 (Kd.int .i64))
theorem op_at {w : World} {A : Option Addr} {n : Nat} {xs : List Op} (h : Kd.C kOp w A n xs) (k : Nat) (hk : k < n) :
    ∃ ad A1 c1, A = some ad ∧ w.cell? (ad.add (k * 2)) = some (.int .i64 (xs.getD k (0, [])).1) ∧ w.cell? ⟨(ad.add (k * 2)).block, (ad.add (k * 2)).off + 1, none⟩ = some (.slice A1 (xs.getD k (0, [])).2.length c1) ∧
      (xs.getD k (0, [])).2.length ≤ c1 ∧ Kd.C (Kd.int .i64) w A1 (xs.getD k (0, [])).2.length (xs.getD k (0, [])).2 := by
  obtain ⟨ad, c, e, _, hK, hc0⟩ := Kd.C_get h (0, []) (k : Int) (by omega) (by omega)
  have hc : ∀ j u, c[j]? = some u → w.cell? (ad.add (k * 2 + j)) = some u := hc0
  obtain ⟨q0, q1, rfl, h0, A1, c1, rfl, hl, hr⟩ := hK
  obtain rfl : q0 = _ := h0
  exact ⟨ad, A1, c1, e, hc 0 _ rfl, by rw [← add_field _ _ 1 (by omega)]; exact hc 1 _ rfl, hl, hr⟩

/-- The document's Push. -/
theorem push_l0 (m : Nat) : ∀ (d : Nat) (k : Nat) (l : List Int) (g : Nat), l.length - m = d → d < k → l.length + g ≤ 1000000 →
    PRingPlays.whirligigref20_Push.l0 k m l g = some (l.drop (l.length - m), ((g + (l.length - m) : Nat) : Int)) := by
  intro d
  induction d with
  | zero =>
    intro k l g hd hk hb
    obtain ⟨k, rfl⟩ : ∃ j, k = j + 1 := ⟨k - 1, by omega⟩
    simp only [PRingPlays.whirligigref20_Push.l0]
    rw [if_neg (by omega), hd]
    rfl
  | succ d ih =>
    intro k l g hd hk hb
    obtain ⟨k, rfl⟩ : ∃ j, k = j + 1 := ⟨k - 1, by omega⟩
    simp only [PRingPlays.whirligigref20_Push.l0]
    rw [if_pos (by omega), if_pos (by omega)]
    have e1 : wrap64 ((g : Int) + 1) = ((g + 1 : Nat) : Int) := by unfold wrap64; omega
    have := ih k (l.drop 1) (g + 1) (by rw [List.length_drop]; omega) (by omega) (by rw [List.length_drop]; omega)
    rw [e1, show (1 : Int).toNat = 1 from rfl, this, List.drop_drop, List.length_drop]
    rw [show 1 + (l.length - 1 - m) = l.length - m by omega, show g + 1 + (l.length - 1 - m) = g + (l.length - m) by omega]
theorem push_ref (w : World) (A : Option Addr) (c : Nat) (L : List Int) (m : Nat) (A2 : Option Addr) (c2 : Nat) (xs : List Int) (hr : Kd.C (Kd.int .i64) w A L.length L) (hc : L.length ≤ c) (hr2 : Kd.C (Kd.int .i64) w A2 xs.length xs) (hc2 : xs.length ≤ c2)
    (hL : L.length ≤ 64) (hx : xs.length ≤ 200) :
    Calls Try.prog 12 #[.slice A L.length c, .int .i64 m, .slice A2 xs.length c2] w fun e w' => ∃ A' c', e = .returned (.tuple #[.slice A' (last m (L ++ xs)).length c', .int .i64 ((L.length + xs.length - m : Nat) : Int)]) ∧
      (last m (L ++ xs)).length ≤ c' ∧ Kd.C (Kd.int .i64) w' A' (last m (L ++ xs)).length (last m (L ++ xs)) ∧ (∀ ad, A' = some ad → w.heap.size ≤ ad.block) ∧ Below w.heap.size w w' := by
  have hf : PRingPlays.whirligigref20_Push.f 1000 L m xs = some (last m (L ++ xs), ((L.length + xs.length - m : Nat) : Int)) := by
    unfold PRingPlays.whirligigref20_Push.f
    rw [if_pos (by simp; omega)]
    simp only [Option.bind_some, List.nil_append]
    rw [if_pos (by omega)]
    have := push_l0 m ((L ++ xs).length - m) 1000 (L ++ xs) 0 rfl (by rw [List.length_append]; omega) (by rw [List.length_append]; omega)
    rw [show ((0 : Nat) : Int) = 0 from rfl] at this
    rw [this, Nat.zero_add, List.length_append]
    unfold last
    rw [List.length_append]
  refine (PRingPlays.whirligigref20_Push.calls 1000 A c L m A2 c2 xs _ _ w hr hc hr2 hc2 hf).mono ?_
  rintro e w' ⟨v, rfl, hq, hb⟩
  obtain ⟨A', c', rfl, hl, hC⟩ := Kd.Q_reads hq
  refine ⟨A', c', rfl, hl, hC, ?_, hb⟩
  rintro ad rfl
  exact Kd.Q_base hq ad.block rfl

set_option maxRecDepth 100000 in
set_option maxHeartbeats 4000000 in
theorem plays_out (w : World) (z st : Int) (A : Option Addr) (c : Nat) (xs : List Op) (hz : z < 0 ∨ 64 < z ∨ 100 < xs.length) :
    Calls Try.prog 4 #[.int .i64 z, .slice A xs.length c, .int .i64 st] w (End w) := by
  by_cases hl : 100 < xs.length
  · have hd : decide ((100 : Int) < (xs.length : Int)) = true := decide_eq_true (by omega)
    have hd1 : (100 : Int) < (xs.length : Int) := by omega
    go_enter Try.func4, Try.ntmps4
    go_wp2_with (go_at_call 5; refine (RS.anchor_any _).mono ?_; rintro e w1 ⟨rfl, hb⟩)
    go_ret
    exact ⟨rfl, hb⟩
  · have hd1 : ¬ (100 : Int) < (xs.length : Int) := by omega
    have hz' : z < 0 ∨ 64 < z := by omega
    by_cases hz0 : z < 0
    · go_enter Try.func4, Try.ntmps4
      go_wp2_with (first | (go_at_call 5; refine (RS.anchor_any _).mono ?_; rintro e w1 ⟨rfl, hb⟩) | (go_at_call 6; refine (new_out _ _ hz').mono ?_; rintro e w1 ⟨rfl, rfl⟩))
      go_ret
      exact ⟨rfl, hb⟩
    · have hz1 : 64 < z := by omega
      go_enter Try.func4, Try.ntmps4
      go_wp2_with (first | (go_at_call 5; refine (RS.anchor_any _).mono ?_; rintro e w1 ⟨rfl, hb⟩) | (go_at_call 6; refine (new_out _ _ hz').mono ?_; rintro e w1 ⟨rfl, rfl⟩))
      go_ret
      exact ⟨rfl, hb⟩

theorem C_others {w w' : World} {A : Option Addr} {n b g : Nat} {L : List Int} (h : Kd.C (Kd.int .i64) w A n L) (ho : Others b g w w') (hA : ∀ ad, A = some ad → 0 < n → ad.block < w.heap.size ∧ ad.block ≠ b ∧ ad.block ≠ g) : Kd.C (Kd.int .i64) w' A n L := by
  obtain ⟨h1, h2, h3⟩ := Kd.reads_of_C (d := (0 : Int)) (h1 := fun _ => rfl) h
  refine Kd.C_of_reads (d := (0 : Int)) (h1 := fun _ => rfl) ⟨h1, h2, fun hp => ?_⟩
  obtain ⟨ad, e, hc⟩ := h3 hp
  obtain ⟨ha, hb, hg⟩ := hA ad e hp
  exact ⟨ad, e, fun j hj => (ho.cell (by rw [addr_add_block]; exact ha) (by rw [addr_add_block]; exact hb) (by rw [addr_add_block]; exact hg)).trans (hc j hj)⟩
theorem C_block {w : World} {A : Option Addr} {n : Nat} {L : List Int} (h : Kd.C (Kd.int .i64) w A n L) : ∀ ad, A = some ad → 0 < n → ad.block < w.heap.size := block_of_reads (Kd.reads_of_C (d := (0 : Int)) (h1 := fun _ => rfl) h)

/-- What the law's loop keeps: the ring holds the list that is wanted. -/
structure PS (w : World) (b g m : Nat) (A : Option Addr) (c f n : Nat) (buf L : List Int) (wr : World) : Prop where
  hat : At wr b g m f n buf
  con : con 0 m f n buf = L
  cap : L.length ≤ c
  rd : Kd.C (Kd.int .i64) wr A L.length L
  apart : ∀ ad, A = some ad → ad.block ≠ b ∧ ad.block ≠ g
  below : Below w.heap.size w wr
  hb : w.heap.size ≤ b
  hg : w.heap.size ≤ g
theorem PS.next {w : World} {b g m : Nat} {A : Option Addr} {c f n : Nat} {buf L : List Int} {wr w' : World} (h : PS w b g m A c f n buf L wr) (k : Below wr.heap.size wr w') : PS w b g m A c f n buf L w' :=
  ⟨h.hat.below k, h.con, h.cap, Kd.C_below h.rd k, h.apart, h.below.trans (k.mono h.below.size), h.hb, h.hg⟩

set_option maxRecDepth 100000 in
set_option maxHeartbeats 8000000 in
theorem plays_in (w : World) (m : Nat) (hm : m ≤ 64) (st : Int) (A : Option Addr) (c : Nat) (xs : List Op) (hx : Kd.C kOp w A xs.length xs) (hl : xs.length ≤ 100) :
    Calls Try.prog 4 #[.int .i64 m, .slice A xs.length c, .int .i64 st] w (End w) := by
  have hd1 : ¬ (100 : Int) < (xs.length : Int) := by omega
  have hd2 : decide ((m : Int) < 0) = false := decide_eq_false (by omega)
  have hd3 : decide ((64 : Int) < m) = false := decide_eq_false (by omega)
  have hd4 : ((m : Int) != (m : Int)) = false := by simp
  have HX := Lib.hid hx
  clear hx
  obtain ⟨i0, hi, hz0, hz1, hz2⟩ := info_parts info_e
  clear hz0 hz1 hz2
  go_enter Try.func4, Try.ntmps4
  go_wp2_with fail
  refine (RS.anchor_any _).mono ?_
  rintro e w1 ⟨rfl, hb1⟩
  go_wp2_with fail
  refine (new_in w1 m hm).mono ?_
  rintro e w2 ⟨rfl, hat, hb2⟩
  have hmost := fun W (hw : At W (w1.heap.size + 1) w1.heap.size m 0 0 (List.replicate m 0)) => most_any W _ _ _ _ _ _ hw
  have hps : PS w (w1.heap.size + 1) w1.heap.size m none 0 0 0 (List.replicate m 0) [] w2 :=
    ⟨hat, rfl, Nat.le_refl _, Kd.C_nil _ _, fun ad e => (by cases e), hb1.trans (hb2.mono hb1.size), by have := hb1.size; omega, hb1.size⟩
  have HM := Lib.hid (hmost w2 hat)
  have HPS := Lib.hid hps
  clear hat hb1 hb2 hmost hps
  go_wp2_with (go_at_call 11; refine HM.out.mono ?_; rintro e w' ⟨rfl, rfl⟩)
  clear HM
  generalize w1.heap.size + 1 = b at HPS ⊢
  generalize w1.heap.size = g at HPS ⊢
  go_loopw [9, 52] (fun v i wr => ∃ k : Nat, k ≤ xs.length ∧ i = .int .i64 k ∧ ∃ A' c' f n buf L, v = .slice A' L.length c' ∧ PS w b g m A' c' f n buf L wr) (fun _ i _ => xs.length - (intOf i).toNat)
  case atStart => exact ⟨0, Nat.zero_le _, rfl, _, _, _, _, _, _, rfl, HPS.out⟩
  case round =>
    obtain ⟨k, hk, rfl, A', c', f, n, buf, L, rfl, hps⟩ := hrel
    clear HPS
    by_cases hlt : k < xs.length
    · obtain ⟨ad, A1, c1, rfl, hk0, hk1, hc1, hC1⟩ := op_at HX.out k hlt
      generalize xs.getD k (0, []) = o at hk0 hk1 hc1 hC1
      obtain ⟨kd, X⟩ := o
      simp only at hk0 hk1 hc1 hC1
      have hblk : ∀ ad, A1 = some ad → 0 < X.length → ad.block < w.heap.size := C_block hC1
      have hk0' := pw_cell_below hps.below hk0
      have hk1' := pw_cell_below hps.below hk1
      have hwk : IntKind.i64.wrap ((k : Int) + 1) = (k : Int) + 1 := by rw [IntKind.wrap_i64]; omega
      have hn : n = L.length := by rw [← hps.con, con_length]
      subst hn
      have HC1 := Lib.hid hC1
      have HBLK := Lib.hid hblk
      have HP := Lib.hid hps
      clear hk0 hk1 hC1 hblk hps
      by_cases hlong : 200 < X.length
      · have hd5 : decide ((200 : Int) < (X.length : Int)) = true := decide_eq_true (by omega)
        go_wp2_with fail
        go_ret
        exact ⟨rfl, HP.out.below.alloc HP.out.below.size _⟩
      · have hd5 : decide ((200 : Int) < (X.length : Int)) = false := decide_eq_false (by omega)
        have hP1 := HP.out.next ((Below.refl _ wr).alloc (Nat.le_refl _) (.cells #[.int .i64 kd, .slice A1 X.length c1] 38))
        have hC2 := Kd.C_below HC1.out hP1.below
        have hx0 : (wr.alloc (.cells #[.int .i64 kd, .slice A1 X.length c1] 38)).cell? ⟨wr.heap.size, 0, none⟩ = some (.int .i64 kd) := World.cell?_alloc_new (w := wr) #[.int .i64 kd, .slice A1 X.length c1] 38 0
        have hx1 : (wr.alloc (.cells #[.int .i64 kd, .slice A1 X.length c1] 38)).cell? ⟨wr.heap.size, 1, none⟩ = some (.slice A1 X.length c1) := World.cell?_alloc_new (w := wr) #[.int .i64 kd, .slice A1 X.length c1] 38 1
        have hxl : wr.heap.size < (wr.alloc (.cells #[.int .i64 kd, .slice A1 X.length c1] 38)).heap.size := by rw [World.size_alloc]; omega
        have hL64 : L.length ≤ 64 := by have := hP1.hat.nm; omega
        have hwlt : wr.heap.size ≥ w.heap.size := HP.out.below.size
        have hlb := HP.out.hat.lb
        have hlg := HP.out.hat.lg
        have hwb := HP.out.hb
        have hwg := HP.out.hg
        have HP1 := Lib.hid hP1
        have HC2 := Lib.hid hC2
        have HX0 := Lib.hid hx0
        have HX1 := Lib.hid hx1
        clear hP1 hC2 hx0 hx1
        by_cases h1 : kd = 1
        · subst h1
          go_wp2_with fail
          generalize wr.alloc (.cells #[.int .i64 1, .slice A1 X.length c1] 38) = W2 at HP1 HC2 HX0 HX1 hxl ⊢
          refine (push_ref W2 A' c' L m A1 c1 X HP1.out.rd HP1.out.cap HC2.out hc1 hL64 (by omega)).mono ?_
          rintro e W3 ⟨A3, c3, rfl, hc3, hC3, hA3, hb3⟩
          have hP3 := HP1.out.next hb3
          have hx1 := (hb3.cell (p := ⟨wr.heap.size, 1, none⟩) hxl).trans HX1.out
          have hC1' := Kd.C_below HC2.out hb3
          have hA4 : ∀ ad, A1 = some ad → 0 < X.length → ad.block < W3.heap.size ∧ ad.block ≠ b ∧ ad.block ≠ g := fun ad e hp => by
            have := HBLK.out ad e hp
            have := hP3.below.size
            exact ⟨by omega, by omega, by omega⟩
          have hgone : (((L.length + X.length - m : Nat) : Int) != ((L.length + X.length - m : Nat) : Int)) = false := by simp
          have HP3 := Lib.hid hP3
          have HC3 := Lib.hid hC3
          have HA3 := Lib.hid hA3
          have HCX := Lib.hid hC1'
          have HA4 := Lib.hid hA4
          clear hP3 hC3 hA3 hC1' hA4 hb3
          have hpu := push_any W3 b g m f L.length buf A1 c1 X HP3.out.hat HCX.out hc1 HA4.out (by omega)
          have HPU := Lib.hid hpu
          clear hpu
          generalize ((L.length + X.length - m : Nat) : Int) = gone at HPU hgone ⊢
          go_wp2_with (go_at_call 7; refine HPU.out.mono ?_; rintro e W4 ⟨rfl, hpr⟩)
          obtain ⟨f', n', buf', hat4, hcon4, hoth4⟩ := hpr
          rw [HP3.out.con, List.take_length] at hcon4
          have hap3 : ∀ ad, A3 = some ad → ad.block ≠ b ∧ ad.block ≠ g := fun ad e => by
            have := HA3.out ad e
            exact ⟨by omega, by omega⟩
          have hC4 := C_others HC3.out hoth4 (fun ad e hp => ⟨C_block HC3.out ad e hp, hap3 ad e⟩)
          have hP4 : PS w b g m A3 c3 f' n' buf' (last m (L ++ X)) W4 := ⟨hat4, hcon4, hc3, hC4, hap3, hoth4.below HP3.out.below hwb hwg HP3.out.below.size, hwb, hwg⟩
          generalize last m (L ++ X) = L4 at hP4 ⊢
          have HP4 := Lib.hid hP4
          clear hP4 hC4 hat4 hcon4 hoth4 hap3 hc3
          go_wp2_with (go_at_call 15; refine (is_any _ b g m f' n' buf' A3 c3 L4 st HP4.out.hat HP4.out.con HP4.out.rd HP4.out.cap).mono ?_; rintro e W5 ⟨rfl, hb5⟩)
          go_roundw
          case rel => exact ⟨k + 1, by omega, by go_num, _, _, _, _, _, _, rfl, HP4.out.next hb5⟩
          case measure => simp [intOf]; omega
        · have hk1 : (kd == 1) = false := beq_eq_false_iff_ne.2 h1
          by_cases h2 : kd = 2
          · subst h2
            generalize hW2 : wr.alloc (.cells #[.int .i64 2, .slice A1 X.length c1] 38) = W2 at HP1 HC2 HX0 HX1 hxl
            have HW2 := Lib.hid hW2
            clear hW2
            by_cases hl0 : L.length = 0
            · obtain rfl : L = [] := List.length_eq_zero_iff.1 hl0
              go_wp2_with fail
              rw [HW2.out]
              refine (pop_none W2 b g m f buf HP1.out.hat).mono ?_
              rintro e W3 ⟨rfl, rfl⟩
              go_wp2_with fail
              refine (is_any _ b g m f 0 buf A' c' [] st HP1.out.hat HP1.out.con HP1.out.rd HP1.out.cap).mono ?_
              rintro e W5 ⟨rfl, hb5⟩
              go_wp2_with fail
              go_roundw
              case rel => exact ⟨k + 1, by omega, by go_num, _, _, _, _, _, _, rfl, HP1.out.next hb5⟩
              case measure => simp [intOf]; omega
            · have hpop := pop_some W2 b g m f L.length buf HP1.out.hat (by omega)
              rw [HP1.out.con] at hpop
              have hrd0 : rd L ((L.length : Int) - 1) = L.getD (L.length - 1) 0 := by unfold rd; rw [show ((L.length : Int) - 1).toNat = L.length - 1 by omega]
              have hcell := fun W (hW : Kd.C (Kd.int .i64) W A' L.length L) => Kd.at_int hW ((L.length : Int) - 1) (by omega) (by omega)
              rw [hrd0, show ((L.length : Int) - 1).toNat = L.length - 1 by omega] at hcell
              have hcut := cut_to (P := Try.prog) 22 3 .i64 Try.underlying22 hi A' L.length c' ((L.length : Int) - 1) (by omega) (by omega) HP1.out.cap
              rw [show ((L.length : Int) - 1).toNat = L.length - 1 by omega] at hcut
              have htl : (L.take (L.length - 1)).length = L.length - 1 := by rw [List.length_take]; omega
              have hs1 : IntKind.i64.wrap ((L.length : Int) - 1) = (L.length : Int) - 1 := by rw [IntKind.wrap_i64]; omega
              have hpos : (0 : Int) < (L.length : Int) := by omega
              have hposd : decide ((0 : Int) < (L.length : Int)) = true := decide_eq_true hpos
              generalize L.getD (L.length - 1) 0 = y at hpop hcell
              have hyy : (y != y) = false := by simp
              have HPOP := Lib.hid hpop
              have HCELL := Lib.hid hcell
              have HTL := Lib.hid htl
              clear hpop hcell hrd0 htl
              go_wp2_with fail
              rw [HW2.out]
              refine HPOP.out.mono ?_
              rintro e W3 ⟨rfl, ⟨buf3, hat3, hcon3⟩, hoth3⟩
              have hC3 := C_others HP1.out.rd hoth3 (fun ad e hp => ⟨C_block HP1.out.rd ad e hp, HP1.out.apart ad e⟩)
              obtain ⟨ad', had', hcell3⟩ := HCELL.out W3 hC3
              have hP3 : PS w b g m A' c' f (L.length - 1) buf3 (L.take (L.length - 1)) W3 :=
                ⟨hat3, hcon3, by rw [HTL.out]; have := HP1.out.cap; omega, Kd.C_take hC3 (Nat.sub_le L.length 1), HP1.out.apart, hoth3.below HP1.out.below hwb hwg HP1.out.below.size, hwb, hwg⟩
              have HP3 := Lib.hid hP3
              have HAD := Lib.hid had'
              clear hP3 hC3 hat3 hcon3 hoth3 had'
              obtain rfl := HAD.out
              go_wp2_with fail
              have his := is_any W3 b g m f (L.length - 1) buf3 (some ad') c' (L.take (L.length - 1)) st HP3.out.hat HP3.out.con HP3.out.rd HP3.out.cap
              rw [HTL.out] at his
              refine his.mono ?_
              rintro e W5 ⟨rfl, hb5⟩
              go_wp2_with fail
              go_roundw
              case rel => exact ⟨k + 1, by omega, by go_num, _, _, _, _, _, _, by rw [HTL.out], HP3.out.next hb5⟩
              case measure => simp [intOf]; omega
          · have hk2 : (kd == 2) = false := beq_eq_false_iff_ne.2 h2
            by_cases h3 : kd = 3
            · subst h3
              generalize hW2 : wr.alloc (.cells #[.int .i64 3, .slice A1 X.length c1] 38) = W2 at HP1 HC2 HX0 HX1 hxl
              have HW2 := Lib.hid hW2
              clear hW2
              go_wp2_with fail
              rw [HW2.out]
              refine (clear_any W2 b g m f L.length buf HP1.out.hat).mono ?_
              rintro e W3 ⟨rfl, ⟨buf3, hat3⟩, hoth3⟩
              have hP3 : PS w b g m none 0 0 0 buf3 [] W3 := ⟨hat3, rfl, Nat.le_refl _, Kd.C_nil _ _, fun ad e => (by cases e), hoth3.below HP1.out.below hwb hwg HP1.out.below.size, hwb, hwg⟩
              have HP3 := Lib.hid hP3
              clear hP3 hat3 hoth3
              go_wp2_with fail
              refine (is_any W3 b g m 0 0 buf3 none 0 [] st HP3.out.hat HP3.out.con HP3.out.rd HP3.out.cap).mono ?_
              rintro e W5 ⟨rfl, hb5⟩
              go_wp2_with fail
              go_roundw
              case rel => exact ⟨k + 1, by omega, by go_num, _, _, _, _, _, _, rfl, HP3.out.next hb5⟩
              case measure => simp [intOf]; omega
            · have hk3 : (kd == 3) = false := beq_eq_false_iff_ne.2 h3
              generalize hW2 : wr.alloc (.cells #[.int .i64 kd, .slice A1 X.length c1] 38) = W2 at HP1 HC2 HX0 HX1 hxl
              have HW2 := Lib.hid hW2
              clear hW2
              go_wp2_with fail
              rw [HW2.out]
              refine (is_any _ b g m f L.length buf A' c' L st HP1.out.hat HP1.out.con HP1.out.rd HP1.out.cap).mono ?_
              rintro e W5 ⟨rfl, hb5⟩
              go_wp2_with fail
              go_roundw
              case rel => exact ⟨k + 1, by omega, by go_num, _, _, _, _, _, _, rfl, HP1.out.next hb5⟩
              case measure => simp [intOf]; omega
    · have hd5 : ¬ ((k : Int) < (xs.length : Int)) := by omega
      go_wp2
      go_ret
      exact ⟨rfl, hps.below⟩
end Go.Proofs.Ytejfpnmomlnjhaa.RI
