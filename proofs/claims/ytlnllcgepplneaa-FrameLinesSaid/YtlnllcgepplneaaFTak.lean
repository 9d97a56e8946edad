/- take walked. -/
import Derived.Test.YtlnllcgepplneaaFTake
namespace Go.Proofs.Ytlnllcgepplneaa.MFrameLines
open Go.RowKit Go.Proofs Go.Proofs.YtlnllcgepplneaaW.PrintWords Go.Proofs.YtlnllcgepplneaaW.PrintLast Go.Proofs.YtlnllcgepplneaaW.PrintMore
set_option linter.unusedVariables false
set_option linter.unusedSimpArgs false
theorem any_take (l : List Int) (i : Nat) (h : i < l.length) : (l.take (i + 1)).any oddI = ((l.take i).any oddI || oddI (l.getD i 0)) := by
  rw [List.take_succ_eq_append_getElem h, List.any_append, List.getD_eq_getElem?_getD, List.getElem?_eq_getElem h]
  simp
theorem St.far0 {g base : Nat} {W w1 : World} {v v1 : Value} {p : List Int} {lo od so : Bool} (h : St W base g v p lo od so) (hv : v = v1) (hg : W.grownBy w1 v1.ownBlock) : w1.cell? ⟨g, 0, none⟩ = some v1 := by
  subst hv
  exact (World.cell?_of_block (hg.block g h.lg (fun e => absurd rfl (h.own.1 g e.symm)))).trans h.c0
theorem St.far1 {g base : Nat} {W w1 : World} {v v1 : Value} {p : List Int} {lo od so : Bool} (h : St W base g v p lo od so) (hv : v = v1) (hg : W.grownBy w1 v1.ownBlock) : w1.frozen? ⟨g, 0, none⟩ = false := by
  subst hv
  exact (World.frozen?_of_block (hg.block g h.lg (fun e => absurd rfl (h.own.1 g e.symm)))).trans h.z0
set_option maxHeartbeats 4000000 in
set_option maxRecDepth 100000 in
theorem take_any (w : World) (base g : Nat) (v : Value) (p : List Int) (lo od so : Bool) (A : Option Addr) (c : Nat) (l : List Int) (ok : Nat → Prop)
    (h : St w base g v p lo od so) (hC : Kd.F (Kd.int .u8) w ok A l.length l) (hok : ∀ k, ok k → k ≠ g) (hc : l.length ≤ c) (hl : l.length ≤ 1000000) (hp : p.length ≤ 400) :
    Calls Try.prog 13 #[.pointer (some ⟨g, 0, none⟩), .slice A l.length c] w fun e w' => e = .returned (.tuple #[]) ∧
      (∃ v', St w' base g v' (if (lo || decide (p.length + l.length > 400)) = true then p else p ++ l) (lo || decide (p.length + l.length > 400)) (od || l.any oddI) (so || decide (0 < l.length)) ∧ (v'.ownBlock = v.ownBlock ∨ ∃ b, v'.ownBlock = some b ∧ w.heap.size ≤ b)) ∧ Oth g v.ownBlock w w' := by
  have H := Aside0.mk h
  have HC := Aside0.mk hC
  have HOK := Aside0.mk hok
  have HL := Aside0.mk hl
  have HP := Aside0.mk hp
  have HCC := Aside0.mk hc
  have hc3 := h.c3
  have hz3 := h.z3
  obtain ⟨A0, c0, hv, hpc, _⟩ := Kd.R_reads h.own
  clear h hC hok hl hp hc
  obtain ⟨so', hso⟩ : ∃ so', so' = (so || decide (0 < l.length)) := ⟨_, rfl⟩
  rw [← hso]
  have HV := Aside0.mk hv
  clear hv hpc
  by_cases h0 : 0 < l.length
  · have hd0 : decide ((l.length : Int) > 0) = true := decide_eq_true (by omega)
    have hs1 : so' = true := by rw [hso, decide_eq_true h0, Bool.or_true]
    have H3 : Aside0 (St (w.setCell ⟨g, 3, none⟩ (.bool true)) base g v p lo od so') := ⟨by rw [hs1]; exact H.out.set3 true⟩
    have HO := Aside0.mk ((Oth.refl g none w).setCell 3 (.bool true))
    go_enter Try.func13, Try.ntmps13
    go_wp2
    generalize w.setCell ⟨g, 3, none⟩ (.bool true) = W1 at H3 HO ⊢
    clear hd0 hs1 h0 hc3 hz3 hso
    go_loopw [14] (fun s14 wr => ∃ i : Nat, s14 = .int .i64 i ∧ i ≤ l.length ∧ Aside0 (St wr base g v p lo (od || (l.take i).any oddI) so') ∧ Aside0 (Oth g none w wr)) (fun s14 _ => l.length - (intOf s14).toNat)
    case atStart => exact ⟨0, rfl, Nat.zero_le _, by rw [List.take_zero, List.any_nil, Bool.or_false]; exact H3, HO⟩
    case round =>
      clear H3 HO
      obtain ⟨i, rfl, hin, HS, HB⟩ := hrel
      have g2 := HS.out.c2
      have y2 := HS.out.z2
      by_cases hlt : i < l.length
      · have hn4 : (i : Int) < (l.length : Int) := by omega
        have p4 : (0 : Int) ≤ (i : Int) := Int.natCast_nonneg _
        have hF := Kd.F_step (W1 := wr) HC.out (fun k hk hlt => HB.out.block k hlt (HOK.out k hk) (by simp))
        have hR : ReadsInt wr .u8 A l.length l := Kd.reads_of_C (d := (0 : Int)) (Kd.F_now hF)
        obtain ⟨ad, hA, hx⟩ := hR.at_ _ p4 hn4
        clear hF hR
        subst hA
        have hwk : IntKind.i64.wrap ((i : Int) + 1) = (i : Int) + 1 := by have := HL.out; rw [IntKind.wrap_i64]; omega
        have hxe : rd l (i : Int) = l.getD i 0 := rfl
        rw [hxe, Int.toNat_natCast] at hx
        have HAT := Aside0.mk (any_take l i hlt)
        generalize l.getD i 0 = x at hx HAT
        have HW := Aside0.mk hwk
        have HLT := Aside0.mk hlt
        clear hxe hwk
        obtain ⟨b, hb⟩ : ∃ b, b = (od || (l.take i).any oddI) := ⟨_, rfl⟩
        rw [← hb] at g2 HS
        have fin : ∀ b', b' = (b || oddI x) → St (wr.setCell ⟨g, 2, none⟩ (.bool b')) base g v p lo (od || (l.take (i + 1)).any oddI) so' := by
          intro b' hb'
          have e : (od || (l.take (i + 1)).any oddI) = b' := by rw [HAT.out, hb', hb, Bool.or_assoc]
          rw [e]
          exact HS.out.set2 b'
        have FIN := Aside0.mk fin
        clear fin hb HAT
        have HI := Aside0.mk hin
        clear hin
        cases b with
        | true =>
          have F1 := Aside0.mk (FIN.out true rfl)
          have hwk := HW.out
          go_wp2
          go_roundw
          case rel => exact ⟨i + 1, by go_num, HLT.out, F1, ⟨HB.out.setCell 2 _⟩⟩
          case measure => have := HLT.out; simp [intOf]; omega
        | false =>
          by_cases hx1 : x < 32
          · have hd1 : decide (x < 32) = true := decide_eq_true hx1
            have F1 := Aside0.mk (FIN.out true (by unfold oddI; rw [hd1]; rfl))
            have hwk := HW.out
            go_wp2
            go_roundw
            case rel => exact ⟨i + 1, by go_num, HLT.out, F1, ⟨HB.out.setCell 2 _⟩⟩
            case measure => have := HLT.out; simp [intOf]; omega
          · have hd1 : decide (x < 32) = false := decide_eq_false hx1
            by_cases hx2 : x > 126
            · have hd2 : decide (x > 126) = true := decide_eq_true hx2
              have F1 := Aside0.mk (FIN.out true (by unfold oddI; rw [hd1, hd2]; rfl))
              have hwk := HW.out
              go_wp2
              go_roundw
              case rel => exact ⟨i + 1, by go_num, HLT.out, F1, ⟨HB.out.setCell 2 _⟩⟩
              case measure => have := HLT.out; simp [intOf]; omega
            · have hd2 : decide (x > 126) = false := decide_eq_false hx2
              have F1 := Aside0.mk (FIN.out false (by unfold oddI; rw [hd1, hd2]; rfl))
              have hwk := HW.out
              go_wp2
              go_roundw
              case rel => exact ⟨i + 1, by go_num, HLT.out, F1, ⟨HB.out.setCell 2 _⟩⟩
              case measure => have := HLT.out; simp [intOf]; omega
      · obtain rfl : i = l.length := by omega
        rw [List.take_length] at HS
        clear g2 y2 hin hlt
        have g0 := HS.out.c0
        have g1 := HS.out.c1
        have y1 := HS.out.z1
        rw [HV.out] at g0
        cases lo with
        | true =>
          have F1 := Aside0.mk (HS.out.set1 true)
          have f1 := F1.out.c1
          go_wp2
          go_end0
          exact ⟨rfl, ⟨v, F1.out, .inl rfl⟩, (HB.out.setCell 1 _).weak _⟩
        | false =>
          have hlp := HL.out
          have hpp := HP.out
          have hsum : IntKind.i64.wrap ((p.length : Int) + (l.length : Int)) = (p.length : Int) + (l.length : Int) := by rw [IntKind.wrap_i64]; omega
          by_cases hgt : p.length + l.length > 400
          · have hd : decide ((p.length : Int) + (l.length : Int) > 400) = true := decide_eq_true (by omega)
            have hq : decide (p.length + l.length > 400) = true := decide_eq_true hgt
            have F1 := Aside0.mk (HS.out.set1 true)
            have f1 := F1.out.c1
            clear hlp hpp hgt
            go_wp2
            go_end0
            exact ⟨rfl, ⟨v, by first | exact F1.out | (rw [hq]; exact F1.out), .inl rfl⟩, (HB.out.setCell 1 _).weak _⟩
          · have hd : decide ((p.length : Int) + (l.length : Int) > 400) = false := decide_eq_false (by omega)
            have hq : decide (p.length + l.length > 400) = false := decide_eq_false hgt
            have F1 := Aside0.mk (HS.out.set1 false)
            have f1 := F1.out.c1
            have f0 := F1.out.c0
            rw [HV.out] at f0
            have HO1 := Aside0.mk (HB.out.setCell 1 (.bool false))
            have HC1 := Aside0.mk (Kd.F_now (Kd.F_step (W1 := wr.setCell ⟨g, 1, none⟩ (.bool false)) HC.out (fun k hk hlt => HO1.out.block k hlt (HOK.out k hk) (by simp))))
            have HGT := Aside0.mk (Nat.le_of_not_lt hgt)
            clear hlp hpp hgt
            have HLE : Aside0 ((p.length + l.length) * 1 ≤ 140737488355328) := ⟨by have := HGT.out; omega⟩
            have HFR : Aside0 (∀ k, (wr.setCell ⟨g, 1, none⟩ (.bool false)).heap.size ≤ k → k ≠ g) := ⟨fun k hk => by have := F1.out.lg; omega⟩
            go_wp2_with (at_builtin; (refine Kd.R_append_rows (Kd.int .u8) (w0 := wr.setCell ⟨g, 1, none⟩ (.bool false)) base rfl (.tmp 61) (.tmp 62) 24 5 (.int .u8 0) 1 rfl Try.underlying24 info5 rfl (by decide) (by omega) (.slice A0 p.length c0) p l A l.length c (fun k => k ≠ g) (fun _ => False) rfl rfl (by have := F1.out.own; rw [HV.out] at this; exact this) HC1.out (fun _ _ h => h) (fun _ h => h.elim) HFR.out (Below.refl _ _) (Nat.le_trans F1.out.hb (Nat.le_of_lt F1.out.lg)) HLE.out ?_); intro v1 w1 ho hbl hg hat; obtain ⟨A1, c1, hv1⟩ := Kd.R_slice ho; subst hv1; have HO2 := Aside0.mk ho; have HG := Aside0.mk hg; have HAT := Aside0.mk hat; clear ho hbl hg hat; have q0 := St.far0 F1.out (v1 := .slice A0 p.length c0) HV.out HG.out; have q1 := St.far1 F1.out (v1 := .slice A0 p.length c0) HV.out HG.out)
            all_goals
              go_end0
              have hS := F1.out.set0 (by rw [HV.out]; exact HG.out) HO2.out
              have hat' := HAT.out
              simp only [List.length_append] at hS hat'
              refine ⟨rfl, ⟨_, by first | exact hS | (rw [hq]; exact hS), ?_⟩, ?_⟩
              · rw [HV.out]
                rcases hat' with e | ⟨b, e, hb⟩
                · exact .inl e
                · exact .inr ⟨b, e, by have := HB.out.size; simp at hb; omega⟩
              · rw [HV.out]
                exact ((HO1.out.weak _).trans (Oth.of_grown HG.out g) (.inl rfl)).setCell 0 _
  · have hd0 : decide ((l.length : Int) > 0) = false := decide_eq_false (by omega)
    have hs1 : so' = so := by rw [hso, decide_eq_false h0, Bool.or_false]
    have H3 : Aside0 (St w base g v p lo od so') := ⟨by rw [hs1]; exact H.out⟩
    have HO := Aside0.mk (Oth.refl g none w)
    go_enter Try.func13, Try.ntmps13
    go_wp2
    clear hd0 hs1 h0 hc3 hz3 hso
    go_loopw [14] (fun s14 wr => ∃ i : Nat, s14 = .int .i64 i ∧ i ≤ l.length ∧ Aside0 (St wr base g v p lo (od || (l.take i).any oddI) so') ∧ Aside0 (Oth g none w wr)) (fun s14 _ => l.length - (intOf s14).toNat)
    case atStart => exact ⟨0, rfl, Nat.zero_le _, by rw [List.take_zero, List.any_nil, Bool.or_false]; exact H3, HO⟩
    case round =>
      clear H3 HO
      obtain ⟨i, rfl, hin, HS, HB⟩ := hrel
      have g2 := HS.out.c2
      have y2 := HS.out.z2
      by_cases hlt : i < l.length
      · have hn4 : (i : Int) < (l.length : Int) := by omega
        have p4 : (0 : Int) ≤ (i : Int) := Int.natCast_nonneg _
        have hF := Kd.F_step (W1 := wr) HC.out (fun k hk hlt => HB.out.block k hlt (HOK.out k hk) (by simp))
        have hR : ReadsInt wr .u8 A l.length l := Kd.reads_of_C (d := (0 : Int)) (Kd.F_now hF)
        obtain ⟨ad, hA, hx⟩ := hR.at_ _ p4 hn4
        clear hF hR
        subst hA
        have hwk : IntKind.i64.wrap ((i : Int) + 1) = (i : Int) + 1 := by have := HL.out; rw [IntKind.wrap_i64]; omega
        have hxe : rd l (i : Int) = l.getD i 0 := rfl
        rw [hxe, Int.toNat_natCast] at hx
        have HAT := Aside0.mk (any_take l i hlt)
        generalize l.getD i 0 = x at hx HAT
        have HW := Aside0.mk hwk
        have HLT := Aside0.mk hlt
        clear hxe hwk
        obtain ⟨b, hb⟩ : ∃ b, b = (od || (l.take i).any oddI) := ⟨_, rfl⟩
        rw [← hb] at g2 HS
        have fin : ∀ b', b' = (b || oddI x) → St (wr.setCell ⟨g, 2, none⟩ (.bool b')) base g v p lo (od || (l.take (i + 1)).any oddI) so' := by
          intro b' hb'
          have e : (od || (l.take (i + 1)).any oddI) = b' := by rw [HAT.out, hb', hb, Bool.or_assoc]
          rw [e]
          exact HS.out.set2 b'
        have FIN := Aside0.mk fin
        clear fin hb HAT
        have HI := Aside0.mk hin
        clear hin
        cases b with
        | true =>
          have F1 := Aside0.mk (FIN.out true rfl)
          have hwk := HW.out
          go_wp2
          go_roundw
          case rel => exact ⟨i + 1, by go_num, HLT.out, F1, ⟨HB.out.setCell 2 _⟩⟩
          case measure => have := HLT.out; simp [intOf]; omega
        | false =>
          by_cases hx1 : x < 32
          · have hd1 : decide (x < 32) = true := decide_eq_true hx1
            have F1 := Aside0.mk (FIN.out true (by unfold oddI; rw [hd1]; rfl))
            have hwk := HW.out
            go_wp2
            go_roundw
            case rel => exact ⟨i + 1, by go_num, HLT.out, F1, ⟨HB.out.setCell 2 _⟩⟩
            case measure => have := HLT.out; simp [intOf]; omega
          · have hd1 : decide (x < 32) = false := decide_eq_false hx1
            by_cases hx2 : x > 126
            · have hd2 : decide (x > 126) = true := decide_eq_true hx2
              have F1 := Aside0.mk (FIN.out true (by unfold oddI; rw [hd1, hd2]; rfl))
              have hwk := HW.out
              go_wp2
              go_roundw
              case rel => exact ⟨i + 1, by go_num, HLT.out, F1, ⟨HB.out.setCell 2 _⟩⟩
              case measure => have := HLT.out; simp [intOf]; omega
            · have hd2 : decide (x > 126) = false := decide_eq_false hx2
              have F1 := Aside0.mk (FIN.out false (by unfold oddI; rw [hd1, hd2]; rfl))
              have hwk := HW.out
              go_wp2
              go_roundw
              case rel => exact ⟨i + 1, by go_num, HLT.out, F1, ⟨HB.out.setCell 2 _⟩⟩
              case measure => have := HLT.out; simp [intOf]; omega
      · obtain rfl : i = l.length := by omega
        rw [List.take_length] at HS
        clear g2 y2 hin hlt
        have g0 := HS.out.c0
        have g1 := HS.out.c1
        have y1 := HS.out.z1
        rw [HV.out] at g0
        cases lo with
        | true =>
          have F1 := Aside0.mk (HS.out.set1 true)
          have f1 := F1.out.c1
          go_wp2
          go_end0
          exact ⟨rfl, ⟨v, F1.out, .inl rfl⟩, (HB.out.setCell 1 _).weak _⟩
        | false =>
          have hlp := HL.out
          have hpp := HP.out
          have hsum : IntKind.i64.wrap ((p.length : Int) + (l.length : Int)) = (p.length : Int) + (l.length : Int) := by rw [IntKind.wrap_i64]; omega
          by_cases hgt : p.length + l.length > 400
          · have hd : decide ((p.length : Int) + (l.length : Int) > 400) = true := decide_eq_true (by omega)
            have hq : decide (p.length + l.length > 400) = true := decide_eq_true hgt
            have F1 := Aside0.mk (HS.out.set1 true)
            have f1 := F1.out.c1
            clear hlp hpp hgt
            go_wp2
            go_end0
            exact ⟨rfl, ⟨v, by first | exact F1.out | (rw [hq]; exact F1.out), .inl rfl⟩, (HB.out.setCell 1 _).weak _⟩
          · have hd : decide ((p.length : Int) + (l.length : Int) > 400) = false := decide_eq_false (by omega)
            have hq : decide (p.length + l.length > 400) = false := decide_eq_false hgt
            have F1 := Aside0.mk (HS.out.set1 false)
            have f1 := F1.out.c1
            have f0 := F1.out.c0
            rw [HV.out] at f0
            have HO1 := Aside0.mk (HB.out.setCell 1 (.bool false))
            have HC1 := Aside0.mk (Kd.F_now (Kd.F_step (W1 := wr.setCell ⟨g, 1, none⟩ (.bool false)) HC.out (fun k hk hlt => HO1.out.block k hlt (HOK.out k hk) (by simp))))
            have HGT := Aside0.mk (Nat.le_of_not_lt hgt)
            clear hlp hpp hgt
            have HLE : Aside0 ((p.length + l.length) * 1 ≤ 140737488355328) := ⟨by have := HGT.out; omega⟩
            have HFR : Aside0 (∀ k, (wr.setCell ⟨g, 1, none⟩ (.bool false)).heap.size ≤ k → k ≠ g) := ⟨fun k hk => by have := F1.out.lg; omega⟩
            go_wp2_with (at_builtin; (refine Kd.R_append_rows (Kd.int .u8) (w0 := wr.setCell ⟨g, 1, none⟩ (.bool false)) base rfl (.tmp 61) (.tmp 62) 24 5 (.int .u8 0) 1 rfl Try.underlying24 info5 rfl (by decide) (by omega) (.slice A0 p.length c0) p l A l.length c (fun k => k ≠ g) (fun _ => False) rfl rfl (by have := F1.out.own; rw [HV.out] at this; exact this) HC1.out (fun _ _ h => h) (fun _ h => h.elim) HFR.out (Below.refl _ _) (Nat.le_trans F1.out.hb (Nat.le_of_lt F1.out.lg)) HLE.out ?_); intro v1 w1 ho hbl hg hat; obtain ⟨A1, c1, hv1⟩ := Kd.R_slice ho; subst hv1; have HO2 := Aside0.mk ho; have HG := Aside0.mk hg; have HAT := Aside0.mk hat; clear ho hbl hg hat; have q0 := St.far0 F1.out (v1 := .slice A0 p.length c0) HV.out HG.out; have q1 := St.far1 F1.out (v1 := .slice A0 p.length c0) HV.out HG.out)
            all_goals
              go_end0
              have hS := F1.out.set0 (by rw [HV.out]; exact HG.out) HO2.out
              have hat' := HAT.out
              simp only [List.length_append] at hS hat'
              refine ⟨rfl, ⟨_, by first | exact hS | (rw [hq]; exact hS), ?_⟩, ?_⟩
              · rw [HV.out]
                rcases hat' with e | ⟨b, e, hb⟩
                · exact .inl e
                · exact .inr ⟨b, e, by have := HB.out.size; simp at hb; omega⟩
              · rw [HV.out]
                exact ((HO1.out.weak _).trans (Oth.of_grown HG.out g) (.inl rfl)).setCell 0 _
end Go.Proofs.Ytlnllcgepplneaa.MFrameLines
