/- The document's Note, walked. -/
import Derived.Test.YthadibmgahlpfaaKInts
namespace Go.Proofs.Ythadibmgahlpfaa.MD
open Go Go.RowKit Go.Proofs Go.Proofs.YthadibmgahlpfaaW.PrintWords Go.Proofs.YthadibmgahlpfaaW.PrintLast Go.Proofs.YthadibmgahlpfaaW.PrintMore
set_option linter.unusedVariables false
set_option linter.unusedSimpArgs false
/-- The places with one more, in order. -/
def outL (t : Int) (L : List Int) : List Int := L.filter (fun y => decide (y < t)) ++ [t] ++ L.filter (fun y => decide (y > t))
def refN (ev mo t : Int) (L : List Int) : List Int × Bool :=
  if t ∈ L then (L, true) else if t < 0 ∨ ¬ (t % ev = 0) then (L, false) else if mo < ((outL t L).length : Int) then ((outL t L).drop 1, ((outL t L).getD 0 0 != t)) else (outL t L, true)
theorem filt_next (p : Int → Bool) (L : List Int) (i : Nat) (h : i < L.length) : (L.take (i + 1)).filter p = (L.take i).filter p ++ (if p (L[i]) = true then [L[i]] else []) := by
  rw [List.take_succ_eq_append_getElem h, List.filter_append, List.filter_cons]
  rfl
theorem filt_le (p : Int → Bool) (L : List Int) (i : Nat) (h : i ≤ L.length) : ((L.take i).filter p).length ≤ L.length := by
  have h1 := List.length_filter_le p (L.take i)
  rw [List.length_take] at h1
  omega
theorem Ints.tail {w : World} {A : Option Addr} {c : Nat} {L : List Int} {base : Nat} (h : Kd.R (Kd.int .i64) 3 w base (fun _ => True) (.slice A L.length c) L) (hl : 2 ≤ L.length) : ∃ g, A = some ⟨g, 0, none⟩ ∧ 2 ≤ c ∧ Ints w (.slice (some ⟨g, 1, none⟩) (L.length - 1) (c - 1)) (L.drop 1) ∧ w.cell? ⟨g, 0, none⟩ = some (.int .i64 (L.getD 0 0)) := by
  obtain ⟨g, c2, e, _, _, cs, hg⟩ := Kd.R_form h (by omega)
  injection e with e1 _ e3
  subst e1 e3
  obtain ⟨_, hc, hC⟩ := Kd.R_reads' h
  have hcell : ∀ j, j < L.length → cs[j]? = some (.int .i64 (L.getD j 0)) := fun j hj => by
    obtain ⟨ad, ea, hcell⟩ := Ints.at_ (n := 0) (c := 0) hC j hj
    cases ea
    rw [add_plain, blk_cell hg j] at hcell
    exact hcell
  refine ⟨g, rfl, by omega, .inr ⟨g, 1, c - 1, cs, by rw [List.length_drop], by rw [List.length_drop]; omega, by rw [List.length_drop]; omega, hg, fun j hj => ?_⟩, (blk_cell hg 0).trans (hcell 0 (by omega))⟩
  rw [List.length_drop] at hj
  rw [hcell (1 + j) (by omega), List.getD_eq_getElem?_getD, List.getD_eq_getElem?_getD, List.getElem?_drop]
structure RefNP (w : World) (r : List Int × Bool) (e : Ending) (w' : World) : Prop where
  out : ∃ v', e = .returned (.tuple #[v', .bool r.2]) ∧ Ints w' v' r.1 ∧ Below w.heap.size w w'
theorem RefNP.of {w w' : World} {r : List Int × Bool} {L : List Int} {b : Bool} {v : Value} (h : r = (L, b)) (h1 : Ints w' v L) (h2 : Below w.heap.size w w') : RefNP w r (.returned (.tuple #[v, .bool b])) w' := by
  subst h
  exact ⟨v, rfl, h1, h2⟩
set_option maxHeartbeats 4000000 in
set_option maxRecDepth 100000 in
theorem refNote_any (w : World) (v : Value) (L : List Int) (ev mo t : Int) (h : Ints w v L) (hL : L.length ≤ 999) (hev : 1 ≤ ev) (hmo : 1 ≤ mo) :
    Calls Try.prog 10 #[v, .int .i64 ev, .int .i64 mo, .int .i64 t] w fun e w' => RefNP w (refN ev mo t L) e w' := by
  have HDF := Aside0.mk (Eq.refl (refN ev mo t L))
  revert HDF
  generalize hgr : refN ev mo t L = rr
  intro _
  have HDF := Aside0.mk hgr.symm
  clear hgr
  have HV := Aside0.mk h
  obtain ⟨A, c, rfl, hc, hC⟩ := h.C (by omega)
  have HC := Aside0.mk hC
  have HL := Aside0.mk hL
  have HP := Aside0.mk (And.intro hev hmo)
  have HB := Aside0.mk (Below.refl w.heap.size w)
  clear h hc hC hL
  go_enter Try.func10, Try.ntmps10
  go_wp2
  go_loopw [10] (fun v10 wr => ∃ i : Nat, v10 = .int .i64 (i : Int) ∧ i ≤ L.length ∧ Aside0 (∀ j, j < i → ¬ (L.getD j 0 = t)) ∧ Aside0 (wr = w)) (fun v10 _ => L.length - (intOf v10).toNat)
  case atStart => exact ⟨0, rfl, Nat.zero_le _, ⟨fun j hj => absurd hj (Nat.not_lt_zero _)⟩, (by first | exact ⟨trivial⟩ | exact ⟨rfl⟩)⟩
  case round =>
    obtain ⟨i, rfl, hi, HI, HWR⟩ := hrel
    have e0 := HWR.out.symm
    clear HWR
    subst e0
    by_cases hlt : i < L.length
    · have hn4 : (i : Int) < (L.length : Int) := by omega
      have p : (0 : Int) ≤ (i : Int) := Int.natCast_nonneg _
      obtain ⟨ad, rfl, c0⟩ := Ints.at_ (n := 0) (c := 0) HC.out i hlt
      obtain ⟨x, hx⟩ : ∃ z, z = L.getD i 0 := ⟨_, rfl⟩
      rw [← hx] at c0
      have HX := Aside0.mk hx
      have wk : IntKind.i64.wrap ((i : Int) + 1) = (i : Int) + 1 := by have := HL.out; rw [IntKind.wrap_i64]; omega
      have HLT := Aside0.mk hlt
      clear hx hi hlt
      by_cases he : x = t
      · have HE := Aside0.mk he
        have hq : (x == t) = true := beq_iff_eq.2 he
        have hr : refN ev mo t L = (L, true) := by
          unfold refN
          have hl := HLT.out
          rw [if_pos (by rw [← HE.out, HX.out, List.getD_eq_getElem?_getD, List.getElem?_eq_getElem hl]; exact List.getElem_mem hl)]
        have HR0 := Aside0.mk (HDF.out.trans hr)
        clear hr he HDF
        go_wp2
        go_ret2
        exact RefNP.of HR0.out HV.out HB.out
      · have hq : (x == t) = false := beq_eq_false_iff_ne.2 he
        have HI2 : Aside0 (∀ j, j < i + 1 → ¬ (L.getD j 0 = t)) := ⟨fun j hj => by
          rcases Nat.lt_succ_iff_lt_or_eq.1 hj with g | rfl
          · exact HI.out j g
          · rw [← HX.out]; exact he⟩
        clear he
        go_wp2
        go_roundw
        case rel => exact ⟨i + 1, by go_num, HLT.out, HI2, (by first | exact ⟨trivial⟩ | exact ⟨rfl⟩)⟩
        case measure => have := HLT.out; simp [intOf]; omega
    · have hn4 : ¬ ((i : Int) < (L.length : Int)) := by omega
      have HNO : Aside0 (¬ t ∈ L) := ⟨fun hm => by
        obtain ⟨j, hj, hjt⟩ := List.mem_iff_getElem.1 hm
        exact HI.out j (by omega) (by rw [List.getD_eq_getElem?_getD, List.getElem?_eq_getElem hj]; exact hjt)⟩
      clear hlt hi HI
      have hev0 : ¬ (ev = 0) := by omega
      have hev1 : ¬ (ev = -1) := by omega
      by_cases ht : t < 0
      · have hr : refN ev mo t L = (L, false) := by unfold refN; rw [if_neg HNO.out, if_pos (.inl ht)]
        have HR0 := Aside0.mk (HDF.out.trans hr)
        clear hr HDF
        go_wp2
        go_ret2
        exact RefNP.of HR0.out HV.out HB.out
      by_cases hm : t % ev = 0
      · have q1 : (t % ev != 0) = false := by rw [hm]; rfl
        have hr : refN ev mo t L = if mo < ((outL t L).length : Int) then ((outL t L).drop 1, ((outL t L).getD 0 0 != t)) else (outL t L, true) := by unfold refN; rw [if_neg HNO.out, if_neg (by omega)]
        have HR0 := Aside0.mk (HDF.out.trans hr)
        clear hr hm HNO HDF
        go_wp2
        clear q1 hev0 hev1 hn4 ht hev hmo
        go_loopw [11, 12] (fun v11 vi wr => ∃ i : Nat, vi = .int .i64 (i : Int) ∧ i ≤ L.length ∧ Aside0 (Kd.R (Kd.int .i64) 3 wr w.heap.size (fun _ => True) v11 ((L.take i).filter (fun y => decide (y < t)))) ∧ Aside0 (Below w.heap.size w wr)) (fun _ vi _ => L.length - (intOf vi).toNat)
        case atStart => exact ⟨0, rfl, Nat.zero_le _, ⟨Kd.R_nil _ _ _ _ _⟩, HB⟩
        case round =>
          clear HB 
          obtain ⟨i, rfl, hi, HR, HB⟩ := hrel
          by_cases hlt : i < L.length
          · have hn4 : (i : Int) < (L.length : Int) := by omega
            have p : (0 : Int) ≤ (i : Int) := Int.natCast_nonneg _
            obtain ⟨ad, rfl, c0⟩ := Ints.at_ (n := 0) (c := 0) HC.out i hlt
            replace c0 := (HB.out.cell (World.block_lt_of_cell? w _ c0)).trans c0
            have hnx := filt_next (fun y => decide (y < t)) L i hlt
            have hxi : L[i] = L.getD i 0 := by rw [List.getD_eq_getElem?_getD, List.getElem?_eq_getElem hlt]; rfl
            rw [hxi] at hnx
            generalize L.getD i 0 = x at c0 hnx
            have wk : IntKind.i64.wrap ((i : Int) + 1) = (i : Int) + 1 := by have := HL.out; rw [IntKind.wrap_i64]; omega
            have HLT := Aside0.mk hlt
            have hfl := filt_le (fun y => decide (y < t)) L i hi
            clear hi hlt hxi
            by_cases hcmp : x < t
            · have hnx2 : (L.take (i + 1)).filter (fun y => decide (y < t)) = ((L.take i).filter (fun y => decide (y < t))) ++ [x] := by rw [hnx, if_pos (decide_eq_true hcmp)]
              have HNX := Aside0.mk hnx2
              have hlen : (((L.take i).filter (fun y => decide (y < t))).length + 1) * 8 ≤ 140737488355328 := by
                have hl := HL.out

                omega
              have HLEN := Aside0.mk hlen
              have hq : decide (x < t) = true := decide_eq_true hcmp
              clear hnx hnx2 hlen hfl hcmp
              generalize (L.take i).filter (fun y => decide (y < t)) = ys at HR HLEN HNX
              go_wp2_with (first | ((with_reducible refine gate_builtin (b := .append) (xs := #[.tmp 48, .tmp 53]) rfl ?_); at_builtin; refine Kd.R_append (Kd.int .i64) (w0 := w) w.heap.size rfl (.tmp 48) (.tmp 53) 34 3 (.int .i64 0) 8 rfl Try.underlying34 info3 rfl (by decide) (by decide) u11 ys x [.int .i64 x] (fun _ => True) (fun _ => False) rfl rfl rfl (fun _ hk => hk.elim) (fun _ _ => trivial) HR.out HB.out HB.out.size HLEN.out ?_; intro v1 w1 ho hb hg hat; have HR1 := Aside0.mk ho; have HB1 := Aside0.mk hb; clear ho hb hg hat))
              go_roundw
              case rel => exact ⟨i + 1, by go_num, HLT.out, ⟨by rw [HNX.out]; exact HR1.out⟩, HB1⟩
              case measure => have := HLT.out; simp [intOf]; omega
            · have hnx2 : (L.take (i + 1)).filter (fun y => decide (y < t)) = (L.take i).filter (fun y => decide (y < t)) := by rw [hnx, if_neg (by rw [decide_eq_false hcmp]; decide), List.append_nil]
              have HNX := Aside0.mk hnx2
              have hq : decide (x < t) = false := decide_eq_false hcmp
              clear hnx hnx2 hfl hcmp
              go_wp2
              go_roundw
              case rel => exact ⟨i + 1, by go_num, HLT.out, ⟨by rw [HNX.out]; exact HR.out⟩, HB⟩
              case measure => have := HLT.out; simp [intOf]; omega
          · have hn4 : ¬ ((i : Int) < (L.length : Int)) := by omega
            have htk : L.take i = L := List.take_of_length_le (by omega)
            rw [htk] at HR
            clear hlt hi htk
            have hlen : ((L.filter (fun y => decide (y < t))).length + 1) * 8 ≤ 140737488355328 := by
              have h1 := List.length_filter_le (fun y => decide (y < t)) L
              have h3 := HL.out
              omega
            have HLEN := Aside0.mk hlen
            clear hlen
            go_wp2_with (first | ((with_reducible refine gate_builtin (b := .append) (xs := #[.tmp 55, .tmp 57]) rfl ?_); at_builtin; refine Kd.R_append (Kd.int .i64) (w0 := w) w.heap.size rfl (.tmp 55) (.tmp 57) 34 3 (.int .i64 0) 8 rfl Try.underlying34 info3 rfl (by decide) (by decide) u11 (L.filter (fun y => decide (y < t))) t [.int .i64 t] (fun _ => True) (fun _ => False) rfl rfl rfl (fun _ hk => hk.elim) (fun _ _ => trivial) HR.out HB.out HB.out.size HLEN.out ?_; intro v1 w1 ho hb hg hat; have HR1 := Aside0.mk ho; have HB2 := Aside0.mk hb; clear ho hb hg hat))
            clear hn4
            clear HR HB
            have HB := HB2
            clear HB2
            go_loopw [11, 13] (fun v11 vi wr => ∃ i : Nat, vi = .int .i64 (i : Int) ∧ i ≤ L.length ∧ Aside0 (Kd.R (Kd.int .i64) 3 wr w.heap.size (fun _ => True) v11 ((L.filter (fun y => decide (y < t)) ++ [t]) ++ (L.take i).filter (fun y => decide (y > t)))) ∧ Aside0 (Below w.heap.size w wr)) (fun _ vi _ => L.length - (intOf vi).toNat)
            case atStart => exact ⟨0, rfl, Nat.zero_le _, ⟨by rw [List.take_zero, List.filter_nil, List.append_nil]; exact HR1.out⟩, HB⟩
            case round =>
              clear HB HR1
              obtain ⟨i, rfl, hi, HR, HB⟩ := hrel
              by_cases hlt : i < L.length
              · have hn4 : (i : Int) < (L.length : Int) := by omega
                have p : (0 : Int) ≤ (i : Int) := Int.natCast_nonneg _
                obtain ⟨ad, rfl, c0⟩ := Ints.at_ (n := 0) (c := 0) HC.out i hlt
                replace c0 := (HB.out.cell (World.block_lt_of_cell? w _ c0)).trans c0
                have hnx := filt_next (fun y => decide (y > t)) L i hlt
                have hxi : L[i] = L.getD i 0 := by rw [List.getD_eq_getElem?_getD, List.getElem?_eq_getElem hlt]; rfl
                rw [hxi] at hnx
                generalize L.getD i 0 = x at c0 hnx
                have wk : IntKind.i64.wrap ((i : Int) + 1) = (i : Int) + 1 := by have := HL.out; rw [IntKind.wrap_i64]; omega
                have HLT := Aside0.mk hlt
                have hfl := filt_le (fun y => decide (y > t)) L i hi
                clear hi hlt hxi
                by_cases hcmp : x > t
                · have hnx2 : (L.filter (fun y => decide (y < t)) ++ [t]) ++ (L.take (i + 1)).filter (fun y => decide (y > t)) = ((L.filter (fun y => decide (y < t)) ++ [t]) ++ (L.take i).filter (fun y => decide (y > t))) ++ [x] := by rw [hnx, if_pos (decide_eq_true hcmp)]; simp only [List.append_assoc]
                  have HNX := Aside0.mk hnx2
                  have hlen : (((L.filter (fun y => decide (y < t)) ++ [t]) ++ (L.take i).filter (fun y => decide (y > t))).length + 1) * 8 ≤ 140737488355328 := by
                    have hl := HL.out
                    rw [List.length_append]
                    have hfa := filt_le (fun y => decide (y < t)) L L.length (Nat.le_refl _)
                    rw [List.take_length] at hfa
                    have hpl : (L.filter (fun y => decide (y < t)) ++ [t]).length ≤ L.length + 1 := by rw [List.length_append, List.length_singleton]; omega
                    omega
                  have HLEN := Aside0.mk hlen
                  have hq : decide (x > t) = true := decide_eq_true hcmp
                  clear hnx hnx2 hlen hfl hcmp
                  generalize (L.filter (fun y => decide (y < t)) ++ [t]) ++ (L.take i).filter (fun y => decide (y > t)) = ys at HR HLEN HNX
                  go_wp2_with (first | ((with_reducible refine gate_builtin (b := .append) (xs := #[.tmp 71, .tmp 76]) rfl ?_); at_builtin; refine Kd.R_append (Kd.int .i64) (w0 := w) w.heap.size rfl (.tmp 71) (.tmp 76) 34 3 (.int .i64 0) 8 rfl Try.underlying34 info3 rfl (by decide) (by decide) u11 ys x [.int .i64 x] (fun _ => True) (fun _ => False) rfl rfl rfl (fun _ hk => hk.elim) (fun _ _ => trivial) HR.out HB.out HB.out.size HLEN.out ?_; intro v1 w1 ho hb hg hat; have HR1 := Aside0.mk ho; have HB1 := Aside0.mk hb; clear ho hb hg hat))
                  go_roundw
                  case rel => exact ⟨i + 1, by go_num, HLT.out, ⟨by rw [HNX.out]; exact HR1.out⟩, HB1⟩
                  case measure => have := HLT.out; simp [intOf]; omega
                · have hnx2 : (L.filter (fun y => decide (y < t)) ++ [t]) ++ (L.take (i + 1)).filter (fun y => decide (y > t)) = (L.filter (fun y => decide (y < t)) ++ [t]) ++ (L.take i).filter (fun y => decide (y > t)) := by rw [hnx, if_neg (by rw [decide_eq_false hcmp]; decide), List.append_nil]
                  have HNX := Aside0.mk hnx2
                  have hq : decide (x > t) = false := decide_eq_false hcmp
                  clear hnx hnx2 hfl hcmp
                  go_wp2
                  go_roundw
                  case rel => exact ⟨i + 1, by go_num, HLT.out, ⟨by rw [HNX.out]; exact HR.out⟩, HB⟩
                  case measure => have := HLT.out; simp [intOf]; omega
              · have hn4 : ¬ ((i : Int) < (L.length : Int)) := by omega
                have htk : L.take i = L := List.take_of_length_le (by omega)
                rw [htk] at HR
                clear hlt hi htk
                have hdef : L.filter (fun y => decide (y < t)) ++ [t] ++ L.filter (fun y => decide (y > t)) = outL t L := rfl
                rw [hdef] at HR
                clear hdef
                have hlo : (outL t L).length ≤ 2000 := by
                  unfold outL
                  have h1 := List.length_filter_le (fun y => decide (y < t)) L
                  have h2 := List.length_filter_le (fun y => decide (y > t)) L
                  have h3 := HL.out
                  rw [List.length_append, List.length_append, List.length_singleton]
                  omega
                have HR1 := HR0.out
                clear HR0
                generalize outL t L = O at HR hlo HR1
                obtain ⟨A2, c2, rfl⟩ := Kd.R_slice HR.out
                by_cases hc2 : mo < (O.length : Int)
                · have h2l : 2 ≤ O.length := by have := HP.out.2; omega
                  obtain ⟨g, rfl, hcc, hI, k0⟩ := Ints.tail HR.out h2l
                  have d1 : decide ((O.length : Int) > mo) = true := decide_eq_true hc2
                  rw [if_pos hc2] at HR1
                  have HR0 := Aside0.mk HR1
                  have HI := Aside0.mk hI
                  have p1 : (0 : Int) < (O.length : Int) := by omega
                  have p2 : (1 : Int) ≤ (O.length : Int) := by omega
                  have p3 : ¬ (c2 = 1) := by omega
                  have p4 : 0 < O.length := by omega
                  have p5 : 1 ≤ O.length := by omega
                  clear hI hcc h2l hlo hc2 HR HR1
                  generalize O.getD 0 0 = y0 at k0 HR0
                  go_wp2
                  repeat (go_quiet (fail); try go_wp2)
                  go_ret2
                  exact RefNP.of HR0.out (by first | exact HI.out | exact HI.out.below (pw_below_drewN (Below.refl _ _) _)) (by first | exact HB.out | exact pw_below_drewN HB.out _)
                · have d1 : decide ((O.length : Int) > mo) = false := decide_eq_false hc2
                  rw [if_neg hc2] at HR1
                  have HR0 := Aside0.mk HR1
                  clear hc2 hlo HR1
                  go_wp2
                  go_ret2
                  exact RefNP.of HR0.out (Ints.of_R HR.out) HB.out
      · have q1 : (t % ev != 0) = true := bne_iff_ne.2 hm
        have hr : refN ev mo t L = (L, false) := by unfold refN; rw [if_neg HNO.out, if_pos (.inr hm)]
        have HR0 := Aside0.mk (HDF.out.trans hr)
        clear hr hm HDF
        go_wp2
        go_ret2
        exact RefNP.of HR0.out HV.out HB.out
end Go.Proofs.Ythadibmgahlpfaa.MD
