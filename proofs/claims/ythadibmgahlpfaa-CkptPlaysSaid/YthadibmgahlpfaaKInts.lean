/- Lists of numbers that are only read; the document's Near and Cut, plain. -/
import Derived.Test.YthadibmgahlpfaaKNote
import Derived.Test.YthadibmgahlpfaaMCkptPlaysx2
namespace Go.Proofs.Ythadibmgahlpfaa.MD
open Go Go.RowKit Go.Proofs Go.Proofs.YthadibmgahlpfaaW.PrintWords Go.Proofs.YthadibmgahlpfaaW.PrintLast Go.Proofs.YthadibmgahlpfaaW.PrintMore
set_option linter.unusedVariables false
/-- v reads as the list L, out of one block of numbers. -/
def Ints (w : World) (v : Value) (L : List Int) : Prop :=
  (L = [] ∧ ∃ A c, v = .slice A 0 c) ∨ ∃ g o c cs, v = .slice (some ⟨g, o, none⟩) L.length c ∧ L.length ≤ c ∧ 0 < L.length ∧ w.heap[g]? = some (.cells cs 3 (0, 0)) ∧ ∀ j, j < L.length → cs[o + j]? = some (.int .i64 (L.getD j 0))
theorem Ints.move {w W : World} {v : Value} {L : List Int} (h : Ints w v L) (hk : ∀ (k : Nat) (c : Array Value), w.heap[k]? = some (.cells c 3 (0, 0)) → W.heap[k]? = some (.cells c 3 (0, 0))) : Ints W v L := by
  rcases h with h | ⟨g, o, c, cs, h1, h2, h3, h4, h5⟩
  · exact .inl h
  · exact .inr ⟨g, o, c, cs, h1, h2, h3, hk g cs h4, h5⟩
theorem Ints.below {w W : World} {v : Value} {L : List Int} (h : Ints w v L) (hb : Below w.heap.size w W) : Ints W v L := h.move (fun k c hk => blk_below hk hb)
theorem Ints.beside {w W : World} {v : Value} {L : List Int} (h : Ints w v L) (hb : Beside w W) : Ints W v L := h.move (fun k c hk => hb.get hk (by decide) (by decide))
theorem Ints.nil (w : World) : Ints w (.slice none 0 0) [] := .inl ⟨rfl, _, _, rfl⟩
theorem Ints.C {w : World} {v : Value} {L : List Int} (h : Ints w v L) (hl : L.length ≤ 1000) : ∃ A c, v = .slice A L.length c ∧ L.length ≤ c ∧ (Kd.int .i64).C w A L.length L := by
  rcases h with ⟨rfl, A, c, rfl⟩ | ⟨g, o, c, cs, rfl, h2, h3, h4, h5⟩
  · exact ⟨A, c, rfl, Nat.zero_le _, rfl, Nat.zero_le _, fun h => absurd h (Nat.lt_irrefl 0)⟩
  · refine ⟨_, c, rfl, h2, rfl, by omega, fun _ => ⟨_, rfl, fun j p hj => ?_⟩⟩
    obtain ⟨hj1, hj2⟩ := List.getElem?_eq_some_iff.1 hj
    have h6 := h5 j hj1
    rw [List.getD_eq_getElem?_getD, List.getElem?_eq_getElem hj1] at h6
    refine ⟨[.int .i64 p], rfl, rfl, fun i u hu => ?_⟩
    have hi : i = 0 := by
      have := (List.getElem?_eq_some_iff.1 hu).1
      simpa using this
    subst hi
    have hu2 : u = .int .i64 p := (Option.some.inj hu).symm
    rw [Addr.add_lit, cell_of_row w g _ cs 3 (0, 0) h4, hu2, ← hj2]
    show cs[o + (j * 1 + 0)]? = _
    rw [Nat.mul_one, Nat.add_zero]
    exact h6
theorem Ints.of_R {w : World} {v : Value} {L : List Int} {base : Nat} {ok : Nat → Prop} (h : Kd.R (Kd.int .i64) 3 w base ok v L) : Ints w v L := by
  rcases Nat.eq_zero_or_pos L.length with h0 | h0
  · obtain ⟨A, c, rfl⟩ := Kd.R_slice h
    obtain rfl := List.eq_nil_of_length_eq_zero h0
    exact .inl ⟨rfl, A, c, rfl⟩
  · obtain ⟨g, c, rfl, _, _, cs, hg⟩ := Kd.R_form h h0
    obtain ⟨_, hc, hC⟩ := Kd.R_reads' h
    refine .inr ⟨g, 0, c, cs, rfl, hc, h0, hg, fun j hj => ?_⟩
    obtain ⟨ad, ea, hcell⟩ := Kd.at_int hC (j : Int) (Int.natCast_nonneg _) (by omega)
    cases ea
    rw [Int.toNat_natCast, add_plain, blk_cell hg j] at hcell
    rw [Nat.zero_add, hcell]
    unfold rd
    rw [Int.toNat_natCast]
theorem Ints.at_ {w : World} {A : Option Addr} {n c : Nat} {L : List Int} (h : (Kd.int .i64).C w A L.length L) (j : Nat) (hj : j < L.length) : ∃ ad, A = some ad ∧ w.cell? (ad.add j) = some (.int .i64 (L.getD j 0)) := by
  obtain ⟨ad, ea, hcell⟩ := Kd.at_int h (j : Int) (Int.natCast_nonneg _) (by omega)
  rw [Int.toNat_natCast] at hcell
  refine ⟨ad, ea, hcell.trans ?_⟩
  unfold rd
  rw [Int.toNat_natCast]
/-- The greatest place that isn't behind one, of places that rise; -1: none. -/
def nearL (L : List Int) (t : Int) : Int := L.foldl (fun a x => if x ≤ t then x else a) (-1)
theorem wr_suc (i : Nat) (h : i ≤ 100000) : wrap64 ((i : Int) + 1) = ((i + 1 : Nat) : Int) := by unfold wrap64; omega
theorem rd_get (L : List Int) (i : Nat) (h : i < L.length) : rd L (i : Int) = L[i] := by
  unfold rd
  rw [Int.toNat_natCast, List.getD_eq_getElem?_getD, List.getElem?_eq_getElem h]
  rfl
theorem near_l0 (L : List Int) (t : Int) (hL : L.length ≤ 1000) : ∀ (d i k : Nat) (a : Int), L.length - i = d → d < k → i ≤ L.length → whirligigref21_Near.l0 k L t a (i : Int) = some ((L.drop i).foldl (fun a x => if x ≤ t then x else a) a) := by
  intro d
  induction d with
  | zero =>
    intro i k a hd hk hi
    obtain ⟨k, rfl⟩ : ∃ j, k = j + 1 := ⟨k - 1, by omega⟩
    rw [whirligigref21_Near.l0, if_neg (by omega), List.drop_of_length_le (by omega)]
    rfl
  | succ d ih =>
    intro i k a hd hk hi
    obtain ⟨k, rfl⟩ : ∃ j, k = j + 1 := ⟨k - 1, by omega⟩
    have hlt : i < L.length := by omega
    rw [whirligigref21_Near.l0, if_pos (by omega), if_pos (by omega), rd_get L i hlt, wr_suc i (by omega), List.drop_eq_getElem_cons hlt, List.foldl_cons]
    by_cases h : L[i] ≤ t
    · rw [if_pos h, if_pos h]
      exact ih (i + 1) k _ (by omega) (by omega) (by omega)
    · rw [if_neg h, if_neg h]
      exact ih (i + 1) k _ (by omega) (by omega) (by omega)
theorem near_f (L : List Int) (t : Int) (hL : L.length ≤ 1000) : whirligigref21_Near.f 2000 L t = some (nearL L t) := near_l0 L t hL L.length 0 2000 (-1) rfl (by omega) (Nat.zero_le _)
theorem cut_l0 (L : List Int) (t : Int) (hL : L.length ≤ 1000) : ∀ (d i k : Nat) (a : List Int), L.length - i = d → d < k → i ≤ L.length → a.length + d ≤ 100000 → whirligigref21_Cut.l0 k L t a (i : Int) = some (a ++ (L.drop i).filter (fun x => decide (x ≤ t))) := by
  intro d
  induction d with
  | zero =>
    intro i k a hd hk hi ha
    obtain ⟨k, rfl⟩ : ∃ j, k = j + 1 := ⟨k - 1, by omega⟩
    rw [whirligigref21_Cut.l0, if_neg (by omega), List.drop_of_length_le (by omega), List.filter_nil, List.append_nil]
  | succ d ih =>
    intro i k a hd hk hi ha
    obtain ⟨k, rfl⟩ : ∃ j, k = j + 1 := ⟨k - 1, by omega⟩
    have hlt : i < L.length := by omega
    rw [whirligigref21_Cut.l0, if_pos (by omega), if_pos (by omega), rd_get L i hlt, wr_suc i (by omega), List.drop_eq_getElem_cons hlt, List.filter_cons]
    by_cases h : L[i] ≤ t
    · rw [if_pos h, if_pos (by omega), if_pos (decide_eq_true h)]
      rw [ih (i + 1) k _ (by omega) (by omega) (by omega) (by rw [List.length_append, List.length_singleton]; omega), List.append_assoc]
      rfl
    · rw [if_neg h, if_neg (by simp [h])]
      exact ih (i + 1) k _ (by omega) (by omega) (by omega) (by omega)
theorem cut_f (L : List Int) (t : Int) (hL : L.length ≤ 1000) : whirligigref21_Cut.f 2000 L t = some (L.filter (fun x => decide (x ≤ t))) := cut_l0 L t hL L.length 0 2000 [] rfl (by omega) (Nat.zero_le _) (by rw [List.length_nil]; omega)
theorem refNear_any (w : World) (v : Value) (L : List Int) (t : Int) (h : Ints w v L) (hL : L.length ≤ 1000) : Calls Try.prog 11 #[v, .int .i64 t] w fun e w' => e = .returned (.int .i64 (nearL L t)) ∧ Below w.heap.size w w' := by
  obtain ⟨A, c, rfl, hc, hC⟩ := h.C hL
  refine (whirligigref21_Near.calls 2000 A c L t _ w hC hc (near_f L t hL)).mono ?_
  rintro e w' ⟨rfl, hd⟩
  exact ⟨rfl, hd.below⟩
theorem refCut_any (w : World) (v : Value) (L : List Int) (t : Int) (h : Ints w v L) (hL : L.length ≤ 1000) : Calls Try.prog 14 #[v, .int .i64 t] w fun e w' => ∃ v', e = .returned v' ∧ Ints w' v' (L.filter (fun x => decide (x ≤ t))) ∧ Below w.heap.size w w' := by
  obtain ⟨A, c, rfl, hc, hC⟩ := h.C hL
  refine (whirligigref21_Cut.calls 2000 A c L t _ w hC hc (cut_f L t hL)).mono ?_
  rintro e w' ⟨v', rfl, hR, hb⟩
  exact ⟨v', rfl, Ints.of_R hR, hb⟩
/-- The snapshot of a note. -/
def nS (at_ clock : Int) : S38 := ⟨0, at_, clock, 0, 0, [], [], [⟨#[101]⟩], [], [], ⟨⟨#[]⟩, [], 0, []⟩⟩
theorem tot_nS (a c : Int) : tot (nS a c) = 1 := rfl
theorem noted_any (w : World) (kd at_ clock : Int) : Calls Try.prog 12 #[.agg #[.int .i64 kd, .int .i64 at_, .int .i64 clock]] w fun e w' => ∃ v, e = .returned v ∧ SnapC w' v (nS at_ clock) ∧ Below w.heap.size w w' := by
  refine (whirligiglaw21_noted.calls kd at_ clock _ _ _ _ _ _ _ _ _ _ _ _ _ _ w rfl).mono ?_
  rintro e w' ⟨v5, v6, v7, v8, v9, v11, v13, rfl, h5, h6, h7, h8, h9, h11, h13, hb⟩
  obtain ⟨B5, d5, rfl, p5, q5⟩ := R_new h5 (W := w') (fun _ _ _ => rfl)
  obtain ⟨B6, d6, rfl, p6, q6⟩ := R_new h6 (W := w') (fun _ _ _ => rfl)
  obtain ⟨B7, d7, rfl, p7, q7⟩ := R_new h7 (W := w') (fun _ _ _ => rfl)
  obtain ⟨B8, d8, rfl, p8, q8⟩ := R_new h8 (W := w') (fun _ _ _ => rfl)
  obtain ⟨B9, d9, rfl, p9, q9⟩ := R_new h9 (W := w') (fun _ _ _ => rfl)
  obtain ⟨B11, d11, rfl, p11, q11⟩ := R_new h11 (W := w') (fun _ _ _ => rfl)
  obtain ⟨B13, d13, rfl, p13, q13⟩ := R_new h13 (W := w') (fun _ _ _ => rfl)
  exact ⟨_, rfl, ⟨_, rfl, k38_mk w' (nS at_ clock) p5 q5 p6 q6 p7 q7 p8 q8 p9 q9 p11 q11 p13 q13⟩, hb⟩
end Go.Proofs.Ythadibmgahlpfaa.MD
