/- CkptLast, plain: which marks there are after the first k places were noted one behind the other. -/
import Derived.Test.YthadibmgahlpfaaKNote
namespace Go.Proofs.Ythadibmgahlpfaa.MD
open Go Go.RowKit Go.Proofs Go.Proofs.YthadibmgahlpfaaW.PrintWords Go.Proofs.YthadibmgahlpfaaW.PrintLast Go.Proofs.YthadibmgahlpfaaW.PrintMore
set_option linter.unusedVariables false
/-- A snapshot with so many moves and nothing else. -/
def mS (k : Int) : S38 := ⟨0, k, 0, 0, 0, [], [], [], [], [], ⟨⟨#[]⟩, [], 0, []⟩⟩
theorem C_none {α : Type} (d : Kd α) (w : World) : d.C w none 0 [] := ⟨rfl, Nat.zero_le _, fun h => absurd h (Nat.lt_irrefl 0)⟩
theorem snap_mS (w : World) (k : Int) : SnapC w (.agg #[.int .i64 0, .int .i64 k, .int .i64 0, .int .i64 0, .int .u64 0, .slice none 0 0, .slice none 0 0, .slice none 0 0, .slice none 0 0, .slice none 0 0, .string ⟨#[]⟩, .slice none 0 0, .int .u64 0, .slice none 0 0]) (mS k) :=
  ⟨_, rfl, k38_mk w (mS k) (Nat.le_refl 0) (C_none _ _) (Nat.le_refl 0) (C_none _ _) (Nat.le_refl 0) (C_none _ _) (Nat.le_refl 0) (C_none _ _) (Nat.le_refl 0) (C_none _ _) (Nat.le_refl 0) (C_none _ _) (Nat.le_refl 0) (C_none _ _)⟩
theorem tot_mS (k : Int) : tot (mS k) = 0 := rfl
/-- How many places of those ahead of k get marks. -/
def cnt (e k : Nat) : Nat := (k + e - 1) / e
theorem cnt_zero (e : Nat) (he : 1 ≤ e) : cnt e 0 = 0 := by unfold cnt; exact Nat.div_eq_of_lt (by omega)
theorem cnt_split (e k : Nat) (he : 1 ≤ e) : (k % e = 0 → cnt e k * e = k ∧ cnt e (k + 1) = cnt e k + 1) ∧ (k % e ≠ 0 → cnt e (k + 1) = cnt e k) := by
  have hk := Nat.div_add_mod k e
  have hr := Nat.mod_lt k (show e > 0 by omega)
  obtain ⟨q, hq⟩ : ∃ q, q = k / e := ⟨_, rfl⟩
  rw [← hq] at hk
  have e1 : ∀ a b : Nat, a * e ≤ b → b < (a + 1) * e → b / e = a := fun a b h1 h2 => Nat.div_eq_of_lt_le h1 h2
  have hm : q * e = e * q := Nat.mul_comm _ _
  have hs : (q + 1) * e = q * e + e := Nat.succ_mul q e
  have hs2 : (q + 1 + 1) * e = (q + 1) * e + e := Nat.succ_mul (q + 1) e
  constructor
  · intro h0
    have c1 : cnt e k = q := e1 _ _ (by omega) (by omega)
    have c2 : cnt e (k + 1) = q + 1 := e1 _ _ (by omega) (by omega)
    exact ⟨by rw [c1]; omega, by rw [c1, c2]⟩
  · intro h0
    have c1 : cnt e k = q + 1 := e1 _ _ (by omega) (by omega)
    have c2 : cnt e (k + 1) = q + 1 := e1 _ _ (by omega) (by omega)
    rw [c1, c2]
theorem cnt_lt (e k q : Nat) (he : 1 ≤ e) (h : q < cnt e k) : q * e < k := by
  have h1 : (q + 1) * e ≤ cnt e k * e := Nat.mul_le_mul_right e h
  have h2 : cnt e k * e ≤ k + e - 1 := Nat.div_mul_le_self _ _
  have h3 : (q + 1) * e = q * e + e := Nat.succ_mul q e
  omega
/-- The numbers of the places that have marks. -/
def nums (m c : Nat) : List Nat := (List.range c).drop (c - m)
theorem nums_len (m c : Nat) : (nums m c).length = min c m := by unfold nums; rw [List.length_drop, List.length_range]; omega
theorem nums_get? (m c j : Nat) (h : j < (nums m c).length) : (nums m c)[j]? = some (c - m + j) := by
  rw [nums_len] at h
  unfold nums
  rw [List.getElem?_drop, List.getElem?_range (by omega)]
theorem nums_succ (m c : Nat) (hm : 1 ≤ m) : nums m (c + 1) = if m < (nums m c).length + 1 then (nums m c ++ [c]).drop 1 else nums m c ++ [c] := by
  rw [nums_len]
  unfold nums
  rw [List.range_succ]
  by_cases h : m < min c m + 1
  · rw [if_pos h]
    have e : c + 1 - m = (c - m) + 1 := by omega
    rw [e, ← List.drop_drop, List.drop_append_of_le_length (by rw [List.length_range]; omega)]
  · rw [if_neg h]
    have e : c + 1 - m = 0 := by omega
    have e2 : c - m = 0 := by omega
    rw [e, e2, List.drop_zero, List.drop_zero]
structure Mk (e m k : Nat) (l : List E) : Prop where
  ats : l.map (·.f0) = (nums m (cnt e k)).map (fun q => ((q * e : Nat) : Int))
  snaps : ∀ x ∈ l, x.s = mS x.f0
theorem Mk.zero (e m : Nat) (he : 1 ≤ e) : Mk e m 0 [] := ⟨by unfold nums; rw [cnt_zero e he]; simp, fun x hx => by cases hx⟩
theorem Mk.len {e m k : Nat} {l : List E} (h : Mk e m k l) : l.length = min (cnt e k) m := by
  have := congrArg List.length h.ats
  rwa [List.length_map, List.length_map, nums_len] at this
theorem Mk.get {e m k : Nat} {l : List E} (h : Mk e m k l) (j : Nat) (hj : j < l.length) : (l.getD j zE).f0 = (((cnt e k - m + j) * e : Nat) : Int) := by
  have h1 : (l.map (·.f0))[j]? = some (l[j]).f0 := by rw [List.getElem?_map, List.getElem?_eq_getElem hj]; rfl
  have hn : j < (nums m (cnt e k)).length := by rw [nums_len, ← h.len]; exact hj
  rw [h.ats, List.getElem?_map, nums_get? _ _ _ hn] at h1
  rw [List.getD_eq_getElem?_getD, List.getElem?_eq_getElem hj]
  exact (Option.some.inj h1).symm
theorem Mk.rising {e m k : Nat} {l : List E} (h : Mk e m k l) (he : 1 ≤ e) : Rising l := by
  intro i j hij hj
  rw [h.get i (by omega), h.get j hj]
  have : (cnt e k - m + i) * e < (cnt e k - m + j) * e := Nat.mul_lt_mul_of_pos_right (by omega) (by omega)
  omega
theorem Mk.lt {e m k : Nat} {l : List E} (h : Mk e m k l) (he : 1 ≤ e) (j : Nat) (hj : j < l.length) : (l.getD j zE).f0 < (k : Int) := by
  rw [h.get j hj]
  have h1 := h.len
  have := cnt_lt e k (cnt e k - m + j) he (by omega)
  omega
theorem Mk.tot {e m k : Nat} {l : List E} (h : Mk e m k l) : ∀ x ∈ l, tot x.s ≤ 1000 := fun x hx => by rw [h.snaps x hx]; exact Nat.zero_le _
theorem Mk.last {e m k : Nat} {l : List E} (h : Mk e m k l) (he : 1 ≤ e) {i : Nat} {b : Bool} (hF : Found l (k : Int) i b) : i = l.length ∧ b = false := by
  have hi : ¬ (i < l.length) := fun hi => by
    have h1 := hF.behind i (Nat.le_refl _) hi
    have h2 := h.lt he i hi
    omega
  have hle := hF.le
  refine ⟨by omega, ?_⟩
  cases b with
  | false => rfl
  | true => exact absurd (hF.there.1 rfl).1 hi
theorem Mk.step {e m k : Nat} {l l' : List E} {r : Bool} (h : Mk e m k l) (he : 1 ≤ e) (hm : 1 ≤ m) (hN : NoteP l (e : Int) (m : Int) (k : Int) (mS k) r l') : Mk e m (k + 1) l' := by
  obtain ⟨i, b, hF, hc⟩ := hN.out
  obtain ⟨rfl, rfl⟩ := h.last he hF
  have hmod : ((k : Int) % (e : Int)) = ((k % e : Nat) : Int) := (Int.natCast_emod k e).symm
  obtain ⟨s1, s2⟩ := cnt_split e k he
  rcases hc with ⟨h1, _, rfl⟩ | ⟨⟨_, _, h0⟩, x, hx0, hx1, hr⟩
  · have hk : k % e ≠ 0 := by
      rcases h1 with h1 | h1 | h1
      · cases h1
      · omega
      · rw [hmod] at h1; omega
    exact ⟨by rw [s2 hk]; exact h.ats, h.snaps⟩
  · rw [hmod] at h0
    obtain ⟨s3, s4⟩ := s1 (by omega)
    have hl : l.take l.length ++ x :: l.drop l.length = l ++ [x] := by rw [List.take_length, List.drop_length]
    rw [hl] at hr
    have hlen := h.len
    have hms : ((nums m (cnt e k)) ++ [cnt e k]).map (fun q => ((q * e : Nat) : Int)) = (l ++ [x]).map (·.f0) := by
      rw [List.map_append, List.map_append, h.ats, List.map_singleton, List.map_singleton, s3, hx0]
    have hsn : ∀ y ∈ l ++ [x], y.s = mS y.f0 := fun y hy => by
      rcases List.mem_append.1 hy with q | q
      · exact h.snaps y q
      · rw [List.mem_singleton.1 q, hx1, hx0]
    have hs := nums_succ m (cnt e k) hm
    rw [nums_len, ← hlen] at hs
    rcases hr with ⟨h1, rfl, _⟩ | ⟨h1, rfl, _⟩
    · rw [if_pos (by omega)] at hs
      exact ⟨by rw [s4, hs, List.map_drop, List.map_drop, hms], fun y hy => hsn y (List.mem_of_mem_drop hy)⟩
    · rw [if_neg (by omega)] at hs
      exact ⟨by rw [s4, hs, hms], hsn⟩
end Go.Proofs.Ythadibmgahlpfaa.MD
