/- CkptPlays, plain: what one note or cut makes of the marks, and what the document says. -/
import Derived.Test.YthadibmgahlpfaaKRefN
namespace Go.Proofs.Ythadibmgahlpfaa.MD
open Go Go.RowKit Go.Proofs
set_option linter.unusedVariables false
theorem gdE (l : List E) (i : Nat) (h : i < l.length) : l.getD i zE = l[i] := by rw [List.getD_eq_getElem?_getD, List.getElem?_eq_getElem h]; rfl
theorem rising_iff (l : List E) : Rising l ↔ (l.map (·.f0)).Pairwise (· < ·) := by
  rw [List.pairwise_iff_getElem]
  constructor
  · intro h i j hi hj hij
    rw [List.length_map] at hi hj
    have h1 := h i j hij hj
    rw [gdE l i hi, gdE l j hj] at h1
    rw [List.getElem_map, List.getElem_map]
    exact h1
  · intro h i j hij hj
    have h1 := h i j (by rw [List.length_map]; omega) (by rw [List.length_map]; omega) hij
    rw [List.getElem_map, List.getElem_map] at h1
    rw [gdE l i (by omega), gdE l j hj]
    exact h1
theorem Found.mem {l : List E} {t : Int} {i : Nat} {b : Bool} (h : Found l t i b) (hr : Rising l) : b = true ↔ t ∈ l.map (·.f0) := by
  constructor
  · intro hb
    obtain ⟨h1, h2⟩ := h.there.1 hb
    rw [gdE l i h1] at h2
    exact List.mem_map.2 ⟨l[i], List.getElem_mem h1, h2⟩
  · intro hm
    obtain ⟨x, hx, hxt⟩ := List.mem_map.1 hm
    obtain ⟨j, hj, rfl⟩ := List.mem_iff_getElem.1 hx
    have hxt : l[j].f0 = t := hxt
    rw [← gdE l j hj] at hxt
    rcases Nat.lt_or_ge j i with g | g
    · have := h.ahead j g
      omega
    · rcases Nat.lt_or_eq_of_le g with g1 | rfl
      · have h1 := hr i j g1 hj
        have h2 := h.behind i (Nat.le_refl i) (by omega)
        omega
      · exact h.there.2 ⟨hj, hxt⟩
theorem Found.take_lt {l : List E} {t : Int} {i : Nat} {b : Bool} (h : Found l t i b) : ∀ y ∈ (l.map (·.f0)).take i, y < t := by
  intro y hy
  obtain ⟨j, hj, rfl⟩ := List.mem_iff_getElem.1 hy
  rw [List.length_take, List.length_map] at hj
  have h1 := h.ahead j (by omega)
  rw [gdE l j (by omega)] at h1
  rw [List.getElem_take, List.getElem_map]
  exact h1
theorem Found.drop_gt {l : List E} {t : Int} {i : Nat} {b : Bool} (h : Found l t i b) (hn : ¬ t ∈ l.map (·.f0)) : ∀ y ∈ (l.map (·.f0)).drop i, t < y := by
  intro y hy
  obtain ⟨j, hj, e⟩ := List.mem_iff_getElem.1 hy
  have hyl := List.mem_of_mem_drop hy
  rw [List.length_drop, List.length_map] at hj
  have h1 := h.behind (i + j) (by omega) (by omega)
  rw [gdE l (i + j) (by omega)] at h1
  rw [List.getElem_drop, List.getElem_map] at e
  rw [e] at h1
  have : y ≠ t := fun e2 => hn (e2 ▸ hyl)
  omega
theorem filter_all {p : Int → Bool} {A : List Int} (h : ∀ y ∈ A, p y = true) : A.filter p = A := List.filter_eq_self.2 h
theorem filter_none {p : Int → Bool} {A : List Int} (h : ∀ y ∈ A, p y = false) : A.filter p = [] := List.filter_eq_nil_iff.2 (fun y hy => by rw [h y hy]; decide)
theorem outL_split {t : Int} {A B : List Int} (hA : ∀ y ∈ A, y < t) (hB : ∀ y ∈ B, t < y) : outL t (A ++ B) = A ++ t :: B := by
  unfold outL
  rw [List.filter_append, List.filter_append, filter_all (fun y hy => decide_eq_true (hA y hy)), filter_none (fun y hy => decide_eq_false (by have := hB y hy; omega)), filter_none (fun y hy => decide_eq_false (by have := hA y hy; omega)), filter_all (fun y hy => decide_eq_true (hB y hy)), List.append_nil, List.nil_append, List.append_assoc]
  rfl
theorem near_tail (t : Int) : ∀ (B : List Int) (a : Int), (∀ y ∈ B, t < y) → B.foldl (fun a x => if x ≤ t then x else a) a = a := by
  intro B
  induction B with
  | nil => intro a _; rfl
  | cons y B ih =>
    intro a h
    rw [List.foldl_cons, if_neg (by have := h y List.mem_cons_self; omega)]
    exact ih a (fun z hz => h z (List.mem_cons_of_mem y hz))
theorem nearL_split {t x : Int} {A B : List Int} (hx : x ≤ t) (hB : ∀ y ∈ B, t < y) : nearL (A ++ x :: B) t = x := by
  unfold nearL
  rw [List.foldl_append, List.foldl_cons, if_pos hx, near_tail t B x hB]
theorem near_mem (t : Int) : ∀ (B : List Int) (a : Int), B.foldl (fun a x => if x ≤ t then x else a) a ∈ B ∨ B.foldl (fun a x => if x ≤ t then x else a) a = a := by
  intro B
  induction B with
  | nil => intro a; exact .inr rfl
  | cons y B ih =>
    intro a
    rw [List.foldl_cons]
    by_cases h : y ≤ t
    · rw [if_pos h]
      rcases ih y with g | g
      · exact .inl (List.mem_cons_of_mem y g)
      · exact .inl (by rw [g]; exact List.mem_cons_self)
    · rw [if_neg h]
      rcases ih a with g | g
      · exact .inl (List.mem_cons_of_mem y g)
      · exact .inr g
theorem nearL_mem {L : List Int} {t : Int} (hs : L.Pairwise (· < ·)) (ht : t ∈ L) : nearL L t = t := by
  obtain ⟨A, B, rfl⟩ := List.append_of_mem ht
  refine nearL_split (Int.le_refl t) (fun y hy => ?_)
  exact (List.pairwise_cons.1 (List.pairwise_append.1 hs).2.1).1 y hy
theorem nearL_not {L : List Int} {t : Int} (ht : ¬ t ∈ L) (h0 : 0 ≤ t) : nearL L t ≠ t := by
  intro e
  rcases near_mem t L (-1) with g | g
  · exact ht (by rw [← e]; exact g)
  · have : nearL L t = -1 := g
    omega
/-- What the marks hold. -/
structure Inv (mo : Int) (l : List E) (L : List Int) (F : Int → Int) : Prop where
  ats : l.map (·.f0) = L
  sorted : L.Pairwise (· < ·)
  snaps : ∀ x ∈ l, x.s = nS x.f0 (F x.f0)
  len : (l.length : Int) ≤ mo
  wfs : ∀ a ∈ L, (Lit.int .i64 a).wf = true ∧ (Lit.int .i64 (F a)).wf = true
theorem Inv.rise {mo : Int} {l : List E} {L : List Int} {F : Int → Int} (h : Inv mo l L F) : Rising l := (rising_iff l).2 (by rw [h.ats]; exact h.sorted)
theorem Inv.length {mo : Int} {l : List E} {L : List Int} {F : Int → Int} (h : Inv mo l L F) : L.length = l.length := by rw [← h.ats, List.length_map]
theorem Inv.tots {mo : Int} {l : List E} {L : List Int} {F : Int → Int} (h : Inv mo l L F) : ∀ x ∈ l, tot x.s ≤ 1000 := fun x hx => by rw [h.snaps x hx, tot_nS]; decide
theorem Inv.nil (mo : Int) (h : 1 ≤ mo) (F : Int → Int) : Inv mo [] [] F := ⟨rfl, List.Pairwise.nil, fun x hx => by (cases hx), by show ((0 : Nat) : Int) ≤ mo; omega, fun x hx => by (cases hx)⟩
/-- The clocks after a note. -/
def stepF (L : List Int) (t ck : Int) (r : Bool) (F : Int → Int) : Int → Int := if (nearL L t != t && r) = true then (fun k => if k = t then ck else F k) else F
theorem Inv.sub {mo : Int} {l l' : List E} {L : List Int} {F : Int → Int} (h : Inv mo l L F) (hs : l'.Sublist l) : Inv mo l' (l'.map (·.f0)) F := by
  have hm : (l'.map (·.f0)).Sublist L := by rw [← h.ats]; exact hs.map _
  exact ⟨rfl, h.sorted.sublist hm, fun x hx => h.snaps x (hs.subset hx), by have := hs.length_le; have := h.len; omega, fun a ha => h.wfs a (hm.subset ha)⟩
theorem Inv.cut {mo : Int} {l : List E} {L : List Int} {F : Int → Int} (h : Inv mo l L F) (t : Int) : Inv mo (l.filter (fun x => !isG t x)) (L.filter (fun x => decide (x ≤ t))) F := by
  have h1 := h.sub (l' := l.filter (fun x => !isG t x)) List.filter_sublist
  have e : (l.filter (fun x => !isG t x)).map (·.f0) = L.filter (fun x => decide (x ≤ t)) := by
    rw [← h.ats, List.filter_map]
    congr 1
    refine List.filter_congr (fun x _ => ?_)
    unfold isG
    by_cases g : x.f0 ≤ t
    · have g2 : ¬ (x.f0 > t) := by omega
      simp [g, g2]
    · have g2 : x.f0 > t := by omega
      simp [g, g2]
  rw [e] at h1
  exact h1
theorem Inv.ins {mo : Int} {l : List E} {L : List Int} {F : Int → Int} {t ck : Int} {i : Nat} {b : Bool} {x : E} (h : Inv mo l L F) (hF : Found l t i b) (hn : ¬ t ∈ L) (hx : x.f0 = t) (hxs : x.s = nS t ck) (hwt : (Lit.int .i64 t).wf = true) (hwc : (Lit.int .i64 ck).wf = true) :
    (l.take i ++ x :: l.drop i).map (·.f0) = outL t L ∧ Inv (mo + 1) (l.take i ++ x :: l.drop i) (outL t L) (fun k => if k = t then ck else F k) ∧ outL t L = L.take i ++ t :: L.drop i := by
  have hn' : ¬ t ∈ l.map (·.f0) := by rw [h.ats]; exact hn
  have h1 := hF.take_lt
  have h2 := hF.drop_gt hn'
  rw [h.ats] at h1 h2
  have ho : outL t L = L.take i ++ t :: L.drop i := by
    have := outL_split h1 h2
    rw [List.take_append_drop] at this
    exact this
  have hm : (l.take i ++ x :: l.drop i).map (·.f0) = outL t L := by rw [ho, List.map_append, List.map_cons, List.map_take, List.map_drop, h.ats, hx]
  have hmem : ∀ a ∈ outL t L, a = t ∨ a ∈ L := fun a ha => by
    rw [ho] at ha
    rcases List.mem_append.1 ha with g | g
    · exact .inr (List.mem_of_mem_take g)
    · rcases List.mem_cons.1 g with g | g
      · exact .inl g
      · exact .inr (List.mem_of_mem_drop g)
  refine ⟨hm, ⟨hm, ?_, fun y hy => ?_, ?_, fun a ha => ?_⟩, ho⟩
  · rw [ho]
    refine List.pairwise_append.2 ⟨h.sorted.sublist (List.take_sublist _ _), List.pairwise_cons.2 ⟨h2, h.sorted.sublist (List.drop_sublist _ _)⟩, fun a ha c hc => ?_⟩
    have ha1 := h1 a ha
    rcases List.mem_cons.1 hc with g | g
    · omega
    · have := h2 c g
      omega
  · have hcase : y = x ∨ y ∈ l := by
      rcases List.mem_append.1 hy with g | g
      · exact .inr (List.mem_of_mem_take g)
      · rcases List.mem_cons.1 g with g | g
        · exact .inl g
        · exact .inr (List.mem_of_mem_drop g)
    rcases hcase with rfl | g
    · rw [hxs, hx]
      show _ = nS t (if t = t then ck else F t)
      rw [if_pos rfl]
    · have hne : ¬ y.f0 = t := fun e => hn' (List.mem_map.2 ⟨y, g, e⟩)
      rw [h.snaps y g]
      show _ = nS y.f0 (if y.f0 = t then ck else F y.f0)
      rw [if_neg hne]
  · have hl : (l.take i ++ x :: l.drop i).length = l.length + 1 := by
      have := congrArg List.length (List.take_append_drop i l)
      rw [List.length_append] at this
      rw [List.length_append, List.length_cons]
      omega
    have := h.len
    rw [hl]
    omega
  · show (Lit.int .i64 a).wf = true ∧ (Lit.int .i64 (if a = t then ck else F a)).wf = true
    by_cases e : a = t
    · rw [if_pos e, e]
      exact ⟨hwt, hwc⟩
    · rw [if_neg e]
      rcases hmem a ha with g | g
      · exact absurd g e
      · exact h.wfs a g
theorem Inv.note {ev mo : Int} {l l' : List E} {L : List Int} {F : Int → Int} {t ck : Int} {r : Bool} (h : Inv mo l L F) (hmo : 1 ≤ mo) (hP : NoteP l ev mo t (nS t ck) r l') (hwt : (Lit.int .i64 t).wf = true) (hwc : (Lit.int .i64 ck).wf = true) :
    r = (refN ev mo t L).2 ∧ Inv mo l' (refN ev mo t L).1 (stepF L t ck r F) := by
  obtain ⟨i, b, hF, hc⟩ := hP.out
  have hbm := hF.mem h.rise
  rw [h.ats] at hbm
  rcases hc with ⟨c1, hrb, hll⟩ | ⟨⟨rfl, c2, c3⟩, x, hx, hxs, hc⟩
  · rw [hrb, hll]
    clear hrb hll hP
    unfold refN stepF
    cases b with
    | true =>
      have hm := hbm.1 rfl
      rw [if_pos hm, nearL_mem h.sorted hm, bne_self_eq_false, Bool.false_and, if_neg (by decide)]
      exact ⟨rfl, h⟩
    | false =>
      have hm : ¬ t ∈ L := fun g => by have := hbm.2 g; cases this
      have c2 : t < 0 ∨ ¬ (t % ev = 0) := by
        rcases c1 with c | c
        · cases c
        · exact c
      rw [if_neg hm, if_pos c2, Bool.and_false]
      exact ⟨rfl, h⟩
  · have hm : ¬ t ∈ L := fun g => by have := hbm.2 g; cases this
    obtain ⟨h1, h2, h3⟩ := h.ins hF hm hx hxs hwt hwc
    have hlen : (outL t L).length = l.length + 1 := by
      have h5 := h.length
      have := congrArg List.length (List.take_append_drop i L)
      rw [List.length_append] at this
      rw [h3, List.length_append, List.length_cons]
      omega
    have hne : (nearL L t != t) = true := bne_iff_ne.2 (nearL_not hm c2)
    have hrn : refN ev mo t L = if mo < ((outL t L).length : Int) then ((outL t L).drop 1, ((outL t L).getD 0 0 != t)) else (outL t L, true) := by
      unfold refN
      rw [if_neg hm, if_neg (by omega)]
    rw [hrn, hlen]
    have hcast : ((l.length + 1 : Nat) : Int) = (l.length : Int) + 1 := by omega
    rw [hcast]
    rcases hc with ⟨g, rfl, rfl⟩ | ⟨g, rfl, rfl⟩
    · rw [if_pos g]
      rcases Nat.eq_zero_or_pos i with rfl | hi
      · have e1 : outL t L = t :: L := by rw [h3]; rfl
        have e2 : (l.take 0 ++ x :: l.drop 0).drop 1 = l := rfl
        rw [e1, e2]
        unfold stepF
        rw [hne]
        refine ⟨?_, h⟩
        show decide (0 < 0) = (t != t)
        rw [bne_self_eq_false]
        rfl
      · have e0 : decide (0 < i) = true := decide_eq_true hi
        rw [e0]
        have hL0 : 0 < L.length := by have := hF.le; have := h.length; omega
        have hg0 : (outL t L).getD 0 0 < t := by
          have h6 := hF.take_lt
          rw [h.ats] at h6
          refine h6 _ ?_
          rw [h3]
          have e3 : 0 < (L.take i).length := by rw [List.length_take]; omega
          rw [List.getD_eq_getElem?_getD, List.getElem?_append_left e3, List.getElem?_eq_getElem e3]
          exact List.getElem_mem e3
        have hgt : ((outL t L).getD 0 0 != t) = true := bne_iff_ne.2 (by omega)
        refine ⟨hgt.symm, ?_⟩
        have h7 := h2.sub (l' := (l.take i ++ x :: l.drop i).drop 1) (List.drop_sublist _ _)
        have e5 : ((l.take i ++ x :: l.drop i).drop 1).map (·.f0) = (outL t L).drop 1 := by rw [List.map_drop, h1]
        rw [e5] at h7
        have e6 : stepF L t ck true F = fun k => if k = t then ck else F k := by unfold stepF; rw [hne]; rfl
        rw [e6]
        refine ⟨h7.ats, h7.sorted, h7.snaps, ?_, h7.wfs⟩
        have e7 : ((l.take i ++ x :: l.drop i).drop 1).length = l.length := by
          have e8 := congrArg List.length h1
          rw [List.length_map, hlen] at e8
          rw [List.length_drop, e8]
          omega
        rw [e7]
        exact h.len
    · rw [if_neg g]
      refine ⟨rfl, ?_⟩
      have e6 : stepF L t ck true F = fun k => if k = t then ck else F k := by unfold stepF; rw [hne]; rfl
      rw [e6]
      refine ⟨h2.ats, h2.sorted, h2.snaps, ?_, h2.wfs⟩
      have e8 := congrArg List.length h1
      rw [List.length_map, hlen] at e8
      rw [e8]
      omega
/-- Near of a place that has a mark. -/
theorem Inv.near_at {mo : Int} {l : List E} {L : List Int} {F : Int → Int} (h : Inv mo l L F) {t : Int} (ht : t ∈ L) {i : Nat} {b : Bool} {e : Ending} {w' : World} (hF : Found l t i b) (hP : NearP l i b e w') :
    ∃ v, e = .returned (.tuple #[.int .i64 t, v, .bool true]) ∧ SnapC w' v (nS t (F t)) := by
  have hb := (hF.mem h.rise).2 (by rw [h.ats]; exact ht)
  subst hb
  rcases hP.out with ⟨p1, _⟩ | ⟨j, v, hj, hc, rfl, hS⟩
  · cases p1
  · rcases hc with ⟨_, rfl⟩ | ⟨p1, _⟩
    · obtain ⟨_, hjt⟩ := hF.there.1 rfl
      have hm : l.getD j zE ∈ l := by rw [gdE l j hj]; exact List.getElem_mem hj
      rw [h.snaps _ hm, hjt] at hS
      rw [hjt]
      exact ⟨v, rfl, hS⟩
    · cases p1
/-- Near of any place: nothing, or the document's place. -/
theorem Inv.near_any {mo : Int} {l : List E} {L : List Int} {F : Int → Int} (h : Inv mo l L F) {t : Int} {i : Nat} {b : Bool} {e : Ending} {w' : World} (hF : Found l t i b) (hP : NearP l i b e w') :
    ((L = [] ∨ 0 < L.length ∧ t < L.getD 0 0) ∧ e = .returned (.tuple #[.int .i64 0, .agg #[.int .i64 0, .int .i64 0, .int .i64 0, .int .i64 0, .int .u64 0, .slice none 0 0, .slice none 0 0, .slice none 0 0, .slice none 0 0, .slice none 0 0, .string ⟨#[]⟩, .slice none 0 0, .int .u64 0, .slice none 0 0], .bool false])) ∨
    (0 < L.length ∧ ¬ t < L.getD 0 0 ∧ ∃ v, e = .returned (.tuple #[.int .i64 (nearL L t), v, .bool true]) ∧ SnapC w' v (nS (nearL L t) (F (nearL L t)))) := by
  have hbm := hF.mem h.rise
  have hl := h.length
  rcases hP.out with ⟨rfl, rfl, rfl⟩ | ⟨j, v, hj, hc, rfl, hS⟩
  · refine .inl ⟨?_, rfl⟩
    rcases Nat.eq_zero_or_pos L.length with g | g
    · exact .inl (List.eq_nil_of_length_eq_zero g)
    · refine .inr ⟨g, ?_⟩
      have hn : ¬ t ∈ l.map (·.f0) := fun m => by have := hbm.2 m; cases this
      have h2 := hF.drop_gt hn
      rw [List.drop_zero, h.ats] at h2
      refine h2 _ ?_
      rw [List.getD_eq_getElem?_getD, List.getElem?_eq_getElem g]
      exact List.getElem_mem g
  · have hjL : j < L.length := by omega
    have hget : (l.getD j zE).f0 = L[j] := by
      rw [gdE l j hj]
      have : (l.map (·.f0))[j]'(by rw [List.length_map]; exact hj) = L[j] := by simp only [h.ats]
      rw [← this, List.getElem_map]
    have hle : (l.getD j zE).f0 ≤ t := by
      rcases hc with ⟨rfl, rfl⟩ | ⟨rfl, rfl⟩
      · exact Int.le_of_eq (hF.there.1 rfl).2
      · exact Int.le_of_lt (hF.ahead j (by omega))
    have hB : ∀ y ∈ L.drop (j + 1), t < y := by
      intro y hy
      rcases hc with ⟨rfl, rfl⟩ | ⟨rfl, rfl⟩
      · obtain ⟨q, hq, rfl⟩ := List.mem_iff_getElem.1 hy
        rw [List.length_drop] at hq
        rw [List.getElem_drop]
        have := (List.pairwise_iff_getElem.1 h.sorted) j (j + 1 + q) hjL (by omega) (by omega)
        have h3 := (hF.there.1 rfl).2
        omega
      · have hn : ¬ t ∈ l.map (·.f0) := fun m => by have := hbm.2 m; cases this
        have h2 := hF.drop_gt hn
        rw [h.ats] at h2
        exact h2 y hy
    have hsp : L = L.take j ++ L[j] :: L.drop (j + 1) := by rw [← List.drop_eq_getElem_cons hjL, List.take_append_drop]
    have hne : nearL L t = (l.getD j zE).f0 := by
      have := nearL_split (A := L.take j) (x := L[j]) (B := L.drop (j + 1)) (by omega) hB
      rw [← hsp] at this
      omega
    refine .inr ⟨by omega, ?_, v, by rw [hne], ?_⟩
    · have h0 : L.getD 0 0 = L[0]'(by omega) := by rw [List.getD_eq_getElem?_getD, List.getElem?_eq_getElem (by omega)]; rfl
      rw [h0]
      rcases Nat.eq_zero_or_pos j with rfl | g
      · omega
      · have := (List.pairwise_iff_getElem.1 h.sorted) 0 j (by omega) hjL g
        omega
    · have hm : l.getD j zE ∈ l := by rw [gdE l j hj]; exact List.getElem_mem hj
      rw [h.snaps _ hm, ← hne] at hS
      exact hS
end Go.Proofs.Ythadibmgahlpfaa.MD
