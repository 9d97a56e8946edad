/- Show walked: a set's numbers as texts, with commas between. -/
import Derived.Test.YtimodbkfjaknhaaDoorAll
import Derived.Test.YtimodbkfjaknhaaDoorBridge
import Derived.Test.YtimodbkfjaknhaaDoorShelf
import Derived.Maps.AppendAt
namespace Go.Proofs.YtimodbkfjaknhaaDoor.Seq
open Go Go.RowKit Go.Proofs Go.Shelf BPlain Go.Proofs.YtimodbkfjaknhaaDoorW.PrintWords Go.Proofs.YtimodbkfjaknhaaDoorW.PrintLast Go.Proofs.YtimodbkfjaknhaaDoorW.PrintMore
set_option linter.unusedVariables false
set_option linter.unusedSimpArgs false
attribute [local go_sem] Oper.semAt_some
/-- A number's digits. -/
def dig (x : Int) : ByteArray := ⟨(Lib.decDigits x.toNat).toArray⟩
def joined (l : List Int) : ByteArray := ⟨(Lib.join ((l.map dig).map (·.data.toList)) [44]).toArray⟩
theorem all_calls (s : Int) (w : World) : Calls Tryd.prog 12 #[.int .u64 s] w fun e w' => e = .returned (.func (.func 29) #[] #[.pointer (some ⟨w.heap.size, 0, none⟩)]) ∧ w' = w.alloc (.cells #[.int .u64 s] 23) := by
  go_enter Tryd.func12, Tryd.ntmps12
  go_wp2
  go_ret
  exact ⟨rfl, rfl⟩
theorem info9 : (Tryd.prog.info? 9).map (fun i => (i.zero, i.size, i.bytes)) = some (some (.string ⟨#[]⟩), 1, 16) := by kernel_rfl
/-- What a loop that collects has: its variable's box, what it holds, all that lay. -/
def Has {α : Type} (enc : α → Value) (f : Int → α) (w : World) (B t e b : Nat) (pre : List Int) (W : World) : Prop :=
  (∃ v, Boxed W B t v ∧ W.ownsRow w.heap.size e 1 v pre.length (pre.map fun x => enc (f x)) ∧ some b ≠ v.ownBlock) ∧ Below w.heap.size w W
theorem has_own {α : Type} (enc : α → Value) (f : Int → α) (w : World) (B t e b C : Nat) (hC : w.heap.size ≤ C) : OwnFrom C (Has enc f w B t e b) :=
  OwnFrom.and (Own.from (holdsRow_own w.heap.size B t e 1 (fun pre : List Int => pre.length) (fun pre => pre.map fun x => enc (f x)) (fun _ v => some b ≠ v.ownBlock)) _) (ownFrom_below (Nat.le_refl _) hC)
theorem has_bears {α : Type} (enc : α → Value) (f : Int → α) (w : World) (B t e b : Nat) (hb : w.heap.size ≤ b) (hB : B ≠ b) : Bears b (Has enc f w B t e b) where
  store := by
    rintro pre W u ⟨⟨v, h1, h2, h3⟩, h4⟩
    exact ⟨⟨v, h1.kept (grownBy_setCell' W b u) (fun e => hB (by injection e)), h2.kept (grownBy_setCell' W b u) (.inr (fun e => h3 e.symm)), h3⟩, h4.setCell (p := ⟨b, 0, none⟩) hb u⟩
  alloc := by
    rintro pre W o ⟨⟨v, h1, h2, h3⟩, h4⟩
    exact ⟨⟨v, h1.alloc o, h2.alloc o, h3⟩, h4.alloc h4.size o⟩
  drew := by
    rintro pre W n ⟨⟨v, h1, h2, h3⟩, h4⟩
    exact ⟨⟨v, h1, h2, h3⟩, ⟨h4.os, h4.tape, h4.output, h4.size, h4.block⟩⟩
theorem lst_small {s : Nat} {pre : List Int} {x : Int} (h : pre ++ [x] <+: lst s) : ∃ k : Nat, x = (k : Int) ∧ k < 64 ∧ pre.length < 64 := by
  obtain ⟨t, ht⟩ := h
  have hx : x ∈ lst s := by rw [← ht]; simp
  obtain ⟨k, e, hk, _⟩ := els_mem 64 0 s x hx
  have hl := els_length 64 0 s
  have : (lst s).length = pre.length + 1 + t.length := by rw [← ht]; simp; omega
  unfold lst at this
  exact ⟨k, by rw [e, Nat.zero_add], hk, by omega⟩
theorem dec_len : ∀ k < 64, (Lib.decDigits k).length ≤ 2 := by decide +kernel
theorem join_len (n : Nat) : ∀ xs : List (List UInt8), (∀ x ∈ xs, x.length ≤ n) → (Lib.join xs [44]).length ≤ xs.length * (n + 1)
  | [], _ => Nat.zero_le _
  | [x], h => by
    have := h x List.mem_cons_self
    simp [Lib.join]
    omega
  | x :: y :: r, h => by
    have h1 := h x List.mem_cons_self
    have h2 := join_len n (y :: r) (fun z hz => h z (List.mem_cons_of_mem _ hz))
    have e : Lib.join (x :: y :: r) [44] = x ++ [44] ++ Lib.join (y :: r) [44] := by simp [Lib.join, List.intercalate, List.intersperse]
    rw [e, List.length_append, List.length_append]
    simp only [List.length_cons, List.length_nil] at *
    rw [Nat.add_mul]
    omega
theorem join_long (l : List Int) (h : l.length ≤ 64) (h2 : ∀ x ∈ l, ∃ k : Nat, x = (k : Int) ∧ k < 64) : (Lib.join ((l.map dig).map (·.data.toList)) [44]).length ≤ 1000 := by
  have := join_len 2 ((l.map dig).map (·.data.toList)) (by
    intro x hx
    obtain ⟨d, hd, rfl⟩ := List.mem_map.1 hx
    obtain ⟨y, hy, rfl⟩ := List.mem_map.1 hd
    obtain ⟨k, rfl, hk⟩ := h2 y hy
    exact dec_len k hk)
  rw [List.length_map, List.length_map] at this
  omega
theorem lst_all (s : Nat) : (lst s).length ≤ 64 ∧ ∀ x ∈ lst s, ∃ k : Nat, x = (k : Int) ∧ k < 64 :=
  ⟨els_length 64 0 s, fun x hx => by
    obtain ⟨k, e, hk, _⟩ := els_mem 64 0 s x hx
    exact ⟨k, by rw [e, Nat.zero_add], hk⟩⟩
theorem join_own {s : Nat} {w W : World} {v : Value} (hrow : W.ownsRow w.heap.size 9 1 v (lst s).length ((lst s).map fun x => Value.string (dig x))) (hB : Below w.heap.size w W) (ht : Tab w) :
    Calls Tryd.prog 26 #[v, .string ⟨#[44]⟩] W fun e w' => e = .returned (.string (joined (lst s))) ∧ Below W.heap.size W w' := by
  obtain ⟨hl, hx⟩ := lst_all s
  have hR : Kd.R Kd.string 9 W w.heap.size (fun _ => True) v ((lst s).map dig) := Kd.R_of_own (by
    rw [List.length_map]
    have e : encs Value.string ((lst s).map dig) = (lst s).map fun x => Value.string (dig x) := by unfold encs; rw [List.map_map]; rfl
    rw [e]
    exact hrow) (fun _ _ => trivial)
  rcases hrow.2 with ⟨rfl, h0⟩ | ⟨g, cap, cur, rfl, hg, hh, _⟩
  · have e : lst s = [] := List.eq_nil_of_length_eq_zero (by omega)
    refine (Tryd.strings_Join_none none 0 ⟨#[44]⟩ W).mono ?_
    rintro e' w' ⟨rfl, rfl⟩
    rw [e]
    exact ⟨rfl, Below.refl _ _⟩
  · have hC := (Kd.R_reads' hR).2.2
    have hcap := (Kd.R_reads' hR).2.1
    have hlt : g < W.heap.size := (Array.getElem?_eq_some_iff.1 hh).1
    have hj := Tryd.strings_Join g 0 cap ((lst s).map dig) ⟨#[44]⟩ W (fun j x hx => by
      have hjl : j < ((lst s).map dig).length := (List.getElem?_eq_some_iff.1 hx).1
      obtain ⟨ad, ha, hc⟩ := Kd.at_string hC (j : Int) (by omega) (by omega)
      injection ha with ha
      rw [← ha, Int.toNat_natCast, rdOf, Int.toNat_natCast, List.getD_eq_getElem?_getD, hx, add_plain] at hc
      rw [Nat.zero_add]
      exact hc) hlt (by rw [List.length_map]; omega) (by rw [List.length_map]; exact hcap) (Nat.le_trans (join_long _ hl hx) (by decide))
    rw [List.length_map] at hj
    exact hj
set_option maxHeartbeats 4000000 in
set_option maxRecDepth 100000 in
theorem show_any (s : Nat) (hs : s < 18446744073709551616) (w : World) (ht : Tab w) : Calls Tryd.prog 9 #[.int .u64 (s : Int)] w fun e w' => e = .returned (.string (joined (lst s))) ∧ Below w.heap.size w w' := by
  refine (callsIn_wide (n := 9)).1 ?_
  obtain ⟨i0, hi, hz0, hz1, hz2⟩ := info_parts info9
  refine callsIn_of_wp_marks Tryd.func9 rfl trivial ?_ (by rfl)
  simp only [Tryd.ntmps9, List.size_toArray, List.length_cons, List.length_nil, Nat.reduceAdd, Nat.reduceSub, Array.replicate_succ, Array.replicate_zero, List.push_toArray, List.append_toArray, List.nil_append, List.cons_append]
  have h9 : 1 ≤ 9 := by decide
  gi_wp2_with (refine ⟨trivial, ?_⟩; gi_at_call 12; refine (callsIn_wide.2 (all_calls (s : Int) _)).mono ?_; rintro e w' ⟨rfl, rfl⟩)
  have bO := Boxed.new w 44 (.slice none 0 0)
  have bS := Boxed.new (w.alloc (.cells #[.slice none 0 0] 44)) 23 (.int .u64 (s : Int))
  rw [World.size_alloc] at bS
  have hB0 : Below w.heap.size w ((w.alloc (.cells #[.slice none 0 0] 44)).alloc (.cells #[.int .u64 (s : Int)] 23)) := ((Below.refl _ w).alloc (Nat.le_refl _) _).alloc (by simp) _
  have hz : ((w.alloc (.cells #[.slice none 0 0] 44)).alloc (.cells #[.int .u64 (s : Int)] 23)).heap.size = w.heap.size + 2 := by simp
  have hbx : Box ((w.alloc (.cells #[.slice none 0 0] 44)).alloc (.cells #[.int .u64 (s : Int)] 23)) (w.heap.size + 1) (s : Int) w.heap[0]? := ⟨bS, hB0.block 0 ht.2, by omega⟩
  have h0 : Has Value.string dig w w.heap.size 44 9 (w.heap.size + 1) [] ((w.alloc (.cells #[.slice none 0 0] 44)).alloc (.cells #[.int .u64 (s : Int)] 23)) :=
    ⟨⟨_, bO.alloc _, World.ownsRow_nil _ _ _ _, by simp [Value.ownBlock]⟩, hB0⟩
  generalize (w.alloc (.cells #[.slice none 0 0] 44)).alloc (.cells #[.int .u64 (s : Int)] 23) = w2 at *
  refine range_box (n := 9) (gf := 29) (b := w.heap.size + 1) (B := w2.heap.size) (s := (s : Int)) (Z := w.heap[0]?) (xs := lst s) rfl (enters_of Tryd.func29 (by kernel_rfl) rfl) (all_gives 8 _ (by decide) s hs w ht) hbx (Nat.le_refl _)
    (Has Value.string dig w w.heap.size 44 9 (w.heap.size + 1)) (fun _ _ _ => False) (has_own _ _ _ _ _ _ _ _ (by omega)) (fun _ _ _ _ _ hs _ _ => hs) (has_bears _ _ _ _ _ _ _ (by omega) (by omega)) h0
    (fun x => { tmps := #[.int .u64 (s : Int), undef, .string ⟨#[]⟩, .pointer (some ⟨w.heap.size, 0, none⟩), .int .i64 x, .int .u64 (s : Int), .func (.func 29) #[] #[.pointer (some ⟨w.heap.size + 1, 0, none⟩)], .int .i64 x, undef, undef, undef, undef, undef, undef, undef], defers := [] }) ?assign ?body ?done ?stop
  case assign =>
    intro l x W K hK
    gi_wp2
    exact hK
  case body =>
    rintro l pre x s1 W ⟨⟨v, hv, hrow, hbv⟩, hB⟩ hpx hbx1
    obtain ⟨k, rfl, hk, hlen⟩ := lst_small hpx
    have hc := hv.cell
    have hcall := fun W => CallsIn.inRound l (callsIn_wide (n := 6).2 (Tryd.strconv_Itoa_small k (by omega) W))
    gi_wp2
    have hcW := hv.cell
    have hfr := hv.frozen
    refine start_in (m := 6) (S := fun w' => w'.cell? ⟨w.heap.size, 0, none⟩ = some v) (ds := [5]) #[false, false, false, false, false, false] (by kernel_rfl) (by kernel_rfl) (fun ⟨_, _, h⟩ => h) rfl rfl (hcW) (fun hHeld => ?_)
    refine take_ (i := 0) (N := some 8) (v := ?_) (a' := ?_) #[true, false, false, false, false, false] rfl rfl (by kernel_rfl) (fun _ _ _ h => h) (Or.inl ⟨by rfl, ?_⟩) hHeld ?_ ?_
    rotate_left
    · rintro w' s0
      go_simp
      with_reducible rfl
    rotate_left
    · simp only [Act.put, List.setIfInBounds_toArray, List.set_cons_zero, List.set_cons_succ, i64_w, i32_w]
      rfl
    refine pure_ (i := 1) (N := some 9) (v := ?_) (a' := ?_) #[true, true, false, false, false, false] rfl rfl (by kernel_rfl) (fun _ _ _ h => h) (Or.inl ⟨by rfl, ?_⟩) ?_ ?_
    rotate_left
    · intro w'
      go_simp
      with_reducible rfl
    rotate_left
    · simp only [Act.put, List.setIfInBounds_toArray, List.set_cons_zero, List.set_cons_succ, i64_w, i32_w]
      rfl
    refine one_ (i := 2) (N := some 10) #[true, true, true, false, false, false] rfl rfl (by kernel_rfl) (by decide) (fun K hK => ?_)
    refine goes_ Tryd.func25 (by kernel_rfl) rfl #[.int .i64 (k : Int)] (by rfl) rfl rfl (by (try simp only [List.map_toArray, List.map_cons, List.map_nil]); first | done | rfl) ?_
    refine (Tryd.strconv_Itoa_small k (by omega) _).mono ?_
    rintro e w' ⟨rfl, rfl⟩
    refine ⟨_, rfl, ?_⟩
    refine hK.out _ _ hcW (fun hHeld => ?_)
    clear hK K
    refine norm_ (a' := ?_) ?_ ?_
    rotate_left
    · show Act.put _ (some 10) _ = _
      simp only [Act.put, List.setIfInBounds_toArray, List.set_cons_zero, List.set_cons_succ, i64_w, i32_w]
      rfl
    refine one_ (i := 3) (N := some 11) #[true, true, true, true, false, false] rfl rfl (by kernel_rfl) (by decide) (fun K hK => ?_)
    refine value_ (w1 := W.drew.alloc (.cells #[.string (dig (k : Int))] 9)) (v := .slice (some ⟨W.heap.size, 0, none⟩) 1 1) (by rfl) rfl (by go_simp; rfl) ?_
    have hv1 : Boxed (W.drew.alloc (.cells #[.string (dig (k : Int))] 9)) w.heap.size 44 v := Boxed.alloc (W := W.drew) hv _
    refine hK.out _ _ hv1.cell (fun hHeld => ?_)
    clear hK K
    refine norm_ (a' := ?_) ?_ ?_
    rotate_left
    · show Act.put _ (some 11) _ = _
      simp only [Act.put, List.setIfInBounds_toArray, List.set_cons_zero, List.set_cons_succ, i64_w, i32_w]
      rfl
    refine one_ (i := 4) (N := some 12) #[true, true, true, true, true, false] rfl rfl (by kernel_rfl) (by decide) (fun K hK => ?_)
    refine step_append_cells (w0 := w) w.heap.size (by rfl) (.tmp 8) (.tmp 11) 44 9 (.string ⟨#[]⟩) 1 16 rfl Tryd.underlying44 info9 rfl (by decide) (by decide) v pre.length (pre.map fun x => .string (dig x)) [.string (dig (k : Int))] rfl rfl rfl (by simp [Value.oneCell']) (W := W.drew) hrow ⟨hB.os, hB.tape, hB.output, hB.size, hB.block⟩ hB.size (by omega) ?_
    intro v2 w2' hown hb2 hg2 hat
    obtain ⟨g', cap', rfl⟩ := ownsRow_succ hown
    have hne : some w.heap.size ≠ v.ownBlock := hv.not_row (by decide) hrow
    have hv2 : Boxed w2' w.heap.size 44 v := Boxed.kept (W := W.drew) hv hg2 hne
    have hbs2 : Boxed w2' (w.heap.size + 1) 23 (.int .u64 s1) := Boxed.kept (W := W.drew) hbx1.box hg2 hbv
    refine hK.out _ _ hv2.cell (fun hHeld => ?_)
    clear hK K
    refine norm_ (a' := ?_) ?_ ?_
    rotate_left
    · show Act.put _ (some 12) _ = _
      simp only [Act.put, List.setIfInBounds_toArray, List.set_cons_zero, List.set_cons_succ, i64_w, i32_w]
      rfl
    have hc2 := hv2.cell
    have hf2 := hv2.frozen
    refine last_ (i := 5) (N := none) #[true, true, true, true, true, true] rfl rfl (by kernel_rfl) (by decide) (fun K hK => ?_)
    refine skip_ (w1 := w2'.setCell ⟨w.heap.size, 0, none⟩ (.slice (some ⟨g', 0, none⟩) (pre.length + 1) cap')) (by rfl) rfl (by go_simp) ?_
    refine hK.out _ _ ?_
    clear hK K
    refine done_ (by kernel_rfl) ?_
    have h0W : W.heap[0]? = w.heap[0]? := hB.block 0 ht.2
    have hown2 := hown.kept (grownBy_setCell' w2' w.heap.size (.slice (some ⟨g', 0, none⟩) (pre.length + 1) cap')) (.inr (fun e => hv2.not_row (by decide) hown e.symm))
    refine ⟨?_, ⟨?_, ?_⟩, ⟨_, hv2.set _, ?_, hbs2.not_row (by decide) hown⟩, hb2.setCell (p := ⟨w.heap.size, 0, none⟩) (Nat.le_refl _) _⟩
    · refine KeepsOthers.trans (B := w2') ?_ (KeepsOthers.setCell _ _ _)
      refine (KeepsOthers.drew W).trans (KeepsOthers.of_grownBy hg2 (fun j o ej hj => ?_))
      rcases hrow.2 with ⟨rfl, _⟩ | ⟨g, cap, cur, rfl, _, hgb, _⟩
      · simp [Value.ownBlock] at ej
      · obtain rfl : g = j := by simpa [Value.ownBlock] using ej
        have hj' : W.heap[g]? = some o := hj
        rw [hgb] at hj'
        cases hj'
        rfl
    · exact (Below.heap_setCell w2' ⟨w.heap.size, 0, none⟩ _ (w.heap.size + 1) (fun e => by change w.heap.size + 1 = w.heap.size at e; omega)).trans (hg2.block _ hbx1.lt hbv)
    · exact ((Below.heap_setCell w2' ⟨w.heap.size, 0, none⟩ _ 0 (fun e => by have := ht.2; change 0 = w.heap.size at e; omega)).trans (hb2.block 0 ht.2)).trans h0W.symm
    · rw [List.length_append, List.map_append]
      exact hown2
  case done =>
    rintro D W ⟨⟨v, hv, hrow, _⟩, hB⟩ hK hD
    have hc := hv.cell
    have hjoin := join_own hrow hB ht
    gi_wp2_with (refine ⟨trivial, ?_⟩; gi_at_call 26; refine (callsIn_wide.2 hjoin).mono ?_; rintro e w' ⟨rfl, hb⟩)
    have hK' := (hb.block D (Array.getElem?_eq_some_iff.1 hK).1).trans hK
    refine ⟨by simp, .inl ⟨_, _, rfl, run_takeDeferred hK', ?_⟩⟩
    refine ⟨_, results_tmp rfl _ _ _, rfl, ?_⟩
    exact (hB.trans (hb.mono hB.size)).trans (belowK_b (w := w) (Nat.le_refl _) w' D _ _ (by omega) hK' rfl rfl)
  case stop =>
    rintro D c pre W _ h _
    exact h.elim
end Go.Proofs.YtimodbkfjaknhaaDoor.Seq
