/- event.Parts, event.Join walked; the law EventParts. -/
import Derived.Test.YtihmbfheaghfaaaDoorShelf
import Derived.Test.YtihmbfheaghfaaaDoorEvPlain
import Derived.Test.YtihmbfheaghfaaaDoorCuts
import Derived.Shelf.Vars
namespace Go.Proofs.YtihmbfheaghfaaaDoor.Parts
open Go.RowKit Go.Proofs Go.Proofs.YtihmbfheaghfaaaDoorW.PrintWords Go.Proofs.YtihmbfheaghfaaaDoorW.PrintMore
set_option linter.unusedVariables false
/-- What Split needs of the library's number. -/
def Max (w : World) : Prop := (∃ m, w.cell? ⟨0, 0, none⟩ = some (.int .i64 m)) ∧ 0 < w.heap.size
theorem Max.below {w w' : World} (h : Max w) (hb : Below w.heap.size w w') : Max w' := by
  obtain ⟨⟨m, hm⟩, hz⟩ := h
  exact ⟨⟨m, (hb.cell (p := ⟨0, 0, none⟩) hz).trans hm⟩, Nat.lt_of_lt_of_le hz hb.size⟩
def dot : ByteArray := ⟨#[46]⟩
def cut (s : ByteArray) : List ByteArray := Lib.splitB dot 0 (Lib.countB s dot) s
theorem parts_any (s : ByteArray) (w : World) (hM : Max w) (hs : s.size < 4294967281) :
    Calls Tryd.prog 10 #[.string s] w fun e w' => e = .returned (.slice (some ⟨w.heap.size, 0, none⟩) (Lib.countB s dot + 1) (Lib.countB s dot + 1)) ∧ w' = w.alloc (.cells ((cut s).map Value.string).toArray 9) := by
  obtain ⟨⟨m, hm⟩, _⟩ := hM
  have h1 := Tryd.strings_Split s dot m w hs hm (by decide)
  have H1 := Aside0.mk h1
  clear h1 hm
  go_enter Tryd.func10, Tryd.ntmps10
  go_wp2_with fail
  refine H1.out.mono ?_
  rintro e w1 ⟨rfl, rfl⟩
  go_wp2_with fail
  go_ret
  exact ⟨rfl, rfl⟩
theorem join_any (bk c : Nat) (xs : List ByteArray) (w : World) (hcells : ∀ (j : Nat) x, xs[j]? = some x → w.cell? ⟨bk, 0 + j, none⟩ = some (.string x)) (hbk : bk < w.heap.size) (hN : xs.length ≤ 140737488355328) (hcap : xs.length ≤ c)
    (hlen : (Lib.join (xs.map (·.data.toList)) dot.data.toList).length ≤ 140737488355328) :
    Calls Tryd.prog 11 #[.slice (some ⟨bk, 0, none⟩) xs.length c] w fun e w' => e = .returned (.string ⟨(Lib.join (xs.map (·.data.toList)) dot.data.toList).toArray⟩) ∧ Below w.heap.size w w' := by
  have h1 := Tryd.strings_Join bk 0 c xs dot w hcells hbk hN hcap hlen
  have H1 := Aside0.mk h1
  clear h1 hcells hlen
  go_enter Tryd.func11, Tryd.ntmps11
  go_wp2_with fail
  refine H1.out.mono ?_
  rintro e w1 ⟨rfl, hb⟩
  have HB := Aside0.mk hb
  clear hb
  go_wp2_with fail
  go_ret
  exact ⟨rfl, HB.out⟩
theorem cut_data (s : ByteArray) : (cut s).map (·.data.toList) = Cuts.pieces (Lib.countB s dot) s.data.toList := Lib.splitB_data dot 0 _ s
theorem cut_all (s : ByteArray) : (cut s).length = Lib.countB s dot + 1 ∧ Lib.join ((cut s).map (·.data.toList)) dot.data.toList = s.data.toList := by
  obtain ⟨h1, h2⟩ := Cuts.pieces_all (Lib.countB s dot) s.data.toList rfl
  rw [← cut_data] at h1 h2
  rw [List.length_map] at h1
  exact ⟨h1, h2⟩
theorem mt_head (h t s : List UInt8) (e : s = h ++ t) (ht : t = [] ∨ t.head? = some 46) : Pure.mt h s = (h != [] && (h != [42] || s != [])) := by
  subst e
  unfold Pure.mt
  by_cases h1 : h = [42]
  · rw [if_pos h1]
    subst h1
    rfl
  · rw [if_neg h1]
    have e1 : h.isPrefixOf (h ++ t) = true := by rw [List.isPrefixOf_iff_prefix]; exact List.prefix_append h t
    have e2 : (h ++ t).drop h.length = t := List.drop_left
    have e3 : (h != [42]) = true := bne_iff_ne.2 h1
    rw [e1, e2, e3, Bool.and_true, Bool.true_or]
    rcases ht with rfl | ht
    · rfl
    · rw [ht]; simp
set_option maxRecDepth 100000 in
set_option maxHeartbeats 4000000 in
theorem law_in (s : ByteArray) (n : Int) (w : World) (hM : Max w) (hs : s.size ≤ 300) : Calls Tryd.prog 4 #[.string s, .int .i64 n] w fun e w' => e = .returned (.bool true) ∧ Below w.heap.size w w' := by
  have HM := Aside0.mk hM
  have hd := PEventParts.event_Done.calls s
  have hdf : PEventParts.event_Done.f s = some ((⟨#[100, 111, 110, 101, 46, 115, 116, 97, 116, 101, 46]⟩ : ByteArray) ++ s) := by unfold PEventParts.event_Done.f; rw [if_pos (by omega)]
  have hds : ((⟨#[100, 111, 110, 101, 46, 115, 116, 97, 116, 101, 46]⟩ : ByteArray) ++ s).size = s.size + 11 := by rw [ByteArray.size_append]; show 11 + s.size = _; omega
  generalize (⟨#[100, 111, 110, 101, 46, 115, 116, 97, 116, 101, 46]⟩ : ByteArray) ++ s = D at hdf hds
  have HD := Aside0.mk (fun w => hd D w hdf)
  have hds2 : (D.size : Int) = (s.size : Int) + 11 := by omega
  have hwr : IntKind.i64.wrap ((s.size : Int) + 11) = (s.size : Int) + 11 := by rw [IntKind.wrap_i64]; omega
  have hgt : ¬ ((300 : Int) < (s.size : Int)) := by omega
  clear hM hd hdf hds
  go_enter Tryd.func4, Tryd.ntmps4
  go_wp2_with fail
  refine (PEventParts.whirligiglaw12_anchor.calls true _ Pure.anchor_f).mono ?_
  rintro e w1 ⟨rfl, m1, rfl⟩
  go_wp2_with fail
  refine (HD.out _).mono ?_
  rintro e w2 ⟨rfl, m2, rfl⟩
  go_upto_region 5 with (fail)
  clear HD
  have hb1 : Below w.heap.size w (w.drewN (m1 + m2)) := pw_below_drewN (Below.refl _ _) _
  generalize w.drewN (m1 + m2) = W1 at hb1 ⊢
  have hp := parts_any s W1 (HM.out.below hb1) (by omega)
  obtain ⟨x1, x2⟩ := cut_all s
  rw [← x1] at hp
  have hlen0 : 1 ≤ (cut s).length := by omega
  generalize cut s = xs at hp x2 hlen0
  have hlenj : xs.length ≤ s.size + 1 := by
    cases xs with
    | nil => simp
    | cons y r =>
      have h := Lib.join_length y.data.toList (r.map (·.data.toList)) dot.data.toList
      rw [List.map_cons] at x2
      rw [x2, data_length, List.length_map] at h
      have : dot.data.toList.length = 1 := rfl
      rw [this] at h
      simp only [List.length_cons]
      omega
  clear x1
  have HP := Aside0.mk hp
  have HX2 := Aside0.mk x2
  have HB1 := Aside0.mk hb1
  clear hp x2 hb1
  have hn0 : IntKind.i64.wrap (xs.length : Int) = (xs.length : Int) := by rw [IntKind.wrap_i64]; omega
  go_wp2_with fail
  refine HP.out.mono ?_
  rintro e w2 ⟨rfl, rfl⟩
  have hcells : ∀ (j : Nat) x, xs[j]? = some x → (W1.alloc (.cells (xs.map Value.string).toArray 9)).cell? ⟨W1.heap.size, 0 + j, none⟩ = some (.string x) := by
    intro j x hx
    rw [World.cell?_alloc_new, Nat.zero_add]
    simp [hx]
  have hb2 : Below w.heap.size w (W1.alloc (.cells (xs.map Value.string).toArray 9)) := HB1.out.alloc HB1.out.size _
  have hblk : W1.heap.size < (W1.alloc (.cells (xs.map Value.string).toArray 9)).heap.size := by simp
  clear HP
  generalize hG : W1.heap.size = g at hcells hblk ⊢
  generalize W1.alloc (.cells (xs.map Value.string).toArray 9) = W2 at hcells hblk hb2 ⊢
  have hj := join_any g xs.length xs W2 hcells hblk (by omega) (Nat.le_refl _) (by rw [HX2.out, data_length]; omega)
  have es : (⟨(Lib.join (xs.map (·.data.toList)) dot.data.toList).toArray⟩ : ByteArray) = s := by
    apply ByteArray.ext
    rw [HX2.out]
  rw [es] at hj
  have HJ := Aside0.mk hj
  have HC := Aside0.mk hcells
  have HB2 := Aside0.mk hb2
  have HBK := Aside0.mk hblk
  clear hj hcells hb2 hblk es
  go_wp2_with fail
  refine HJ.out.mono ?_
  rintro e w3 ⟨rfl, hb3⟩
  have hcells3 : ∀ (j : Nat) x, xs[j]? = some x → w3.cell? ⟨g, 0 + j, none⟩ = some (.string x) := fun j x hx => (hb3.cell (p := ⟨g, 0 + j, none⟩) HBK.out).trans (HC.out j x hx)
  have HC3 := Aside0.mk hcells3
  have HB3 := Aside0.mk (HB2.out.trans (hb3.mono HB2.out.size))
  have HBK3 := Aside0.mk (Nat.lt_of_lt_of_le HBK.out hb3.size)
  clear hb3 hcells3 HJ HC HBK
  have hbne : (s.toList != s.toList) = false := by simp
  have hl1 : ¬ ((xs.length : Int) < 1) := by omega
  by_cases h1 : n < 1
  · go_wp2_with fail
    all_goals first | (go_ret; exact ⟨rfl, HB3.out⟩) | skip
  · by_cases h2 : (xs.length : Int) < n
    · go_wp2_with fail
      all_goals first | (go_ret; exact ⟨rfl, HB3.out⟩) | skip
    · obtain ⟨k, rfl⟩ : ∃ k : Nat, n = k := ⟨n.toNat, by omega⟩
      have hk1 : 1 ≤ k := by omega
      have hk2 : k ≤ xs.length := by omega
      have hj2 := join_any g xs.length (xs.take k) w3 (fun j x hx => HC3.out j x (by
        rcases Nat.lt_or_ge j k with hjk | hjk
        · rw [List.getElem?_take_of_lt hjk] at hx; exact hx
        · rw [List.getElem?_eq_none (by rw [List.length_take]; omega)] at hx; cases hx)) HBK3.out (by rw [List.length_take]; omega) (by rw [List.length_take]; omega) (by
          obtain ⟨t, ht, _⟩ := Cuts.join_take (xs.map (·.data.toList)) k hk1 (by rw [List.length_map]; exact hk2)
          have hlj := congrArg List.length ht
          have ex := HX2.out
          rw [show dot.data.toList = [46] from rfl] at ex ⊢
          rw [ex, data_length, List.length_append] at hlj
          rw [List.map_take]
          omega)
      rw [List.length_take, Nat.min_eq_left hk2] at hj2
      obtain ⟨t, ht, ht2⟩ := Cuts.join_take (xs.map (·.data.toList)) k hk1 (by rw [List.length_map]; exact hk2)
      have ex := HX2.out
      rw [show dot.data.toList = [46] from rfl] at ex
      rw [ex] at ht
      have hmt := mt_head _ _ _ ht ht2
      rw [← List.map_take] at hmt
      rw [show dot.data.toList = [46] from rfl] at hj2
      obtain ⟨H, hH⟩ : ∃ H : ByteArray, H = ⟨(Lib.join ((xs.take k).map (·.data.toList)) [46]).toArray⟩ := ⟨_, rfl⟩
      have hHd : H.data.toList = Lib.join ((xs.take k).map (·.data.toList)) [46] := by rw [hH]
      rw [← hH] at hj2
      rw [← hHd] at hmt
      have HJ2 := Aside0.mk hj2
      have hm := PEventParts.event_Match.calls H s
      have hmf := Pure.match_f H s
      rw [hmt] at hmf
      have eH : H.toList = H.data.toList := Lib.toList_data H
      have eS : s.toList = s.data.toList := Lib.toList_data s
      rw [← eH, ← eS] at hmf
      clear hj2 hH hHd ht ht2 ex hmt eH eS
      have HMF := Aside0.mk (fun w => hm _ w hmf)
      clear hm hmf
      go_wp2_with fail
      refine HJ2.out.mono ?_
      rintro e w4 ⟨rfl, hb4⟩
      have HB4 := Aside0.mk (HB3.out.trans (hb4.mono HB3.out.size))
      clear hb4
      have i1 : H.toList.isEmpty = !(H.toList != ([] : List UInt8)) := by cases H.toList <;> rfl
      have i3 : s.toList.isEmpty = !(s.toList != ([] : List UInt8)) := by cases s.toList <;> rfl
      cases g1 : (H.toList != ([] : List UInt8)) <;> cases g2 : (H.toList != ([42] : List UInt8)) <;> cases g3 : (s.toList != ([] : List UInt8)) <;> rw [g1, g2, g3] at HMF <;> rw [g1] at i1 <;> rw [g3] at i3 <;> simp only [Bool.not_true, Bool.not_false] at i1 i3
      all_goals (
        go_wp2_with fail
        refine (HMF.out _).mono ?_
        rintro e w5 ⟨rfl, m5, rfl⟩
        go_wp2_with fail
        all_goals (
          go_ret
          refine ⟨?_, pw_below_drewN HB4.out _⟩
          first | rfl | (rw [i1]; done) | (rw [i3]; done) | (rename_i hh; exfalso; first | (rw [hh] at g2; simp at g2; done) | exact hh (bne_eq_false_iff_eq.1 g2))))
set_option maxHeartbeats 1000000 in
theorem law_out (s : ByteArray) (n : Int) (w : World) (hs : 300 < s.size) : Calls Tryd.prog 4 #[.string s, .int .i64 n] w fun e w' => e = .returned (.bool true) ∧ Below w.heap.size w w' := by
  have hgt : (300 : Int) < (s.size : Int) := by omega
  go_enter Tryd.func4, Tryd.ntmps4
  go_wp2_with fail
  refine (PEventParts.whirligiglaw12_anchor.calls true _ Pure.anchor_f).mono ?_
  rintro e w1 ⟨rfl, m1, rfl⟩
  go_wp2_with fail
  go_ret
  exact ⟨rfl, pw_below_drewN (Below.refl _ _) _⟩
theorem max_of {W : World} (h : W.ShapedOpen Tryd.prog) : Max W := by
  obtain ⟨m, hm⟩ := cell_of_shapedOpen_int (P := Tryd.prog) (g := 0) (t := 3) (zero := #[.int .i64 0]) h (of_decide_eq_true (by kernel_rfl)) (by kernel_rfl) rfl (by kernel_rfl) (by kernel_rfl) Tryd.underlying3
  refine ⟨⟨m, hm⟩, ?_⟩
  rcases Nat.lt_or_ge 0 W.heap.size with h0 | h0
  · exact h0
  · unfold World.cell? at hm
    rw [Array.getElem?_eq_none (by show W.heap.size ≤ 0; omega)] at hm
    cases hm
theorem eventParts_walk (s : ByteArray) (n : Int) (w : World) (w0 : s.size ≤ 140737488351232) (w1 : (Lit.int .i64 n).wf = true) (hS : w.ShapedOpen Tryd.prog) :
    Calls Tryd.prog 4 #[.string s, .int .i64 n] w fun e w' => e = .returned (.bool true) ∧ Below w.heap.size w w' := by
  by_cases h : s.size ≤ 300
  · exact law_in s n w (max_of hS) h
  · exact law_out s n w (by omega)
end Go.Proofs.YtihmbfheaghfaaaDoor.Parts
