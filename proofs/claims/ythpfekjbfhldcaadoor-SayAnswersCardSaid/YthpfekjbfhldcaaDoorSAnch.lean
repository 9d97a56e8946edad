/- The anchor walked. -/
import Derived.Test.YthpfekjbfhldcaaDoorSPlain
namespace Go.Proofs.YthpfekjbfhldcaaDoor.SayP
open Go Go.RowKit Go.Proofs Go.Proofs.YthpfekjbfhldcaaDoorW.PrintWords Go.Proofs.YthpfekjbfhldcaaDoorW.PrintLast Go.Proofs.YthpfekjbfhldcaaDoorW.PrintMore
set_option linter.unusedVariables false
set_option linter.unusedSimpArgs false
def atS : ByteArray := ⟨#[97, 116]⟩
theorem dec_small (u : Nat) (h : u < 10) : dec (u : Int) = ⟨#[UInt8.ofNat (48 + u)]⟩ := by
  unfold dec Lib.itoa
  rw [if_neg (by omega), Int.toNat_natCast, Lib.decDigits_one h]
def itsA (g : Nat) : List It := [It.s atS, It.n 3, It.l (some ⟨g, 0, none⟩) 2 [1, 2]]
theorem outsA (g : Nat) : joinB (okS :: outs (itsA g)) blank = ⟨#[111, 107, 32, 97, 116, 32, 51, 32, 49, 32, 50]⟩ := by
  have e : outs (itsA g) = [atS, dec ((3 : Nat) : Int), dec ((1 : Nat) : Int), dec ((2 : Nat) : Int)] := rfl
  rw [e, dec_small 3 (by decide), dec_small 1 (by decide), dec_small 2 (by decide)]
  decide +kernel
theorem outsB : joinB (errS :: (⟨#[114, 97, 110, 103, 101]⟩ : ByteArray) :: outs []) blank = ⟨#[101, 114, 114, 111, 114, 32, 114, 97, 110, 103, 101]⟩ := by decide +kernel
theorem int_two (W : World) (a b : Int) : (Kd.int .i64).C (W.alloc (.cells #[.int .i64 a, .int .i64 b] 3)) (some ⟨W.heap.size, 0, none⟩) 2 [a, b] :=
  (Kd.R_reads' (Kd.R_of_own (enc := Value.int .i64) (h1 := fun _ => rfl) (ok := fun _ => True) (own_lit_of (enc := Value.int .i64) W W.heap.size 3 [a, b] (Nat.le_refl _) (by simp)) (fun _ _ => trivial))).2.2
theorem its_nil (W : World) : itK.C W none 0 [] := (Kd.R_reads' (Kd.R_nil itK 20 W 0 (fun _ => True))).2.2
set_option maxHeartbeats 8000000 in
set_option maxRecDepth 100000 in
theorem anchor_any (w : World) (hT : Tab w) : Calls Tryd.prog 5 #[] w fun e w' => e = .returned (.bool true) ∧ Below w.heap.size w w' := by
  have HT := Aside0.mk hT
  have HB0 := Aside0.mk ((Below.refl w.heap.size w).alloc (Nat.le_refl _) (.cells #[.int .i64 1, .int .i64 2] 3))
  have HI := Aside0.mk (int_two w 1 2)
  have HK := Aside0.mk (made_its (w.alloc (.cells #[.int .i64 1, .int .i64 2] 3)) 0 (Nat.zero_le _) (itsA w.heap.size) (show 3 ≤ 1000 by decide))
  clear hT
  go_enter Tryd.func5, Tryd.ntmps5
  go_wp2_with (go_at_call 11; refine Hold.out ?_)
  refine ⟨?_⟩
  have hz : (w.alloc (.cells #[.int .i64 1, .int .i64 2] 3)).heap.size = w.heap.size + 1 := by simp
  have HK2 := Aside0.mk (Kd.R_reads' HK.out)
  have HB1 := Aside0.mk (HB0.out.alloc (by rw [hz]; omega) (.cells ((itsA w.heap.size).map It.val).toArray 20))
  rw [hz] at HK2
  have HI2 := Aside0.mk (Kd.C_below HI.out ((Below.refl (w.alloc (.cells #[.int .i64 1, .int .i64 2] 3)).heap.size _).alloc (Nat.le_refl _) (.cells ((itsA w.heap.size).map It.val).toArray 20)))
  show Calls Tryd.prog 11 #[.slice (some ⟨w.heap.size + 1, 0, none⟩) (itsA w.heap.size).length 3] ((w.alloc (.cells #[.int .i64 1, .int .i64 2] 3)).alloc (.cells ((itsA w.heap.size).map It.val).toArray 20)) _
  clear hz HK HI HB0
  generalize (w.alloc (.cells #[.int .i64 1, .int .i64 2] 3)).alloc (.cells ((itsA w.heap.size).map It.val).toArray 20) = w1 at HK2 HB1 HI2 ⊢
  have hok : ∀ x ∈ itsA w.heap.size, x.ok w1 := by
    intro x hx
    simp only [itsA, List.mem_cons, List.not_mem_nil, or_false] at hx
    rcases hx with rfl | rfl | rfl
    · trivial
    · exact ⟨by decide, by decide⟩
    · refine ⟨HI2.out, by decide, fun k hk => ?_⟩
      simp only [List.mem_cons, List.not_mem_nil, or_false] at hk
      rcases hk with rfl | rfl <;> exact ⟨by decide, by decide⟩
  refine (ok_any _ 3 (itsA w.heap.size) w1 (HT.out.below HB1.out) HK2.out.2.2 (show 3 ≤ 3 by decide) (show 3 ≤ 900 by decide) hok (by rw [show (outs (itsA w.heap.size)).length = 4 from rfl]; decide) (by rw [outsA]; decide)).mono ?_
  rintro e w2 ⟨v, rfl, hR, hb⟩
  rw [outsA] at hR
  obtain ⟨g, c, rfl, _⟩ := Kd.R_form hR (by decide)
  have HR := Aside0.mk hR
  have HB2 := Aside0.mk (HB1.out.trans (hb.mono HB1.out.size))
  clear hok hb hR HK2 HI2 HB1
  go_wp2_with (go_at_call 13; refine Hold.out ?_)
  refine ⟨?_⟩
  refine (wrong_any 10 ⟨#[114, 97, 110, 103, 101]⟩ rfl none 0 [] w2 (HT.out.below HB2.out) (its_nil _) (Nat.le_refl _) (by decide) (fun x hx => absurd hx (List.not_mem_nil)) (by decide) (by rw [outsB]; decide)).mono ?_
  rintro e w3 ⟨v, rfl, hR, hb⟩
  rw [outsB] at hR
  obtain ⟨g2, c2, rfl, _⟩ := Kd.R_form hR (by decide)
  have h1 := Kd.R_cell (d := ByteArray.empty) (Kd.R_below HR.out hb) 0 (by decide) (by decide)
  have h2 := Kd.R_cell (d := ByteArray.empty) hR 0 (by decide) (by decide)
  have hc1 : w3.cell? ⟨g, 0, none⟩ = some (.string ⟨#[111, 107, 32, 97, 116, 32, 51, 32, 49, 32, 50]⟩) := h1.1
  have hc2 : w3.cell? ⟨g2, 0, none⟩ = some (.string ⟨#[101, 114, 114, 111, 114, 32, 114, 97, 110, 103, 101]⟩) := h2.1
  have HB3 := Aside0.mk (HB2.out.trans (hb.mono HB2.out.size))
  clear h1 h2 hR hb HR HB2
  go_wp2
  go_ret
  exact ⟨rfl, HB3.out⟩
end Go.Proofs.YthpfekjbfhldcaaDoor.SayP
