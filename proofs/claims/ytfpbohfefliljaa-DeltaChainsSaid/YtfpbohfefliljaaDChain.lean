/- DeltaChains: the law's call answers true, for all snapshots. -/
import Derived.Test.YtfpbohfefliljaaDApp
import Derived.Test.YtfpbohfefliljaaDSame
namespace Go.Proofs.Ytfpbohfefliljaa.MD
open Go Go.RowKit Go.Proofs Go.Proofs.YtfpbohfefliljaaW.PrintWords Go.Proofs.YtfpbohfefliljaaW.PrintLast Go.Proofs.YtfpbohfefliljaaW.PrintMore
set_option linter.unusedVariables false
set_option linter.unusedSimpArgs false
theorem anchor_any (w : World) : Calls Try.prog 7 #[] w fun e w' => e = .returned (.bool true) ∧ Below w.heap.size w w' :=
  whirligiglaw19_anchor.calls true w (by kernel_rfl)
/-- The variable at block g holds s. -/
def SV (w : World) (g : Nat) (s : S46) : Prop := ∃ cs : List Value, k46.K w s cs ∧ w.heap[g]? = some (.cells cs.toArray 46 (0, 0))
set_option maxHeartbeats 32000000 in
set_option maxRecDepth 100000 in
theorem chains_any (w : World) (A : Option Addr) (c : Nat) (l : List S46) (hC : Kd.C k46 w A l.length l) (hc : l.length ≤ c) (hsz : ∀ s ∈ l, tot s ≤ 1152921504606846975) (hl : l.length ≤ 1152921504606846975) :
    Calls Try.prog 5 #[.slice A l.length c] w fun e w' => e = .returned (.bool true) ∧ Below w.heap.size w w' := by
  have HC := Aside0.mk hC
  have HSZ := Aside0.mk hsz
  have HCC := Aside0.mk hc
  clear hC hsz hc
  by_cases h1 : l.length < 2
  · have d1 : decide ((l.length : Int) < 2) = true := decide_eq_true (by omega)
    clear h1 hl
    go_enter Try.func5, Try.ntmps5
    go_wp2_with (go_at_call 7; refine (anchor_any _).mono ?_; rintro e w1 ⟨rfl, hb⟩; have HB := Aside0.mk hb; clear hb)
    go_ret
    exact ⟨rfl, HB.out⟩
  have d1 : decide ((l.length : Int) < 2) = false := decide_eq_false (by omega)
  by_cases h2 : l.length > 12
  · have d2 : decide ((l.length : Int) > 12) = true := decide_eq_true (by omega)
    clear h1 h2 hl
    go_enter Try.func5, Try.ntmps5
    go_wp2_with (go_at_call 7; refine (anchor_any _).mono ?_; rintro e w1 ⟨rfl, hb⟩; have HB := Aside0.mk hb; clear hb)
    go_ret
    exact ⟨rfl, HB.out⟩
  have d2 : decide ((l.length : Int) > 12) = false := decide_eq_false (by omega)
  have HLEN := Aside0.mk (And.intro h1 h2)
  clear h1 h2 hl
  go_enter Try.func5, Try.ntmps5
  go_wp2_with (go_at_call 7; refine (anchor_any _).mono ?_; rintro e w1 ⟨rfl, hb⟩; have HB := Aside0.mk hb; clear hb)
  clear d1 d2
  go_loopw [21] (fun v21 wr => ∃ k : Nat, v21 = .int .i64 (k : Int) ∧ k ≤ l.length ∧ Aside0 (∀ j, j < k → ∀ h : j < l.length, tot l[j] ≤ 300) ∧ Aside0 (Below w.heap.size w wr)) (fun v21 _ => l.length - (intOf v21).toNat)
  case atStart => exact ⟨0, rfl, Nat.zero_le _, ⟨fun j hj => absurd hj (Nat.not_lt_zero _)⟩, HB⟩
  case round =>
    clear HB
    obtain ⟨k, rfl, hk, HT, HB⟩ := hrel
    have HK := Aside0.mk hk
    clear hk
    have hlen := HLEN.out
    have q2 : (0 ≤ (k : Int)) = True := eq_true (Int.natCast_nonneg _)
    by_cases h1 : k < l.length
    · have d1 : decide ((k : Int) < (l.length : Int)) = true := decide_eq_true (by omega)
      have n1 : (k < l.length) = True := eq_true h1
      have t1 : ((k : Int) < (l.length : Int)) = True := eq_true (by omega)
      obtain ⟨pad, pA5, pc5, pA6, pc6, pA7, pc7, pA8, pc8, pA9, pc9, pA11, pc11, pA13, pc13, pe, p0, p1, p2, p3, p4, p5, p6, p7, p8, p9, p10, p11, p12, p13, pl5, pg5, pl6, pg6, pl7, pg7, pl8, pg8, pl9, pg9, pl11, pg11, pl13, pg13⟩ := at_T46 HC.out ((k : Nat) : Int) (Int.natCast_nonneg _) (by omega)
      have phr : rd_T46 l ((k : Nat) : Int) = l[k]'h1 := by unfold rd_T46; rw [Int.toNat_natCast, List.getD_eq_getElem?_getD, List.getElem?_eq_getElem h1]; rfl
      rw [phr] at p0 p1 p2 p3 p4 p5 p6 p7 p8 p9 p10 p11 p12 p13 pl5 pg5 pl6 pg6 pl7 pg7 pl8 pg8 pl9 pg9 pl11 pg11 pl13 pg13
      rw [Int.toNat_natCast] at p0 p1 p2 p3 p4 p5 p6 p7 p8 p9 p10 p11 p12 p13
      obtain ⟨x, phx⟩ : ∃ zz_, zz_ = l[k]'h1 := ⟨_, rfl⟩
      rw [← phx] at p0 p1 p2 p3 p4 p5 p6 p7 p8 p9 p10 p11 p12 p13 pl5 pg5 pl6 pg6 pl7 pg7 pl8 pg8 pl9 pg9 pl11 pg11 pl13 pg13
      have pC : Aside0 (SnapC w (.agg #[.int .i64 x.f0, .int .i64 x.f1, .int .i64 x.f2, .int .i64 x.f3, .int .u64 x.f4, .slice pA5 x.f5.length pc5, .slice pA6 x.f6.length pc6, .slice pA7 x.f7.length pc7, .slice pA8 x.f8.length pc8, .slice pA9 x.f9.length pc9, .string x.f10.f0, .slice pA11 x.f10.f1.length pc11, .int .u64 x.f10.f2, .slice pA13 x.f10.f3.length pc13]) x) := ⟨⟨_, rfl, k46_mk w x pl5 pg5 pl6 pg6 pl7 pg7 pl8 pg8 pl9 pg9 pl11 pg11 pl13 pg13⟩⟩
      clear pl5 pg5 pl6 pg6 pl7 pg7 pl8 pg8 pl9 pg9 pl11 pg11 pl13 pg13 phr
      cases pe
      have HTOT := Aside0.mk (HSZ.out x (by rw [phx]; exact List.getElem_mem h1))
      replace p0 := pw_cell_below HB.out p0
      replace p1 := pw_cell_below HB.out p1
      replace p2 := pw_cell_below HB.out p2
      replace p3 := pw_cell_below HB.out p3
      replace p4 := pw_cell_below HB.out p4
      replace p5 := pw_cell_below HB.out p5
      replace p6 := pw_cell_below HB.out p6
      replace p7 := pw_cell_below HB.out p7
      replace p8 := pw_cell_below HB.out p8
      replace p9 := pw_cell_below HB.out p9
      replace p10 := pw_cell_below HB.out p10
      replace p11 := pw_cell_below HB.out p11
      replace p12 := pw_cell_below HB.out p12
      replace p13 := pw_cell_below HB.out p13
      have hk9 : k < 1000 := by omega
      have HB2 := Aside0.mk (HB.out.alloc HB.out.size (.cells #[.int .i64 x.f0, .int .i64 x.f1, .int .i64 x.f2, .int .i64 x.f3, .int .u64 x.f4, .slice pA5 x.f5.length pc5, .slice pA6 x.f6.length pc6, .slice pA7 x.f7.length pc7, .slice pA8 x.f8.length pc8, .slice pA9 x.f9.length pc9, .string x.f10.f0, .slice pA11 x.f10.f1.length pc11, .int .u64 x.f10.f2, .slice pA13 x.f10.f3.length pc13] 46))
      by_cases ht : tot x ≤ 300
      · have HT2 : Aside0 (∀ j, j < k + 1 → ∀ h : j < l.length, tot l[j] ≤ 300) := ⟨fun j hj h => by
          rcases Nat.lt_succ_iff_lt_or_eq.1 hj with g | rfl
          · exact HT.out j g h
          · rw [← phx]; exact ht⟩
        have dt : decide (tot x ≤ 300) = true := decide_eq_true ht
        have H1 := Aside0.mk h1
        clear phx ht h1
        go_wp2_with (go_at_call 15; refine Hold.out ?_)
        refine ⟨?_⟩
        refine (few_any _ _ x (pC.out.below HB2.out) HTOT.out).mono ?_
        rintro e w2 ⟨rfl, hb⟩
        rw [dt]
        replace HB2 := Aside0.mk (HB2.out.trans (hb.mono HB2.out.size))
        clear hb p0 p1 p2 p3 p4 p5 p6 p7 p8 p9 p10 p11 p12 p13 dt
        go_wp2
        go_roundw
        case rel => exact ⟨k + 1, by go_num, H1.out, HT2, HB2⟩
        case measure => have := H1.out; simp [intOf]; omega
      · have dt : decide (tot x ≤ 300) = false := decide_eq_false ht
        clear phx ht h1
        go_wp2_with (go_at_call 15; refine Hold.out ?_)
        refine ⟨?_⟩
        refine (few_any _ _ x (pC.out.below HB2.out) HTOT.out).mono ?_
        rintro e w2 ⟨rfl, hb⟩
        rw [dt]
        replace HB2 := Aside0.mk (HB2.out.trans (hb.mono HB2.out.size))
        clear hb p0 p1 p2 p3 p4 p5 p6 p7 p8 p9 p10 p11 p12 p13 dt
        go_wp2
        go_ret
        exact ⟨rfl, HB2.out⟩
    · have d1 : decide ((k : Int) < (l.length : Int)) = false := decide_eq_false (by omega)
      have n1 : (k < l.length) = False := eq_false (by omega)
      have n3 : (l.length ≤ k) = True := eq_true (by omega)
      have HTA : Aside0 (∀ j, ∀ h : j < l.length, tot l[j] ≤ 1000) := ⟨fun j h => Nat.le_trans (HT.out j (by omega) h) (by decide)⟩
      have h0 : 0 < l.length := by have := HLEN.out; omega
      have q20 : (0 < l.length) = True := eq_true h0
      have q21 : ((0 : Int) < (l.length : Int)) = True := eq_true (by omega)
      obtain ⟨z, hz⟩ : ∃ z : Nat, z = 0 := ⟨0, rfl⟩
      have hzl : z < l.length := by omega
      have HH0 := Aside0.mk h0
      clear h1 h0 HT HK
      obtain ⟨pad, pA5, pc5, pA6, pc6, pA7, pc7, pA8, pc8, pA9, pc9, pA11, pc11, pA13, pc13, pe, p0, p1, p2, p3, p4, p5, p6, p7, p8, p9, p10, p11, p12, p13, pl5, pg5, pl6, pg6, pl7, pg7, pl8, pg8, pl9, pg9, pl11, pg11, pl13, pg13⟩ := at_T46 HC.out ((z : Nat) : Int) (Int.natCast_nonneg _) (by omega)
      have phr : rd_T46 l ((z : Nat) : Int) = l[z]'hzl := by unfold rd_T46; rw [Int.toNat_natCast, List.getD_eq_getElem?_getD, List.getElem?_eq_getElem hzl]; rfl
      rw [phr] at p0 p1 p2 p3 p4 p5 p6 p7 p8 p9 p10 p11 p12 p13 pl5 pg5 pl6 pg6 pl7 pg7 pl8 pg8 pl9 pg9 pl11 pg11 pl13 pg13
      rw [Int.toNat_natCast] at p0 p1 p2 p3 p4 p5 p6 p7 p8 p9 p10 p11 p12 p13
      obtain ⟨x, phx⟩ : ∃ zz_, zz_ = l[z]'hzl := ⟨_, rfl⟩
      rw [← phx] at p0 p1 p2 p3 p4 p5 p6 p7 p8 p9 p10 p11 p12 p13 pl5 pg5 pl6 pg6 pl7 pg7 pl8 pg8 pl9 pg9 pl11 pg11 pl13 pg13
      have pC : Aside0 (SnapC w (.agg #[.int .i64 x.f0, .int .i64 x.f1, .int .i64 x.f2, .int .i64 x.f3, .int .u64 x.f4, .slice pA5 x.f5.length pc5, .slice pA6 x.f6.length pc6, .slice pA7 x.f7.length pc7, .slice pA8 x.f8.length pc8, .slice pA9 x.f9.length pc9, .string x.f10.f0, .slice pA11 x.f10.f1.length pc11, .int .u64 x.f10.f2, .slice pA13 x.f10.f3.length pc13]) x) := ⟨⟨_, rfl, k46_mk w x pl5 pg5 pl6 pg6 pl7 pg7 pl8 pg8 pl9 pg9 pl11 pg11 pl13 pg13⟩⟩
      clear pl5 pg5 pl6 pg6 pl7 pg7 pl8 pg8 pl9 pg9 pl11 pg11 pl13 pg13 phr
      cases pe
      have HTX : Aside0 (tot x ≤ 1000) := ⟨by rw [phx]; exact HTA.out z hzl⟩
      have HX0 : Aside0 (l[0]? = some x) := ⟨by subst hz; rw [List.getElem?_eq_getElem hzl, phx]⟩
      rw [hz] at p0 p1 p2 p3 p4 p5 p6 p7 p8 p9 p10 p11 p12 p13
      have hp0 : pad.add (0 * 14) = pad := by cases pad; simp [Addr.add]
      rw [hp0] at p0 p1 p2 p3 p4 p5 p6 p7 p8 p9 p10 p11 p12 p13
      clear phx hzl hz hp0
      replace p0 := pw_cell_below HB.out p0
      replace p1 := pw_cell_below HB.out p1
      replace p2 := pw_cell_below HB.out p2
      replace p3 := pw_cell_below HB.out p3
      replace p4 := pw_cell_below HB.out p4
      replace p5 := pw_cell_below HB.out p5
      replace p6 := pw_cell_below HB.out p6
      replace p7 := pw_cell_below HB.out p7
      replace p8 := pw_cell_below HB.out p8
      replace p9 := pw_cell_below HB.out p9
      replace p10 := pw_cell_below HB.out p10
      replace p11 := pw_cell_below HB.out p11
      replace p12 := pw_cell_below HB.out p12
      replace p13 := pw_cell_below HB.out p13
      go_wp2_with (go_at_call 16; refine Hold.out ?_)
      refine ⟨?_⟩
      clear p0 p1 p2 p3 p4 p5 p6 p7 p8 p9 p10 p11 p12 p13
      refine (copy_any _ _ x (pC.out.below HB.out) HTX.out).mono ?_
      rintro e x1 ⟨v, rfl, ⟨qs, rfl, hQ⟩, hb⟩
      have HQ := Aside0.mk hQ
      obtain ⟨G5, h5, G6, h6, G7, h7, G8, h8, G9, h9, G11, h11, G13, h13, rfl, _⟩ := k46_open hQ
      replace HB := Aside0.mk (HB.out.trans (hb.mono HB.out.size))
      clear hb hQ
      go_wp2_with ((with_reducible refine gate_store (t := 46) (p := 5) (v := .tmp 32) rfl ?_); refine Hold.out ?_)
      refine ⟨?_⟩
      have BS := Aside0.mk (blk_new x1 (.cells #[.int .i64 0, .int .i64 0, .int .i64 0, .int .i64 0, .int .u64 0, .slice none 0 0, .slice none 0 0, .slice none 0 0, .slice none 0 0, .slice none 0 0, .string ⟨#[]⟩, .slice none 0 0, .int .u64 0, .slice none 0 0] 46))
      have HB3 := Aside0.mk (HB.out.alloc HB.out.size (.cells #[.int .i64 0, .int .i64 0, .int .i64 0, .int .i64 0, .int .u64 0, .slice none 0 0, .slice none 0 0, .slice none 0 0, .slice none 0 0, .slice none 0 0, .string ⟨#[]⟩, .slice none 0 0, .int .u64 0, .slice none 0 0] 46))
      have hcl := (Below.refl x1.heap.size x1).alloc (Nat.le_refl _) (.cells #[.int .i64 0, .int .i64 0, .int .i64 0, .int .i64 0, .int .u64 0, .slice none 0 0, .slice none 0 0, .slice none 0 0, .slice none 0 0, .slice none 0 0, .string ⟨#[]⟩, .slice none 0 0, .int .u64 0, .slice none 0 0] 46)
      have HG := Aside0.mk HB.out.size
      replace HQ := Aside0.mk (SnapC.below ⟨_, rfl, HQ.out⟩ (setRow_below (g := x1.heap.size) (cs := #[.int .i64 x.f0, .int .i64 x.f1, .int .i64 x.f2, .int .i64 x.f3, .int .u64 x.f4, .slice G5 x.f5.length h5, .slice G6 x.f6.length h6, .slice G7 x.f7.length h7, .slice G8 x.f8.length h8, .slice G9 x.f9.length h9, .string x.f10.f0, .slice G11 x.f10.f1.length h11, .int .u64 x.f10.f2, .slice G13 x.f10.f3.length h13]) hcl (Nat.le_refl _)))
      replace HB := Aside0.mk (setRow_below (g := x1.heap.size) (cs := #[.int .i64 x.f0, .int .i64 x.f1, .int .i64 x.f2, .int .i64 x.f3, .int .u64 x.f4, .slice G5 x.f5.length h5, .slice G6 x.f6.length h6, .slice G7 x.f7.length h7, .slice G8 x.f8.length h8, .slice G9 x.f9.length h9, .string x.f10.f0, .slice G11 x.f10.f1.length h11, .int .u64 x.f10.f2, .slice G13 x.f10.f3.length h13]) HB3.out HG.out)
      clear hcl HB3
      generalize x1.alloc (.cells #[.int .i64 0, .int .i64 0, .int .i64 0, .int .i64 0, .int .u64 0, .slice none 0 0, .slice none 0 0, .slice none 0 0, .slice none 0 0, .slice none 0 0, .string ⟨#[]⟩, .slice none 0 0, .int .u64 0, .slice none 0 0] 46) = y0 at BS HQ HB ⊢
      refine store_rowL (g := x1.heap.size) (c' := #[.int .i64 x.f0, .int .i64 x.f1, .int .i64 x.f2, .int .i64 x.f3, .int .u64 x.f4, .slice G5 x.f5.length h5, .slice G6 x.f6.length h6, .slice G7 x.f7.length h7, .slice G8 x.f8.length h8, .slice G9 x.f9.length h9, .string x.f10.f0, .slice G11 x.f10.f1.length h11, .int .u64 x.f10.f2, .slice G13 x.f10.f3.length h13]) rfl rfl rfl rfl rfl BS.out (by kernel_rfl) rfl (by kernel_rfl) ?_
      replace BS := Aside0.mk (setRow_heap y0 x1.heap.size _ (#[.int .i64 x.f0, .int .i64 x.f1, .int .i64 x.f2, .int .i64 x.f3, .int .u64 x.f4, .slice G5 x.f5.length h5, .slice G6 x.f6.length h6, .slice G7 x.f7.length h7, .slice G8 x.f8.length h8, .slice G9 x.f9.length h9, .string x.f10.f0, .slice G11 x.f10.f1.length h11, .int .u64 x.f10.f2, .slice G13 x.f10.f3.length h13]) 46 (0, 0) BS.out)
      generalize y0.setRow x1.heap.size (#[.int .i64 x.f0, .int .i64 x.f1, .int .i64 x.f2, .int .i64 x.f3, .int .u64 x.f4, .slice G5 x.f5.length h5, .slice G6 x.f6.length h6, .slice G7 x.f7.length h7, .slice G8 x.f8.length h8, .slice G9 x.f9.length h9, .string x.f10.f0, .slice G11 x.f10.f1.length h11, .int .u64 x.f10.f2, .slice G13 x.f10.f3.length h13]) = y1 at BS HQ HB ⊢
      obtain ⟨g, hg⟩ : ∃ g, g = x1.heap.size := ⟨_, rfl⟩
      rw [← hg] at BS HG ⊢
      clear hg
      have hS0 : ∃ s, l[0]? = some s ∧ SV y1 g s := ⟨x, HX0.out, by
        obtain ⟨cs, e, hK⟩ := HQ.out
        injection e with e
        exact ⟨cs, hK, by rw [← e]; exact BS.out⟩⟩
      have HS0 := Aside0.mk hS0
      clear hS0 BS HQ HX0 pC HTX
      go_wp2
      go_loopw [6, 7] (fun v6 v7 wc => v6 = .bool true ∧ ∃ i j : Nat, v7 = .int .i64 (i : Int) ∧ i = j + 1 ∧ i ≤ l.length ∧ Aside0 (∃ s, l[j]? = some s ∧ SV wc g s) ∧ Aside0 (Below w.heap.size w wc)) (fun v6 v7 _ => l.length - (intOf v7).toNat)
      case atStart => exact ⟨rfl, 1, 0, rfl, rfl, HH0.out, HS0, HB⟩
      case round =>
        clear HB HS0
        obtain ⟨rfl, i, j, rfl, hij, hi, HS, HB⟩ := hrel
        have hlen := HLEN.out
        have q2 : (0 ≤ (i : Int)) = True := eq_true (Int.natCast_nonneg _)
        have q3 : (0 ≤ (j : Int)) = True := eq_true (Int.natCast_nonneg _)
        have s1 : wrap64 ((i : Int) - 1) = (j : Int) := by unfold wrap64; omega
        have hi9 : i < 1000 := by omega
        have hj : j < l.length := by omega
        by_cases h1 : i < l.length
        · have d1 : decide ((i : Int) < (l.length : Int)) = true := decide_eq_true (by omega)
          have n1 : (i < l.length) = True := eq_true h1
          have t1 : ((i : Int) < (l.length : Int)) = True := eq_true (by omega)
          have n2 : (j < l.length) = True := eq_true hj
          have t2 : ((j : Int) < (l.length : Int)) = True := eq_true (by omega)
          obtain ⟨mad, mA5, mc5, mA6, mc6, mA7, mc7, mA8, mc8, mA9, mc9, mA11, mc11, mA13, mc13, me, m0, m1, m2, m3, m4, m5, m6, m7, m8, m9, m10, m11, m12, m13, ml5, mg5, ml6, mg6, ml7, mg7, ml8, mg8, ml9, mg9, ml11, mg11, ml13, mg13⟩ := at_T46 HC.out ((j : Nat) : Int) (Int.natCast_nonneg _) (by omega)
          have mhr : rd_T46 l ((j : Nat) : Int) = l[j]'hj := by unfold rd_T46; rw [Int.toNat_natCast, List.getD_eq_getElem?_getD, List.getElem?_eq_getElem hj]; rfl
          rw [mhr] at m0 m1 m2 m3 m4 m5 m6 m7 m8 m9 m10 m11 m12 m13 ml5 mg5 ml6 mg6 ml7 mg7 ml8 mg8 ml9 mg9 ml11 mg11 ml13 mg13
          rw [Int.toNat_natCast] at m0 m1 m2 m3 m4 m5 m6 m7 m8 m9 m10 m11 m12 m13
          obtain ⟨ex, mhx⟩ : ∃ zz_, zz_ = l[j]'hj := ⟨_, rfl⟩
          rw [← mhx] at m0 m1 m2 m3 m4 m5 m6 m7 m8 m9 m10 m11 m12 m13 ml5 mg5 ml6 mg6 ml7 mg7 ml8 mg8 ml9 mg9 ml11 mg11 ml13 mg13
          have mC : Aside0 (SnapC w (.agg #[.int .i64 ex.f0, .int .i64 ex.f1, .int .i64 ex.f2, .int .i64 ex.f3, .int .u64 ex.f4, .slice mA5 ex.f5.length mc5, .slice mA6 ex.f6.length mc6, .slice mA7 ex.f7.length mc7, .slice mA8 ex.f8.length mc8, .slice mA9 ex.f9.length mc9, .string ex.f10.f0, .slice mA11 ex.f10.f1.length mc11, .int .u64 ex.f10.f2, .slice mA13 ex.f10.f3.length mc13]) ex) := ⟨⟨_, rfl, k46_mk w ex ml5 mg5 ml6 mg6 ml7 mg7 ml8 mg8 ml9 mg9 ml11 mg11 ml13 mg13⟩⟩
          clear ml5 mg5 ml6 mg6 ml7 mg7 ml8 mg8 ml9 mg9 ml11 mg11 ml13 mg13 mhr
          cases me
          obtain ⟨oad, oA5, oc5, oA6, oc6, oA7, oc7, oA8, oc8, oA9, oc9, oA11, oc11, oA13, oc13, oe, o0, o1, o2, o3, o4, o5, o6, o7, o8, o9, o10, o11, o12, o13, ol5, og5, ol6, og6, ol7, og7, ol8, og8, ol9, og9, ol11, og11, ol13, og13⟩ := at_T46 HC.out ((i : Nat) : Int) (Int.natCast_nonneg _) (by omega)
          have ohr : rd_T46 l ((i : Nat) : Int) = l[i]'h1 := by unfold rd_T46; rw [Int.toNat_natCast, List.getD_eq_getElem?_getD, List.getElem?_eq_getElem h1]; rfl
          rw [ohr] at o0 o1 o2 o3 o4 o5 o6 o7 o8 o9 o10 o11 o12 o13 ol5 og5 ol6 og6 ol7 og7 ol8 og8 ol9 og9 ol11 og11 ol13 og13
          rw [Int.toNat_natCast] at o0 o1 o2 o3 o4 o5 o6 o7 o8 o9 o10 o11 o12 o13
          obtain ⟨ey, ohx⟩ : ∃ zz_, zz_ = l[i]'h1 := ⟨_, rfl⟩
          rw [← ohx] at o0 o1 o2 o3 o4 o5 o6 o7 o8 o9 o10 o11 o12 o13 ol5 og5 ol6 og6 ol7 og7 ol8 og8 ol9 og9 ol11 og11 ol13 og13
          have oC : Aside0 (SnapC w (.agg #[.int .i64 ey.f0, .int .i64 ey.f1, .int .i64 ey.f2, .int .i64 ey.f3, .int .u64 ey.f4, .slice oA5 ey.f5.length oc5, .slice oA6 ey.f6.length oc6, .slice oA7 ey.f7.length oc7, .slice oA8 ey.f8.length oc8, .slice oA9 ey.f9.length oc9, .string ey.f10.f0, .slice oA11 ey.f10.f1.length oc11, .int .u64 ey.f10.f2, .slice oA13 ey.f10.f3.length oc13]) ey) := ⟨⟨_, rfl, k46_mk w ey ol5 og5 ol6 og6 ol7 og7 ol8 og8 ol9 og9 ol11 og11 ol13 og13⟩⟩
          clear ol5 og5 ol6 og6 ol7 og7 ol8 og8 ol9 og9 ol11 og11 ol13 og13 ohr
          cases oe
          obtain ⟨s, hs, cs, hKs, hrow⟩ := HS.out
          have hse : s = ex := by rw [mhx]; rw [List.getElem?_eq_getElem hj] at hs; exact (Option.some.inj hs).symm
          rw [hse] at hKs
          clear hs hse s HS
          obtain ⟨S5, n5, S6, n6, S7, n7, S8, n8, S9, n9, S11, n11, S13, n13, rfl, _⟩ := k46_open hKs
          have SC : Aside0 (SnapC wr (.agg (#[.int .i64 ex.f0, .int .i64 ex.f1, .int .i64 ex.f2, .int .i64 ex.f3, .int .u64 ex.f4, .slice S5 ex.f5.length n5, .slice S6 ex.f6.length n6, .slice S7 ex.f7.length n7, .slice S8 ex.f8.length n8, .slice S9 ex.f9.length n9, .string ex.f10.f0, .slice S11 ex.f10.f1.length n11, .int .u64 ex.f10.f2, .slice S13 ex.f10.f3.length n13])) ex) := ⟨⟨_, rfl, hKs⟩⟩
          have HR := Aside0.mk hrow
          clear hKs hrow
          have HTX : Aside0 (tot ex ≤ 1000) := ⟨by rw [mhx]; exact HTA.out j hj⟩
          have HTY : Aside0 (tot ey ≤ 1000) := ⟨by rw [ohx]; exact HTA.out i h1⟩
          have HOY : Aside0 (l[i]? = some ey) := ⟨by rw [List.getElem?_eq_getElem h1, ohx]⟩
          have H1 := Aside0.mk h1
          have HJ := Aside0.mk hj
          have HIJ := Aside0.mk hij
          clear mhx ohx h1 hj hij hi hlen
          go_upto_region 16 with (fail)
          refine start_ (n := 17) (S := fun W => Below w.heap.size w W ∧ W.heap[g]? = some (.cells #[.int .i64 ex.f0, .int .i64 ex.f1, .int .i64 ex.f2, .int .i64 ex.f3, .int .u64 ex.f4, .slice S5 ex.f5.length n5, .slice S6 ex.f6.length n6, .slice S7 ex.f7.length n7, .slice S8 ex.f8.length n8, .slice S9 ex.f9.length n9, .string ex.f10.f0, .slice S11 ex.f10.f1.length n11, .int .u64 ex.f10.f2, .slice S13 ex.f10.f3.length n13] 46 (0, 0))) (ds := [15]) #[false, false, false, false, false, false, false, false, false, false, false, false, false, false, false, false, false] (by kernel_rfl) rfl rfl (⟨HB.out.trans ((below_drew1 (Below.refl wr.heap.size wr)).mono HB.out.size), blk_drew HR.out⟩) (fun hHeld => ?_)
          have HBd := Aside0.mk (below_drew1 (Below.refl wr.heap.size wr))
          refine pure_ (i := 0) (N := some 43) (v := ?_) (a' := ?_) #[true, false, false, false, false, false, false, false, false, false, false, false, false, false, false, false, false] rfl rfl (by kernel_rfl) (fun _ _ _ h => h) (Or.inl ⟨by rfl, ?_⟩) ?_ ?_
          rotate_left
          · intro w'
            go_simp
            with_reducible rfl
          rotate_left
          · simp only [Act.put, List.setIfInBounds_toArray, List.set_cons_zero, List.set_cons_succ, i64_w, i32_w]
            rfl
          refine pure_ (i := 1) (N := some 44) (v := ?_) (a' := ?_) #[true, true, false, false, false, false, false, false, false, false, false, false, false, false, false, false, false] rfl rfl (by kernel_rfl) (fun _ _ _ h => h) (Or.inl ⟨by rfl, ?_⟩) ?_ ?_
          rotate_left
          · intro w'
            go_simp
            with_reducible rfl
          rotate_left
          · simp only [Act.put, List.setIfInBounds_toArray, List.set_cons_zero, List.set_cons_succ, i64_w, i32_w]
            rfl
          refine pure_ (i := 2) (N := some 45) (v := ?_) (a' := ?_) #[true, true, true, false, false, false, false, false, false, false, false, false, false, false, false, false, false] rfl rfl (by kernel_rfl) (fun _ _ _ h => h) (Or.inl ⟨by rfl, ?_⟩) ?_ ?_
          rotate_left
          · intro w'
            go_simp
            with_reducible rfl
          rotate_left
          · simp only [Act.put, List.setIfInBounds_toArray, List.set_cons_zero, List.set_cons_succ, i64_w, i32_w]
            rfl
          refine pure_ (i := 3) (N := some 46) (v := ?_) (a' := ?_) #[true, true, true, true, false, false, false, false, false, false, false, false, false, false, false, false, false] rfl rfl (by kernel_rfl) (fun _ _ _ h => h) (Or.inl ⟨by rfl, ?_⟩) ?_ ?_
          rotate_left
          · intro w'
            go_simp
            with_reducible rfl
          rotate_left
          · simp only [Act.put, List.setIfInBounds_toArray, List.set_cons_zero, List.set_cons_succ, i64_w, i32_w]
            rfl
          refine take_ (i := 4) (N := some 47) (v := ?_) (a' := ?_) #[true, true, true, true, true, false, false, false, false, false, false, false, false, false, false, false, false] rfl rfl (by kernel_rfl) (fun _ _ _ h => h) (Or.inl ⟨by rfl, ?_⟩) hHeld ?_ ?_
          rotate_left
          · rintro w' ⟨s0, s1⟩
            have k0 := pw_cell_below s0 m0
            have k1 := pw_cell_below s0 m1
            have k2 := pw_cell_below s0 m2
            have k3 := pw_cell_below s0 m3
            have k4 := pw_cell_below s0 m4
            have k5 := pw_cell_below s0 m5
            have k6 := pw_cell_below s0 m6
            have k7 := pw_cell_below s0 m7
            have k8 := pw_cell_below s0 m8
            have k9 := pw_cell_below s0 m9
            have k10 := pw_cell_below s0 m10
            have k11 := pw_cell_below s0 m11
            have k12 := pw_cell_below s0 m12
            have k13 := pw_cell_below s0 m13
            go_simp
            with_reducible rfl
          rotate_left
          · simp only [Act.put, List.setIfInBounds_toArray, List.set_cons_zero, List.set_cons_succ, i64_w, i32_w]
            rfl
          refine pure_ (i := 5) (N := some 48) (v := ?_) (a' := ?_) #[true, true, true, true, true, true, false, false, false, false, false, false, false, false, false, false, false] rfl rfl (by kernel_rfl) (fun _ _ _ h => h) (Or.inl ⟨by rfl, ?_⟩) ?_ ?_
          rotate_left
          · intro w'
            go_simp
            with_reducible rfl
          rotate_left
          · simp only [Act.put, List.setIfInBounds_toArray, List.set_cons_zero, List.set_cons_succ, i64_w, i32_w]
            rfl
          refine pure_ (i := 6) (N := some 49) (v := ?_) (a' := ?_) #[true, true, true, true, true, true, true, false, false, false, false, false, false, false, false, false, false] rfl rfl (by kernel_rfl) (fun _ _ _ h => h) (Or.inl ⟨by rfl, ?_⟩) ?_ ?_
          rotate_left
          · intro w'
            go_simp
            with_reducible rfl
          rotate_left
          · simp only [Act.put, List.setIfInBounds_toArray, List.set_cons_zero, List.set_cons_succ, i64_w, i32_w]
            rfl
          refine pure_ (i := 7) (N := some 50) (v := ?_) (a' := ?_) #[true, true, true, true, true, true, true, true, false, false, false, false, false, false, false, false, false] rfl rfl (by kernel_rfl) (fun _ _ _ h => h) (Or.inl ⟨by rfl, ?_⟩) ?_ ?_
          rotate_left
          · intro w'
            go_simp
            with_reducible rfl
          rotate_left
          · simp only [Act.put, List.setIfInBounds_toArray, List.set_cons_zero, List.set_cons_succ, i64_w, i32_w]
            rfl
          refine take_ (i := 8) (N := some 51) (v := ?_) (a' := ?_) #[true, true, true, true, true, true, true, true, true, false, false, false, false, false, false, false, false] rfl rfl (by kernel_rfl) (fun _ _ _ h => h) (Or.inl ⟨by rfl, ?_⟩) hHeld ?_ ?_
          rotate_left
          · rintro w' ⟨s0, s1⟩
            have k0 := pw_cell_below s0 o0
            have k1 := pw_cell_below s0 o1
            have k2 := pw_cell_below s0 o2
            have k3 := pw_cell_below s0 o3
            have k4 := pw_cell_below s0 o4
            have k5 := pw_cell_below s0 o5
            have k6 := pw_cell_below s0 o6
            have k7 := pw_cell_below s0 o7
            have k8 := pw_cell_below s0 o8
            have k9 := pw_cell_below s0 o9
            have k10 := pw_cell_below s0 o10
            have k11 := pw_cell_below s0 o11
            have k12 := pw_cell_below s0 o12
            have k13 := pw_cell_below s0 o13
            go_simp
            with_reducible rfl
          rotate_left
          · simp only [Act.put, List.setIfInBounds_toArray, List.set_cons_zero, List.set_cons_succ, i64_w, i32_w]
            rfl
          refine take_ (i := 10) (N := some 53) (v := ?_) (a' := ?_) #[true, true, true, true, true, true, true, true, true, false, true, false, false, false, false, false, false] rfl rfl (by kernel_rfl) (fun _ _ _ h => h) (Or.inl ⟨by rfl, ?_⟩) hHeld ?_ ?_
          rotate_left
          · rintro w' ⟨s0, s1⟩
            have k0 : w'.cell? ⟨g, 0, none⟩ = some (.int .i64 ex.f0) := blk_cell s1 0
            have k1 : w'.cell? ⟨g, 1, none⟩ = some (.int .i64 ex.f1) := blk_cell s1 1
            have k2 : w'.cell? ⟨g, 2, none⟩ = some (.int .i64 ex.f2) := blk_cell s1 2
            have k3 : w'.cell? ⟨g, 3, none⟩ = some (.int .i64 ex.f3) := blk_cell s1 3
            have k4 : w'.cell? ⟨g, 4, none⟩ = some (.int .u64 ex.f4) := blk_cell s1 4
            have k5 : w'.cell? ⟨g, 5, none⟩ = some (.slice S5 ex.f5.length n5) := blk_cell s1 5
            have k6 : w'.cell? ⟨g, 6, none⟩ = some (.slice S6 ex.f6.length n6) := blk_cell s1 6
            have k7 : w'.cell? ⟨g, 7, none⟩ = some (.slice S7 ex.f7.length n7) := blk_cell s1 7
            have k8 : w'.cell? ⟨g, 8, none⟩ = some (.slice S8 ex.f8.length n8) := blk_cell s1 8
            have k9 : w'.cell? ⟨g, 9, none⟩ = some (.slice S9 ex.f9.length n9) := blk_cell s1 9
            have k10 : w'.cell? ⟨g, 10, none⟩ = some (.string ex.f10.f0) := blk_cell s1 10
            have k11 : w'.cell? ⟨g, 11, none⟩ = some (.slice S11 ex.f10.f1.length n11) := blk_cell s1 11
            have k12 : w'.cell? ⟨g, 12, none⟩ = some (.int .u64 ex.f10.f2) := blk_cell s1 12
            have k13 : w'.cell? ⟨g, 13, none⟩ = some (.slice S13 ex.f10.f3.length n13) := blk_cell s1 13
            go_simp
            with_reducible rfl
          rotate_left
          · simp only [Act.put, List.setIfInBounds_toArray, List.set_cons_zero, List.set_cons_succ, i64_w, i32_w]
            rfl
          refine one_ (i := 9) (N := some 52) #[true, true, true, true, true, true, true, true, true, true, true, false, false, false, false, false, false] rfl rfl (by kernel_rfl) (by decide) (fun K hK => ?_)
          refine goes_ Try.func17 (by kernel_rfl) rfl #[.agg #[.int .i64 ex.f0, .int .i64 ex.f1, .int .i64 ex.f2, .int .i64 ex.f3, .int .u64 ex.f4, .slice mA5 ex.f5.length mc5, .slice mA6 ex.f6.length mc6, .slice mA7 ex.f7.length mc7, .slice mA8 ex.f8.length mc8, .slice mA9 ex.f9.length mc9, .string ex.f10.f0, .slice mA11 ex.f10.f1.length mc11, .int .u64 ex.f10.f2, .slice mA13 ex.f10.f3.length mc13], .agg #[.int .i64 ey.f0, .int .i64 ey.f1, .int .i64 ey.f2, .int .i64 ey.f3, .int .u64 ey.f4, .slice oA5 ey.f5.length oc5, .slice oA6 ey.f6.length oc6, .slice oA7 ey.f7.length oc7, .slice oA8 ey.f8.length oc8, .slice oA9 ey.f9.length oc9, .string ey.f10.f0, .slice oA11 ey.f10.f1.length oc11, .int .u64 ey.f10.f2, .slice oA13 ey.f10.f3.length oc13]] (by rfl) rfl rfl (by (try simp only [List.map_toArray, List.map_cons, List.map_nil]); first | done | rfl) ?_
          refine (between_any _ _ _ ex ey (mC.out.below hHeld.1) (oC.out.below hHeld.1) HTX.out HTY.out).mono ?_
          rintro e z1 ⟨vd, rfl, hD, hb⟩
          have HD := Aside0.mk hD
          have Hb1 := Aside0.mk (HBd.out.trans (hb.mono HBd.out.size))
          clear hD
          refine ⟨_, rfl, ?_⟩
          refine hK.out _ _ ⟨hHeld.1.trans (hb.mono hHeld.1.size), blk_below hHeld.2 hb⟩ (fun hHeld => ?_)
          have HLT := Aside0.mk (blk_lt hHeld.2)
          clear hb
          clear hK K
          refine norm_ (a' := ?_) ?_ ?_
          rotate_left
          · show Act.put _ (some 52) _ = _
            simp only [Act.put, List.setIfInBounds_toArray, List.set_cons_zero, List.set_cons_succ, i64_w, i32_w]
            rfl
          refine one_ (i := 11) (N := some 54) #[true, true, true, true, true, true, true, true, true, true, true, true, false, false, false, false, false] rfl rfl (by kernel_rfl) (by decide) (fun K hK => ?_)
          refine goes_ Try.func18 (by kernel_rfl) rfl #[vd, .agg #[.int .i64 ex.f0, .int .i64 ex.f1, .int .i64 ex.f2, .int .i64 ex.f3, .int .u64 ex.f4, .slice S5 ex.f5.length n5, .slice S6 ex.f6.length n6, .slice S7 ex.f7.length n7, .slice S8 ex.f8.length n8, .slice S9 ex.f9.length n9, .string ex.f10.f0, .slice S11 ex.f10.f1.length n11, .int .u64 ex.f10.f2, .slice S13 ex.f10.f3.length n13]] (by rfl) rfl rfl (by (try simp only [List.map_toArray, List.map_cons, List.map_nil]); first | done | rfl) ?_
          refine (apply_any _ _ _ ex ey HD.out (SC.out.below Hb1.out) HTX.out HTY.out).mono ?_
          rintro e z2 ⟨v, rfl, hS2, hb⟩
          have HS2 := Aside0.mk hS2
          obtain ⟨es, rfl, hE⟩ := hS2 z2 (fun _ _ _ => rfl)
          obtain ⟨E5, e5, E6, e6, E7, e7, E8, e8, E9, e9, E11, e11, E13, e13, rfl, _⟩ := k46_open hE
          clear hE hS2
          refine ⟨_, rfl, ?_⟩
          refine hK.out _ _ ⟨hHeld.1.trans (hb.mono hHeld.1.size), blk_below hHeld.2 hb⟩ (fun hHeld => ?_)
          clear hb
          clear hK K
          refine norm_ (a' := ?_) ?_ ?_
          rotate_left
          · show Act.put _ (some 54) _ = _
            simp only [Act.put, List.setIfInBounds_toArray, List.set_cons_zero, List.set_cons_succ, i64_w, i32_w]
            rfl
          refine pure_ (i := 12) (N := some 42) (v := ?_) (a' := ?_) #[true, true, true, true, true, true, true, true, true, true, true, true, true, false, false, false, false] rfl rfl (by kernel_rfl) (fun _ _ _ h => h) (Or.inl ⟨by rfl, ?_⟩) ?_ ?_
          rotate_left
          · intro w'
            go_simp
            with_reducible rfl
          rotate_left
          · simp only [Act.put, List.setIfInBounds_toArray, List.set_cons_zero, List.set_cons_succ, i64_w, i32_w]
            rfl
          refine pure_ (i := 13) (N := some 55) (v := ?_) (a' := ?_) #[true, true, true, true, true, true, true, true, true, true, true, true, true, true, false, false, false] rfl rfl (by kernel_rfl) (fun _ _ _ h => h) (Or.inl ⟨by rfl, ?_⟩) ?_ ?_
          rotate_left
          · intro w'
            go_simp
            with_reducible rfl
          rotate_left
          · simp only [Act.put, List.setIfInBounds_toArray, List.set_cons_zero, List.set_cons_succ, i64_w, i32_w]
            rfl
          refine pure_ (i := 14) (N := some 56) (v := ?_) (a' := ?_) #[true, true, true, true, true, true, true, true, true, true, true, true, true, true, true, false, false] rfl rfl (by kernel_rfl) (fun _ _ _ h => h) (Or.inl ⟨by rfl, ?_⟩) ?_ ?_
          rotate_left
          · intro w'
            go_simp
            with_reducible rfl
          rotate_left
          · simp only [Act.put, List.setIfInBounds_toArray, List.set_cons_zero, List.set_cons_succ, i64_w, i32_w]
            rfl
          refine last_ (i := 15) (N := none) #[true, true, true, true, true, true, true, true, true, true, true, true, true, true, true, true, false] rfl rfl (by kernel_rfl) (by decide) (fun K hK => ?_)
          refine skip_ (w1 := z2.setRow g (#[.int .i64 ey.f0, .int .i64 ey.f1, .int .i64 ey.f2, .int .i64 ey.f3, .int .u64 ey.f4, .slice E5 ey.f5.length e5, .slice E6 ey.f6.length e6, .slice E7 ey.f7.length e7, .slice E8 ey.f8.length e8, .slice E9 ey.f9.length e9, .string ey.f10.f0, .slice E11 ey.f10.f1.length e11, .int .u64 ey.f10.f2, .slice E13 ey.f10.f3.length e13])) (by rfl) rfl (store_row rfl rfl rfl hHeld.2 (by kernel_rfl) rfl (by kernel_rfl)) ?_
          have HR2 := Aside0.mk (setRow_heap z2 g _ (#[.int .i64 ey.f0, .int .i64 ey.f1, .int .i64 ey.f2, .int .i64 ey.f3, .int .u64 ey.f4, .slice E5 ey.f5.length e5, .slice E6 ey.f6.length e6, .slice E7 ey.f7.length e7, .slice E8 ey.f8.length e8, .slice E9 ey.f9.length e9, .string ey.f10.f0, .slice E11 ey.f10.f1.length e11, .int .u64 ey.f10.f2, .slice E13 ey.f10.f3.length e13]) 46 (0, 0) hHeld.2)
          have HB2 := Aside0.mk (setRow_below (g := g) (cs := #[.int .i64 ey.f0, .int .i64 ey.f1, .int .i64 ey.f2, .int .i64 ey.f3, .int .u64 ey.f4, .slice E5 ey.f5.length e5, .slice E6 ey.f6.length e6, .slice E7 ey.f7.length e7, .slice E8 ey.f8.length e8, .slice E9 ey.f9.length e9, .string ey.f10.f0, .slice E11 ey.f10.f1.length e11, .int .u64 ey.f10.f2, .slice E13 ey.f10.f3.length e13]) hHeld.1 HG.out)
          have SC2 : Aside0 (SnapC (z2.setRow g (#[.int .i64 ey.f0, .int .i64 ey.f1, .int .i64 ey.f2, .int .i64 ey.f3, .int .u64 ey.f4, .slice E5 ey.f5.length e5, .slice E6 ey.f6.length e6, .slice E7 ey.f7.length e7, .slice E8 ey.f8.length e8, .slice E9 ey.f9.length e9, .string ey.f10.f0, .slice E11 ey.f10.f1.length e11, .int .u64 ey.f10.f2, .slice E13 ey.f10.f3.length e13])) (.agg (#[.int .i64 ey.f0, .int .i64 ey.f1, .int .i64 ey.f2, .int .i64 ey.f3, .int .u64 ey.f4, .slice E5 ey.f5.length e5, .slice E6 ey.f6.length e6, .slice E7 ey.f7.length e7, .slice E8 ey.f8.length e8, .slice E9 ey.f9.length e9, .string ey.f10.f0, .slice E11 ey.f10.f1.length e11, .int .u64 ey.f10.f2, .slice E13 ey.f10.f3.length e13])) ey) := ⟨HS2.out _ (fun k hk hlt => (setRow_far z2 (by have := HLT.out; omega)).symm)⟩
          refine hK.out _ _ ?_
          clear hK K hHeld HS2
          refine pure_ (i := 16) (N := some 6) (v := ?_) (a' := ?_) #[true, true, true, true, true, true, true, true, true, true, true, true, true, true, true, true, true] rfl rfl (by kernel_rfl) (fun _ _ _ h => h) (Or.inl ⟨by rfl, ?_⟩) ?_ ?_
          rotate_left
          · intro w'
            go_simp
            with_reducible rfl
          rotate_left
          · simp only [Act.put, List.setIfInBounds_toArray, List.set_cons_zero, List.set_cons_succ, i64_w, i32_w]
            rfl
          refine done_ (by kernel_rfl) ?_
          generalize z2.setRow g (#[.int .i64 ey.f0, .int .i64 ey.f1, .int .i64 ey.f2, .int .i64 ey.f3, .int .u64 ey.f4, .slice E5 ey.f5.length e5, .slice E6 ey.f6.length e6, .slice E7 ey.f7.length e7, .slice E8 ey.f8.length e8, .slice E9 ey.f9.length e9, .string ey.f10.f0, .slice E11 ey.f10.f1.length e11, .int .u64 ey.f10.f2, .slice E13 ey.f10.f3.length e13]) = y2 at HR2 HB2 SC2 ⊢
          clear HB HR SC HD Hb1 HBd HLT
          go_upto_region 17 with (fail)
          refine start_ (n := 10) (S := fun W => Below w.heap.size w W ∧ W.heap[g]? = some (.cells #[.int .i64 ey.f0, .int .i64 ey.f1, .int .i64 ey.f2, .int .i64 ey.f3, .int .u64 ey.f4, .slice E5 ey.f5.length e5, .slice E6 ey.f6.length e6, .slice E7 ey.f7.length e7, .slice E8 ey.f8.length e8, .slice E9 ey.f9.length e9, .string ey.f10.f0, .slice E11 ey.f10.f1.length e11, .int .u64 ey.f10.f2, .slice E13 ey.f10.f3.length e13] 46 (0, 0))) (ds := []) #[false, false, false, false, false, false, false, false, false, false] (by kernel_rfl) rfl rfl (⟨HB2.out.trans ((below_drew1 (Below.refl y2.heap.size y2)).mono HB2.out.size), blk_drew HR2.out⟩) (fun hHeld => ?_)
          have HBd := Aside0.mk (below_drew1 (Below.refl y2.heap.size y2))
          refine pure_ (i := 0) (N := some 57) (v := ?_) (a' := ?_) #[true, false, false, false, false, false, false, false, false, false] rfl rfl (by kernel_rfl) (fun _ _ _ h => h) (Or.inl ⟨by rfl, ?_⟩) ?_ ?_
          rotate_left
          · intro w'
            go_simp
            with_reducible rfl
          rotate_left
          · simp only [Act.put, List.setIfInBounds_toArray, List.set_cons_zero, List.set_cons_succ, i64_w, i32_w]
            rfl
          refine pure_ (i := 1) (N := some 58) (v := ?_) (a' := ?_) #[true, true, false, false, false, false, false, false, false, false] rfl rfl (by kernel_rfl) (fun _ _ _ h => h) (Or.inl ⟨by rfl, ?_⟩) ?_ ?_
          rotate_left
          · intro w'
            go_simp
            with_reducible rfl
          rotate_left
          · simp only [Act.put, List.setIfInBounds_toArray, List.set_cons_zero, List.set_cons_succ, i64_w, i32_w]
            rfl
          refine take_ (i := 2) (N := some 59) (v := ?_) (a' := ?_) #[true, true, true, false, false, false, false, false, false, false] rfl rfl (by kernel_rfl) (fun _ _ _ h => h) (Or.inl ⟨by rfl, ?_⟩) hHeld ?_ ?_
          rotate_left
          · rintro w' ⟨s0, s1⟩
            have k0 : w'.cell? ⟨g, 0, none⟩ = some (.int .i64 ey.f0) := blk_cell s1 0
            have k1 : w'.cell? ⟨g, 1, none⟩ = some (.int .i64 ey.f1) := blk_cell s1 1
            have k2 : w'.cell? ⟨g, 2, none⟩ = some (.int .i64 ey.f2) := blk_cell s1 2
            have k3 : w'.cell? ⟨g, 3, none⟩ = some (.int .i64 ey.f3) := blk_cell s1 3
            have k4 : w'.cell? ⟨g, 4, none⟩ = some (.int .u64 ey.f4) := blk_cell s1 4
            have k5 : w'.cell? ⟨g, 5, none⟩ = some (.slice E5 ey.f5.length e5) := blk_cell s1 5
            have k6 : w'.cell? ⟨g, 6, none⟩ = some (.slice E6 ey.f6.length e6) := blk_cell s1 6
            have k7 : w'.cell? ⟨g, 7, none⟩ = some (.slice E7 ey.f7.length e7) := blk_cell s1 7
            have k8 : w'.cell? ⟨g, 8, none⟩ = some (.slice E8 ey.f8.length e8) := blk_cell s1 8
            have k9 : w'.cell? ⟨g, 9, none⟩ = some (.slice E9 ey.f9.length e9) := blk_cell s1 9
            have k10 : w'.cell? ⟨g, 10, none⟩ = some (.string ey.f10.f0) := blk_cell s1 10
            have k11 : w'.cell? ⟨g, 11, none⟩ = some (.slice E11 ey.f10.f1.length e11) := blk_cell s1 11
            have k12 : w'.cell? ⟨g, 12, none⟩ = some (.int .u64 ey.f10.f2) := blk_cell s1 12
            have k13 : w'.cell? ⟨g, 13, none⟩ = some (.slice E13 ey.f10.f3.length e13) := blk_cell s1 13
            go_simp
            with_reducible rfl
          rotate_left
          · simp only [Act.put, List.setIfInBounds_toArray, List.set_cons_zero, List.set_cons_succ, i64_w, i32_w]
            rfl
          refine pure_ (i := 3) (N := some 60) (v := ?_) (a' := ?_) #[true, true, true, true, false, false, false, false, false, false] rfl rfl (by kernel_rfl) (fun _ _ _ h => h) (Or.inl ⟨by rfl, ?_⟩) ?_ ?_
          rotate_left
          · intro w'
            go_simp
            with_reducible rfl
          rotate_left
          · simp only [Act.put, List.setIfInBounds_toArray, List.set_cons_zero, List.set_cons_succ, i64_w, i32_w]
            rfl
          refine pure_ (i := 4) (N := some 61) (v := ?_) (a' := ?_) #[true, true, true, true, true, false, false, false, false, false] rfl rfl (by kernel_rfl) (fun _ _ _ h => h) (Or.inl ⟨by rfl, ?_⟩) ?_ ?_
          rotate_left
          · intro w'
            go_simp
            with_reducible rfl
          rotate_left
          · simp only [Act.put, List.setIfInBounds_toArray, List.set_cons_zero, List.set_cons_succ, i64_w, i32_w]
            rfl
          refine pure_ (i := 5) (N := some 62) (v := ?_) (a' := ?_) #[true, true, true, true, true, true, false, false, false, false] rfl rfl (by kernel_rfl) (fun _ _ _ h => h) (Or.inl ⟨by rfl, ?_⟩) ?_ ?_
          rotate_left
          · intro w'
            go_simp
            with_reducible rfl
          rotate_left
          · simp only [Act.put, List.setIfInBounds_toArray, List.set_cons_zero, List.set_cons_succ, i64_w, i32_w]
            rfl
          refine take_ (i := 6) (N := some 63) (v := ?_) (a' := ?_) #[true, true, true, true, true, true, true, false, false, false] rfl rfl (by kernel_rfl) (fun _ _ _ h => h) (Or.inl ⟨by rfl, ?_⟩) hHeld ?_ ?_
          rotate_left
          · rintro w' ⟨s0, s1⟩
            have k0 := pw_cell_below s0 o0
            have k1 := pw_cell_below s0 o1
            have k2 := pw_cell_below s0 o2
            have k3 := pw_cell_below s0 o3
            have k4 := pw_cell_below s0 o4
            have k5 := pw_cell_below s0 o5
            have k6 := pw_cell_below s0 o6
            have k7 := pw_cell_below s0 o7
            have k8 := pw_cell_below s0 o8
            have k9 := pw_cell_below s0 o9
            have k10 := pw_cell_below s0 o10
            have k11 := pw_cell_below s0 o11
            have k12 := pw_cell_below s0 o12
            have k13 := pw_cell_below s0 o13
            go_simp
            with_reducible rfl
          rotate_left
          · simp only [Act.put, List.setIfInBounds_toArray, List.set_cons_zero, List.set_cons_succ, i64_w, i32_w]
            rfl
          refine one_ (i := 7) (N := some 64) #[true, true, true, true, true, true, true, true, false, false] rfl rfl (by kernel_rfl) (by decide) (fun K hK => ?_)
          refine goes_ Try.func19 (by kernel_rfl) rfl #[.agg #[.int .i64 ey.f0, .int .i64 ey.f1, .int .i64 ey.f2, .int .i64 ey.f3, .int .u64 ey.f4, .slice E5 ey.f5.length e5, .slice E6 ey.f6.length e6, .slice E7 ey.f7.length e7, .slice E8 ey.f8.length e8, .slice E9 ey.f9.length e9, .string ey.f10.f0, .slice E11 ey.f10.f1.length e11, .int .u64 ey.f10.f2, .slice E13 ey.f10.f3.length e13], .agg #[.int .i64 ey.f0, .int .i64 ey.f1, .int .i64 ey.f2, .int .i64 ey.f3, .int .u64 ey.f4, .slice oA5 ey.f5.length oc5, .slice oA6 ey.f6.length oc6, .slice oA7 ey.f7.length oc7, .slice oA8 ey.f8.length oc8, .slice oA9 ey.f9.length oc9, .string ey.f10.f0, .slice oA11 ey.f10.f1.length oc11, .int .u64 ey.f10.f2, .slice oA13 ey.f10.f3.length oc13]] (by rfl) rfl rfl (by (try simp only [List.map_toArray, List.map_cons, List.map_nil]); first | done | rfl) ?_
          refine (same_any _ _ _ ey (SC2.out.below HBd.out) (oC.out.below hHeld.1) HTY.out).mono ?_
          rintro e z3 ⟨rfl, hb⟩
          have SC3 := Aside0.mk (SC2.out.below (HBd.out.trans (hb.mono HBd.out.size)))
          refine ⟨_, rfl, ?_⟩
          refine hK.out _ _ ⟨hHeld.1.trans (hb.mono hHeld.1.size), blk_below hHeld.2 hb⟩ (fun hHeld => ?_)
          have HSN : Aside0 (∃ s, l[i]? = some s ∧ SV z3 g s) := ⟨⟨ey, HOY.out, by
            obtain ⟨cs', e, hK'⟩ := SC3.out
            injection e with e
            exact ⟨cs', hK', by rw [← e]; exact hHeld.2⟩⟩⟩
          have HBN := Aside0.mk hHeld.1
          clear hb
          clear hK K
          refine norm_ (a' := ?_) ?_ ?_
          rotate_left
          · show Act.put _ (some 64) _ = _
            simp only [Act.put, List.setIfInBounds_toArray, List.set_cons_zero, List.set_cons_succ, i64_w, i32_w]
            rfl
          refine pure_ (i := 8) (N := some 65) (v := ?_) (a' := ?_) #[true, true, true, true, true, true, true, true, true, false] rfl rfl (by kernel_rfl) (fun _ _ _ h => h) (Or.inl ⟨by rfl, ?_⟩) ?_ ?_
          rotate_left
          · intro w'
            go_simp
            with_reducible rfl
          rotate_left
          · simp only [Act.put, List.setIfInBounds_toArray, List.set_cons_zero, List.set_cons_succ, i64_w, i32_w]
            rfl
          refine pure_ (i := 9) (N := some 6) (v := ?_) (a' := ?_) #[true, true, true, true, true, true, true, true, true, true] rfl rfl (by kernel_rfl) (fun _ _ _ h => h) (Or.inl ⟨by rfl, ?_⟩) ?_ ?_
          rotate_left
          · intro w'
            go_simp
            with_reducible rfl
          rotate_left
          · simp only [Act.put, List.setIfInBounds_toArray, List.set_cons_zero, List.set_cons_succ, i64_w, i32_w]
            rfl
          refine done_ (by kernel_rfl) ?_
          go_wp2
          go_roundw
          case rel => exact ⟨rfl, i + 1, i, by go_num, rfl, H1.out, HSN, HBN⟩
          case measure => have := H1.out; simp [intOf]; omega
        · have d1 : decide ((i : Int) < (l.length : Int)) = false := decide_eq_false (by omega)
          have n1 : (i < l.length) = False := eq_false (by omega)
          have n3 : (l.length ≤ i) = True := eq_true (by omega)
          have s2 : wrap64 ((l.length : Int) - 1) = (j : Int) := by unfold wrap64; omega
          have HJ := Aside0.mk hj
          have HLJ := Aside0.mk (show ((l.length : Int) - 1) = (j : Int) by omega)
          clear h1 hj hij hi hlen s1
          go_wp2
          go_loopw [6, 8] (fun v6 v8 wc => v6 = .bool true ∧ ∃ i : Nat, v8 = .int .i64 (i : Int) ∧ i < l.length ∧ Aside0 (∃ s, l[i]? = some s ∧ SV wc g s) ∧ Aside0 (Below w.heap.size w wc)) (fun v6 v8 _ => (intOf v8).toNat)
          case atStart => exact ⟨rfl, j, (by first | rfl | rw [HLJ.out] | go_num), HJ.out, HS, HB⟩
          case round =>
            clear HB HS d1 n1 n3 s2 q2 q3 hi9
            obtain ⟨rfl, i, rfl, hi, HS, HB⟩ := hrel
            have hlen := HLEN.out
            have q2 : (0 ≤ (i : Int)) = True := eq_true (Int.natCast_nonneg _)
            have n1 : (i < l.length) = True := eq_true hi
            have t1 : ((i : Int) < (l.length : Int)) = True := eq_true (by omega)
            have hi9 : i < 1000 := by omega
            by_cases h1 : 0 < i
            · have d1 : decide ((i : Int) > 0) = true := decide_eq_true (by omega)
              have n4 : (0 < i) = True := eq_true h1
              have t4 : ((0 : Int) < (i : Int)) = True := eq_true (by omega)
              obtain ⟨j, hij⟩ : ∃ j, i = j + 1 := ⟨i - 1, by omega⟩
              have q3 : (0 ≤ (j : Int)) = True := eq_true (Int.natCast_nonneg _)
              have s1 : wrap64 ((i : Int) - 1) = (j : Int) := by unfold wrap64; omega
              have hj : j < l.length := by omega
              have n2 : (j < l.length) = True := eq_true hj
              have t2 : ((j : Int) < (l.length : Int)) = True := eq_true (by omega)
              obtain ⟨mad, mA5, mc5, mA6, mc6, mA7, mc7, mA8, mc8, mA9, mc9, mA11, mc11, mA13, mc13, me, m0, m1, m2, m3, m4, m5, m6, m7, m8, m9, m10, m11, m12, m13, ml5, mg5, ml6, mg6, ml7, mg7, ml8, mg8, ml9, mg9, ml11, mg11, ml13, mg13⟩ := at_T46 HC.out ((i : Nat) : Int) (Int.natCast_nonneg _) (by omega)
              have mhr : rd_T46 l ((i : Nat) : Int) = l[i]'hi := by unfold rd_T46; rw [Int.toNat_natCast, List.getD_eq_getElem?_getD, List.getElem?_eq_getElem hi]; rfl
              rw [mhr] at m0 m1 m2 m3 m4 m5 m6 m7 m8 m9 m10 m11 m12 m13 ml5 mg5 ml6 mg6 ml7 mg7 ml8 mg8 ml9 mg9 ml11 mg11 ml13 mg13
              rw [Int.toNat_natCast] at m0 m1 m2 m3 m4 m5 m6 m7 m8 m9 m10 m11 m12 m13
              obtain ⟨ex, mhx⟩ : ∃ zz_, zz_ = l[i]'hi := ⟨_, rfl⟩
              rw [← mhx] at m0 m1 m2 m3 m4 m5 m6 m7 m8 m9 m10 m11 m12 m13 ml5 mg5 ml6 mg6 ml7 mg7 ml8 mg8 ml9 mg9 ml11 mg11 ml13 mg13
              have mC : Aside0 (SnapC w (.agg #[.int .i64 ex.f0, .int .i64 ex.f1, .int .i64 ex.f2, .int .i64 ex.f3, .int .u64 ex.f4, .slice mA5 ex.f5.length mc5, .slice mA6 ex.f6.length mc6, .slice mA7 ex.f7.length mc7, .slice mA8 ex.f8.length mc8, .slice mA9 ex.f9.length mc9, .string ex.f10.f0, .slice mA11 ex.f10.f1.length mc11, .int .u64 ex.f10.f2, .slice mA13 ex.f10.f3.length mc13]) ex) := ⟨⟨_, rfl, k46_mk w ex ml5 mg5 ml6 mg6 ml7 mg7 ml8 mg8 ml9 mg9 ml11 mg11 ml13 mg13⟩⟩
              clear ml5 mg5 ml6 mg6 ml7 mg7 ml8 mg8 ml9 mg9 ml11 mg11 ml13 mg13 mhr
              cases me
              obtain ⟨oad, oA5, oc5, oA6, oc6, oA7, oc7, oA8, oc8, oA9, oc9, oA11, oc11, oA13, oc13, oe, o0, o1, o2, o3, o4, o5, o6, o7, o8, o9, o10, o11, o12, o13, ol5, og5, ol6, og6, ol7, og7, ol8, og8, ol9, og9, ol11, og11, ol13, og13⟩ := at_T46 HC.out ((j : Nat) : Int) (Int.natCast_nonneg _) (by omega)
              have ohr : rd_T46 l ((j : Nat) : Int) = l[j]'hj := by unfold rd_T46; rw [Int.toNat_natCast, List.getD_eq_getElem?_getD, List.getElem?_eq_getElem hj]; rfl
              rw [ohr] at o0 o1 o2 o3 o4 o5 o6 o7 o8 o9 o10 o11 o12 o13 ol5 og5 ol6 og6 ol7 og7 ol8 og8 ol9 og9 ol11 og11 ol13 og13
              rw [Int.toNat_natCast] at o0 o1 o2 o3 o4 o5 o6 o7 o8 o9 o10 o11 o12 o13
              obtain ⟨ey, ohx⟩ : ∃ zz_, zz_ = l[j]'hj := ⟨_, rfl⟩
              rw [← ohx] at o0 o1 o2 o3 o4 o5 o6 o7 o8 o9 o10 o11 o12 o13 ol5 og5 ol6 og6 ol7 og7 ol8 og8 ol9 og9 ol11 og11 ol13 og13
              have oC : Aside0 (SnapC w (.agg #[.int .i64 ey.f0, .int .i64 ey.f1, .int .i64 ey.f2, .int .i64 ey.f3, .int .u64 ey.f4, .slice oA5 ey.f5.length oc5, .slice oA6 ey.f6.length oc6, .slice oA7 ey.f7.length oc7, .slice oA8 ey.f8.length oc8, .slice oA9 ey.f9.length oc9, .string ey.f10.f0, .slice oA11 ey.f10.f1.length oc11, .int .u64 ey.f10.f2, .slice oA13 ey.f10.f3.length oc13]) ey) := ⟨⟨_, rfl, k46_mk w ey ol5 og5 ol6 og6 ol7 og7 ol8 og8 ol9 og9 ol11 og11 ol13 og13⟩⟩
              clear ol5 og5 ol6 og6 ol7 og7 ol8 og8 ol9 og9 ol11 og11 ol13 og13 ohr
              cases oe
              obtain ⟨s, hs, cs, hKs, hrow⟩ := HS.out
              have hse : s = ex := by rw [mhx]; rw [List.getElem?_eq_getElem hi] at hs; exact (Option.some.inj hs).symm
              rw [hse] at hKs
              clear hs hse s HS
              obtain ⟨S5, n5, S6, n6, S7, n7, S8, n8, S9, n9, S11, n11, S13, n13, rfl, _⟩ := k46_open hKs
              have SC : Aside0 (SnapC wr (.agg (#[.int .i64 ex.f0, .int .i64 ex.f1, .int .i64 ex.f2, .int .i64 ex.f3, .int .u64 ex.f4, .slice S5 ex.f5.length n5, .slice S6 ex.f6.length n6, .slice S7 ex.f7.length n7, .slice S8 ex.f8.length n8, .slice S9 ex.f9.length n9, .string ex.f10.f0, .slice S11 ex.f10.f1.length n11, .int .u64 ex.f10.f2, .slice S13 ex.f10.f3.length n13])) ex) := ⟨⟨_, rfl, hKs⟩⟩
              have HR := Aside0.mk hrow
              clear hKs hrow
              have HTX : Aside0 (tot ex ≤ 1000) := ⟨by rw [mhx]; exact HTA.out i hi⟩
              have HTY : Aside0 (tot ey ≤ 1000) := ⟨by rw [ohx]; exact HTA.out j hj⟩
              have HOY : Aside0 (l[j]? = some ey) := ⟨by rw [List.getElem?_eq_getElem hj, ohx]⟩
              have HJ := Aside0.mk hj
              have HIJ := Aside0.mk hij
              clear mhx ohx h1 hj hij hi hlen
              go_upto_region 21 with (fail)
              refine start_ (n := 17) (S := fun W => Below w.heap.size w W ∧ W.heap[g]? = some (.cells #[.int .i64 ex.f0, .int .i64 ex.f1, .int .i64 ex.f2, .int .i64 ex.f3, .int .u64 ex.f4, .slice S5 ex.f5.length n5, .slice S6 ex.f6.length n6, .slice S7 ex.f7.length n7, .slice S8 ex.f8.length n8, .slice S9 ex.f9.length n9, .string ex.f10.f0, .slice S11 ex.f10.f1.length n11, .int .u64 ex.f10.f2, .slice S13 ex.f10.f3.length n13] 46 (0, 0))) (ds := [15]) #[false, false, false, false, false, false, false, false, false, false, false, false, false, false, false, false, false] (by kernel_rfl) rfl rfl (⟨HB.out.trans ((below_drew1 (Below.refl wr.heap.size wr)).mono HB.out.size), blk_drew HR.out⟩) (fun hHeld => ?_)
              have HBd := Aside0.mk (below_drew1 (Below.refl wr.heap.size wr))
              refine pure_ (i := 0) (N := some 77) (v := ?_) (a' := ?_) #[true, false, false, false, false, false, false, false, false, false, false, false, false, false, false, false, false] rfl rfl (by kernel_rfl) (fun _ _ _ h => h) (Or.inl ⟨by rfl, ?_⟩) ?_ ?_
              rotate_left
              · intro w'
                go_simp
                with_reducible rfl
              rotate_left
              · simp only [Act.put, List.setIfInBounds_toArray, List.set_cons_zero, List.set_cons_succ, i64_w, i32_w]
                rfl
              refine pure_ (i := 1) (N := some 78) (v := ?_) (a' := ?_) #[true, true, false, false, false, false, false, false, false, false, false, false, false, false, false, false, false] rfl rfl (by kernel_rfl) (fun _ _ _ h => h) (Or.inl ⟨by rfl, ?_⟩) ?_ ?_
              rotate_left
              · intro w'
                go_simp
                with_reducible rfl
              rotate_left
              · simp only [Act.put, List.setIfInBounds_toArray, List.set_cons_zero, List.set_cons_succ, i64_w, i32_w]
                rfl
              refine pure_ (i := 2) (N := some 79) (v := ?_) (a' := ?_) #[true, true, true, false, false, false, false, false, false, false, false, false, false, false, false, false, false] rfl rfl (by kernel_rfl) (fun _ _ _ h => h) (Or.inl ⟨by rfl, ?_⟩) ?_ ?_
              rotate_left
              · intro w'
                go_simp
                with_reducible rfl
              rotate_left
              · simp only [Act.put, List.setIfInBounds_toArray, List.set_cons_zero, List.set_cons_succ, i64_w, i32_w]
                rfl
              refine take_ (i := 3) (N := some 80) (v := ?_) (a' := ?_) #[true, true, true, true, false, false, false, false, false, false, false, false, false, false, false, false, false] rfl rfl (by kernel_rfl) (fun _ _ _ h => h) (Or.inl ⟨by rfl, ?_⟩) hHeld ?_ ?_
              rotate_left
              · rintro w' ⟨s0, s1⟩
                have k0 := pw_cell_below s0 m0
                have k1 := pw_cell_below s0 m1
                have k2 := pw_cell_below s0 m2
                have k3 := pw_cell_below s0 m3
                have k4 := pw_cell_below s0 m4
                have k5 := pw_cell_below s0 m5
                have k6 := pw_cell_below s0 m6
                have k7 := pw_cell_below s0 m7
                have k8 := pw_cell_below s0 m8
                have k9 := pw_cell_below s0 m9
                have k10 := pw_cell_below s0 m10
                have k11 := pw_cell_below s0 m11
                have k12 := pw_cell_below s0 m12
                have k13 := pw_cell_below s0 m13
                go_simp
                with_reducible rfl
              rotate_left
              · simp only [Act.put, List.setIfInBounds_toArray, List.set_cons_zero, List.set_cons_succ, i64_w, i32_w]
                rfl
              refine pure_ (i := 4) (N := some 81) (v := ?_) (a' := ?_) #[true, true, true, true, true, false, false, false, false, false, false, false, false, false, false, false, false] rfl rfl (by kernel_rfl) (fun _ _ _ h => h) (Or.inl ⟨by rfl, ?_⟩) ?_ ?_
              rotate_left
              · intro w'
                go_simp
                with_reducible rfl
              rotate_left
              · simp only [Act.put, List.setIfInBounds_toArray, List.set_cons_zero, List.set_cons_succ, i64_w, i32_w]
                rfl
              refine pure_ (i := 5) (N := some 82) (v := ?_) (a' := ?_) #[true, true, true, true, true, true, false, false, false, false, false, false, false, false, false, false, false] rfl rfl (by kernel_rfl) (fun _ _ _ h => h) (Or.inl ⟨by rfl, ?_⟩) ?_ ?_
              rotate_left
              · intro w'
                go_simp
                with_reducible rfl
              rotate_left
              · simp only [Act.put, List.setIfInBounds_toArray, List.set_cons_zero, List.set_cons_succ, i64_w, i32_w]
                rfl
              refine pure_ (i := 6) (N := some 83) (v := ?_) (a' := ?_) #[true, true, true, true, true, true, true, false, false, false, false, false, false, false, false, false, false] rfl rfl (by kernel_rfl) (fun _ _ _ h => h) (Or.inl ⟨by rfl, ?_⟩) ?_ ?_
              rotate_left
              · intro w'
                go_simp
                with_reducible rfl
              rotate_left
              · simp only [Act.put, List.setIfInBounds_toArray, List.set_cons_zero, List.set_cons_succ, i64_w, i32_w]
                rfl
              refine pure_ (i := 7) (N := some 84) (v := ?_) (a' := ?_) #[true, true, true, true, true, true, true, true, false, false, false, false, false, false, false, false, false] rfl rfl (by kernel_rfl) (fun _ _ _ h => h) (Or.inl ⟨by rfl, ?_⟩) ?_ ?_
              rotate_left
              · intro w'
                go_simp
                with_reducible rfl
              rotate_left
              · simp only [Act.put, List.setIfInBounds_toArray, List.set_cons_zero, List.set_cons_succ, i64_w, i32_w]
                rfl
              refine take_ (i := 8) (N := some 85) (v := ?_) (a' := ?_) #[true, true, true, true, true, true, true, true, true, false, false, false, false, false, false, false, false] rfl rfl (by kernel_rfl) (fun _ _ _ h => h) (Or.inl ⟨by rfl, ?_⟩) hHeld ?_ ?_
              rotate_left
              · rintro w' ⟨s0, s1⟩
                have k0 := pw_cell_below s0 o0
                have k1 := pw_cell_below s0 o1
                have k2 := pw_cell_below s0 o2
                have k3 := pw_cell_below s0 o3
                have k4 := pw_cell_below s0 o4
                have k5 := pw_cell_below s0 o5
                have k6 := pw_cell_below s0 o6
                have k7 := pw_cell_below s0 o7
                have k8 := pw_cell_below s0 o8
                have k9 := pw_cell_below s0 o9
                have k10 := pw_cell_below s0 o10
                have k11 := pw_cell_below s0 o11
                have k12 := pw_cell_below s0 o12
                have k13 := pw_cell_below s0 o13
                go_simp
                with_reducible rfl
              rotate_left
              · simp only [Act.put, List.setIfInBounds_toArray, List.set_cons_zero, List.set_cons_succ, i64_w, i32_w]
                rfl
              refine take_ (i := 10) (N := some 87) (v := ?_) (a' := ?_) #[true, true, true, true, true, true, true, true, true, false, true, false, false, false, false, false, false] rfl rfl (by kernel_rfl) (fun _ _ _ h => h) (Or.inl ⟨by rfl, ?_⟩) hHeld ?_ ?_
              rotate_left
              · rintro w' ⟨s0, s1⟩
                have k0 : w'.cell? ⟨g, 0, none⟩ = some (.int .i64 ex.f0) := blk_cell s1 0
                have k1 : w'.cell? ⟨g, 1, none⟩ = some (.int .i64 ex.f1) := blk_cell s1 1
                have k2 : w'.cell? ⟨g, 2, none⟩ = some (.int .i64 ex.f2) := blk_cell s1 2
                have k3 : w'.cell? ⟨g, 3, none⟩ = some (.int .i64 ex.f3) := blk_cell s1 3
                have k4 : w'.cell? ⟨g, 4, none⟩ = some (.int .u64 ex.f4) := blk_cell s1 4
                have k5 : w'.cell? ⟨g, 5, none⟩ = some (.slice S5 ex.f5.length n5) := blk_cell s1 5
                have k6 : w'.cell? ⟨g, 6, none⟩ = some (.slice S6 ex.f6.length n6) := blk_cell s1 6
                have k7 : w'.cell? ⟨g, 7, none⟩ = some (.slice S7 ex.f7.length n7) := blk_cell s1 7
                have k8 : w'.cell? ⟨g, 8, none⟩ = some (.slice S8 ex.f8.length n8) := blk_cell s1 8
                have k9 : w'.cell? ⟨g, 9, none⟩ = some (.slice S9 ex.f9.length n9) := blk_cell s1 9
                have k10 : w'.cell? ⟨g, 10, none⟩ = some (.string ex.f10.f0) := blk_cell s1 10
                have k11 : w'.cell? ⟨g, 11, none⟩ = some (.slice S11 ex.f10.f1.length n11) := blk_cell s1 11
                have k12 : w'.cell? ⟨g, 12, none⟩ = some (.int .u64 ex.f10.f2) := blk_cell s1 12
                have k13 : w'.cell? ⟨g, 13, none⟩ = some (.slice S13 ex.f10.f3.length n13) := blk_cell s1 13
                go_simp
                with_reducible rfl
              rotate_left
              · simp only [Act.put, List.setIfInBounds_toArray, List.set_cons_zero, List.set_cons_succ, i64_w, i32_w]
                rfl
              refine one_ (i := 9) (N := some 86) #[true, true, true, true, true, true, true, true, true, true, true, false, false, false, false, false, false] rfl rfl (by kernel_rfl) (by decide) (fun K hK => ?_)
              refine goes_ Try.func17 (by kernel_rfl) rfl #[.agg #[.int .i64 ex.f0, .int .i64 ex.f1, .int .i64 ex.f2, .int .i64 ex.f3, .int .u64 ex.f4, .slice mA5 ex.f5.length mc5, .slice mA6 ex.f6.length mc6, .slice mA7 ex.f7.length mc7, .slice mA8 ex.f8.length mc8, .slice mA9 ex.f9.length mc9, .string ex.f10.f0, .slice mA11 ex.f10.f1.length mc11, .int .u64 ex.f10.f2, .slice mA13 ex.f10.f3.length mc13], .agg #[.int .i64 ey.f0, .int .i64 ey.f1, .int .i64 ey.f2, .int .i64 ey.f3, .int .u64 ey.f4, .slice oA5 ey.f5.length oc5, .slice oA6 ey.f6.length oc6, .slice oA7 ey.f7.length oc7, .slice oA8 ey.f8.length oc8, .slice oA9 ey.f9.length oc9, .string ey.f10.f0, .slice oA11 ey.f10.f1.length oc11, .int .u64 ey.f10.f2, .slice oA13 ey.f10.f3.length oc13]] (by rfl) rfl rfl (by (try simp only [List.map_toArray, List.map_cons, List.map_nil]); first | done | rfl) ?_
              refine (between_any _ _ _ ex ey (mC.out.below hHeld.1) (oC.out.below hHeld.1) HTX.out HTY.out).mono ?_
              rintro e z1 ⟨vd, rfl, hD, hb⟩
              have HD := Aside0.mk hD
              have Hb1 := Aside0.mk (HBd.out.trans (hb.mono HBd.out.size))
              clear hD
              refine ⟨_, rfl, ?_⟩
              refine hK.out _ _ ⟨hHeld.1.trans (hb.mono hHeld.1.size), blk_below hHeld.2 hb⟩ (fun hHeld => ?_)
              have HLT := Aside0.mk (blk_lt hHeld.2)
              clear hb
              clear hK K
              refine norm_ (a' := ?_) ?_ ?_
              rotate_left
              · show Act.put _ (some 86) _ = _
                simp only [Act.put, List.setIfInBounds_toArray, List.set_cons_zero, List.set_cons_succ, i64_w, i32_w]
                rfl
              refine one_ (i := 11) (N := some 88) #[true, true, true, true, true, true, true, true, true, true, true, true, false, false, false, false, false] rfl rfl (by kernel_rfl) (by decide) (fun K hK => ?_)
              refine goes_ Try.func18 (by kernel_rfl) rfl #[vd, .agg #[.int .i64 ex.f0, .int .i64 ex.f1, .int .i64 ex.f2, .int .i64 ex.f3, .int .u64 ex.f4, .slice S5 ex.f5.length n5, .slice S6 ex.f6.length n6, .slice S7 ex.f7.length n7, .slice S8 ex.f8.length n8, .slice S9 ex.f9.length n9, .string ex.f10.f0, .slice S11 ex.f10.f1.length n11, .int .u64 ex.f10.f2, .slice S13 ex.f10.f3.length n13]] (by rfl) rfl rfl (by (try simp only [List.map_toArray, List.map_cons, List.map_nil]); first | done | rfl) ?_
              refine (apply_any _ _ _ ex ey HD.out (SC.out.below Hb1.out) HTX.out HTY.out).mono ?_
              rintro e z2 ⟨v, rfl, hS2, hb⟩
              have HS2 := Aside0.mk hS2
              obtain ⟨es, rfl, hE⟩ := hS2 z2 (fun _ _ _ => rfl)
              obtain ⟨E5, e5, E6, e6, E7, e7, E8, e8, E9, e9, E11, e11, E13, e13, rfl, _⟩ := k46_open hE
              clear hE hS2
              refine ⟨_, rfl, ?_⟩
              refine hK.out _ _ ⟨hHeld.1.trans (hb.mono hHeld.1.size), blk_below hHeld.2 hb⟩ (fun hHeld => ?_)
              clear hb
              clear hK K
              refine norm_ (a' := ?_) ?_ ?_
              rotate_left
              · show Act.put _ (some 88) _ = _
                simp only [Act.put, List.setIfInBounds_toArray, List.set_cons_zero, List.set_cons_succ, i64_w, i32_w]
                rfl
              refine pure_ (i := 12) (N := some 76) (v := ?_) (a' := ?_) #[true, true, true, true, true, true, true, true, true, true, true, true, true, false, false, false, false] rfl rfl (by kernel_rfl) (fun _ _ _ h => h) (Or.inl ⟨by rfl, ?_⟩) ?_ ?_
              rotate_left
              · intro w'
                go_simp
                with_reducible rfl
              rotate_left
              · simp only [Act.put, List.setIfInBounds_toArray, List.set_cons_zero, List.set_cons_succ, i64_w, i32_w]
                rfl
              refine pure_ (i := 13) (N := some 89) (v := ?_) (a' := ?_) #[true, true, true, true, true, true, true, true, true, true, true, true, true, true, false, false, false] rfl rfl (by kernel_rfl) (fun _ _ _ h => h) (Or.inl ⟨by rfl, ?_⟩) ?_ ?_
              rotate_left
              · intro w'
                go_simp
                with_reducible rfl
              rotate_left
              · simp only [Act.put, List.setIfInBounds_toArray, List.set_cons_zero, List.set_cons_succ, i64_w, i32_w]
                rfl
              refine pure_ (i := 14) (N := some 90) (v := ?_) (a' := ?_) #[true, true, true, true, true, true, true, true, true, true, true, true, true, true, true, false, false] rfl rfl (by kernel_rfl) (fun _ _ _ h => h) (Or.inl ⟨by rfl, ?_⟩) ?_ ?_
              rotate_left
              · intro w'
                go_simp
                with_reducible rfl
              rotate_left
              · simp only [Act.put, List.setIfInBounds_toArray, List.set_cons_zero, List.set_cons_succ, i64_w, i32_w]
                rfl
              refine last_ (i := 15) (N := none) #[true, true, true, true, true, true, true, true, true, true, true, true, true, true, true, true, false] rfl rfl (by kernel_rfl) (by decide) (fun K hK => ?_)
              refine skip_ (w1 := z2.setRow g (#[.int .i64 ey.f0, .int .i64 ey.f1, .int .i64 ey.f2, .int .i64 ey.f3, .int .u64 ey.f4, .slice E5 ey.f5.length e5, .slice E6 ey.f6.length e6, .slice E7 ey.f7.length e7, .slice E8 ey.f8.length e8, .slice E9 ey.f9.length e9, .string ey.f10.f0, .slice E11 ey.f10.f1.length e11, .int .u64 ey.f10.f2, .slice E13 ey.f10.f3.length e13])) (by rfl) rfl (store_row rfl rfl rfl hHeld.2 (by kernel_rfl) rfl (by kernel_rfl)) ?_
              have HR2 := Aside0.mk (setRow_heap z2 g _ (#[.int .i64 ey.f0, .int .i64 ey.f1, .int .i64 ey.f2, .int .i64 ey.f3, .int .u64 ey.f4, .slice E5 ey.f5.length e5, .slice E6 ey.f6.length e6, .slice E7 ey.f7.length e7, .slice E8 ey.f8.length e8, .slice E9 ey.f9.length e9, .string ey.f10.f0, .slice E11 ey.f10.f1.length e11, .int .u64 ey.f10.f2, .slice E13 ey.f10.f3.length e13]) 46 (0, 0) hHeld.2)
              have HB2 := Aside0.mk (setRow_below (g := g) (cs := #[.int .i64 ey.f0, .int .i64 ey.f1, .int .i64 ey.f2, .int .i64 ey.f3, .int .u64 ey.f4, .slice E5 ey.f5.length e5, .slice E6 ey.f6.length e6, .slice E7 ey.f7.length e7, .slice E8 ey.f8.length e8, .slice E9 ey.f9.length e9, .string ey.f10.f0, .slice E11 ey.f10.f1.length e11, .int .u64 ey.f10.f2, .slice E13 ey.f10.f3.length e13]) hHeld.1 HG.out)
              have SC2 : Aside0 (SnapC (z2.setRow g (#[.int .i64 ey.f0, .int .i64 ey.f1, .int .i64 ey.f2, .int .i64 ey.f3, .int .u64 ey.f4, .slice E5 ey.f5.length e5, .slice E6 ey.f6.length e6, .slice E7 ey.f7.length e7, .slice E8 ey.f8.length e8, .slice E9 ey.f9.length e9, .string ey.f10.f0, .slice E11 ey.f10.f1.length e11, .int .u64 ey.f10.f2, .slice E13 ey.f10.f3.length e13])) (.agg (#[.int .i64 ey.f0, .int .i64 ey.f1, .int .i64 ey.f2, .int .i64 ey.f3, .int .u64 ey.f4, .slice E5 ey.f5.length e5, .slice E6 ey.f6.length e6, .slice E7 ey.f7.length e7, .slice E8 ey.f8.length e8, .slice E9 ey.f9.length e9, .string ey.f10.f0, .slice E11 ey.f10.f1.length e11, .int .u64 ey.f10.f2, .slice E13 ey.f10.f3.length e13])) ey) := ⟨HS2.out _ (fun k hk hlt => (setRow_far z2 (by have := HLT.out; omega)).symm)⟩
              refine hK.out _ _ ?_
              clear hK K hHeld HS2
              refine pure_ (i := 16) (N := some 6) (v := ?_) (a' := ?_) #[true, true, true, true, true, true, true, true, true, true, true, true, true, true, true, true, true] rfl rfl (by kernel_rfl) (fun _ _ _ h => h) (Or.inl ⟨by rfl, ?_⟩) ?_ ?_
              rotate_left
              · intro w'
                go_simp
                with_reducible rfl
              rotate_left
              · simp only [Act.put, List.setIfInBounds_toArray, List.set_cons_zero, List.set_cons_succ, i64_w, i32_w]
                rfl
              refine done_ (by kernel_rfl) ?_
              generalize z2.setRow g (#[.int .i64 ey.f0, .int .i64 ey.f1, .int .i64 ey.f2, .int .i64 ey.f3, .int .u64 ey.f4, .slice E5 ey.f5.length e5, .slice E6 ey.f6.length e6, .slice E7 ey.f7.length e7, .slice E8 ey.f8.length e8, .slice E9 ey.f9.length e9, .string ey.f10.f0, .slice E11 ey.f10.f1.length e11, .int .u64 ey.f10.f2, .slice E13 ey.f10.f3.length e13]) = y2 at HR2 HB2 SC2 ⊢
              clear HB HR SC HD Hb1 HBd HLT
              have HSN : Aside0 (∃ s, l[j]? = some s ∧ SV y2 g s) := ⟨⟨ey, HOY.out, by
                obtain ⟨cs', e, hK'⟩ := SC2.out
                injection e with e
                exact ⟨cs', hK', by rw [← e]; exact HR2.out⟩⟩⟩
              have HJI : Aside0 (j < i) := ⟨Nat.lt_of_lt_of_eq (Nat.lt_succ_self j) HIJ.out.symm⟩
              have HIJ1 : Aside0 (((i : Int) - 1) = (j : Int)) := ⟨by have := HIJ.out; omega⟩
              go_wp2
              go_roundw
              case rel => exact ⟨rfl, j, (by first | rfl | rw [HIJ1.out] | go_num), HJ.out, HSN, HB2⟩
              case measure => have hji := HJI.out; first | (simp [intOf]; omega) | (simp [intOf]; exact hji)
            · have d1 : decide ((i : Int) > 0) = false := decide_eq_false (by omega)
              have n4 : (0 < i) = False := eq_false h1
              have hi0 : i = 0 := by omega
              have t5 : (0 < l.length) = True := eq_true (by omega)
              have t6 : ((0 : Int) < (l.length : Int)) = True := eq_true (by omega)
              obtain ⟨mad, mA5, mc5, mA6, mc6, mA7, mc7, mA8, mc8, mA9, mc9, mA11, mc11, mA13, mc13, me, m0, m1, m2, m3, m4, m5, m6, m7, m8, m9, m10, m11, m12, m13, ml5, mg5, ml6, mg6, ml7, mg7, ml8, mg8, ml9, mg9, ml11, mg11, ml13, mg13⟩ := at_T46 HC.out ((i : Nat) : Int) (Int.natCast_nonneg _) (by omega)
              have mhr : rd_T46 l ((i : Nat) : Int) = l[i]'hi := by unfold rd_T46; rw [Int.toNat_natCast, List.getD_eq_getElem?_getD, List.getElem?_eq_getElem hi]; rfl
              rw [mhr] at m0 m1 m2 m3 m4 m5 m6 m7 m8 m9 m10 m11 m12 m13 ml5 mg5 ml6 mg6 ml7 mg7 ml8 mg8 ml9 mg9 ml11 mg11 ml13 mg13
              rw [Int.toNat_natCast] at m0 m1 m2 m3 m4 m5 m6 m7 m8 m9 m10 m11 m12 m13
              obtain ⟨ex, mhx⟩ : ∃ zz_, zz_ = l[i]'hi := ⟨_, rfl⟩
              rw [← mhx] at m0 m1 m2 m3 m4 m5 m6 m7 m8 m9 m10 m11 m12 m13 ml5 mg5 ml6 mg6 ml7 mg7 ml8 mg8 ml9 mg9 ml11 mg11 ml13 mg13
              have mC : Aside0 (SnapC w (.agg #[.int .i64 ex.f0, .int .i64 ex.f1, .int .i64 ex.f2, .int .i64 ex.f3, .int .u64 ex.f4, .slice mA5 ex.f5.length mc5, .slice mA6 ex.f6.length mc6, .slice mA7 ex.f7.length mc7, .slice mA8 ex.f8.length mc8, .slice mA9 ex.f9.length mc9, .string ex.f10.f0, .slice mA11 ex.f10.f1.length mc11, .int .u64 ex.f10.f2, .slice mA13 ex.f10.f3.length mc13]) ex) := ⟨⟨_, rfl, k46_mk w ex ml5 mg5 ml6 mg6 ml7 mg7 ml8 mg8 ml9 mg9 ml11 mg11 ml13 mg13⟩⟩
              clear ml5 mg5 ml6 mg6 ml7 mg7 ml8 mg8 ml9 mg9 ml11 mg11 ml13 mg13 mhr
              cases me
              obtain ⟨s, hs, cs, hKs, hrow⟩ := HS.out
              have hse : s = ex := by rw [mhx]; rw [List.getElem?_eq_getElem hi] at hs; exact (Option.some.inj hs).symm
              rw [hse] at hKs
              clear hs hse s HS
              obtain ⟨S5, n5, S6, n6, S7, n7, S8, n8, S9, n9, S11, n11, S13, n13, rfl, _⟩ := k46_open hKs
              have SC : Aside0 (SnapC wr (.agg (#[.int .i64 ex.f0, .int .i64 ex.f1, .int .i64 ex.f2, .int .i64 ex.f3, .int .u64 ex.f4, .slice S5 ex.f5.length n5, .slice S6 ex.f6.length n6, .slice S7 ex.f7.length n7, .slice S8 ex.f8.length n8, .slice S9 ex.f9.length n9, .string ex.f10.f0, .slice S11 ex.f10.f1.length n11, .int .u64 ex.f10.f2, .slice S13 ex.f10.f3.length n13])) ex) := ⟨⟨_, rfl, hKs⟩⟩
              have HR := Aside0.mk hrow
              clear hKs hrow
              have HTX : Aside0 (tot ex ≤ 1000) := ⟨by rw [mhx]; exact HTA.out i hi⟩
              rw [hi0] at m0 m1 m2 m3 m4 m5 m6 m7 m8 m9 m10 m11 m12 m13
              have hp0 : pad.add (0 * 14) = pad := by cases pad; simp [Addr.add]
              rw [hp0] at m0 m1 m2 m3 m4 m5 m6 m7 m8 m9 m10 m11 m12 m13
              clear mhx hi0 hp0 h1 hi hlen
              go_upto_region 22 with (fail)
              refine start_ (n := 9) (S := fun W => Below w.heap.size w W ∧ W.heap[g]? = some (.cells #[.int .i64 ex.f0, .int .i64 ex.f1, .int .i64 ex.f2, .int .i64 ex.f3, .int .u64 ex.f4, .slice S5 ex.f5.length n5, .slice S6 ex.f6.length n6, .slice S7 ex.f7.length n7, .slice S8 ex.f8.length n8, .slice S9 ex.f9.length n9, .string ex.f10.f0, .slice S11 ex.f10.f1.length n11, .int .u64 ex.f10.f2, .slice S13 ex.f10.f3.length n13] 46 (0, 0))) (ds := []) #[false, false, false, false, false, false, false, false, false] (by kernel_rfl) rfl rfl (⟨HB.out.trans ((below_drew1 (Below.refl wr.heap.size wr)).mono HB.out.size), blk_drew HR.out⟩) (fun hHeld => ?_)
              have HBd := Aside0.mk (below_drew1 (Below.refl wr.heap.size wr))
              refine pure_ (i := 0) (N := some 91) (v := ?_) (a' := ?_) #[true, false, false, false, false, false, false, false, false] rfl rfl (by kernel_rfl) (fun _ _ _ h => h) (Or.inl ⟨by rfl, ?_⟩) ?_ ?_
              rotate_left
              · intro w'
                go_simp
                with_reducible rfl
              rotate_left
              · simp only [Act.put, List.setIfInBounds_toArray, List.set_cons_zero, List.set_cons_succ, i64_w, i32_w]
                rfl
              refine pure_ (i := 1) (N := some 92) (v := ?_) (a' := ?_) #[true, true, false, false, false, false, false, false, false] rfl rfl (by kernel_rfl) (fun _ _ _ h => h) (Or.inl ⟨by rfl, ?_⟩) ?_ ?_
              rotate_left
              · intro w'
                go_simp
                with_reducible rfl
              rotate_left
              · simp only [Act.put, List.setIfInBounds_toArray, List.set_cons_zero, List.set_cons_succ, i64_w, i32_w]
                rfl
              refine take_ (i := 2) (N := some 93) (v := ?_) (a' := ?_) #[true, true, true, false, false, false, false, false, false] rfl rfl (by kernel_rfl) (fun _ _ _ h => h) (Or.inl ⟨by rfl, ?_⟩) hHeld ?_ ?_
              rotate_left
              · rintro w' ⟨s0, s1⟩
                have k0 : w'.cell? ⟨g, 0, none⟩ = some (.int .i64 ex.f0) := blk_cell s1 0
                have k1 : w'.cell? ⟨g, 1, none⟩ = some (.int .i64 ex.f1) := blk_cell s1 1
                have k2 : w'.cell? ⟨g, 2, none⟩ = some (.int .i64 ex.f2) := blk_cell s1 2
                have k3 : w'.cell? ⟨g, 3, none⟩ = some (.int .i64 ex.f3) := blk_cell s1 3
                have k4 : w'.cell? ⟨g, 4, none⟩ = some (.int .u64 ex.f4) := blk_cell s1 4
                have k5 : w'.cell? ⟨g, 5, none⟩ = some (.slice S5 ex.f5.length n5) := blk_cell s1 5
                have k6 : w'.cell? ⟨g, 6, none⟩ = some (.slice S6 ex.f6.length n6) := blk_cell s1 6
                have k7 : w'.cell? ⟨g, 7, none⟩ = some (.slice S7 ex.f7.length n7) := blk_cell s1 7
                have k8 : w'.cell? ⟨g, 8, none⟩ = some (.slice S8 ex.f8.length n8) := blk_cell s1 8
                have k9 : w'.cell? ⟨g, 9, none⟩ = some (.slice S9 ex.f9.length n9) := blk_cell s1 9
                have k10 : w'.cell? ⟨g, 10, none⟩ = some (.string ex.f10.f0) := blk_cell s1 10
                have k11 : w'.cell? ⟨g, 11, none⟩ = some (.slice S11 ex.f10.f1.length n11) := blk_cell s1 11
                have k12 : w'.cell? ⟨g, 12, none⟩ = some (.int .u64 ex.f10.f2) := blk_cell s1 12
                have k13 : w'.cell? ⟨g, 13, none⟩ = some (.slice S13 ex.f10.f3.length n13) := blk_cell s1 13
                go_simp
                with_reducible rfl
              rotate_left
              · simp only [Act.put, List.setIfInBounds_toArray, List.set_cons_zero, List.set_cons_succ, i64_w, i32_w]
                rfl
              refine pure_ (i := 3) (N := some 94) (v := ?_) (a' := ?_) #[true, true, true, true, false, false, false, false, false] rfl rfl (by kernel_rfl) (fun _ _ _ h => h) (Or.inl ⟨by rfl, ?_⟩) ?_ ?_
              rotate_left
              · intro w'
                go_simp
                with_reducible rfl
              rotate_left
              · simp only [Act.put, List.setIfInBounds_toArray, List.set_cons_zero, List.set_cons_succ, i64_w, i32_w]
                rfl
              refine pure_ (i := 4) (N := some 95) (v := ?_) (a' := ?_) #[true, true, true, true, true, false, false, false, false] rfl rfl (by kernel_rfl) (fun _ _ _ h => h) (Or.inl ⟨by rfl, ?_⟩) ?_ ?_
              rotate_left
              · intro w'
                go_simp
                with_reducible rfl
              rotate_left
              · simp only [Act.put, List.setIfInBounds_toArray, List.set_cons_zero, List.set_cons_succ, i64_w, i32_w]
                rfl
              refine take_ (i := 5) (N := some 96) (v := ?_) (a' := ?_) #[true, true, true, true, true, true, false, false, false] rfl rfl (by kernel_rfl) (fun _ _ _ h => h) (Or.inl ⟨by rfl, ?_⟩) hHeld ?_ ?_
              rotate_left
              · rintro w' ⟨s0, s1⟩
                have k0 := pw_cell_below s0 m0
                have k1 := pw_cell_below s0 m1
                have k2 := pw_cell_below s0 m2
                have k3 := pw_cell_below s0 m3
                have k4 := pw_cell_below s0 m4
                have k5 := pw_cell_below s0 m5
                have k6 := pw_cell_below s0 m6
                have k7 := pw_cell_below s0 m7
                have k8 := pw_cell_below s0 m8
                have k9 := pw_cell_below s0 m9
                have k10 := pw_cell_below s0 m10
                have k11 := pw_cell_below s0 m11
                have k12 := pw_cell_below s0 m12
                have k13 := pw_cell_below s0 m13
                go_simp
                with_reducible rfl
              rotate_left
              · simp only [Act.put, List.setIfInBounds_toArray, List.set_cons_zero, List.set_cons_succ, i64_w, i32_w]
                rfl
              refine one_ (i := 6) (N := some 97) #[true, true, true, true, true, true, true, false, false] rfl rfl (by kernel_rfl) (by decide) (fun K hK => ?_)
              refine goes_ Try.func19 (by kernel_rfl) rfl #[.agg #[.int .i64 ex.f0, .int .i64 ex.f1, .int .i64 ex.f2, .int .i64 ex.f3, .int .u64 ex.f4, .slice S5 ex.f5.length n5, .slice S6 ex.f6.length n6, .slice S7 ex.f7.length n7, .slice S8 ex.f8.length n8, .slice S9 ex.f9.length n9, .string ex.f10.f0, .slice S11 ex.f10.f1.length n11, .int .u64 ex.f10.f2, .slice S13 ex.f10.f3.length n13], .agg #[.int .i64 ex.f0, .int .i64 ex.f1, .int .i64 ex.f2, .int .i64 ex.f3, .int .u64 ex.f4, .slice mA5 ex.f5.length mc5, .slice mA6 ex.f6.length mc6, .slice mA7 ex.f7.length mc7, .slice mA8 ex.f8.length mc8, .slice mA9 ex.f9.length mc9, .string ex.f10.f0, .slice mA11 ex.f10.f1.length mc11, .int .u64 ex.f10.f2, .slice mA13 ex.f10.f3.length mc13]] (by rfl) rfl rfl (by (try simp only [List.map_toArray, List.map_cons, List.map_nil]); first | done | rfl) ?_
              refine (same_any _ _ _ ex (SC.out.below HBd.out) (mC.out.below hHeld.1) HTX.out).mono ?_
              rintro e z3 ⟨rfl, hb⟩
              refine ⟨_, rfl, ?_⟩
              refine hK.out _ _ ⟨hHeld.1.trans (hb.mono hHeld.1.size), blk_below hHeld.2 hb⟩ (fun hHeld => ?_)
              have HBN := Aside0.mk hHeld.1
              clear hb
              clear hK K
              refine norm_ (a' := ?_) ?_ ?_
              rotate_left
              · show Act.put _ (some 97) _ = _
                simp only [Act.put, List.setIfInBounds_toArray, List.set_cons_zero, List.set_cons_succ, i64_w, i32_w]
                rfl
              refine pure_ (i := 7) (N := some 98) (v := ?_) (a' := ?_) #[true, true, true, true, true, true, true, true, false] rfl rfl (by kernel_rfl) (fun _ _ _ h => h) (Or.inl ⟨by rfl, ?_⟩) ?_ ?_
              rotate_left
              · intro w'
                go_simp
                with_reducible rfl
              rotate_left
              · simp only [Act.put, List.setIfInBounds_toArray, List.set_cons_zero, List.set_cons_succ, i64_w, i32_w]
                rfl
              refine pure_ (i := 8) (N := some 2) (v := ?_) (a' := ?_) #[true, true, true, true, true, true, true, true, true] rfl rfl (by kernel_rfl) (fun _ _ _ h => h) (Or.inl ⟨by rfl, ?_⟩) ?_ ?_
              rotate_left
              · intro w'
                go_simp
                with_reducible rfl
              rotate_left
              · simp only [Act.put, List.setIfInBounds_toArray, List.set_cons_zero, List.set_cons_succ, i64_w, i32_w]
                rfl
              refine done_ (by kernel_rfl) ?_
              go_wp2
              go_ret
              exact ⟨rfl, HBN.out⟩
end Go.Proofs.Ytfpbohfefliljaa.MD
