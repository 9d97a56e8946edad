/- SayAnswers: the law's call answers true, for all arguments, in a memory whose listed table is as the program lays it. -/
import Derived.Test.YthpfekjbfhldcaaDoorSAnch
import Derived.Test.YthpfekjbfhldcaaDoorRows
import Derived.Lib.LaidTab
import Derived.Stop.LaidErr
import Derived.MakeChecks
import Derived.OpenShut
import Derived.LaidMore
namespace Go.Proofs.YthpfekjbfhldcaaDoor.SayA
open Go Go.RowKit Go.Proofs Go.Proofs.YthpfekjbfhldcaaDoorW.PrintWords Go.Proofs.YthpfekjbfhldcaaDoorW.PrintLast Go.Proofs.YthpfekjbfhldcaaDoorW.PrintMore SayP
set_option linter.unusedVariables false
set_option linter.unusedSimpArgs false
theorem made_strs (W : World) (base : Nat) (hb : base ≤ W.heap.size) (l : List ByteArray) (hl : l.length ≤ 1000) : Kd.string.R 9 (W.alloc (.cells (l.map Value.string).toArray 9)) base (fun _ => True) (.slice (some ⟨W.heap.size, 0, none⟩) l.length l.length) l :=
  Kd.R_of_own (enc := Value.string) (h1 := fun _ => rfl) (own_lit_of (enc := Value.string) W base 9 l hb (by omega)) (fun _ _ => trivial)
theorem good_n (n : Nat) (A : Option Addr) (c : Nat) (l : List ByteArray) (x : ByteArray) (hn : n = l.length + 1) (hl : l.length < 1000) (w : World) (hC : Kd.string.C w A (l ++ [x]).length (l ++ [x])) (hc : (l ++ [x]).length ≤ c) :
    Calls Tryd.prog 14 #[.slice A n c] w fun e w' => e = .returned (.bool (isOk x)) ∧ Drawn0 w w' := by
  obtain rfl : n = (l ++ [x]).length := by rw [hn, List.length_append]; rfl
  exact say_Answer_Good.calls A c (l ++ [x]) (isOk x) w hC hc (good_f l x (by omega))
theorem good_0 (A : Option Addr) (c : Nat) (w : World) : Calls Tryd.prog 14 #[.slice A 0 c] w fun e w' => e = .returned (.bool false) ∧ Drawn0 w w' :=
  say_Answer_Good.calls A c [] false w ⟨rfl, Nat.zero_le _, fun h => absurd h (Nat.lt_irrefl 0)⟩ (Nat.zero_le _) good_nil
theorem text_n (n : Nat) (A : Option Addr) (c : Nat) (l : List ByteArray) (hn : n = l.length) (e base : Nat) (ok : Nat → Prop) (w : World) (hR : Kd.string.R e w base ok (.slice A l.length c) l) (hN : l.length ≤ 1000) (hlen : (joinB l nl).size ≤ 140737488355328) :
    Calls Tryd.prog 15 #[.slice A n c] w fun e w' => e = .returned (.string (textA l)) ∧ Below w.heap.size w w' := by
  subst hn
  exact text_any e base ok _ l w hR hN hlen
theorem reftext_n (n : Nat) (A : Option Addr) (c : Nat) (l : List ByteArray) (hn : n = l.length) (w : World) (hC : Kd.string.C w A l.length l) (hc : l.length ≤ c) (hl : l.length ≤ 100) (hs : (textA l).size ≤ 1000000) :
    Calls Tryd.prog 16 #[.slice A n c] w fun e w' => e = .returned (.string (textA l)) ∧ Drawn0 w w' := by
  subst hn
  exact whirligigref32_Text.calls 101 A c l (textA l) w hC hc (text_f l (by omega) (by omega) 101 (by omega))
theorem with_n (n : Nat) (A1 : Option Addr) (c1 : Nat) (a : List ByteArray) (hn : n = a.length) (A2 : Option Addr) (c2 : Nat) (l : List ByteArray) (w : World) (hA : Kd.string.C w A1 a.length a) (hC : Kd.string.C w A2 l.length l) (hc : l.length ≤ c2) (hl : l.length ≤ 900) (hl1 : a.length ≤ 900) (hs : ∀ x ∈ l, x.size ≤ 1000000) :
    Calls Tryd.prog 12 #[.slice A1 n c1, .slice A2 l.length c2] w fun e w' => ∃ v, e = .returned v ∧ Kd.string.R 9 w' w.heap.size (fun _ => True) v (l.map dash ++ a) ∧ Below w.heap.size w w' := by
  subst hn
  exact with_any A1 c1 a A2 c2 l w hA hC hc hl hl1 hs
def okL (m : ByteArray) : ByteArray := (⟨#[111, 107, 32]⟩ : ByteArray) ++ m
def errL (r m : ByteArray) : ByteArray := (((⟨#[101, 114, 114, 111, 114, 32]⟩ : ByteArray) ++ r) ++ (⟨#[32]⟩ : ByteArray)) ++ m
theorem isOk_ok' (m : ByteArray) : isOk (okL m) = true := by unfold okL; rw [← joinB_ok]; exact isOk_ok m
theorem isOk_err' (r m : ByteArray) : isOk (errL r m) = false := by unfold errL; rw [← joinB_err]; exact isOk_err r m
theorem isOk_parts (m : ByteArray) : ∃ b1 b2 b3 : Bool, Aside0 (isOk m = (b1 || (b2 && b3))) ∧ (m.toList == [111, 107]) = b1 ∧ decide ((m.size : Int) > 2) = b2 ∧ ((m.extract 0 3).toList == [111, 107, 32]) = b3 ∧ Aside0 (b2 = true → 3 ≤ m.size) := by
  refine ⟨_, _, _, ⟨?_⟩, rfl, rfl, rfl, ⟨fun h => ?_⟩⟩
  · unfold isOk
    rw [Lib.toList_data m, show decide ((m.size : Int) > 2) = decide (3 ≤ m.size) from decide_eq_decide.2 (by omega)]
    rfl
  · have := of_decide_eq_true h
    omega
theorem wordAt_size (B : Nat) (hB : errS.size ≤ B) : ∀ (ns : List Int) (ss : List ByteArray) (e : Int), (∀ s ∈ ss, s.size ≤ B) → (wordAt ns ss e).size ≤ B
  | [], _, _, _ => by rw [wordAt]; exact hB; simp
  | _ :: _, [], _, _ => by rw [wordAt]; exact hB; simp
  | n :: ns, s :: ss, e, h => by
    rw [wordAt]
    split
    · exact h s List.mem_cons_self
    · exact wordAt_size B hB ns ss e (fun x hx => h x (List.mem_cons_of_mem _ hx))
theorem rword_size (e : Int) : (rword e).size ≤ 10 := wordAt_size 10 (by decide) numsL wordsL e (by decide)
theorem okL_size (m : ByteArray) (h : m.size ≤ 300) : (okL m).size ≤ 400 := by
  unfold okL
  rw [ByteArray.size_append]
  show 3 + _ ≤ _
  omega
theorem errL_size (r m : ByteArray) (hr : r.size ≤ 10) (h : m.size ≤ 300) : (errL r m).size ≤ 400 := by
  unfold errL
  rw [ByteArray.size_append, ByteArray.size_append, ByteArray.size_append]
  show 6 + _ + 1 + _ ≤ _
  omega
theorem dash_size (z : List ByteArray) (h : ∀ x ∈ z, x.size ≤ 300) : ∀ x ∈ z.map dash, x.size ≤ 400 := by
  intro x hx
  obtain ⟨y, hy, rfl⟩ := List.mem_map.1 hx
  unfold dash
  rw [ByteArray.size_append]
  have := h y hy
  show 2 + _ ≤ _
  omega
theorem all_size (z : List ByteArray) (h : ∀ x ∈ z, x.size ≤ 300) (y : ByteArray) (hy : y.size ≤ 400) : ∀ x ∈ z.map dash ++ [y], x.size ≤ 400 := by
  intro x hx
  rcases List.mem_append.1 hx with g | g
  · exact dash_size z h x g
  · rw [List.mem_singleton.1 g]; exact hy
theorem text_sz (z : List ByteArray) (h : ∀ x ∈ z, x.size ≤ 300) (hl : z.length ≤ 50) (y : ByteArray) (hy : y.size ≤ 400) : (textA (z.map dash ++ [y])).size ≤ 100000 ∧ (joinB (z.map dash ++ [y]) nl).size ≤ 100000 := by
  have h1 := textA_size (z.map dash ++ [y]) 400 (all_size z h y hy)
  have h2 := joinB_size (z.map dash ++ [y]) 400 1 nl rfl (all_size z h y hy)
  have e : (z.map dash ++ [y]).length = z.length + 1 := by simp
  rw [e] at h1 h2
  omega
set_option maxHeartbeats 16000000 in
set_option maxRecDepth 100000 in
theorem answers_law (A : Option Addr) (c : Nat) (z : List ByteArray) (e3 : Int) (m : ByteArray) (w : World) (hT : Tab w) (hC : Kd.string.C w A z.length z) (hc : z.length ≤ c) (hzl : z.length ≤ 8796093022207) (hms : m.size ≤ 140737488351232) :
    Calls Tryd.prog 4 #[.slice A z.length c, .int .i64 e3, .string m] w fun e w' => e = .returned (.bool true) ∧ Below w.heap.size w w' := by
  have HT := Aside0.mk hT
  have HC := Aside0.mk hC
  have HCC := Aside0.mk hc
  have HA := Aside0.mk (anchor_any w hT)
  clear hT hC hc
  by_cases h1 : z.length > 50
  · have d1 : decide ((z.length : Int) > 50) = true := decide_eq_true (by omega)
    clear h1
    go_enter Tryd.func4, Tryd.ntmps4
    go_wp2_with (go_at_call 5; refine HA.out.mono ?_; rintro e w1 ⟨rfl, hb⟩; have HB := Aside0.mk hb; clear hb)
    go_ret
    exact ⟨rfl, HB.out⟩
  have d1 : decide ((z.length : Int) > 50) = false := decide_eq_false (by omega)
  have H1 := Aside0.mk h1
  clear h1
  by_cases h2 : m.size > 300
  · have d2 : decide ((m.size : Int) > 300) = true := decide_eq_true (by omega)
    clear h2
    go_enter Tryd.func4, Tryd.ntmps4
    go_wp2_with (go_at_call 5; refine HA.out.mono ?_; rintro e w1 ⟨rfl, hb⟩; have HB := Aside0.mk hb; clear hb)
    go_ret
    exact ⟨rfl, HB.out⟩
  have d2 : decide ((m.size : Int) > 300) = false := decide_eq_false (by omega)
  have H2 := Aside0.mk h2
  clear h2
  go_enter Tryd.func4, Tryd.ntmps4
  go_wp2_with (first | (go_at_call 5; refine HA.out.mono ?_; rintro e w1 ⟨rfl, hb⟩; have HB1 := Aside0.mk hb; clear hb))
  have HR0 := Aside0.mk (made_strs w1 w.heap.size HB1.out.size [] (Nat.zero_le _))
  have HB3 := Aside0.mk (HB1.out.alloc HB1.out.size (.cells (([] : List ByteArray).map Value.string).toArray 9))
  have hw3 : (w1.alloc (.cells #[] 9)) = (w1.alloc (.cells (([] : List ByteArray).map Value.string).toArray 9)) := rfl
  rw [hw3]
  clear hw3
  generalize (w1.alloc (.cells (([] : List ByteArray).map Value.string).toArray 9)) = w3 at HR0 HB3 ⊢
  clear d1 d2 HB1
  go_loopw [7, 25] (fun v7 v25 wr => ∃ k : Nat, v25 = .int .i64 k ∧ k ≤ z.length ∧ Aside0 (∀ x ∈ z.take k, x.size ≤ 300) ∧ Aside0 (Kd.string.R 9 wr w.heap.size (fun _ => True) v7 ((z.take k).map dash)) ∧ Aside0 (Below w.heap.size w wr)) (fun _ v25 _ => z.length - (intOf v25).toNat)
  case atStart => exact ⟨0, rfl, Nat.zero_le _, ⟨fun x hx => absurd hx (by rw [List.take_zero]; exact List.not_mem_nil)⟩, HR0, HB3⟩
  case round =>
    clear HR0 HB3
    obtain ⟨k, rfl, hk, HS, HR, HB⟩ := hrel
    have HK := Aside0.mk hk
    clear hk
    have h1' := H1.out
    by_cases hlt : k < z.length
    · obtain ⟨ad, eA, hcl⟩ := Kd.at_string (Kd.C_below HC.out HB.out) (k : Int) (Int.natCast_nonneg _) (by omega)
      rw [rd_at z k hlt, Int.toNat_natCast] at hcl
      have HO := Aside0.mk (show (z.take (k + 1)).map dash = (z.take k).map dash ++ [dash z[k]] by rw [List.take_succ_eq_append_getElem hlt, List.map_append]; rfl)
      have HO2 := Aside0.mk (show z.take (k + 1) = z.take k ++ [z[k]] from List.take_succ_eq_append_getElem hlt)
      cases eA
      generalize z[k] = x at hcl HO HO2
      have q1 : decide ((k : Int) < (z.length : Int)) = true := decide_eq_true (by omega)
      have q2 : (0 ≤ (k : Int)) = True := eq_true (Int.natCast_nonneg _)
      have HLT := Aside0.mk hlt
      by_cases hx : x.size > 300
      · have q3 : decide ((x.size : Int) > 300) = true := decide_eq_true (by omega)
        clear hx
        go_wp2
        go_ret
        exact ⟨rfl, HB.out⟩
      · have q3 : decide ((x.size : Int) > 300) = false := decide_eq_false (by omega)
        have q4 : (9223372036854775807 < 2 + x.size) = False := eq_false (by omega)
        have HS2 : Aside0 (∀ y ∈ z.take (k + 1), y.size ≤ 300) := ⟨fun y hy => by
          rw [HO2.out] at hy
          rcases List.mem_append.1 hy with g | g
          · exact HS.out y g
          · rw [List.mem_singleton.1 g]; omega⟩
        have HLEN := Aside0.mk (show (((z.take k).map dash).length + 1) * 16 ≤ 140737488355328 by rw [List.length_map, List.length_take]; omega)
        clear hx
        go_wp2_with (first | ((with_reducible refine gate_builtin (b := .append) (xs := #[.tmp 32, .tmp 35]) rfl ?_); at_builtin; refine Kd.R_append Kd.string (w0 := w) w.heap.size rfl (.tmp 32) (.tmp 35) 25 9 (.string ByteArray.empty) 16 rfl Tryd.underlying25 info9 rfl (by decide) (by decide) u7 ((z.take k).map dash) (dash x) [.string (dash x)] (fun _ => True) (fun _ => False) rfl rfl rfl (fun _ hk => hk.elim) (fun _ _ => trivial) HR.out HB.out HB.out.size HLEN.out ?_; intro v1 w1 ho hb hg hat; have HR1 := Aside0.mk ho; have HB1 := Aside0.mk hb; clear ho hb hg hat HR HB))
        go_roundw
        case rel => exact ⟨k + 1, by go_num, HLT.out, HS2, ⟨by rw [HO.out]; exact HR1.out⟩, HB1⟩
        case measure => have := HLT.out; simp [intOf]; omega
    · obtain rfl : k = z.length := by have := HK.out; omega
      rw [List.take_length] at HR HS
      have q1 : decide ((z.length : Int) < (z.length : Int)) = false := decide_eq_false (Int.lt_irrefl _)
      obtain ⟨A7, c7, hv7⟩ := Kd.R_slice HR.out
      subst hv7
      clear hlt h1'
      go_wp2_with (go_at_call 11; refine Hold.out ?_)
      refine ⟨?_⟩
      have HW := Aside0.mk (made_its wr 0 (Nat.zero_le _) [It.s m] (show 1 ≤ 1000 by decide))
      have HB2 := Aside0.mk (HB.out.alloc HB.out.size (.cells (([It.s m] : List It).map It.val).toArray 20))
      have HR2 := Aside0.mk (Kd.R_alloc HR.out (.cells (([It.s m] : List It).map It.val).toArray 20))
      show Calls Tryd.prog 11 #[.slice (some ⟨wr.heap.size, 0, none⟩) ([It.s m] : List It).length 1] (wr.alloc (.cells (([It.s m] : List It).map It.val).toArray 20)) _
      have hW := Kd.R_reads' HW.out
      clear HW HR HB
      generalize (wr.alloc (.cells (([It.s m] : List It).map It.val).toArray 20)) = w4 at hW HB2 HR2 ⊢
      have hjo : joinB (okS :: outs [It.s m]) SayP.blank = okL m := joinB_ok m
      have hcall := ok_any (some ⟨wr.heap.size, 0, none⟩) 1 [It.s m] w4 (HT.out.below HB2.out) hW.2.2 (show 1 ≤ 1 by decide) (show 1 ≤ 900 by decide) (ok_one _ _) (show 1 ≤ 900 by decide) (by rw [hjo]; have := okL_size m (by have := H2.out; omega); omega)
      rw [hjo] at hcall
      refine hcall.mono ?_
      rintro e w5 ⟨v, rfl, hR, hb⟩
      obtain ⟨A5, c5, rfl⟩ := Kd.R_slice hR
      have HR5 := Aside0.mk (Kd.R_reads' hR)
      have HR3 := Aside0.mk (Kd.R_below HR2.out hb)
      have HB3 := Aside0.mk (HB2.out.trans (hb.mono HB2.out.size))
      clear hcall hjo hW hR hb HR2 HB2
      go_wp2_with (go_at_call 12; refine Hold.out ?_)
      refine ⟨?_⟩
      refine (with_n 1 A5 c5 [okL m] rfl A c z w5 HR5.out.2.2 (Kd.C_below HC.out HB3.out) HCC.out (by have := H1.out; omega) (show 1 ≤ 900 by decide) (fun x hx => Nat.le_trans (HS.out x hx) (by decide))).mono ?_
      rintro e w6 ⟨v, rfl, hR, hb⟩
      obtain ⟨A6, c6, rfl⟩ := Kd.R_slice hR
      have HG6 := Aside0.mk hR
      have HR4 := Aside0.mk (Kd.R_below HR3.out hb)
      have HB4 := Aside0.mk (HB3.out.trans (hb.mono HB3.out.size))
      clear hR hb HR3 HB3 HR5
      go_wp2_with (go_at_call 13; refine Hold.out ?_)
      refine ⟨?_⟩
      have HW := Aside0.mk (made_its w6 0 (Nat.zero_le _) [It.s m] (show 1 ≤ 1000 by decide))
      have HB5 := Aside0.mk (HB4.out.alloc HB4.out.size (.cells (([It.s m] : List It).map It.val).toArray 20))
      have HR5 := Aside0.mk (Kd.R_alloc HR4.out (.cells (([It.s m] : List It).map It.val).toArray 20))
      have HG7 := Aside0.mk (Kd.R_alloc HG6.out (.cells (([It.s m] : List It).map It.val).toArray 20))
      show Calls Tryd.prog 13 #[.int .i64 e3, .slice (some ⟨w6.heap.size, 0, none⟩) ([It.s m] : List It).length 1] (w6.alloc (.cells (([It.s m] : List It).map It.val).toArray 20)) _
      have hW := Kd.R_reads' HW.out
      clear HW HR4 HB4 HG6
      generalize (w6.alloc (.cells (([It.s m] : List It).map It.val).toArray 20)) = w7 at hW HB5 HR5 HG7 ⊢
      have hjo : joinB (errS :: rword e3 :: outs [It.s m]) SayP.blank = errL (rword e3) m := joinB_err _ m
      have hcall := wrong_any e3 (rword e3) (rword_say e3) (some ⟨w6.heap.size, 0, none⟩) 1 [It.s m] w7 (HT.out.below HB5.out) hW.2.2 (show 1 ≤ 1 by decide) (show 1 ≤ 900 by decide) (ok_one _ _) (show 1 ≤ 900 by decide) (by rw [hjo]; have := errL_size (rword e3) m (rword_size e3) (by have := H2.out; omega); omega)
      rw [hjo] at hcall
      refine hcall.mono ?_
      rintro e w8 ⟨v, rfl, hR, hb⟩
      obtain ⟨A8, c8, rfl⟩ := Kd.R_slice hR
      have HR8 := Aside0.mk (Kd.R_reads' hR)
      have HR6 := Aside0.mk (Kd.R_below HR5.out hb)
      have HG8 := Aside0.mk (Kd.R_below HG7.out hb)
      have HB6 := Aside0.mk (HB5.out.trans (hb.mono HB5.out.size))
      clear hcall hjo hW hR hb HR5 HB5 HG7
      go_wp2_with (go_at_call 12; refine Hold.out ?_)
      refine ⟨?_⟩
      refine (with_n 1 A8 c8 [errL (rword e3) m] rfl A c z w8 HR8.out.2.2 (Kd.C_below HC.out HB6.out) HCC.out (by have := H1.out; omega) (show 1 ≤ 900 by decide) (fun x hx => Nat.le_trans (HS.out x hx) (by decide))).mono ?_
      rintro e w9 ⟨v, rfl, hR, hb⟩
      obtain ⟨A9, c9, rfl⟩ := Kd.R_slice hR
      have HE := Aside0.mk hR
      have HG := Aside0.mk (Kd.R_below HG8.out hb)
      have HW9 := Aside0.mk (Kd.R_below HR6.out hb)
      have HB := Aside0.mk (HB6.out.trans (hb.mono HB6.out.size))
      clear hR hb HR6 HB6 HG8 HR8
      have HRS := Aside0.mk (rword_size e3)
      have hlm : (z.map dash).length < 1000 := by rw [List.length_map]; have := H1.out; omega
      have HLM := Aside0.mk hlm
      have HGT := Aside0.mk (text_sz z HS.out (by have := H1.out; omega) (okL m) (okL_size m (by have := H2.out; omega)))
      have HET := Aside0.mk (text_sz z HS.out (by have := H1.out; omega) (errL (rword e3) m) (errL_size (rword e3) m HRS.out (by have := H2.out; omega)))
      have HGE := Aside0.mk (isOk_err' (rword e3) m)
      obtain ⟨rr, hrr⟩ : ∃ rr, rr = rword e3 := ⟨_, rfl⟩
      rw [← hrr] at HRS HET HE HGE
      have HRR := Aside0.mk hrr
      clear hlm hrr
      clear q1 hms hzl
      have hzb : z.length ≤ 50 := by have := H1.out; omega
      go_wp2_with (go_at_call 14; refine Hold.out ?_)
      refine ⟨?_⟩
      have hg := Kd.R_reads' HG.out
      refine (good_n _ A6 c6 (z.map dash) (okL m) (by simp) HLM.out w9 hg.2.2 hg.2.1).mono ?_
      rintro e w10 ⟨rfl, hd⟩
      rw [isOk_ok' m]
      have HG_1 := Aside0.mk (Kd.R_below HG.out (hd.below))
      have HE_1 := Aside0.mk (Kd.R_below HE.out (hd.below))
      have HW_1 := Aside0.mk (Kd.R_below HW9.out (hd.below))
      have HB_1 := Aside0.mk (HB.out.trans ((hd.below).mono HB.out.size))
      clear HG HE HW9 HB
      clear hd
      clear hg
      go_wp2_with (go_at_call 14; refine Hold.out ?_)
      refine ⟨?_⟩
      have hg := Kd.R_reads' HE_1.out
      refine (good_n _ A9 c9 (z.map dash) (errL rr m) (by simp) HLM.out w10 hg.2.2 hg.2.1).mono ?_
      rintro e w11 ⟨rfl, hd⟩
      rw [HGE.out]
      have HG_2 := Aside0.mk (Kd.R_below HG_1.out (hd.below))
      have HE_2 := Aside0.mk (Kd.R_below HE_1.out (hd.below))
      have HW_2 := Aside0.mk (Kd.R_below HW_1.out (hd.below))
      have HB_2 := Aside0.mk (HB_1.out.trans ((hd.below).mono HB_1.out.size))
      clear HG_1 HE_1 HW_1 HB_1
      clear hd
      clear hg
      go_wp2_with (go_at_call 14; refine Hold.out ?_)
      refine ⟨?_⟩
      clear hzb
      obtain ⟨b1, b2, b3, HOKM, m1, m2, m3, M4⟩ := isOk_parts m
      have HG_3 := Aside0.mk (Kd.R_alloc HG_2.out (.cells #[] 9))
      have HE_3 := Aside0.mk (Kd.R_alloc HE_2.out (.cells #[] 9))
      have HW_3 := Aside0.mk (Kd.R_alloc HW_2.out (.cells #[] 9))
      have HB_3 := Aside0.mk (HB_2.out.alloc HB_2.out.size (.cells #[] 9))
      clear HG_2 HE_2 HW_2 HB_2
      generalize w11.alloc (.cells #[] 9) = w12 at HG_3 HE_3 HW_3 HB_3 ⊢
      refine (good_0 _ 0 w12).mono ?_
      rintro e w13 ⟨rfl, hd⟩
      have HG_4 := Aside0.mk (Kd.R_below HG_3.out (hd.below))
      have HE_4 := Aside0.mk (Kd.R_below HE_3.out (hd.below))
      have HW_4 := Aside0.mk (Kd.R_below HW_3.out (hd.below))
      have HB_4 := Aside0.mk (HB_3.out.trans ((hd.below).mono HB_3.out.size))
      clear HG_3 HE_3 HW_3 HB_3
      clear hd
      go_wp2_with (go_at_call 14; refine Hold.out ?_)
      refine ⟨?_⟩
      have hm1 := Kd.R_reads' (made_str w13 0 (Nat.zero_le _) m)
      have HG_5 := Aside0.mk (Kd.R_alloc HG_4.out (.cells #[.string m] 9))
      have HE_5 := Aside0.mk (Kd.R_alloc HE_4.out (.cells #[.string m] 9))
      have HW_5 := Aside0.mk (Kd.R_alloc HW_4.out (.cells #[.string m] 9))
      have HB_5 := Aside0.mk (HB_4.out.alloc HB_4.out.size (.cells #[.string m] 9))
      clear HG_4 HE_4 HW_4 HB_4
      generalize w13.alloc (.cells #[.string m] 9) = w14 at hm1 HG_5 HE_5 HW_5 HB_5 ⊢
      refine (good_n 1 _ 1 [] m rfl (by decide) w14 hm1.2.2 hm1.2.1).mono ?_
      rintro e w15 ⟨rfl, hd⟩
      rw [HOKM.out]
      have HG_6 := Aside0.mk (Kd.R_below HG_5.out (hd.below))
      have HE_6 := Aside0.mk (Kd.R_below HE_5.out (hd.below))
      have HW_6 := Aside0.mk (Kd.R_below HW_5.out (hd.below))
      have HB_6 := Aside0.mk (HB_5.out.trans ((hd.below).mono HB_5.out.size))
      clear HG_5 HE_5 HW_5 HB_5
      clear hd
      clear hm1
      have s1 : (9223372036854775807 < 3 + m.size) = False := eq_false (by have := H2.out; omega)
      have s2 : (9223372036854775807 < 6 + rr.size) = False := eq_false (by have := HRS.out; omega)
      have s3 : (9223372036854775807 < 6 + rr.size + 1) = False := eq_false (by have := HRS.out; omega)
      have s4 : (9223372036854775807 < 6 + rr.size + 1 + m.size) = False := eq_false (by have := HRS.out; have := H2.out; omega)
      cases b1 <;> cases b2
      all_goals (try (have hm3 := M4.out rfl))
      all_goals
        go_wp2_with (go_at_call 15; refine Hold.out ?_)
        refine ⟨?_⟩
        refine (text_n _ A6 c6 (z.map dash ++ [okL m]) (by simp) 9 _ _ w15 HG_6.out (by rw [List.length_append]; have := HLM.out; simp only [List.length_cons, List.length_nil]; omega) (by have := HGT.out.2; omega)).mono ?_
        rintro e w16 ⟨rfl, hb⟩
        have HG_7 := Aside0.mk (Kd.R_below HG_6.out (hb))
        have HE_7 := Aside0.mk (Kd.R_below HE_6.out (hb))
        have HW_7 := Aside0.mk (Kd.R_below HW_6.out (hb))
        have HB_7 := Aside0.mk (HB_6.out.trans ((hb).mono HB_6.out.size))
        clear HG_6 HE_6 HW_6 HB_6
        clear hb
        have H908 : Aside0 (Kd.string.R 9 (w16.alloc (.cells #[] 9)) w16.heap.size (fun _ => True) (.slice (some ⟨w16.heap.size, 0, none⟩) 0 0) []) := ⟨made_strs w16 w16.heap.size (Nat.le_refl _) [] (Nat.zero_le _)⟩
        have HBL8 := Aside0.mk ((Below.refl w16.heap.size w16).alloc (Nat.le_refl _) (.cells #[] 9))
        have h918 := Kd.R_reads' (Kd.R_below HW_7.out HBL8.out)
        rw [List.length_map] at h918
        have H918 := Aside0.mk h918
        clear h918
        have HL1 := Aside0.mk (show (0 + z.length) * 16 ≤ 140737488355328 by have := H1.out; omega)
        have HL2 := Aside0.mk (show (([] ++ z.map dash).length + 1) * 16 ≤ 140737488355328 by have := HLM.out; rw [List.nil_append]; omega)
        go_wp2_with (first | ((with_reducible refine gate_builtin (b := .append) (xs := #[.tmp 90, .tmp 91]) rfl ?_); at_builtin; refine Kd.R_append_rows Kd.string (Rr := Kd.string.K _) (w0 := w16) w16.heap.size rfl (.tmp 90) (.tmp 91) 25 9 (.string ByteArray.empty) 16 rfl Tryd.underlying25 info9 rfl (by decide) (by decide) _ [] (z.map dash) A7 z.length c7 (fun _ => True) (fun _ => False) rfl rfl H908.out H918.out.2.2 (fun _ _ h => h) (fun _ hk => hk.elim) (fun _ _ => trivial) HBL8.out HBL8.out.size HL1.out ?_; intro v1 wx ho hb hg hat; have HO1 := Aside0.mk ho; have HBX := Aside0.mk hb; clear ho hb hg hat) | ((with_reducible refine gate_builtin (b := .append) (xs := #[.tmp 92, .tmp 95]) rfl ?_); at_builtin; refine Kd.R_append Kd.string (w0 := w16) w16.heap.size rfl (.tmp 92) (.tmp 95) 25 9 (.string ByteArray.empty) 16 rfl Tryd.underlying25 info9 rfl (by decide) (by decide) v1 ([] ++ z.map dash) (okL m) [.string (okL m)] (fun _ => True) (fun _ => False) rfl rfl rfl (fun _ hk => hk.elim) (fun _ _ => trivial) HO1.out HBX.out HBX.out.size HL2.out ?_; intro v2 wy ho hb hg hat; obtain ⟨Ay, cy, rfl⟩ := Kd.R_slice ho; have HO2 := Aside0.mk (Kd.R_reads' ho); have HBY := Aside0.mk hb; clear ho hb hg hat HO1 HBX) | (go_at_call 16; refine Hold.out ?_))
        refine ⟨?_⟩
        refine (reftext_n _ Ay cy (z.map dash ++ [okL m]) (by simp) wy HO2.out.2.2 HO2.out.2.1 (by rw [List.length_append, List.length_map]; have := H1.out; simp only [List.length_cons, List.length_nil]; omega) (by have := HGT.out.1; omega)).mono ?_
        rintro e w17 ⟨rfl, hd⟩
        have HG_9 := Aside0.mk (Kd.R_below HG_7.out (HBY.out.trans (hd.below.mono HBY.out.size)))
        have HE_9 := Aside0.mk (Kd.R_below HE_7.out (HBY.out.trans (hd.below.mono HBY.out.size)))
        have HW_9 := Aside0.mk (Kd.R_below HW_7.out (HBY.out.trans (hd.below.mono HBY.out.size)))
        have HB_9 := Aside0.mk (HB_7.out.trans ((HBY.out.trans (hd.below.mono HBY.out.size)).mono HB_7.out.size))
        clear HG_7 HE_7 HW_7 HB_7
        clear hd HBY HO2 HBL8 H908 H918 HL1 HL2
        generalize textA (z.map dash ++ [okL m]) = tg
        go_wp2_with (go_at_call 15; refine Hold.out ?_)
        refine ⟨?_⟩
        refine (text_n _ A9 c9 (z.map dash ++ [errL rr m]) (by simp) 9 _ _ w17 HE_9.out (by rw [List.length_append]; have := HLM.out; simp only [List.length_cons, List.length_nil]; omega) (by have := HET.out.2; omega)).mono ?_
        rintro e w18 ⟨rfl, hb⟩
        have HG_10 := Aside0.mk (Kd.R_below HG_9.out (hb))
        have HE_10 := Aside0.mk (Kd.R_below HE_9.out (hb))
        have HW_10 := Aside0.mk (Kd.R_below HW_9.out (hb))
        have HB_10 := Aside0.mk (HB_9.out.trans ((hb).mono HB_9.out.size))
        clear HG_9 HE_9 HW_9 HB_9
        clear hb
        have H9011 : Aside0 (Kd.string.R 9 (w18.alloc (.cells #[] 9)) w18.heap.size (fun _ => True) (.slice (some ⟨w18.heap.size, 0, none⟩) 0 0) []) := ⟨made_strs w18 w18.heap.size (Nat.le_refl _) [] (Nat.zero_le _)⟩
        have HBL11 := Aside0.mk ((Below.refl w18.heap.size w18).alloc (Nat.le_refl _) (.cells #[] 9))
        have h9111 := Kd.R_reads' (Kd.R_below HW_10.out HBL11.out)
        rw [List.length_map] at h9111
        have H9111 := Aside0.mk h9111
        clear h9111
        have HL1 := Aside0.mk (show (0 + z.length) * 16 ≤ 140737488355328 by have := H1.out; omega)
        have HL2 := Aside0.mk (show (([] ++ z.map dash).length + 1) * 16 ≤ 140737488355328 by have := HLM.out; rw [List.nil_append]; omega)
        go_wp2_with (first | ((with_reducible refine gate_builtin (b := .append) (xs := #[.tmp 102, .tmp 103]) rfl ?_); (try (refine gate_guard (by rfl) ?_; dsimp only)); at_builtin; refine Kd.R_append_rows Kd.string (Rr := Kd.string.K _) (w0 := w18) w18.heap.size rfl (.tmp 102) (.tmp 103) 25 9 (.string ByteArray.empty) 16 rfl Tryd.underlying25 info9 rfl (by decide) (by decide) _ [] (z.map dash) A7 z.length c7 (fun _ => True) (fun _ => False) rfl rfl H9011.out H9111.out.2.2 (fun _ _ h => h) (fun _ hk => hk.elim) (fun _ _ => trivial) HBL11.out HBL11.out.size HL1.out ?_; intro v1 wx ho hb hg hat; have HO1 := Aside0.mk ho; have HBX := Aside0.mk hb; clear ho hb hg hat) | ((with_reducible refine gate_builtin (b := .append) (xs := #[.tmp 104, .tmp 111]) rfl ?_); (try (refine gate_guard (by rfl) ?_; dsimp only)); at_builtin; refine Kd.R_append Kd.string (w0 := w18) w18.heap.size rfl (.tmp 104) (.tmp 111) 25 9 (.string ByteArray.empty) 16 rfl Tryd.underlying25 info9 rfl (by decide) (by decide) v1 ([] ++ z.map dash) (errL rr m) [.string (errL rr m)] (fun _ => True) (fun _ => False) rfl rfl rfl (fun _ hk => hk.elim) (fun _ _ => trivial) HO1.out HBX.out HBX.out.size HL2.out ?_; intro v2 wy ho hb hg hat; obtain ⟨Ay, cy, rfl⟩ := Kd.R_slice ho; have HO2 := Aside0.mk (Kd.R_reads' ho); have HBY := Aside0.mk hb; clear ho hb hg hat HO1 HBX) | (go_at_call 10; refine (rword_any e3 _).mono ?_; rintro e wr1 ⟨rfl, hb⟩; rw [← HRR.out]; have HO1 := Aside0.mk (Kd.R_below HO1.out hb); have HBX := Aside0.mk (HBX.out.trans (hb.mono HBX.out.size)); clear hb) | (go_at_call 16; refine Hold.out ?_))
        refine ⟨?_⟩
        refine (reftext_n _ Ay cy (z.map dash ++ [errL rr m]) (by simp) wy HO2.out.2.2 HO2.out.2.1 (by rw [List.length_append, List.length_map]; have := H1.out; simp only [List.length_cons, List.length_nil]; omega) (by have := HET.out.1; omega)).mono ?_
        rintro e w19 ⟨rfl, hd⟩
        have HG_12 := Aside0.mk (Kd.R_below HG_10.out (HBY.out.trans (hd.below.mono HBY.out.size)))
        have HE_12 := Aside0.mk (Kd.R_below HE_10.out (HBY.out.trans (hd.below.mono HBY.out.size)))
        have HW_12 := Aside0.mk (Kd.R_below HW_10.out (HBY.out.trans (hd.below.mono HBY.out.size)))
        have HB_12 := Aside0.mk (HB_10.out.trans ((HBY.out.trans (hd.below.mono HBY.out.size)).mono HB_10.out.size))
        clear HG_10 HE_10 HW_10 HB_10
        clear hd HBY HO2 HBL11 H9011 H9111 HL1 HL2
        generalize textA (z.map dash ++ [errL rr m]) = te
        go_wp2_with (go_at_call 15; refine Hold.out ?_)
        refine ⟨?_⟩
        have HG_13 := Aside0.mk (Kd.R_alloc HG_12.out (.cells #[] 9))
        have HE_13 := Aside0.mk (Kd.R_alloc HE_12.out (.cells #[] 9))
        have HW_13 := Aside0.mk (Kd.R_alloc HW_12.out (.cells #[] 9))
        have HB_13 := Aside0.mk (HB_12.out.alloc HB_12.out.size (.cells #[] 9))
        clear HG_12 HE_12 HW_12 HB_12
        have H90 : Kd.string.R 9 (w19.alloc (.cells #[] 9)) 0 (fun _ => True) (.slice (some ⟨w19.heap.size, 0, none⟩) 0 0) [] := made_strs w19 0 (Nat.zero_le _) [] (Nat.zero_le _)
        refine (text_n 0 (some ⟨w19.heap.size, 0, none⟩) 0 [] rfl 9 0 _ _ H90 (Nat.zero_le _) (by decide)).mono ?_
        rintro e w20 ⟨rfl, hb⟩
        have et : textA [] = ⟨#[]⟩ := rfl
        rw [et]
        have HBZ := Aside0.mk (HB_13.out.trans (hb.mono HB_13.out.size))
        clear hb et H90
        go_wp2
        go_ret
        exact ⟨rfl, HBZ.out⟩
theorem say_tab {W : World} (h : laidMetH Tryd.prog Rows.sayAnswersRow.laid W) : Tab W := by
  rw [MakeChecks.laidMetH_plain _ _ _ (by kernel_rfl)] at h
  have h2 := laidMet.tail (laidMet.tail h)
  exact ⟨Lib.tabIs_of_head (g := 0) (k := .u64) (zs := Lib.pow10Tab) (t := 65) (e := 55) (n := 20) (by kernel_rfl) (by kernel_rfl) (by kernel_rfl) (by kernel_rfl) (by kernel_rfl) (by kernel_rfl) h2⟩
theorem sayAnswers_walk (a0 : Option Addr) (cap0 : Nat) (z0 : List ByteArray) (a1 : Int) (a2 : ByteArray) (w : World) (hr0 : Kd.string.C w a0 z0.length z0) (hc0 : z0.length ≤ cap0) (y0 : z0.length * 16 ≤ 140737488351232) (w1 : (Lit.int .i64 a1).wf = true) (w2 : a2.size ≤ 140737488351232) (hL : laidMetH Tryd.prog Rows.sayAnswersRow.laid w) :
    Calls Tryd.prog 4 #[.slice a0 z0.length cap0, .int .i64 a1, .string a2] w fun e w' => e = .returned (.bool true) ∧ Below w.heap.size w w' :=
  answers_law a0 cap0 z0 a1 a2 w (say_tab hL) hr0 hc0 (by omega) w2
end Go.Proofs.YthpfekjbfhldcaaDoor.SayA
