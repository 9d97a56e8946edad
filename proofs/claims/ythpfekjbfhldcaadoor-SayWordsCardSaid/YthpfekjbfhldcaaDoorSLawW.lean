/- SayWords: the law's call answers true, for all arguments, in a memory whose listed table is as the program lays it. -/
import Derived.Test.YthpfekjbfhldcaaDoorSAnch
namespace Go.Proofs.YthpfekjbfhldcaaDoor.SayP
open Go Go.RowKit Go.Proofs Go.Proofs.YthpfekjbfhldcaaDoorW.PrintWords Go.Proofs.YthpfekjbfhldcaaDoorW.PrintLast Go.Proofs.YthpfekjbfhldcaaDoorW.PrintMore
set_option linter.unusedVariables false
set_option linter.unusedSimpArgs false
theorem digits_any (n : Int) (h : InI n) (w : World) : Calls Tryd.prog 6 #[.int .i64 n] w fun e w' => e = .returned (.string (dec n)) ∧ Below w.heap.size w w' :=
  whirligigref01_Digits.calls 30 n (dec n) w (digits_itoa n 30 (Nat.le_refl _) h)
theorem made_strs (W : World) (base : Nat) (hb : base ≤ W.heap.size) (l : List ByteArray) (hl : l.length ≤ 1000) : Kd.string.R 9 (W.alloc (.cells (l.map Value.string).toArray 9)) base (fun _ => True) (.slice (some ⟨W.heap.size, 0, none⟩) l.length l.length) l :=
  Kd.R_of_own (enc := Value.string) (h1 := fun _ => rfl) (own_lit_of (enc := Value.string) W base 9 l hb (by omega)) (fun _ _ => trivial)
theorem refjoin_n (n : Nat) (A : Option Addr) (c : Nat) (l : List ByteArray) (hn : n = l.length) (w : World) (hC : Kd.string.C w A l.length l) (hc : l.length ≤ c) (hl : l.length ≤ 100) (hs : (joinB l blank).size ≤ 1000000) :
    Calls Tryd.prog 8 #[.slice A n c] w fun e w' => e = .returned (.string (joinB l blank)) ∧ Drawn0 w w' := by
  subst hn
  exact whirligigref32_Join.calls 101 A c l (joinB l blank) w hC hc (join_f l (by omega) (by omega) 101 (by omega))
def want (a : ByteArray) (n : Int) (z : List Int) : List ByteArray := [a, dec n] ++ z.map dec ++ [a]
def wantIts (a : ByteArray) (n : Int) (A : Option Addr) (c : Nat) (z : List Int) : List It := [It.s a, It.n n, It.l A c z, It.s a]
theorem want_outs (a : ByteArray) (n : Int) (A : Option Addr) (c : Nat) (z : List Int) : outs (wantIts a n A c z) = want a n z := by
  show [a] ++ ([dec n] ++ (z.map dec ++ ([a] ++ []))) = [a, dec n] ++ z.map dec ++ [a]
  simp
theorem want_size (a : ByteArray) (n : Int) (z : List Int) (ha : a.size ≤ 300) (hn : InI n) (hz : ∀ x ∈ z, InI x) : ∀ x ∈ want a n z, x.size ≤ 300 := by
  intro x hx
  simp only [want, List.mem_append, List.mem_cons, List.not_mem_nil, or_false, List.mem_map] at hx
  rcases hx with ((rfl | rfl) | ⟨k, hk, rfl⟩) | rfl
  · exact ha
  · exact Nat.le_trans (dec_size n hn) (by decide)
  · exact Nat.le_trans (dec_size k (hz k hk)) (by decide)
  · exact ha
theorem want_join (a : ByteArray) (n : Int) (z : List Int) (ha : a.size ≤ 300) (hn : InI n) (hz : ∀ x ∈ z, InI x) (hl : z.length ≤ 50) : (joinB (want a n z) blank).size ≤ 20000 := by
  have h := joinB_size (want a n z) 300 1 blank rfl (want_size a n z ha hn hz)
  have h2 : (want a n z).length = z.length + 3 := by simp [want]
  rw [h2] at h
  omega
set_option maxHeartbeats 8000000 in
set_option maxRecDepth 100000 in
theorem words_law (a : ByteArray) (n : Int) (A : Option Addr) (c : Nat) (z : List Int) (e3 : Int) (w : World) (hT : Tab w) (hn : InI n) (hC : (Kd.int .i64).C w A z.length z) (hc : z.length ≤ c) (hz : ∀ x ∈ z, InI x) :
    Calls Tryd.prog 3 #[.string a, .int .i64 n, .slice A z.length c, .int .i64 e3] w fun e w' => e = .returned (.bool true) ∧ Below w.heap.size w w' := by
  have HT := Aside0.mk hT
  have HC := Aside0.mk hC
  have HCC := Aside0.mk hc
  have HZ := Aside0.mk hz
  have HN := Aside0.mk hn
  have HA := Aside0.mk (anchor_any w hT)
  clear hT hC hc hz hn
  by_cases h1 : a.size > 300
  · have d1 : decide ((a.size : Int) > 300) = true := decide_eq_true (by omega)
    clear h1
    go_enter Tryd.func3, Tryd.ntmps3
    go_wp2_with (go_at_call 5; refine HA.out.mono ?_; rintro e w1 ⟨rfl, hb⟩; have HB := Aside0.mk hb; clear hb)
    go_ret
    exact ⟨rfl, HB.out⟩
  have d1 : decide ((a.size : Int) > 300) = false := decide_eq_false (by omega)
  have H1 := Aside0.mk h1
  clear h1
  by_cases h2 : z.length > 50
  · have d2 : decide ((z.length : Int) > 50) = true := decide_eq_true (by omega)
    clear h2
    go_enter Tryd.func3, Tryd.ntmps3
    go_wp2_with (go_at_call 5; refine HA.out.mono ?_; rintro e w1 ⟨rfl, hb⟩; have HB := Aside0.mk hb; clear hb)
    go_ret
    exact ⟨rfl, HB.out⟩
  have d2 : decide ((z.length : Int) > 50) = false := decide_eq_false (by omega)
  have H2 := Aside0.mk h2
  clear h2
  go_enter Tryd.func3, Tryd.ntmps3
  go_wp2_with (first | (go_at_call 5; refine HA.out.mono ?_; rintro e w1 ⟨rfl, hb⟩; have HB1 := Aside0.mk hb; clear hb) | (go_at_call 6; refine (digits_any n HN.out _).mono ?_; rintro e w2 ⟨rfl, hb⟩; have HB2 := Aside0.mk (HB1.out.trans (hb.mono HB1.out.size)); clear hb HB1))
  have HR0 := Aside0.mk (made_strs w2 w.heap.size HB2.out.size [a, dec n] (show 2 ≤ 1000 by decide))
  have HB3 := Aside0.mk (HB2.out.alloc HB2.out.size (.cells (([a, dec n] : List ByteArray).map Value.string).toArray 9))
  have hw3 : (w2.alloc (.cells #[.string a, .string (dec n)] 9)) = (w2.alloc (.cells (([a, dec n] : List ByteArray).map Value.string).toArray 9)) := rfl
  rw [hw3]
  clear hw3
  generalize (w2.alloc (.cells (([a, dec n] : List ByteArray).map Value.string).toArray 9)) = w3 at HR0 HB3 ⊢
  clear d1 d2 HB2
  go_loopw [9, 28] (fun v9 v28 wr => ∃ k : Nat, v28 = .int .i64 k ∧ k ≤ z.length ∧ Aside0 (Kd.string.R 9 wr w.heap.size (fun _ => True) v9 ([a, dec n] ++ (z.take k).map dec)) ∧ Aside0 (Below w.heap.size w wr)) (fun _ v28 _ => z.length - (intOf v28).toNat)
  case atStart => exact ⟨0, rfl, Nat.zero_le _, HR0, HB3⟩
  case round =>
    clear HR0 HB3
    obtain ⟨k, rfl, hk, HR, HB⟩ := hrel
    have HK := Aside0.mk hk
    clear hk
    have h2' := H2.out
    by_cases hlt : k < z.length
    · obtain ⟨ad, eA, hcl⟩ := Kd.at_int (Kd.C_below HC.out HB.out) (k : Int) (Int.natCast_nonneg _) (by omega)
      have hrd : rd z (k : Int) = z[k] := by unfold rd; rw [Int.toNat_natCast, List.getD_eq_getElem?_getD, List.getElem?_eq_getElem hlt]; rfl
      rw [hrd, Int.toNat_natCast] at hcl
      have HX := Aside0.mk (HZ.out z[k] (List.getElem_mem hlt))
      have HO := Aside0.mk (show (z.take (k + 1)).map dec = (z.take k).map dec ++ [dec z[k]] by rw [List.take_succ_eq_append_getElem hlt, List.map_append]; rfl)
      cases eA
      clear hrd
      generalize z[k] = x at hcl HX HO
      have q1 : decide ((k : Int) < (z.length : Int)) = true := decide_eq_true (by omega)
      have q2 : (0 ≤ (k : Int)) = True := eq_true (Int.natCast_nonneg _)
      have HLT := Aside0.mk hlt
      have HLEN := Aside0.mk (show (([a, dec n] ++ (z.take k).map dec).length + 1) * 16 ≤ 140737488355328 by rw [List.length_append, List.length_map, List.length_take]; simp only [List.length_cons, List.length_nil]; omega)
      go_wp2_with (first | (go_at_call 6; refine (digits_any x HX.out _).mono ?_; rintro e w5 ⟨rfl, hb⟩; have HR2 := Aside0.mk (Kd.R_below HR.out hb); have HB2 := Aside0.mk (HB.out.trans (hb.mono HB.out.size)); clear hb HR HB) | ((with_reducible refine gate_builtin (b := .append) (xs := #[.tmp 32, .tmp 35]) rfl ?_); at_builtin; refine Kd.R_append Kd.string (w0 := w) w.heap.size rfl (.tmp 32) (.tmp 35) 25 9 (.string ByteArray.empty) 16 rfl Tryd.underlying25 info9 rfl (by decide) (by decide) u9 ([a, dec n] ++ (z.take k).map dec) (dec x) [.string (dec x)] (fun _ => True) (fun _ => False) rfl rfl rfl (fun _ hk => hk.elim) (fun _ _ => trivial) HR2.out HB2.out HB2.out.size HLEN.out ?_; intro v1 w1 ho hb hg hat; have HR1 := Aside0.mk ho; have HB1 := Aside0.mk hb; clear ho hb hg hat HR2 HB2))
      go_roundw
      case rel => exact ⟨k + 1, by go_num, HLT.out, ⟨by rw [HO.out, ← List.append_assoc]; exact HR1.out⟩, HB1⟩
      case measure => have := HLT.out; simp [intOf]; omega
    · obtain rfl : k = z.length := by have := HK.out; omega
      rw [List.take_length] at HR
      have q1 : decide ((z.length : Int) < (z.length : Int)) = false := decide_eq_false (Int.lt_irrefl _)
      have HLEN := Aside0.mk (show (([a, dec n] ++ z.map dec).length + 1) * 16 ≤ 140737488355328 by rw [List.length_append, List.length_map]; simp only [List.length_cons, List.length_nil]; omega)
      clear hlt h2'
      go_wp2_with (first | ((with_reducible refine gate_builtin (b := .append) (xs := #[.tmp 38, .tmp 40]) rfl ?_); at_builtin; refine Kd.R_append Kd.string (w0 := w) w.heap.size rfl (.tmp 38) (.tmp 40) 25 9 (.string ByteArray.empty) 16 rfl Tryd.underlying25 info9 rfl (by decide) (by decide) u9 ([a, dec n] ++ z.map dec) a [.string a] (fun _ => True) (fun _ => False) rfl rfl rfl (fun _ hk => hk.elim) (fun _ _ => trivial) HR.out HB.out HB.out.size HLEN.out ?_; intro v1 w5 ho hb hg hat; obtain ⟨A9, c9, rfl⟩ := Kd.R_slice ho; have HR1 := Aside0.mk ho; have HB1 := Aside0.mk hb; clear ho hb hg hat HR HB) | (go_at_call 7; refine Hold.out ?_))
      refine ⟨?_⟩
      have HW := Aside0.mk (made_its w5 0 (Nat.zero_le _) (wantIts a n A c z) (show 4 ≤ 1000 by decide))
      have HB2 := Aside0.mk (HB1.out.alloc HB1.out.size (.cells ((wantIts a n A c z).map It.val).toArray 20))
      have HR2 := Aside0.mk (Kd.R_alloc HR1.out (.cells ((wantIts a n A c z).map It.val).toArray 20))
      show Calls Tryd.prog 7 #[.slice (some ⟨w5.heap.size, 0, none⟩) 4 4] (w5.alloc (.cells ((wantIts a n A c z).map It.val).toArray 20)) _
      have hW := Kd.R_reads' HW.out
      generalize (w5.alloc (.cells ((wantIts a n A c z).map It.val).toArray 20)) = w6 at hW HB2 HR2 ⊢
      have hok : ∀ x ∈ wantIts a n A c z, x.ok w6 := by
        intro x hx
        simp only [wantIts, List.mem_cons, List.not_mem_nil, or_false] at hx
        rcases hx with rfl | rfl | rfl | rfl
        · trivial
        · exact HN.out
        · exact ⟨Kd.C_below HC.out HB2.out, HCC.out, HZ.out⟩
        · trivial
      have hlo : (want a n z).length ≤ 100 := by have := H2.out; simp [want]; omega
      have hjs := want_join a n z (by have := H1.out; omega) HN.out HZ.out (by have := H2.out; omega)
      have hcall := words_n 4 (some ⟨w5.heap.size, 0, none⟩) 4 (wantIts a n A c z) rfl w6 (HT.out.below HB2.out) hW.2.2 hW.2.1 (show 4 ≤ 1000 by decide) hok (by rw [want_outs]; omega) (by rw [want_outs]; omega)
      rw [want_outs] at hcall
      refine hcall.mono ?_
      rintro e w7 ⟨rfl, hb⟩
      have HR3 := Aside0.mk (Kd.R_below HR2.out hb)
      have HB3 := Aside0.mk (HB2.out.trans (hb.mono HB2.out.size))
      have HJS := Aside0.mk hjs
      have HLO := Aside0.mk hlo
      clear hcall hjs hlo hok hW hb HR2 HB2 HW HR1 HB1
      go_wp2_with (go_at_call 8; refine Hold.out ?_)
      refine ⟨?_⟩
      have HR4 := Kd.R_reads' HR3.out
      refine (refjoin_n _ A9 c9 (want a n z) (by simp [want]) w7 HR4.2.2 HR4.2.1 HLO.out (by have := HJS.out; omega)).mono ?_
      rintro e w8 ⟨rfl, hd⟩
      have HB4 := Aside0.mk (HB3.out.trans (hd.below.mono HB3.out.size))
      clear hd HR4 HR3 HB3
      generalize joinB (want a n z) blank = jj
      go_wp2_with (go_at_call 7; refine Hold.out ?_)
      refine ⟨?_⟩
      refine (words_n 0 none 0 [] rfl w8 (HT.out.below HB4.out) (its_nil _) (Nat.le_refl _) (by decide) (fun x hx => absurd hx List.not_mem_nil) (by decide) (by decide)).mono ?_
      rintro e w9 ⟨rfl, hb⟩
      have HB5 := Aside0.mk (HB4.out.trans (hb.mono HB4.out.size))
      have ej : joinB (outs []) blank = ⟨#[]⟩ := rfl
      rw [ej]
      have HS := Aside0.mk (rword_say e3)
      clear hb ej HB4
      obtain ⟨rr, hrr⟩ : ∃ rr, rr = rword e3 := ⟨_, rfl⟩
      rw [← hrr] at HS
      have HRW := Aside0.mk hrr
      clear hrr
      go_wp2_with (first | (go_at_call 9; refine (say_Word.calls e3 rr _ HS.out).mono ?_; rintro e w10 ⟨rfl, hd⟩; have HB6 := Aside0.mk (HB5.out.trans (hd.below.mono HB5.out.size)); clear hd HB5) | (go_at_call 10; refine (rword_any e3 _).mono ?_; rintro e w11 ⟨rfl, hb⟩; rw [← HRW.out]; have HB7 := Aside0.mk (HB6.out.trans (hb.mono HB6.out.size)); clear hb HB6))
      go_ret
      exact ⟨rfl, HB7.out⟩
end Go.Proofs.YthpfekjbfhldcaaDoor.SayP
