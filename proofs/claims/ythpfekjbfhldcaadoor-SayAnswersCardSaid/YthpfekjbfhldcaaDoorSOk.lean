/- Ok, Wrong, With and Text walked. -/
import Derived.Test.YthpfekjbfhldcaaDoorSWords
namespace Go.Proofs.YthpfekjbfhldcaaDoor.SayP
open Go Go.RowKit Go.Proofs Go.Proofs.YthpfekjbfhldcaaDoorW.PrintWords Go.Proofs.YthpfekjbfhldcaaDoorW.PrintLast Go.Proofs.YthpfekjbfhldcaaDoorW.PrintMore
set_option linter.unusedVariables false
set_option linter.unusedSimpArgs false
theorem info20 : (Tryd.prog.info? 20).map (fun i => (i.zero, i.size, i.bytes)) = some (some .nilIface, 1, 16) := by kernel_rfl
theorem made_str (W : World) (base : Nat) (hb : base ≤ W.heap.size) (r : ByteArray) : Kd.string.R 9 (W.alloc (.cells #[.string r] 9)) base (fun _ => True) (.slice (some ⟨W.heap.size, 0, none⟩) 1 1) [r] :=
  Kd.R_of_own (enc := Value.string) (h1 := fun _ => rfl) (own_lit_of (enc := Value.string) W base 9 [r] hb (by simp)) (fun _ _ => trivial)
theorem made_its (W : World) (base : Nat) (hb : base ≤ W.heap.size) (l : List It) (hl : l.length ≤ 1000) : itK.R 20 (W.alloc (.cells (l.map It.val).toArray 20)) base (fun _ => True) (.slice (some ⟨W.heap.size, 0, none⟩) l.length l.length) l :=
  Kd.R_of_own (enc := It.val) (h1 := It.one) (own_lit_of (enc := It.val) W base 20 l hb (by omega)) (fun _ _ => trivial)
theorem ok_app {w w' : World} {m l : List It} (hm : ∀ x ∈ m, x.ok w') (hl : ∀ x ∈ l, x.ok w) (hb : Below w.heap.size w w') : ∀ x ∈ m ++ l, x.ok w' := by
  intro x hx
  rcases List.mem_append.1 hx with h | h
  · exact hm x h
  · exact It.ok_below (hl x h) hb
theorem ok_one (w : World) (b : ByteArray) : ∀ x ∈ [It.s b], x.ok w := by
  intro x hx
  rw [List.mem_singleton.1 hx]
  trivial
theorem ok_two (w : World) (a b : ByteArray) : ∀ x ∈ [It.s a, It.s b], x.ok w := by
  intro x hx
  simp only [List.mem_cons, List.not_mem_nil, or_false] at hx
  rcases hx with rfl | rfl <;> trivial
theorem words_n (n : Nat) (A : Option Addr) (c : Nat) (l : List It) (hn' : n = l.length) (w : World) (hT : Tab w) (hC : itK.C w A l.length l) (hc : l.length ≤ c) (hl : l.length ≤ 1000) (hok : ∀ x ∈ l, x.ok w) (hn : (outs l).length ≤ 1000) (hj : (joinB (outs l) blank).size ≤ 140737488355328) :
    Calls Tryd.prog 7 #[.slice A n c] w fun e w' => e = .returned (.string (joinB (outs l) blank)) ∧ Below w.heap.size w w' := by
  subst hn'
  exact words_any A c l w hT hC hc hl hok hn hj
def okS : ByteArray := ⟨#[111, 107]⟩
def errS : ByteArray := ⟨#[101, 114, 114, 111, 114]⟩
set_option maxHeartbeats 8000000 in
set_option maxRecDepth 100000 in
theorem ok_any (A : Option Addr) (c : Nat) (l : List It) (w : World) (hT : Tab w) (hC : itK.C w A l.length l) (hc : l.length ≤ c) (hl : l.length ≤ 900) (hok : ∀ x ∈ l, x.ok w) (hn : (outs l).length ≤ 900) (hj : (joinB (okS :: outs l) blank).size ≤ 140737488355328) :
    Calls Tryd.prog 11 #[.slice A l.length c] w fun e w' => ∃ v, e = .returned v ∧ Kd.string.R 9 w' w.heap.size (fun _ => True) v [joinB (okS :: outs l) blank] ∧ Below w.heap.size w w' := by
  have HB := Aside0.mk (Below.refl w.heap.size w)
  have H0 := Aside0.mk (made_its w w.heap.size (Nat.le_refl _) [It.s okS] (by simp))
  have HB0 := Aside0.mk ((Below.refl w.heap.size w).alloc (Nat.le_refl _) (.cells #[.iface 9 (.string okS)] 20))
  have HC := Aside0.mk (Kd.C_below hC HB0.out)
  have HCC := Aside0.mk hc
  have HT := Aside0.mk hT
  have HOK := Aside0.mk hok
  have HN := Aside0.mk hn
  have HJ := Aside0.mk hj
  have HL := Aside0.mk hl
  clear hC hc hT hok hn hj hl
  go_enter Tryd.func11, Tryd.ntmps11
  go_wp2_with (first | ((with_reducible refine gate_builtin (b := .append) (xs := #[.tmp 4, .tmp 5]) rfl ?_); at_builtin; refine Kd.R_append_rows itK (Rr := itK.K _) (w0 := w) w.heap.size rfl (.tmp 4) (.tmp 5) 39 20 .nilIface 16 rfl Tryd.underlying39 info20 rfl (by decide) (by decide) _ [It.s okS] l A l.length c (fun _ => True) (fun _ => False) rfl rfl H0.out HC.out (fun _ _ h => h) (fun _ hk => hk.elim) (fun _ _ => trivial) HB0.out HB0.out.size ?cl ?_; (case cl => have := HL.out; simp only [List.length_singleton]; omega); intro v1 w1 ho hb hg hat; obtain ⟨A1, c1, rfl⟩ := Kd.R_slice ho; have HR1 := Aside0.mk (Kd.R_reads' ho); have HB1 := Aside0.mk hb; clear ho hb hg hat) | (go_at_call 7; refine (words_n _ A1 c1 ([It.s okS] ++ l) (by simp) _ (HT.out.below HB1.out) HR1.out.2.2 HR1.out.2.1 ?q1 ?q2 ?q3 HJ.out).mono ?_; (case q1 => have := HL.out; simp; omega); (case q2 => exact ok_app (ok_one _ _) HOK.out HB1.out); (case q3 => have := HN.out; show (outs l).length + 1 ≤ _; omega); rintro e w2 ⟨rfl, hb2⟩; have HB2 := Aside0.mk (HB1.out.trans (hb2.mono HB1.out.size)); clear hb2))
  go_ret
  exact ⟨_, rfl, made_str _ _ HB2.out.size _, HB2.out.alloc HB2.out.size _⟩
set_option maxHeartbeats 8000000 in
set_option maxRecDepth 100000 in
theorem wrong_any (e0 : Int) (r0 : ByteArray) (h0 : say_Word.f e0 = some r0) (A : Option Addr) (c : Nat) (l : List It) (w : World) (hT : Tab w) (hC : itK.C w A l.length l) (hc : l.length ≤ c) (hl : l.length ≤ 900) (hok : ∀ x ∈ l, x.ok w) (hn : (outs l).length ≤ 900) (hj : (joinB (errS :: r0 :: outs l) blank).size ≤ 140737488355328) :
    Calls Tryd.prog 13 #[.int .i64 e0, .slice A l.length c] w fun e w' => ∃ v, e = .returned v ∧ Kd.string.R 9 w' w.heap.size (fun _ => True) v [joinB (errS :: r0 :: outs l) blank] ∧ Below w.heap.size w w' := by
  have H00 := Aside0.mk h0
  clear h0
  have HB := Aside0.mk (Below.refl w.heap.size w)
  have HC := Aside0.mk hC
  have HCC := Aside0.mk hc
  have HT := Aside0.mk hT
  have HOK := Aside0.mk hok
  have HN := Aside0.mk hn
  have HJ := Aside0.mk hj
  have HL := Aside0.mk hl
  clear hC hc hT hok hn hj hl
  go_enter Tryd.func13, Tryd.ntmps13
  go_wp2_with (first | (go_at_call 9; refine (say_Word.calls e0 r0 _ H00.out).mono ?_; rintro e w0 ⟨rfl, hd⟩; have HB0 := Aside0.mk (hd.below); clear hd; have H0 := Aside0.mk (made_its w0 w.heap.size HB0.out.size [It.s errS, It.s r0] (by simp)); have HB2 := Aside0.mk (HB0.out.alloc HB0.out.size (.cells #[.iface 9 (.string errS), .iface 9 (.string r0)] 20)); have HC2 := Aside0.mk (Kd.C_below HC.out HB2.out)) | ((with_reducible refine gate_builtin (b := .append) (xs := #[.tmp 9, .tmp 10]) rfl ?_); at_builtin; refine Kd.R_append_rows itK (Rr := itK.K _) (w0 := w) w.heap.size rfl (.tmp 9) (.tmp 10) 39 20 .nilIface 16 rfl Tryd.underlying39 info20 rfl (by decide) (by decide) _ [It.s errS, It.s r0] l A l.length c (fun _ => True) (fun _ => False) rfl rfl H0.out HC2.out (fun _ _ h => h) (fun _ hk => hk.elim) (fun _ _ => trivial) HB2.out HB2.out.size ?cl ?_; (case cl => have := HL.out; simp only [List.length_cons, List.length_nil]; omega); intro v1 w1 ho hb hg hat; obtain ⟨A1, c1, rfl⟩ := Kd.R_slice ho; have HR1 := Aside0.mk (Kd.R_reads' ho); have HB1 := Aside0.mk hb; clear ho hb hg hat) | (go_at_call 7; refine (words_n _ A1 c1 ([It.s errS, It.s r0] ++ l) (by simp) _ (HT.out.below HB1.out) HR1.out.2.2 HR1.out.2.1 ?q1 ?q2 ?q3 HJ.out).mono ?_; (case q1 => have := HL.out; simp; omega); (case q2 => exact ok_app (ok_two _ _ _) HOK.out HB1.out); (case q3 => have := HN.out; show (outs l).length + 1 + 1 ≤ _; omega); rintro e w2 ⟨rfl, hb2⟩; have HB3 := Aside0.mk (HB1.out.trans (hb2.mono HB1.out.size)); clear hb2))
  go_ret
  exact ⟨_, rfl, made_str _ _ HB3.out.size _, HB3.out.alloc HB3.out.size _⟩
def dash (b : ByteArray) : ByteArray := (⟨#[45, 32]⟩ : ByteArray) ++ b
set_option maxHeartbeats 8000000 in
set_option maxRecDepth 100000 in
theorem with_any (A1 : Option Addr) (c1 : Nat) (a : List ByteArray) (A2 : Option Addr) (c2 : Nat) (l : List ByteArray) (w : World) (hA : Kd.string.C w A1 a.length a) (hC : Kd.string.C w A2 l.length l) (hc : l.length ≤ c2) (hl : l.length ≤ 900) (hl1 : a.length ≤ 900) (hs : ∀ x ∈ l, x.size ≤ 1000000) :
    Calls Tryd.prog 12 #[.slice A1 a.length c1, .slice A2 l.length c2] w fun e w' => ∃ v, e = .returned v ∧ Kd.string.R 9 w' w.heap.size (fun _ => True) v (l.map dash ++ a) ∧ Below w.heap.size w w' := by
  have HA := Aside0.mk hA
  have HC := Aside0.mk hC
  have HS := Aside0.mk hs
  obtain ⟨i9, hi9, hz9⟩ := Option.map_eq_some_iff.1 info9
  simp only [Prod.mk.injEq] at hz9
  obtain ⟨z1, z2, z3⟩ := hz9
  have hmk : ∀ W : World, (Instr.makeSlice 32 (.int .i64 0) (.int .i64 ((l.length : Int) + (a.length : Int)))).run Tryd.prog W = .ok (.slice (some ⟨W.heap.size, 0, none⟩) 0 (l.length + a.length)) (W.alloc (.cells (madeCells #[Value.string ByteArray.empty] (l.length + a.length)) 9)) := by
    intro W
    have h := run_make (P := Tryd.prog) W 32 9 i9 (.string ByteArray.empty) Tryd.underlying32 hi9 z1 .i64 .i64 0 ((l.length : Int) + (a.length : Int)) (Int.le_refl _) (by omega) (by rw [z3]; omega) (by omega)
    rw [z2, Nat.mul_one, show ((l.length : Int) + (a.length : Int)).toNat = l.length + a.length by omega] at h
    exact h
  have H0 : Aside0 (Kd.string.R 9 (w.alloc (.cells (madeCells #[Value.string ByteArray.empty] (l.length + a.length)) 9)) w.heap.size (fun _ => True) (.slice (some ⟨w.heap.size, 0, none⟩) 0 (l.length + a.length)) []) :=
    ⟨Kd.R_of_own (enc := Value.string) (h1 := fun _ => rfl) (World.ownsRow_made w _ (l.length + a.length) (Nat.le_refl _) (by unfold maxLen; omega) ((size_madeCells _ _).trans (Nat.mul_one _).symm)) (fun _ _ => trivial)⟩
  have HB0 := Aside0.mk ((Below.refl w.heap.size w).alloc (Nat.le_refl _) (.cells (madeCells #[Value.string ByteArray.empty] (l.length + a.length)) 9))
  have HL := Aside0.mk hl
  have HL1 := Aside0.mk hl1
  clear hA hC hs hi9 z1 z2 z3 hc
  go_enter Tryd.func12, Tryd.ntmps12
  go_wp2
  generalize w.alloc (.cells (madeCells #[Value.string ByteArray.empty] (l.length + a.length)) 9) = w1 at H0 HB0 ⊢
  clear hmk
  go_loopw [5, 16] (fun v5 v16 wr => ∃ k : Nat, v16 = .int .i64 k ∧ k ≤ l.length ∧ Aside0 (Kd.string.R 9 wr w.heap.size (fun _ => True) v5 ((l.take k).map dash)) ∧ Aside0 (Below w.heap.size w wr)) (fun _ v16 _ => l.length - (intOf v16).toNat)
  case atStart => exact ⟨0, rfl, Nat.zero_le _, H0, HB0⟩
  case round =>
    clear H0 HB0
    obtain ⟨k, rfl, hk, HR, HB⟩ := hrel
    have HK := Aside0.mk hk
    clear hk
    by_cases hlt : k < l.length
    · obtain ⟨ad, eA, hc⟩ := Kd.at_string (Kd.C_below HC.out HB.out) (k : Int) (Int.natCast_nonneg _) (by omega)
      have hrd : rdOf ByteArray.empty l (k : Int) = l[k] := by unfold rdOf; rw [Int.toNat_natCast, List.getD_eq_getElem?_getD, List.getElem?_eq_getElem hlt]; rfl
      rw [hrd, Int.toNat_natCast] at hc
      have HO := Aside0.mk (show (l.take (k + 1)).map dash = (l.take k).map dash ++ [dash l[k]] by rw [List.take_succ_eq_append_getElem hlt, List.map_append]; rfl)
      have hsz := HS.out l[k] (List.getElem_mem hlt)
      cases eA
      clear hrd
      generalize l[k] = x at hc HO hsz
      have HLT := Aside0.mk hlt
      have hq1 : decide ((k : Int) < (l.length : Int)) = true := decide_eq_true (by omega)
      have hq2 : (0 ≤ (k : Int)) = True := eq_true (Int.natCast_nonneg _)
      have hq3 : (9223372036854775807 < 2 + x.size) = False := eq_false (by omega)
      have HLEN := Aside0.mk (show (((l.take k).map dash).length + 1) * 16 ≤ 140737488355328 by rw [List.length_map, List.length_take]; omega)
      go_wp2_with (first | ((with_reducible refine gate_builtin (b := .append) (xs := #[.tmp 20, .tmp 23]) rfl ?_); at_builtin; refine Kd.R_append Kd.string (w0 := w) w.heap.size rfl (.tmp 20) (.tmp 23) 32 9 (.string ByteArray.empty) 16 rfl Tryd.underlying32 info9 rfl (by decide) (by decide) u5 ((l.take k).map dash) (dash x) [.string (dash x)] (fun _ => True) (fun _ => False) rfl rfl rfl (fun _ hk => hk.elim) (fun _ _ => trivial) HR.out HB.out HB.out.size HLEN.out ?_; intro v1 w1 ho hb hg hat; have HR1 := Aside0.mk ho; have HB1 := Aside0.mk hb; clear ho hb hg hat HR HB))
      go_roundw
      case rel => exact ⟨k + 1, by go_num, HLT.out, ⟨by rw [HO.out]; exact HR1.out⟩, HB1⟩
      case measure => have := HLT.out; simp [intOf]; omega
    · obtain rfl : k = l.length := by have := HK.out; omega
      clear hlt
      rw [List.take_length] at HR
      have HA2 := Aside0.mk (Kd.C_below HA.out HB.out)
      go_wp2_with (first | ((with_reducible refine gate_builtin (b := .append) (xs := #[.tmp 26, .tmp 27]) rfl ?_); at_builtin; refine Kd.R_append_rows Kd.string (Rr := Kd.string.K _) (w0 := w) w.heap.size rfl (.tmp 26) (.tmp 27) 32 9 (.string ByteArray.empty) 16 rfl Tryd.underlying32 info9 rfl (by decide) (by decide) _ (l.map dash) a A1 a.length c1 (fun _ => True) (fun _ => False) rfl rfl HR.out HA2.out (fun _ _ h => h) (fun _ hk => hk.elim) (fun _ _ => trivial) HB.out HB.out.size ?cl ?_; (case cl => have := HL.out; have := HL1.out; rw [List.length_map]; omega); intro v1 w1 ho hb hg hat; have HR1 := Aside0.mk ho; have HB1 := Aside0.mk hb; clear ho hb hg hat))
      go_ret
      exact ⟨_, rfl, HR1.out, HB1.out⟩
def nl : ByteArray := ⟨#[10]⟩
def textA (l : List ByteArray) : ByteArray := if l.length = 0 then ByteArray.empty else joinB l nl ++ nl
set_option maxHeartbeats 8000000 in
set_option maxRecDepth 100000 in
theorem text_any (e base : Nat) (ok : Nat → Prop) (v : Value) (xs : List ByteArray) (w : World) (hR : Kd.string.R e w base ok v xs) (hN : xs.length ≤ 1000) (hlen : (joinB xs nl).size ≤ 140737488355328) :
    Calls Tryd.prog 15 #[v] w fun e w' => e = .returned (.string (textA xs)) ∧ Below w.heap.size w w' := by
  have HX := Aside0.mk (join_any e base ok v xs nl w hR (by omega) hlen)
  obtain ⟨A, c, rfl⟩ := Kd.R_slice hR
  have HB := Aside0.mk (Below.refl w.heap.size w)
  unfold textA
  clear hR
  by_cases h0 : xs.length = 0
  · rw [if_pos h0]
    rw [h0]
    go_enter Tryd.func15, Tryd.ntmps15
    go_wp2
    go_ret
    exact ⟨rfl, HB.out⟩
  · rw [if_neg h0]
    have d1 : ((xs.length : Int) == 0) = false := by rw [beq_eq_false_iff_ne]; omega
    have d2 : (9223372036854775807 < (joinB xs nl).size + 1) = False := eq_false (by omega)
    clear h0
    go_enter Tryd.func15, Tryd.ntmps15
    go_wp2_with (go_at_call 18; refine HX.out.mono ?_; rintro e w2 ⟨rfl, hb2⟩; have HB2 := Aside0.mk hb2; clear hb2)
    go_ret
    exact ⟨rfl, HB2.out⟩
end Go.Proofs.YthpfekjbfhldcaaDoor.SayP
