/- FrameBack walked. -/
import Derived.Test.YtlnllcgepplneaaFAnch
namespace Go.Proofs.Ytlnllcgepplneaa.MFrameLines
open Go.RowKit Go.Proofs Go.Proofs.YtlnllcgepplneaaW.PrintWords Go.Proofs.YtlnllcgepplneaaW.PrintLast Go.Proofs.YtlnllcgepplneaaW.PrintMore
set_option linter.unusedVariables false
set_option linter.unusedSimpArgs false
def flat (l : List ByteArray) : List Int := l.flatMap fun s => bytesOf s ++ [10]
/-- A text that is a line as it stands. -/
def Good (s : ByteArray) : Prop := s.size ≤ 400 ∧ (bytesOf s).any oddI = false
theorem flat_snoc (l : List ByteArray) (s : ByteArray) : flat (l ++ [s]) = flat l ++ bytesOf s ++ [10] := by
  unfold flat
  simp
theorem flat_lines : ∀ (l : List ByteArray), (∀ s ∈ l, Good s) → linesOf [] (flat l) = (l.map (fun s => (⟨s, 0⟩ : S35)), [])
  | [], _ => rfl
  | s :: r, h => by
    obtain ⟨h1, h2⟩ := h s List.mem_cons_self
    have h10 : ∀ x ∈ bytesOf s, x ≠ 10 := by
      intro x hx e
      have := List.any_eq_false.1 h2 x hx
      subst e
      exact this (by decide)
    have e : lineOf (bytesOf s) = ⟨s, 0⟩ := by
      unfold lineOf
      rw [bytesOf_length, if_neg (by omega), h2, str_bytes]
      rfl
    have ih := flat_lines r (fun y hy => h y (List.mem_cons_of_mem _ hy))
    show linesOf [] (bytesOf s ++ [10] ++ flat r) = _
    rw [List.append_assoc, linesOf_append, linesOf_none _ _ h10, List.cons_append, List.nil_append, linesOf, if_pos rfl]
    simp only [List.nil_append, e, ih]
    rfl
theorem flat_length : ∀ (l : List ByteArray), (∀ s ∈ l, Good s) → (flat l).length ≤ 401 * l.length
  | [], _ => by simp [flat]
  | s :: r, h => by
    have h1 := (h s List.mem_cons_self).1
    have ih := flat_length r (fun y hy => h y (List.mem_cons_of_mem _ hy))
    show (bytesOf s ++ [10] ++ flat r).length ≤ _
    rw [List.length_append, List.length_append, bytesOf_length, List.length_cons]
    simp
    omega
theorem flat_byt (l : List ByteArray) : Byt (flat l) := by
  intro x hx
  unfold flat at hx
  obtain ⟨s, _, hx⟩ := List.mem_flatMap.1 hx
  rcases List.mem_append.1 hx with hx | hx
  · exact byt_bytes s x hx
  · have := List.mem_singleton.1 hx
    omega
theorem line_bad (s : ByteArray) (h : s.size ≤ 400) (h2 : (bytesOf s).any oddI = true) : whirligigref34_Line.f (s.size + 1) s = some (⟨#[]⟩, 11) := by
  rw [line_f s _ (by omega) (by omega)]
  unfold lineOf
  rw [bytesOf_length, if_neg (by omega), if_pos h2]
theorem line_good (s : ByteArray) (h : Good s) : whirligigref34_Line.f (s.size + 1) s = some (s, 0) := by
  rw [line_f s _ (by omega) (by have := h.1; omega)]
  unfold lineOf
  rw [bytesOf_length, if_neg (by have := h.1; omega), h.2, str_bytes]
  rfl
theorem fld (a b : Value) (W : World) : (Instr.field 26 (.agg #[a, b]) 1).run Try.prog W = .ok b W := by
  first | rfl | (simp [Instr.field, Try.underlying26, run_underlying Try.underlying26]; done) | (unfold Instr.field; simp [run_underlying Try.underlying26]; rfl)
set_option maxHeartbeats 4000000 in
set_option maxRecDepth 100000 in
theorem back_any (A : Option Addr) (c : Nat) (l : List ByteArray) (w : World) (hr : Kd.C Kd.string w A l.length l) (hc : l.length ≤ c) :
    Calls Try.prog 3 #[.slice A l.length c] w fun e w' => e = .returned (.bool true) ∧ Below w.heap.size w w' := by
  have hfd := fld
  have HR := Aside0.mk hr
  clear hr
  go_enter Try.func3, Try.ntmps3
  go_wp2_with (go_at_call 5; refine (anchor_any _).mono ?_; rintro e w1 ⟨rfl, hb⟩; have HB := Aside0.mk hb; clear hb)
  · go_ret
    exact ⟨rfl, HB.out⟩
  · have hl : l.length ≤ 60 := by omega
    have HLL := Aside0.mk hl
    clear hl
    go_loopw [3, 16] (fun s3 s16 wr => ∃ i : Nat, s16 = .int .i64 i ∧ i ≤ l.length ∧ Aside0 (Kd.R (Kd.int .u8) 5 wr w.heap.size (fun _ => True) s3 (flat (l.take i))) ∧ Aside0 (Below w.heap.size w wr) ∧ Aside0 (∀ s ∈ l.take i, Good s)) (fun _ s16 _ => l.length - (intOf s16).toNat)
    case atStart => exact ⟨0, rfl, Nat.zero_le _, ⟨Kd.R_nil _ _ _ _ _⟩, HB, ⟨fun s hs => by simp at hs⟩⟩
    case round =>
      clear HB
      obtain ⟨i, rfl, hin, HS, HB, HG⟩ := hrel
      by_cases hlt : i < l.length
      · have hn4 : (i : Int) < (l.length : Int) := by omega
        have p4 : (0 : Int) ≤ (i : Int) := Int.natCast_nonneg _
        obtain ⟨ad, hA, hx⟩ := Kd.at_string (Kd.C_below HR.out HB.out) (i : Int) p4 hn4
        subst hA
        have htk : l.take (i + 1) = l.take i ++ [rdOf ByteArray.empty l (i : Int)] := by
          rw [List.take_succ_eq_append_getElem hlt]
          simp [rdOf, List.getD_eq_getElem?_getD, hlt]
        rw [Int.toNat_natCast] at hx
        generalize rdOf ByteArray.empty l (i : Int) = s at hx htk
        have HTK := Aside0.mk htk
        have hwk : IntKind.i64.wrap ((i : Int) + 1) = (i : Int) + 1 := by have := HLL.out; rw [IntKind.wrap_i64]; omega
        clear htk hin
        by_cases h4 : s.size ≤ 400
        · by_cases h5 : (bytesOf s).any oddI = true
          · have hline := fun W => whirligigref34_Line.calls (s.size + 1) s _ _ W (line_bad s h4 h5)
            have h4' : decide ((s.size : Int) > 400) = false := decide_eq_false (by omega)
            clear h4 h5
            go_wp2_with (go_at_call 6; refine (hline _).mono ?_; rintro e w6 ⟨rfl, hb⟩; have HB6 := Aside0.mk (below_step HB.out hb); clear hb)
            go_ret
            exact ⟨rfl, HB6.out⟩
          · have hgood : Good s := ⟨h4, by simpa using h5⟩
            have hline := fun W => whirligigref34_Line.calls (s.size + 1) s _ _ W (line_good s hgood)
            have h4' : decide ((s.size : Int) > 400) = false := decide_eq_false (by omega)
            have HGD := Aside0.mk hgood
            have hlen : (flat (l.take i)).length ≤ 401 * 60 := by
              have := flat_length (l.take i) HG.out
              rw [List.length_take] at this
              have := HLL.out
              omega
            have HLEN := Aside0.mk hlen
            clear h4 h5 hgood hlen
            go_wp2_with (first
              | (go_at_call 6; refine (hline _).mono ?_; rintro e w6 ⟨rfl, hb⟩; have HB6 := Aside0.mk (below_step HB.out hb); have HS6 := Aside0.mk (Kd.R_below HS.out hb); clear hb)
              | ((with_reducible refine gate_builtin (b := .append) (xs := #[.tmp 29, .tmp 30]) rfl ?_); at_builtin; refine print_append_str (w0 := w) w.heap.size rfl (.tmp 29) (.tmp 30) 24 9 5 rfl Try.underlying24 Try.underlying9 info5 u3 (flat (l.take i)) s rfl rfl (Kd.own_of_R HS6.out) HB6.out HB6.out.size (by have := HLEN.out; have := HGD.out.1; omega) ?_; intro v7 w7 ho hb hg; have HS7 := Aside0.mk (Kd.R_of_own (h1 := fun _ => rfl) (ok := fun _ => True) ho (fun _ _ => trivial)); have HB7 := Aside0.mk hb; clear ho hb hg)
              | ((with_reducible refine gate_builtin (b := .append) (xs := #[.tmp 31, .tmp 32]) rfl ?_); at_builtin; refine Kd.R_append (Kd.int .u8) (w0 := w) w.heap.size rfl (.tmp 31) (.tmp 32) 24 5 (.int .u8 0) 1 rfl Try.underlying24 info5 rfl (by decide) (by omega) v7 (flat (l.take i) ++ bytesOf s) 10 [.int .u8 10] (fun _ => True) (fun _ => False) rfl rfl rfl (fun _ hk => hk.elim) (fun _ _ => trivial) HS7.out HB7.out HB7.out.size (by have := HLEN.out; have := HGD.out.1; rw [List.length_append, bytesOf_length]; omega) ?_; intro v8 w8 ho hb hg hat; have HS8 := Aside0.mk ho; have HB8 := Aside0.mk hb; clear ho hb hg hat))
            go_roundw
            case rel => exact ⟨i + 1, by go_num, hlt, ⟨by rw [HTK.out, flat_snoc]; exact HS8.out⟩, HB8, ⟨fun x hx => by
              rw [HTK.out] at hx
              rcases List.mem_append.1 hx with hx | hx
              · exact HG.out x hx
              · rw [List.mem_singleton.1 hx]; exact HGD.out⟩⟩
            case measure => simp [intOf]; omega
        · have h4' : decide ((s.size : Int) > 400) = true := decide_eq_true (by omega)
          clear h4
          go_wp2
          go_ret
          exact ⟨rfl, HB.out⟩
      · obtain rfl : i = l.length := by omega
        rw [List.take_length] at HS HG
        clear hin hlt
        obtain ⟨Af, cf, hvf, hcf, hCf⟩ := Kd.R_reads HS.out
        subst hvf
        have hF0 := F_scalar hCf
        have hflen := flat_length l HG.out
        have hll := HLL.out
        have hb0 : Below wr.heap.size wr (wr.alloc (.cells #[.slice none 0 0, .bool false, .bool false, .bool false] 31)) := below_alloc (Below.refl _ _) _
        have hf := feed_one (wr.alloc (.cells #[.slice none 0 0, .bool false, .bool false, .bool false] 31)) w.heap.size wr.heap.size (.slice none 0 0) [] Af cf (flat l) _ (Sc.new wr w.heap.size HB.out.size) (Kd.F_below hF0 hb0) (fun k hk _ => ⟨by have := hk.2; omega, fun e => by cases e⟩) hcf (by omega) (flat_byt l)
        rw [flat_lines l HG.out, World.size_alloc] at hf
        have HF := Aside0.mk hf
        have HB0 := Aside0.mk (below_step HB.out hb0)
        clear hF0 hflen hll hb0 hf hcf hCf HS HG
        go_wp2_with fail
        refine HF.out.mono ?_
        rintro e w7 ⟨vo, v7, rfl, hI⟩
        obtain ⟨Ao, co, hvo, _, hC⟩ := Kd.R_reads hI.out
        subst hvo
        have HC7 := Aside0.mk hC
        have HB7 := Aside0.mk (hI.oth.below (HB0.out.alloc HB0.out.size _) HB.out.size (fun b e => by cases e) (by simp; have := HB0.out.size; simp at this; omega))
        clear hI hC HF HB0 HB
        rw [show (l.map (fun s => (⟨s, 0⟩ : S35))).length = l.length from List.length_map ..] at HC7 ⊢
        go_wp2_with fail
        have HB0 := Aside0.mk (Below.refl w7.heap.size w7)
        go_loopw [47] (fun s47 wr => ∃ j : Nat, s47 = .int .i64 j ∧ j ≤ l.length ∧ Aside0 (Below w7.heap.size w7 wr)) (fun s47 _ => l.length - (intOf s47).toNat)
        case atStart => exact ⟨0, rfl, Nat.zero_le _, HB0⟩
        case round =>
          clear HB0
          obtain ⟨j, rfl, hjn, HB⟩ := hrel
          by_cases hlt : j < l.length
          · have hn4 : (j : Int) < (l.length : Int) := by omega
            have p4 : (0 : Int) ≤ (j : Int) := Int.natCast_nonneg _
            have HW := Aside0.mk (below_step HB7.out HB.out)
            obtain ⟨ad, hA, hx⟩ := Kd.at_string (Kd.C_below HR.out HW.out) (j : Int) p4 hn4
            obtain ⟨ao, hO, hx0, hx1⟩ := at_T35 (Kd.C_below HC7.out HB.out) (j : Int) p4 hn4
            have erd : rd_T35 (l.map (fun s => (⟨s, 0⟩ : S35))) (j : Int) = ⟨rdOf ByteArray.empty l (j : Int), 0⟩ := by
              simp [rd_T35, rdOf, List.getD_eq_getElem?_getD, hlt]
            rw [erd] at hx0 hx1
            rw [Int.toNat_natCast] at hx hx0 hx1
            subst hA hO
            generalize rdOf ByteArray.empty l (j : Int) = s at hx hx0
            have hwk : IntKind.i64.wrap ((j : Int) + 1) = (j : Int) + 1 := by have := HLL.out; rw [IntKind.wrap_i64]; omega
            clear erd hjn
            go_upto_region 19 with (first | ((with_reducible refine gate_dst (N := 8) rfl ?_); refine box_event ?hg (N := 8) ?hd (cs := #[.string (⟨#[]⟩ : ByteArray), .int .i64 0]) (t := 35) ?hr ?_; (case hd => rfl); (case hg => rfl); (case hr => first | (go_simp; done) | (go_simp; rfl)); intro b8 hg w8 hbox hb; have N8 := Aside0.mk hg; have X8 := Aside0.mk hbox; have B8 := Aside0.mk hb; have z0 : w8.cell? ⟨b8, 0, none⟩ = some (.string (⟨#[]⟩ : ByteArray)) := (blk_cell hbox 0).trans rfl; have z1 : w8.cell? ⟨b8, 1, none⟩ = some (.int .i64 0) := (blk_cell hbox 1).trans rfl; have y0 := blk_frozen hbox 0; have y1 := blk_frozen hbox 1; have t0 := (Below.cell hb (World.block_lt_of_cell? _ _ hx0)).trans hx0; clear hb hbox hg))
            have XA := Aside0.mk (blk_put (cs := #[.string s, .int .i64 0]) (blk_put (cs := #[.string (⟨#[]⟩ : ByteArray), .int .i64 0]) X8.out 0 (.string s) rfl) 1 (.int .i64 0) rfl)
            have hbw : Below wr.heap.size wr ((w8.setCell ⟨b8, 0, none⟩ (.string s)).setCell ⟨b8, 1, none⟩ (.int .i64 0)) := (B8.out.setCell (p := ⟨b8, 0, none⟩) (by have := N8.out; show _ ≤ b8; omega) _).setCell (p := ⟨b8, 1, none⟩) (by have := N8.out; show _ ≤ b8; omega) _
            have HBA := Aside0.mk (below_step HB.out hbw)
            have hxA := (Below.cell hbw (World.block_lt_of_cell? _ _ hx)).trans hx
            clear hbw
            generalize (w8.setCell ⟨b8, 0, none⟩ (.string s)).setCell ⟨b8, 1, none⟩ (.int .i64 0) = WA at XA HBA hxA ⊢
            clear X8 B8 N8 z0 z1 y0 y1 t0 hx hx0 hx1 HW HB
            have a0 : WA.cell? ⟨b8, 0, none⟩ = some (.string s) := (blk_cell XA.out 0).trans rfl
            have a1 : WA.cell? ⟨b8, 1, none⟩ = some (.int .i64 0) := (blk_cell XA.out 1).trans rfl
            go_wp2
            repeat (go_quiet (fail))
            go_wp2
            go_roundw
            case rel => exact ⟨j + 1, by go_num, hlt, ⟨pw_below_drewN HBA.out _⟩⟩
            case measure => simp [intOf]; omega
          · obtain rfl : j = l.length := by omega
            go_wp2
            go_ret
            exact ⟨rfl, below_step HB7.out HB.out⟩
end Go.Proofs.Ytlnllcgepplneaa.MFrameLines
