/- FrameLines walked. -/
import Derived.Test.YtlnllcgepplneaaFBack
namespace Go.Proofs.Ytlnllcgepplneaa.MFrameLines
open Go.RowKit Go.Proofs Go.Proofs.YtlnllcgepplneaaW.PrintWords Go.Proofs.YtlnllcgepplneaaW.PrintLast Go.Proofs.YtlnllcgepplneaaW.PrintMore
set_option linter.unusedVariables false
set_option linter.unusedSimpArgs false
theorem bytes_append (a b : ByteArray) : bytesOf (a ++ b) = bytesOf a ++ bytesOf b := by
  unfold bytesOf
  rw [ByteArray.data_append, Array.toList_append, List.map_append]
theorem bytes_str (l : List Int) (h : Byt l) : bytesOf (strOfNums l) = l := by
  unfold bytesOf
  rw [strOfNums_data, List.map_map]
  conv => rhs; rw [← List.map_id l]
  apply List.map_congr_left
  intro x hx
  have := h x hx
  simp
  omega
theorem bytes_inj {a b : ByteArray} (h : bytesOf a = bytesOf b) : a = b := by rw [← str_bytes a, ← str_bytes b, h]
theorem take_flat {l : List (List Int)} {i : Nat} (h : i < l.length) : (l.take (i + 1)).flatten = (l.take i).flatten ++ rd_L1 l i := by
  rw [List.take_succ_eq_append_getElem h, List.flatten_append]
  simp [rd_L1, List.getD_eq_getElem?_getD, h]
theorem byt_rd {l : List (List Int)} (h : ∀ b ∈ l, Byt b) {i : Nat} (hi : i < l.length) : Byt (rd_L1 l i) := by
  unfold rd_L1
  rw [Int.toNat_natCast, List.getD_eq_getElem?_getD, List.getElem?_eq_getElem hi]
  exact h _ (List.getElem_mem hi)
theorem byt_flat {l : List (List Int)} (h : ∀ b ∈ l, Byt b) : Byt l.flatten := by
  intro x hx
  obtain ⟨b, hb, hx⟩ := List.mem_flatten.1 hx
  exact h b hb x hx
theorem linesOf_byt : ∀ (r cur : List Int), Byt cur → Byt r → Byt (linesOf cur r).2
  | [], cur, hc, _ => by simpa [linesOf] using hc
  | x :: r, cur, hc, hr => by
    have hr' : Byt r := fun y hy => hr y (List.mem_cons_of_mem _ hy)
    rw [linesOf]
    by_cases h : x = 10
    · rw [if_pos h]
      exact linesOf_byt r [] (fun y hy => by cases hy) hr'
    · rw [if_neg h]
      refine linesOf_byt r (cur ++ [x]) (fun y hy => ?_) hr'
      rcases List.mem_append.1 hy with hy | hy
      · exact hc y hy
      · rw [List.mem_singleton.1 hy]; exact hr x List.mem_cons_self
/-- Where the second loop stands. -/
structure Mid (B g : Nat) (w wr : World) (vg v : Value) (done : List Int) : Prop where
  st : Sc wr B g v (linesOf [] done).2
  got : Kd.R k35 35 wr B (fun k => k ≠ g) vg (linesOf [] done).1
  below : Below B w wr
theorem Mid.move {B g : Nat} {w wr wa : World} {vg v : Value} {done : List Int} (h : Mid B g w wr vg v done) (hb : Below wr.heap.size wr wa) (hB : B ≤ wr.heap.size) : Mid B g w wa vg v done :=
  ⟨h.st.below hb, Kd.R_below h.got hb, h.below.trans (hb.mono hB)⟩
theorem Sc.own_base {w : World} {base g : Nat} {v : Value} {cur : List Int} (h : Sc w base g v cur) (k : Nat) (hk : v.ownBlock = some k) : base ≤ k := by
  obtain ⟨p, lo, od, so, h1, h2⟩ := h
  exact h1.own_base k hk
theorem Sc.own_lt {w : World} {base g : Nat} {v : Value} {cur : List Int} (h : Sc w base g v cur) (k : Nat) (hk : v.ownBlock = some k) : k < w.heap.size := by
  obtain ⟨p, lo, od, so, h1, h2⟩ := h
  exact h1.own_lt k hk
theorem Sc.hb {w : World} {base g : Nat} {v : Value} {cur : List Int} (h : Sc w base g v cur) : base ≤ g := by
  obtain ⟨p, lo, od, so, h1, h2⟩ := h
  exact h1.hb
/-- The bytes fed, and what came out of them, told. -/
theorem Mid.fed {B g : Nat} {w wr w7 : World} {vg v v7 vo : Value} {done l : List Int} (h : Mid B g w wr vg v done) (hB : B ≤ w.heap.size)
    (hI : Inv wr B g v (linesOf (linesOf [] done).2 l).1 (linesOf (linesOf [] done).2 l).2 w7 vo [] v7 (linesOf (linesOf [] done).2 l).2 (linesOf (linesOf [] done).2 l).1) :
    Sc w7 B g v7 (linesOf [] (done ++ l)).2 ∧ Kd.R k35 35 w7 B (fun k => k ≠ g) vg (linesOf [] done).1 ∧ Below B w w7 ∧ (linesOf [] (done ++ l)).1 = (linesOf [] done).1 ++ (linesOf (linesOf [] done).2 l).1 := by
  have e := linesOf_append done [] l
  refine ⟨by rw [e]; exact hI.st, lines_oth h.got h.st hI.oth, hI.oth.below h.below h.st.hb (fun b e => h.st.own_base b e) (Nat.le_trans hB h.below.size), by rw [e]⟩
theorem reads_35 {w : World} {base : Nat} {A : Option Addr} {n : Nat} {xs : List S35} (h : Kd.C k35 w A n xs) : ReadsRow (k35.M w base (fun _ => False)) 2 w A n xs := by
  refine ReadsRow.imp_ h (Below.refl _ _) (fun x c hp => ?_)
  obtain rfl := k35_open hp
  exact k35_mkM _ _ _ _
theorem Sc.other {g base b j : Nat} {w : World} {v : Value} {cur : List Int} (h : Sc w base g v cur) (hb : b ≠ g) (hv : v.ownBlock ≠ some b) (u : Value) : Sc (w.setCell ⟨b, j, none⟩ u) base g v cur := by
  obtain ⟨p, lo, od, so, h1, h2⟩ := h
  exact ⟨p, lo, od, so, h1.other hb hv u, h2⟩
theorem one_35 (x : S35) (W : World) (X : Nat) (h : W.heap[X]? = some (.cells #[.string x.f0, .int .i64 x.f1] 35 (0, 0))) : Kd.C k35 W (some ⟨X, 0, none⟩) [x].length [x] := by
  refine ⟨rfl, by show 1 ≤ _; decide, fun _ => ⟨_, rfl, fun j p hj => ?_⟩⟩
  match j, hj with
  | 0, hj =>
    obtain rfl : x = p := by simpa using hj
    refine ⟨_, rfl, k35_mk _ x, fun i u hu => ?_⟩
    match i, hu with
    | 0, hu => exact (blk_cell h 0).trans hu
    | 1, hu => exact (blk_cell h 1).trans hu
theorem one_26 (x : S35) (W : World) (X : Nat) (h : W.heap[X]? = some (.cells #[.string x.f0, .int .i64 x.f1] 26 (0, 0))) : Kd.C k26 W (some ⟨X, 0, none⟩) [cv x].length [cv x] := by
  refine ⟨rfl, by show 1 ≤ _; decide, fun _ => ⟨_, rfl, fun j p hj => ?_⟩⟩
  match j, hj with
  | 0, hj =>
    obtain rfl : cv x = p := by simpa using hj
    refine ⟨_, rfl, k26_mk _ (cv x), fun i u hu => ?_⟩
    match i, hu with
    | 0, hu => exact (blk_cell h 0).trans hu
    | 1, hu => exact (blk_cell h 1).trans hu
theorem same_one (x : S35) (W : World) (X Y : Nat) (hX : W.heap[X]? = some (.cells #[.string x.f0, .int .i64 x.f1] 35 (0, 0))) (hY : W.heap[Y]? = some (.cells #[.string x.f0, .int .i64 x.f1] 26 (0, 0))) :
    Calls Try.prog 9 #[.slice (some ⟨X, 0, none⟩) 1 1, .slice (some ⟨Y, 0, none⟩) 1 1] W fun e w' => e = .returned (.bool true) ∧ Below W.heap.size W w' := by
  refine (whirligiglaw34_same.calls 2 (some ⟨X, 0, none⟩) 1 [x] (some ⟨Y, 0, none⟩) 1 [cv x] true W (one_35 x W X hX) (Nat.le_refl _) (one_26 x W Y hY) (Nat.le_refl _) (same_f [x] 2 (by show 1 ≤ 1000000; decide) (by show 1 < 2; decide))).mono ?_
  rintro e w' ⟨he, hd⟩
  exact ⟨he, hd.below⟩
theorem two_new (w : World) (o1 o2 : Obj) : ((w.alloc o1).alloc o2).heap[w.heap.size + 1]? = some o2 := by
  rw [← World.size_alloc w o1]
  exact blk_new _ _
theorem two_new' (w : World) (o1 o2 : Obj) : ((w.alloc o1).drew.alloc o2).heap[w.heap.size + 1]? = some o2 := two_new w o1 o2
set_option maxHeartbeats 8000000 in
set_option maxRecDepth 100000 in
theorem lines_any (A : Option Addr) (c : Nat) (ls : List (List Int)) (w : World) (hr : Kd.C (Kd.slice 5 (Kd.int .u8)) w A ls.length ls) (hc : ls.length ≤ c) (hwf : ∀ b ∈ ls, ∀ x ∈ b, (Lit.int .u8 x).wf = true) :
    Calls Try.prog 4 #[.slice A ls.length c] w fun e w' => e = .returned (.bool true) ∧ Below w.heap.size w w' := by
  have hby : ∀ b ∈ ls, Byt b := by
    intro b hb x hx
    have := hwf b hb x hx
    have e1 : IntKind.u8.min = 0 := rfl
    have e2 : IntKind.u8.max = 255 := rfl
    simp [Lit.wf] at this
    omega
  have HBY := Aside0.mk hby
  have HN := Aside0.mk hr.2.1
  have HR := Aside0.mk hr
  clear hr hwf hby
  go_enter Try.func4, Try.ntmps4
  go_wp2_with (go_at_call 5; refine (anchor_any _).mono ?_; rintro e w1 ⟨rfl, hb⟩; have HB := Aside0.mk hb; clear hb)
  go_loopw [3, 18] (fun s3 s18 wr => ∃ (i : Nat) (s : ByteArray), s3 = .string s ∧ s18 = .int .i64 i ∧ i ≤ ls.length ∧ Aside0 (bytesOf s = (ls.take i).flatten) ∧ Aside0 (s.size ≤ 13000) ∧ Aside0 (Below w.heap.size w wr)) (fun _ s18 _ => ls.length - (intOf s18).toNat)
  case atStart => exact ⟨0, ⟨#[]⟩, rfl, rfl, Nat.zero_le _, ⟨rfl⟩, ⟨by decide⟩, HB⟩
  case round =>
    clear HB
    obtain ⟨i, s, rfl, rfl, hin, HS, HZ, HB⟩ := hrel
    by_cases hlt : i < ls.length
    · have hn4 : (i : Int) < (ls.length : Int) := by omega
      have p4 : (0 : Int) ≤ (i : Int) := Int.natCast_nonneg _
      obtain ⟨ad, A0, c0, hA, hx, hc0, hC⟩ := at_L1 (Kd.C_below HR.out HB.out) (i : Int) p4 hn4
      have hcv : (convert 24 9 (.slice A0 (rd_L1 ls i).length c0)).run Try.prog wr = .ok (.string (strOfNums (rd_L1 ls i))) wr := string_of_reads Try.underlying24 Try.underlying5 Try.underlying9 (Kd.reads_of_C (d := (0 : Int)) hC)
      have hfl := take_flat hlt
      have hbl := byt_rd HBY.out hlt
      subst hA
      rw [Int.toNat_natCast] at hx
      generalize rd_L1 ls i = l at *
      have hwk : IntKind.i64.wrap ((i : Int) + 1) = (i : Int) + 1 := by have := HN.out; rw [IntKind.wrap_i64]; omega
      have HFL := Aside0.mk hfl
      have HBL := Aside0.mk hbl
      clear hfl hbl hC hc0 hin
      by_cases h3 : l.length ≤ 3000
      · have d3 : decide ((l.length : Int) > 3000) = false := decide_eq_false (by omega)
        by_cases h4 : s.size ≤ 10000
        · have d4 : decide ((s.size : Int) > 10000) = false := decide_eq_false (by omega)
          have HS3 : Aside0 ((strOfNums l).size = l.length) := ⟨strOfNums_size l⟩
          have HSZ : Aside0 ((s ++ strOfNums l).size ≤ 13000) := ⟨by rw [ByteArray.size_append, HS3.out]; omega⟩
          have HSE : Aside0 (bytesOf (s ++ strOfNums l) = (ls.take (i + 1)).flatten) := ⟨by rw [bytes_append, HS.out, bytes_str l HBL.out, HFL.out]⟩
          have hsz : ¬ 9223372036854775807 < s.size + (strOfNums l).size := by have := HS3.out; omega
          clear h3 h4
          go_wp2
          go_roundw
          case rel => exact ⟨i + 1, _, rfl, by go_num, hlt, HSE, HSZ, HB⟩
          case measure => simp [intOf]; omega
        · have d4 : decide ((s.size : Int) > 10000) = true := decide_eq_true (by omega)
          clear h3 h4
          go_wp2
          go_ret
          exact ⟨rfl, HB.out⟩
      · have d3 : decide ((l.length : Int) > 3000) = true := decide_eq_true (by omega)
        clear h3
        go_wp2
        go_ret
        exact ⟨rfl, HB.out⟩
    · obtain rfl : i = ls.length := by omega
      rw [List.take_length] at HS
      clear hlt hin
      go_upto_region 12 with (fail)
      have hb0 : Below wr.heap.size wr (wr.alloc (.cells #[.slice none 0 0, .bool false, .bool false, .bool false] 31)) := below_alloc (Below.refl _ _) _
      have HM : Aside0 (Mid w.heap.size wr.heap.size w (wr.alloc (.cells #[.slice none 0 0, .bool false, .bool false, .bool false] 31)) (.slice none 0 0) (.slice none 0 0) (ls.take 0).flatten) := ⟨⟨Sc.new wr w.heap.size HB.out.size, Kd.R_nil _ _ _ _ _, below_step HB.out hb0⟩⟩
      have HBG := Aside0.mk HB.out.size
      generalize wr.heap.size = g at HM HBG ⊢
      generalize wr.alloc (.cells #[.slice none 0 0, .bool false, .bool false, .bool false] 31) = w2 at HM ⊢
      have HLL : Aside0 (ls.flatten.length ≤ 13000) := ⟨by rw [← HS.out, bytesOf_length]; exact HZ.out⟩
      clear hb0 HB
      go_wp2
      go_loopw [7, 39] (fun s7 s39 wr => ∃ (i : Nat) (v : Value), s39 = .int .i64 i ∧ i ≤ ls.length ∧ Aside0 (Mid w.heap.size g w wr s7 v (ls.take i).flatten)) (fun _ s39 _ => ls.length - (intOf s39).toNat)
      case atStart => exact ⟨0, _, rfl, Nat.zero_le _, HM⟩
      case round =>
        clear HM
        obtain ⟨i, v, rfl, hin, HM⟩ := hrel
        by_cases hlt : i < ls.length
        · have hn4 : (i : Int) < (ls.length : Int) := by omega
          have p4 : (0 : Int) ≤ (i : Int) := Int.natCast_nonneg _
          obtain ⟨ad, A0, c0, hA, hx, hc0, hC⟩ := at_L1 HR.out (i : Int) p4 hn4
          rw [Int.toNat_natCast] at hx
          have hxr := (Below.cell HM.out.below (World.block_lt_of_cell? _ _ hx)).trans hx
          have hF := Kd.F_below (F_scalar hC) HM.out.below
          have hfl := take_flat hlt
          have hbl := byt_rd HBY.out hlt
          have hll : (rd_L1 ls i).length ≤ 13000 ∧ ((ls.take i).flatten ++ rd_L1 ls i).length ≤ 13000 := by
            have h1 := HLL.out
            have h2 : ls.flatten = (ls.take (i + 1)).flatten ++ (ls.drop (i + 1)).flatten := by rw [← List.flatten_append, List.take_append_drop]
            rw [h2, hfl, List.length_append, List.length_append] at h1
            rw [List.length_append]
            omega
          subst hA
          generalize rd_L1 ls i = l at *
          have hwk : IntKind.i64.wrap ((i : Int) + 1) = (i : Int) + 1 := by have := HN.out; rw [IntKind.wrap_i64]; omega
          have hst := HM.out.st
          have hf := feed_one wr w.heap.size g v (linesOf [] (ls.take i).flatten).2 A0 c0 l _ hst hF (fun k hk _ => ⟨by have := hst.hb; have := hk.2; omega, fun e => by have := hst.own_base k e.symm; have := hk.2; omega⟩) hc0 (by omega) hbl
          have HM1 := Aside0.mk (HM.out.move (below_alloc (Below.refl wr.heap.size wr) (.cells #[.slice A0 l.length c0] 24)) HM.out.below.size)
          have HF := Aside0.mk hf
          have HFL := Aside0.mk hfl
          have HLN := Aside0.mk hll
          clear hf hst hF hfl hbl hll hC hc0 hx hin
          go_wp2_with fail
          refine HF.out.mono ?_
          rintro e w7 ⟨vo, v7, rfl, hI⟩
          obtain ⟨hst7, hgot, hbel, heq⟩ := HM1.out.fed (Nat.le_refl _) hI
          obtain ⟨Ao, co, hvo, hco, hCo⟩ := Kd.R_reads hI.out
          subst hvo
          have HST := Aside0.mk hst7
          have HGOT := Aside0.mk hgot
          have HBEL := Aside0.mk hbel
          have HEQ := Aside0.mk heq
          have HCO := Aside0.mk (reads_35 (base := w.heap.size) hCo)
          have hsum : ((linesOf [] (ls.take i).flatten).1.length + (linesOf (linesOf [] (ls.take i).flatten).2 l).1.length) * 24 ≤ 140737488355328 := by
            have h1 := (linesOf_few ((ls.take i).flatten ++ l) []).1
            rw [heq, List.length_append] at h1
            have h2 := HLN.out.2
            omega
          have HSUM := Aside0.mk hsum
          clear hst7 hgot hbel heq hCo hI hsum HF HM1 hxr
          go_wp2_with ((with_reducible refine gate_builtin (b := .append) (xs := #[.tmp 43, .tmp 47]) rfl ?_); at_builtin; refine Kd.R_append_rows k35 (w0 := w) w.heap.size rfl (.tmp 43) (.tmp 47) 28 35 (.agg #[.string ⟨#[]⟩, .int .i64 0]) 24 rfl Try.underlying28 info35 rfl (by decide) (by omega) u7 (linesOf [] (ls.take i).flatten).1 (linesOf (linesOf [] (ls.take i).flatten).2 l).1 Ao (linesOf (linesOf [] (ls.take i).flatten).2 l).1.length co (fun k => k ≠ g) (fun _ => False) rfl rfl HGOT.out HCO.out (fun _ _ h => h) (fun _ hk => hk.elim) (fun k hk => by have := HST.out.lg; omega) HBEL.out HBEL.out.size HSUM.out ?_; intro v8 w8 ho hb hg hat; have HST8 := Aside0.mk (HST.out.grown HGOT.out hg); have HB8 := Aside0.mk hb; have HO8 := Aside0.mk ho; clear ho hb hg hat)
          go_roundw
          case rel => exact ⟨i + 1, v7, by go_num, hlt, ⟨by rw [HFL.out]; exact HST8.out, by rw [HFL.out, HEQ.out]; exact HO8.out, HB8.out⟩⟩
          case measure => simp [intOf]; omega
        · obtain rfl : i = ls.length := by omega
          rw [List.take_length] at HM
          clear hlt hin
          have HLS := Aside0.mk (lines_f s (2 * s.size + 1) (by have := HZ.out; omega) (by omega))
          rw [HS.out] at HLS
          have hst := HM.out.st
          have hgot := HM.out.got
          have hfew := linesOf_few ls.flatten []
          have hcb := linesOf_byt ls.flatten [] (fun y hy => by cases hy) (byt_flat HBY.out)
          have hfa := feed_any
          generalize hOUT : (linesOf [] ls.flatten).1 = OUT at *
          generalize hCUR : (linesOf [] ls.flatten).2 = CUR at *
          have HOC := Aside0.mk (And.intro hOUT hCUR)
          have HCB := Aside0.mk hcb
          have HST := Aside0.mk hst
          have HGOT := Aside0.mk hgot
          have HB := Aside0.mk HM.out.below
          have HOL : Aside0 (OUT.length ≤ 13000 ∧ CUR.length ≤ 13000) := ⟨by have := HLL.out; rw [List.length_nil, Nat.zero_add] at hfew; omega⟩
          clear hst hgot hfew hcb hfa hOUT hCUR HM
          go_wp2_with fail
          refine (whirligigref34_Lines.calls (2 * s.size + 1) s _ _ wr HLS.out).mono ?_
          rintro e w8 ⟨v0, rfl, hw, hb⟩
          have HST8 := Aside0.mk (HST.out.below hb)
          have hgot8 := Kd.R_below HGOT.out hb
          have HB8 := Aside0.mk (below_step HB.out hb)
          obtain ⟨Aw, cw, hv0, hcw, hCw⟩ := Kd.R_reads hw
          obtain ⟨Ag, cg, hvg, hcg, hCg⟩ := Kd.R_reads hgot8
          subst hv0 hvg
          have HCW := Aside0.mk hCw
          have HCG := Aside0.mk hCg
          have HCWC := Aside0.mk hcw
          have HCGC := Aside0.mk hcg
          clear hCw hCg hcw hcg hw hb hgot8 HGOT HST HB
          have hsame := fun (W : World) (h1 : Kd.C k35 W Ag OUT.length OUT) (h2 : Kd.C k26 W Aw (OUT.map cv).length (OUT.map cv)) => whirligiglaw34_same.calls (OUT.length + 1) Ag cg OUT Aw cw (OUT.map cv) true W h1 HCGC.out h2 HCWC.out (same_f OUT _ (by have := HOL.out; omega) (by omega))
          have hlm : (OUT.map cv).length = OUT.length := List.length_map ..
          rw [hlm] at hsame ⊢
          have hs1 := hsame w8 HCG.out (by have := HCW.out; rw [hlm] at this; exact this)
          have HS1 := Aside0.mk hs1
          have hsame2 := fun (Ao : Option Addr) (co : Nat) (hco : OUT.length ≤ co) (W : World) (h1 : Kd.C k35 W Ao OUT.length OUT) (h2 : Kd.C k26 W Aw (OUT.map cv).length (OUT.map cv)) => whirligiglaw34_same.calls (OUT.length + 1) Ao co OUT Aw cw (OUT.map cv) true W h1 hco h2 HCWC.out (same_f OUT _ (by have := HOL.out; omega) (by omega))
          rw [hlm] at hsame2
          have HSAME2 := Aside0.mk hsame2
          have HLM := Aside0.mk hlm
          clear hs1 hsame hsame2 hlm
          go_wp2_with fail
          refine HS1.out.mono ?_
          rintro e w9 ⟨rfl, hd⟩
          have HST9 := Aside0.mk (HST8.out.below hd.below)
          have HB9 := Aside0.mk (below_step HB8.out hd.below)
          have HCW9 := Aside0.mk (Kd.C_below HCW.out hd.below)
          clear hd HS1 HST8 HB8 HCG HCW
          go_wp2_with fail
          refine HST9.out.left.mono ?_
          rintro e w' ⟨rfl, h9⟩
          rw [h9]
          clear h9
          have hb10 : Below w9.heap.size w9 (w9.alloc (.cells #[.slice none 0 0, .bool false, .bool false, .bool false] 31)) := below_alloc (Below.refl _ _) _
          have hfa := feed_any (w9.alloc (.cells #[.slice none 0 0, .bool false, .bool false, .bool false] 31)) w.heap.size w9.heap.size (.slice none 0 0) [] A c ls (fun k => k < w.heap.size) (Sc.new w9 w.heap.size HB9.out.size) (Kd.F_below (F_came (Kd.heap_slice 5 (Kd.heap_int .u8)) HR.out) (below_step HB9.out hb10)) (fun k hk => ⟨by have := HB9.out.size; have := hb10.size; omega, by have := HB9.out.size; omega, fun e => by cases e⟩) HN.out (by have := HLL.out; omega) HBY.out
          rw [HOC.out.1, HOC.out.2] at hfa
          have HFA := Aside0.mk hfa
          have HST10 := Aside0.mk (HST9.out.below hb10)
          have HB10 := Aside0.mk (below_step HB9.out hb10)
          have HCW10 := Aside0.mk (Kd.C_below HCW9.out hb10)
          have HSZ9 := Aside0.mk HB9.out.size
          clear hfa hb10
          by_cases hcu : CUR = []
          · have hlf : decide (0 < CUR.length) = false := by rw [hcu]; rfl
            have hsl : strOfNums CUR = ⟨#[]⟩ := by rw [hcu]; rfl
            rw [hlf, hsl]
            have HCU := Aside0.mk hcu
            clear hlf hsl hcu
            go_wp2_with fail
            refine HFA.out.mono ?_
            rintro e w11 ⟨vo2, v2, rfl, hI2⟩
            have hb911 : Below w9.heap.size w9 w11 := hI2.oth.below (below_alloc (Below.refl _ _) _) (Nat.le_refl _) (fun b e => by cases e) (by simp)
            obtain ⟨Ao, co, hvo, hco, hCo⟩ := Kd.R_reads hI2.out
            subst hvo
            have hs2 := (HSAME2.out Ao co hco w11 hCo (by have := Kd.C_below HCW9.out hb911; rw [HLM.out] at this; exact this))
            have HS2 := Aside0.mk hs2
            have HST11 := Aside0.mk (HST9.out.below hb911)
            have HB11 := Aside0.mk (below_step HB9.out hb911)
            clear hI2 hco hCo hs2 hb911 HFA
            go_wp2_with fail
            refine HS2.out.mono ?_
            rintro e w12 ⟨rfl, hd⟩
            have HST12 := Aside0.mk (HST11.out.below hd.below)
            have HB12 := Aside0.mk (below_step HB11.out hd.below)
            clear hd HS2 HST11 HB11 HST9 HB9 HCW9 HSAME2 HST10 HB10 HCW10
            rw [HCU.out] at HST12
            go_wp2_with fail
            refine HST12.out.endNone.mono ?_
            rintro e w13 ⟨rfl, hs, ho⟩
            have HS13 := Aside0.mk hs
            have HB13 := Aside0.mk (ho.below (B := w.heap.size) HB12.out HBG.out (fun b e => by cases e) HB12.out.size)
            clear hs ho HST12 HB12
            go_upto_region 22 with (first | ((with_reducible refine gate_dst (N := 12) rfl ?_); refine box_event ?hg (N := 12) ?hd (cs := #[.string (⟨#[]⟩ : ByteArray), .int .i64 0]) (t := 35) ?hr ?_; (case hd => rfl); (case hg => rfl); (case hr => first | (go_simp; done) | (go_simp; rfl)); intro b8 hg w14 hbox hb; have N8 := Aside0.mk hg; have X8 := Aside0.mk hbox; have B8 := Aside0.mk hb; have z0 : w14.cell? ⟨b8, 0, none⟩ = some (.string (⟨#[]⟩ : ByteArray)) := (blk_cell hbox 0).trans rfl; have z1 : w14.cell? ⟨b8, 1, none⟩ = some (.int .i64 0) := (blk_cell hbox 1).trans rfl; have y0 := blk_frozen hbox 0; have y1 := blk_frozen hbox 1; clear hb hbox hg))
            have ng8 : b8 ≠ g := by have := HS13.out.lg; have := N8.out; omega
            have no8 : v.ownBlock ≠ some b8 := fun e => by have := HS13.out.own_lt _ e; have := N8.out; omega
            have XA := Aside0.mk (blk_put (cs := #[.string (⟨#[]⟩ : ByteArray), .int .i64 0]) (blk_put (cs := #[.string (⟨#[]⟩ : ByteArray), .int .i64 0]) X8.out 0 (.string (⟨#[]⟩ : ByteArray)) rfl) 1 (.int .i64 0) rfl)
            have HSA := Aside0.mk (((HS13.out.below B8.out).other (j := 0) ng8 no8 (.string (⟨#[]⟩ : ByteArray))).other (j := 1) ng8 no8 (.int .i64 0))
            have hbw : Below w13.heap.size w13 ((w14.setCell ⟨b8, 0, none⟩ (.string (⟨#[]⟩ : ByteArray))).setCell ⟨b8, 1, none⟩ (.int .i64 0)) := (B8.out.setCell (p := ⟨b8, 0, none⟩) (by have := N8.out; show _ ≤ b8; omega) _).setCell (p := ⟨b8, 1, none⟩) (by have := N8.out; show _ ≤ b8; omega) _
            have HBA := Aside0.mk (below_step HB13.out hbw)
            clear hbw
            generalize (w14.setCell ⟨b8, 0, none⟩ (.string (⟨#[]⟩ : ByteArray))).setCell ⟨b8, 1, none⟩ (.int .i64 0) = WA at XA HSA HBA ⊢
            clear X8 B8 N8 z0 z1 y0 y1 HS13 HB13 ng8 no8
            have a0 : WA.cell? ⟨b8, 0, none⟩ = some (.string (⟨#[]⟩ : ByteArray)) := (blk_cell XA.out 0).trans rfl
            have a1 : WA.cell? ⟨b8, 1, none⟩ = some (.int .i64 0) := (blk_cell XA.out 1).trans rfl
            go_wp2_with fail
            refine HSA.out.left.mono ?_
            rintro e w15 ⟨rfl, h15⟩
            rw [h15]
            clear h15
            go_wp2_with fail
            go_ret
            exact ⟨rfl, HBA.out⟩
          · have hlf : decide (0 < CUR.length) = true := decide_eq_true (List.length_pos_iff.2 hcu)
            have hln : ¬ (strOfNums CUR).toList = [] := by
              intro e
              rw [Lib.toList_data, strOfNums_data] at e
              exact hcu (List.map_eq_nil_iff.1 e)
            have hle : (strOfNums CUR).toList.isEmpty = false := by simpa using hln
            have hli := line_f (strOfNums CUR) ((strOfNums CUR).size + 1) (by omega) (by rw [strOfNums_size]; have := HOL.out; omega)
            rw [bytes_str CUR HCB.out] at hli
            have HLI := Aside0.mk hli
            rw [hlf]
            have HCU := Aside0.mk (List.length_pos_iff.2 hcu)
            generalize strOfNums CUR = L at hln hle HLI HLS ⊢
            clear hlf hcu hli
            go_wp2_with fail
            refine HFA.out.mono ?_
            rintro e w11 ⟨vo2, v2, rfl, hI2⟩
            have hb911 : Below w9.heap.size w9 w11 := hI2.oth.below (below_alloc (Below.refl _ _) _) (Nat.le_refl _) (fun b e => by cases e) (by simp)
            obtain ⟨Ao, co, hvo, hco, hCo⟩ := Kd.R_reads hI2.out
            subst hvo
            have hs2 := (HSAME2.out Ao co hco w11 hCo (by have := Kd.C_below HCW9.out hb911; rw [HLM.out] at this; exact this))
            have HS2 := Aside0.mk hs2
            have HST11 := Aside0.mk (HST9.out.below hb911)
            have HB11 := Aside0.mk (below_step HB9.out hb911)
            clear hI2 hco hCo hs2 hb911 HFA
            go_wp2_with fail
            refine HS2.out.mono ?_
            rintro e w12 ⟨rfl, hd⟩
            have HST12 := Aside0.mk (HST11.out.below hd.below)
            have HB12 := Aside0.mk (below_step HB11.out hd.below)
            clear hd HS2 HST11 HB11 HST9 HB9 HCW9 HSAME2 HST10 HB10 HCW10
            go_wp2_with fail
            refine (HST12.out.endSome HCU.out).mono ?_
            rintro e w13 ⟨rfl, hs, ho⟩
            have HS13 := Aside0.mk hs
            have HB13 := Aside0.mk (ho.below (B := w.heap.size) HB12.out HBG.out (fun b e => by cases e) HB12.out.size)
            clear hs ho HST12 HB12
            go_upto_region 22 with (first | ((with_reducible refine gate_dst (N := 12) rfl ?_); refine box_event ?hg (N := 12) ?hd (cs := #[.string (⟨#[]⟩ : ByteArray), .int .i64 0]) (t := 35) ?hr ?_; (case hd => rfl); (case hg => rfl); (case hr => first | (go_simp; done) | (go_simp; rfl)); intro b8 hg w14 hbox hb; have N8 := Aside0.mk hg; have X8 := Aside0.mk hbox; have B8 := Aside0.mk hb; have z0 : w14.cell? ⟨b8, 0, none⟩ = some (.string (⟨#[]⟩ : ByteArray)) := (blk_cell hbox 0).trans rfl; have z1 : w14.cell? ⟨b8, 1, none⟩ = some (.int .i64 0) := (blk_cell hbox 1).trans rfl; have y0 := blk_frozen hbox 0; have y1 := blk_frozen hbox 1; clear hb hbox hg))
            have ng8 : b8 ≠ g := by have := HS13.out.lg; have := N8.out; omega
            have no8 : (Value.slice none 0 0).ownBlock ≠ some b8 := fun e => by have := HS13.out.own_lt _ e; have := N8.out; omega
            have XA := Aside0.mk (blk_put (cs := #[.string (lineOf CUR).f0, .int .i64 0]) (blk_put (cs := #[.string (⟨#[]⟩ : ByteArray), .int .i64 0]) X8.out 0 (.string (lineOf CUR).f0) rfl) 1 (.int .i64 (lineOf CUR).f1) rfl)
            have HSA := Aside0.mk (((HS13.out.below B8.out).other (j := 0) ng8 no8 (.string (lineOf CUR).f0)).other (j := 1) ng8 no8 (.int .i64 (lineOf CUR).f1))
            have hbw : Below w13.heap.size w13 ((w14.setCell ⟨b8, 0, none⟩ (.string (lineOf CUR).f0)).setCell ⟨b8, 1, none⟩ (.int .i64 (lineOf CUR).f1)) := (B8.out.setCell (p := ⟨b8, 0, none⟩) (by have := N8.out; show _ ≤ b8; omega) _).setCell (p := ⟨b8, 1, none⟩) (by have := N8.out; show _ ≤ b8; omega) _
            have HBA := Aside0.mk (below_step HB13.out hbw)
            clear hbw
            generalize (w14.setCell ⟨b8, 0, none⟩ (.string (lineOf CUR).f0)).setCell ⟨b8, 1, none⟩ (.int .i64 (lineOf CUR).f1) = WA at XA HSA HBA ⊢
            clear X8 B8 N8 z0 z1 y0 y1 HS13 HB13 ng8 no8
            have a0 : WA.cell? ⟨b8, 0, none⟩ = some (.string (lineOf CUR).f0) := (blk_cell XA.out 0).trans rfl
            have a1 : WA.cell? ⟨b8, 1, none⟩ = some (.int .i64 (lineOf CUR).f1) := (blk_cell XA.out 1).trans rfl
            go_upto_region 24 with (fail)
            have HB0 := Aside0.mk (below_drew1 (Below.refl WA.heap.size WA))
            refine start_ (n := 15) (S := fun w' => w'.cell? ⟨b8, 0, none⟩ = some (.string (lineOf CUR).f0) ∧ w'.cell? ⟨b8, 1, none⟩ = some (.int .i64 (lineOf CUR).f1)) (ds := []) #[false, false, false, false, false, false, false, false, false, false, false, false, false, false, false] (by kernel_rfl) rfl rfl (⟨a0, a1⟩) (fun hHeld => ?_)
            refine pure_ (i := 0) (N := some 94) (v := ?_) (a' := ?_) #[true, false, false, false, false, false, false, false, false, false, false, false, false, false, false] rfl rfl (by kernel_rfl) (fun _ _ _ h => h) (Or.inl ⟨by rfl, ?_⟩) ?_ ?_
            rotate_left
            · intro w'
              go_simp
              with_reducible rfl
            rotate_left
            · simp only [Act.put, List.setIfInBounds_toArray, List.set_cons_zero, List.set_cons_succ, i64_w, i32_w]
              rfl
            refine pure_ (i := 1) (N := some 95) (v := ?_) (a' := ?_) #[true, true, false, false, false, false, false, false, false, false, false, false, false, false, false] rfl rfl (by kernel_rfl) (fun _ _ _ h => h) (Or.inl ⟨by rfl, ?_⟩) ?_ ?_
            rotate_left
            · intro w'
              go_simp
              with_reducible rfl
            rotate_left
            · simp only [Act.put, List.setIfInBounds_toArray, List.set_cons_zero, List.set_cons_succ, i64_w, i32_w]
              rfl
            refine pure_ (i := 4) (N := some 98) (v := ?_) (a' := ?_) #[true, true, false, false, true, false, false, false, false, false, false, false, false, false, false] rfl rfl (by kernel_rfl) (fun _ _ _ h => h) (Or.inl ⟨by rfl, ?_⟩) ?_ ?_
            rotate_left
            · intro w'
              go_simp
              with_reducible rfl
            rotate_left
            · simp only [Act.put, List.setIfInBounds_toArray, List.set_cons_zero, List.set_cons_succ, i64_w, i32_w]
              rfl
            refine take_ (i := 2) (N := some 96) (v := ?_) (a' := ?_) #[true, true, true, false, true, false, false, false, false, false, false, false, false, false, false] rfl rfl (by kernel_rfl) (fun _ _ _ h => h) (Or.inl ⟨by rfl, ?_⟩) hHeld ?_ ?_
            rotate_left
            · rintro w' ⟨s0, s1⟩
              go_simp
              with_reducible rfl
            rotate_left
            · simp only [Act.put, List.setIfInBounds_toArray, List.set_cons_zero, List.set_cons_succ, i64_w, i32_w]
              rfl
            refine join_ (σ := Nat × Nat) 8 #[true, true, true, true, true, true, true, false, false, false, false, false, false, false, false] (fun s_ => [(97, .slice (some ⟨s_.1, 0, none⟩) 1 1), (99, .agg #[.string (lineOf CUR).f0, .int .i64 (lineOf CUR).f1]), (100, .slice (some ⟨s_.2, 0, none⟩) 1 1)]) (fun s_ w' => w'.heap[s_.1]? = some (.cells #[.string (lineOf CUR).f0, .int .i64 (lineOf CUR).f1] 35) ∧ w'.heap[s_.2]? = some (.cells #[.string (lineOf CUR).f0, .int .i64 (lineOf CUR).f1] 26) ∧ Below WA.heap.size WA w') ?_ ?_
            rotate_left
            · intro hCont
              refine two_ (i := 3) (j := 5) (Ni := some 97) (Nj := some 99) #[true, true, true, true, true, false, false, false, false, false, false, false, false, false, false] #[true, true, true, false, true, true, false, false, false, false, false, false, false, false, false] rfl rfl rfl rfl (by kernel_rfl) (by decide) (by decide) (fun K hK => ?_) (fun K hK => ?_)
              · skip
                refine value_ (w1 := WA.drew.alloc (.cells #[.string (lineOf CUR).f0, .int .i64 (lineOf CUR).f1] 35)) (v := .slice (some ⟨WA.heap.size, 0, none⟩) 1 1) (by rfl) rfl (by go_simp) ?_
                have HB1 := Aside0.mk (below_alloc HB0.out (.cells #[.string (lineOf CUR).f0, .int .i64 (lineOf CUR).f1] 35))
                have X1 : (WA.drew.alloc (.cells #[.string (lineOf CUR).f0, .int .i64 (lineOf CUR).f1] 35)).heap[WA.heap.size]? = some (.cells #[.string (lineOf CUR).f0, .int .i64 (lineOf CUR).f1] 35) := blk_new WA.drew _
                refine hK.out _ _ ⟨(HB1.out.cell (World.block_lt_of_cell? _ _ a0)).trans a0, (HB1.out.cell (World.block_lt_of_cell? _ _ a1)).trans a1⟩ (fun hHeld => ?_)
                clear hK K
                refine norm_ (a' := ?_) ?_ ?_
                rotate_left
                · show Act.put _ (some 97) _ = _
                  simp only [Act.put, List.setIfInBounds_toArray, List.set_cons_zero, List.set_cons_succ, i64_w, i32_w]
                  rfl
                refine one_ (i := 5) (N := some 99) #[true, true, true, true, true, true, false, false, false, false, false, false, false, false, false] rfl rfl (by kernel_rfl) (by decide) (fun K hK => ?_)
                refine goes_ Try.func6 (by kernel_rfl) rfl #[.string L] (by rfl) rfl rfl (by (try simp only [List.map_toArray, List.map_cons, List.map_nil]); first | done | rfl) ?_
                with_reducible refine (whirligigref34_Line.calls (L.size + 1) L _ _ _ HLI.out).mono ?_
                rintro e w6 ⟨rfl, hb6⟩
                refine ⟨_, rfl, ?_⟩
                have HB6 := Aside0.mk (below_step HB1.out hb6)
                have X6 := blk_below X1 hb6
                refine hK.out _ _ ⟨(HB6.out.cell (World.block_lt_of_cell? _ _ a0)).trans a0, (HB6.out.cell (World.block_lt_of_cell? _ _ a1)).trans a1⟩ (fun hHeld => ?_)
                clear hK K
                refine norm_ (a' := ?_) ?_ ?_
                rotate_left
                · show Act.put _ (some 99) _ = _
                  simp only [Act.put, List.setIfInBounds_toArray, List.set_cons_zero, List.set_cons_succ, i64_w, i32_w]
                  rfl
                refine one_ (i := 6) (N := some 100) #[true, true, true, true, true, true, true, false, false, false, false, false, false, false, false] rfl rfl (by kernel_rfl) (by decide) (fun K hK => ?_)
                refine value_ (w1 := w6.alloc (.cells #[.string (lineOf CUR).f0, .int .i64 (lineOf CUR).f1] 26)) (v := .slice (some ⟨w6.heap.size, 0, none⟩) 1 1) (by rfl) rfl (by go_simp) ?_
                have HB7 := Aside0.mk (below_alloc HB6.out (.cells #[.string (lineOf CUR).f0, .int .i64 (lineOf CUR).f1] 26))
                refine hK.out _ _ ⟨(HB7.out.cell (World.block_lt_of_cell? _ _ a0)).trans a0, (HB7.out.cell (World.block_lt_of_cell? _ _ a1)).trans a1⟩ (fun hHeld => ?_)
                clear hK K
                refine norm_ (a' := ?_) ?_ ?_
                rotate_left
                · show Act.put _ (some 100) _ = _
                  simp only [Act.put, List.setIfInBounds_toArray, List.set_cons_zero, List.set_cons_succ, i64_w, i32_w]
                  rfl
                exact hCont (WA.heap.size, w6.heap.size) _ ⟨blk_alloc X6 _, blk_new _ _, HB7.out⟩
              · skip
                refine goes_ Try.func6 (by kernel_rfl) rfl #[.string L] (by rfl) rfl rfl (by (try simp only [List.map_toArray, List.map_cons, List.map_nil]); first | done | rfl) ?_
                with_reducible refine (whirligigref34_Line.calls (L.size + 1) L _ _ _ HLI.out).mono ?_
                rintro e w6 ⟨rfl, hb6⟩
                refine ⟨_, rfl, ?_⟩
                have HB6 := Aside0.mk (below_step HB0.out hb6)
                refine hK.out _ _ ⟨(HB6.out.cell (World.block_lt_of_cell? _ _ a0)).trans a0, (HB6.out.cell (World.block_lt_of_cell? _ _ a1)).trans a1⟩ (fun hHeld => ?_)
                clear hK K
                refine norm_ (a' := ?_) ?_ ?_
                rotate_left
                · show Act.put _ (some 99) _ = _
                  simp only [Act.put, List.setIfInBounds_toArray, List.set_cons_zero, List.set_cons_succ, i64_w, i32_w]
                  rfl
                refine two_ (i := 3) (j := 6) (Ni := some 97) (Nj := some 100) #[true, true, true, true, true, true, false, false, false, false, false, false, false, false, false] #[true, true, true, false, true, true, true, false, false, false, false, false, false, false, false] rfl rfl rfl rfl (by kernel_rfl) (by decide) (by decide) (fun K hK => ?_) (fun K hK => ?_)
                · skip
                  refine value_ (w1 := w6.alloc (.cells #[.string (lineOf CUR).f0, .int .i64 (lineOf CUR).f1] 35)) (v := .slice (some ⟨w6.heap.size, 0, none⟩) 1 1) (by rfl) rfl (by go_simp) ?_
                  have HB1 := Aside0.mk (below_alloc HB6.out (.cells #[.string (lineOf CUR).f0, .int .i64 (lineOf CUR).f1] 35))
                  refine hK.out _ _ ⟨(HB1.out.cell (World.block_lt_of_cell? _ _ a0)).trans a0, (HB1.out.cell (World.block_lt_of_cell? _ _ a1)).trans a1⟩ (fun hHeld => ?_)
                  clear hK K
                  refine norm_ (a' := ?_) ?_ ?_
                  rotate_left
                  · show Act.put _ (some 97) _ = _
                    simp only [Act.put, List.setIfInBounds_toArray, List.set_cons_zero, List.set_cons_succ, i64_w, i32_w]
                    rfl
                  refine one_ (i := 6) (N := some 100) #[true, true, true, true, true, true, true, false, false, false, false, false, false, false, false] rfl rfl (by kernel_rfl) (by decide) (fun K hK => ?_)
                  refine value_ (w1 := (w6.alloc (.cells #[.string (lineOf CUR).f0, .int .i64 (lineOf CUR).f1] 35)).alloc (.cells #[.string (lineOf CUR).f0, .int .i64 (lineOf CUR).f1] 26)) (v := .slice (some ⟨w6.heap.size + 1, 0, none⟩) 1 1) (by rfl) rfl (by go_simp) ?_
                  have HB7 := Aside0.mk (below_alloc HB1.out (.cells #[.string (lineOf CUR).f0, .int .i64 (lineOf CUR).f1] 26))
                  refine hK.out _ _ ⟨(HB7.out.cell (World.block_lt_of_cell? _ _ a0)).trans a0, (HB7.out.cell (World.block_lt_of_cell? _ _ a1)).trans a1⟩ (fun hHeld => ?_)
                  clear hK K
                  refine norm_ (a' := ?_) ?_ ?_
                  rotate_left
                  · show Act.put _ (some 100) _ = _
                    simp only [Act.put, List.setIfInBounds_toArray, List.set_cons_zero, List.set_cons_succ, i64_w, i32_w]
                    rfl
                  exact hCont (w6.heap.size, w6.heap.size + 1) _ ⟨blk_alloc (blk_new _ _) _, two_new _ _ _, HB7.out⟩
                · skip
                  refine value_ (w1 := w6.alloc (.cells #[.string (lineOf CUR).f0, .int .i64 (lineOf CUR).f1] 26)) (v := .slice (some ⟨w6.heap.size, 0, none⟩) 1 1) (by rfl) rfl (by go_simp) ?_
                  have HB1 := Aside0.mk (below_alloc HB6.out (.cells #[.string (lineOf CUR).f0, .int .i64 (lineOf CUR).f1] 26))
                  refine hK.out _ _ ⟨(HB1.out.cell (World.block_lt_of_cell? _ _ a0)).trans a0, (HB1.out.cell (World.block_lt_of_cell? _ _ a1)).trans a1⟩ (fun hHeld => ?_)
                  clear hK K
                  refine norm_ (a' := ?_) ?_ ?_
                  rotate_left
                  · show Act.put _ (some 100) _ = _
                    simp only [Act.put, List.setIfInBounds_toArray, List.set_cons_zero, List.set_cons_succ, i64_w, i32_w]
                    rfl
                  refine one_ (i := 3) (N := some 97) #[true, true, true, true, true, true, true, false, false, false, false, false, false, false, false] rfl rfl (by kernel_rfl) (by decide) (fun K hK => ?_)
                  refine value_ (w1 := (w6.alloc (.cells #[.string (lineOf CUR).f0, .int .i64 (lineOf CUR).f1] 26)).alloc (.cells #[.string (lineOf CUR).f0, .int .i64 (lineOf CUR).f1] 35)) (v := .slice (some ⟨w6.heap.size + 1, 0, none⟩) 1 1) (by rfl) rfl (by go_simp) ?_
                  have HB7 := Aside0.mk (below_alloc HB1.out (.cells #[.string (lineOf CUR).f0, .int .i64 (lineOf CUR).f1] 35))
                  refine hK.out _ _ ⟨(HB7.out.cell (World.block_lt_of_cell? _ _ a0)).trans a0, (HB7.out.cell (World.block_lt_of_cell? _ _ a1)).trans a1⟩ (fun hHeld => ?_)
                  clear hK K
                  refine norm_ (a' := ?_) ?_ ?_
                  rotate_left
                  · show Act.put _ (some 97) _ = _
                    simp only [Act.put, List.setIfInBounds_toArray, List.set_cons_zero, List.set_cons_succ, i64_w, i32_w]
                    rfl
                  exact hCont (w6.heap.size + 1, w6.heap.size) _ ⟨two_new _ _ _, blk_alloc (blk_new _ _) _, HB7.out⟩
            · skip
              rintro ⟨X, Y⟩ w7 ⟨hX, hY, hb7⟩
              have HX := Aside0.mk hX
              have HY := Aside0.mk hY
              have HB7 := Aside0.mk hb7
              clear hX hY hb7
              have hHeld : w7.cell? ⟨b8, 0, none⟩ = some (.string (lineOf CUR).f0) ∧ w7.cell? ⟨b8, 1, none⟩ = some (.int .i64 (lineOf CUR).f1) := ⟨(HB7.out.cell (World.block_lt_of_cell? _ _ a0)).trans a0, (HB7.out.cell (World.block_lt_of_cell? _ _ a1)).trans a1⟩
              refine norm_ (a' := ?_) ?_ ?_
              rotate_left
              · simp only [putAll, Act.put, List.setIfInBounds_toArray, List.set_cons_zero, List.set_cons_succ, i64_w, i32_w]
                rfl
              refine one_ (i := 7) (N := some 101) #[true, true, true, true, true, true, true, true, false, false, false, false, false, false, false] rfl rfl (by kernel_rfl) (by decide) (fun K hK => ?_)
              refine goes_ Try.func9 (by kernel_rfl) rfl #[.slice (some ⟨X, 0, none⟩) 1 1, .slice (some ⟨Y, 0, none⟩) 1 1] (by rfl) rfl rfl (by (try simp only [List.map_toArray, List.map_cons, List.map_nil]); first | done | rfl) ?_
              refine (same_one (lineOf CUR) w7 X Y HX.out HY.out).mono ?_
              rintro e w8 ⟨rfl, hb8⟩
              refine ⟨_, rfl, ?_⟩
              have HB8 := Aside0.mk (below_step HB7.out hb8)
              refine hK.out _ _ ⟨(HB8.out.cell (World.block_lt_of_cell? _ _ a0)).trans a0, (HB8.out.cell (World.block_lt_of_cell? _ _ a1)).trans a1⟩ (fun hHeld => ?_)
              clear hK K
              refine norm_ (a' := ?_) ?_ ?_
              rotate_left
              · show Act.put _ (some 101) _ = _
                simp only [Act.put, List.setIfInBounds_toArray, List.set_cons_zero, List.set_cons_succ, i64_w, i32_w]
                rfl
              refine pure_ (i := 8) (N := some 102) (v := ?_) (a' := ?_) #[true, true, true, true, true, true, true, true, true, false, false, false, false, false, false] rfl rfl (by kernel_rfl) (fun _ _ _ h => h) (Or.inl ⟨by rfl, ?_⟩) ?_ ?_
              rotate_left
              · intro w'
                go_simp
                with_reducible rfl
              rotate_left
              · simp only [Act.put, List.setIfInBounds_toArray, List.set_cons_zero, List.set_cons_succ, i64_w, i32_w]
                rfl
              refine pure_ (i := 9) (N := some 103) (v := ?_) (a' := ?_) #[true, true, true, true, true, true, true, true, true, true, false, false, false, false, false] rfl rfl (by kernel_rfl) (fun _ _ _ h => h) (Or.inl ⟨by rfl, ?_⟩) ?_ ?_
              rotate_left
              · intro w'
                go_simp
                with_reducible rfl
              rotate_left
              · simp only [Act.put, List.setIfInBounds_toArray, List.set_cons_zero, List.set_cons_succ, i64_w, i32_w]
                rfl
              refine pure_ (i := 10) (N := some 104) (v := ?_) (a' := ?_) #[true, true, true, true, true, true, true, true, true, true, true, false, false, false, false] rfl rfl (by kernel_rfl) (fun _ _ _ h => h) (Or.inl ⟨by rfl, ?_⟩) ?_ ?_
              rotate_left
              · intro w'
                go_simp
                with_reducible rfl
              rotate_left
              · simp only [Act.put, List.setIfInBounds_toArray, List.set_cons_zero, List.set_cons_succ, i64_w, i32_w]
                rfl
              refine one_ (i := 11) (N := some 105) #[true, true, true, true, true, true, true, true, true, true, true, true, false, false, false] rfl rfl (by kernel_rfl) (by decide) (fun K hK => ?_)
              refine goes_ Try.func10 (by kernel_rfl) rfl #[.pointer (some ⟨g, 0, none⟩)] (by rfl) rfl rfl (by (try simp only [List.map_toArray, List.map_cons, List.map_nil]); first | done | rfl) ?_
              refine (HSA.out.below HB8.out).left.mono ?_
              rintro e w9 ⟨rfl, h9⟩
              refine ⟨_, rfl, ?_⟩
              rw [h9]
              refine hK.out _ _ ⟨(HB8.out.cell (World.block_lt_of_cell? _ _ a0)).trans a0, (HB8.out.cell (World.block_lt_of_cell? _ _ a1)).trans a1⟩ (fun hHeld => ?_)
              clear hK K
              refine norm_ (a' := ?_) ?_ ?_
              rotate_left
              · show Act.put _ (some 105) _ = _
                simp only [Act.put, List.setIfInBounds_toArray, List.set_cons_zero, List.set_cons_succ, i64_w, i32_w]
                rfl
              refine pure_ (i := 12) (N := some 106) (v := ?_) (a' := ?_) #[true, true, true, true, true, true, true, true, true, true, true, true, true, false, false] rfl rfl (by kernel_rfl) (fun _ _ _ h => h) (Or.inl ⟨by rfl, ?_⟩) ?_ ?_
              rotate_left
              · intro w'
                go_simp
                with_reducible rfl
              rotate_left
              · simp only [Act.put, List.setIfInBounds_toArray, List.set_cons_zero, List.set_cons_succ, i64_w, i32_w]
                rfl
              refine pure_ (i := 13) (N := some 107) (v := ?_) (a' := ?_) #[true, true, true, true, true, true, true, true, true, true, true, true, true, true, false] rfl rfl (by kernel_rfl) (fun _ _ _ h => h) (Or.inl ⟨by rfl, ?_⟩) ?_ ?_
              rotate_left
              · intro w'
                go_simp
                with_reducible rfl
              rotate_left
              · simp only [Act.put, List.setIfInBounds_toArray, List.set_cons_zero, List.set_cons_succ, i64_w, i32_w]
                rfl
              refine pure_ (i := 14) (N := some 2) (v := ?_) (a' := ?_) #[true, true, true, true, true, true, true, true, true, true, true, true, true, true, true] rfl rfl (by kernel_rfl) (fun _ _ _ h => h) (Or.inl ⟨by rfl, ?_⟩) ?_ ?_
              rotate_left
              · intro w'
                go_simp
                with_reducible rfl
              rotate_left
              · simp only [Act.put, List.setIfInBounds_toArray, List.set_cons_zero, List.set_cons_succ, i64_w, i32_w]
                rfl
              refine done_ (by kernel_rfl) ?_
              go_wp2
              go_ret
              exact ⟨rfl, below_step HBA.out HB8.out⟩
end Go.Proofs.Ytlnllcgepplneaa.MFrameLines
