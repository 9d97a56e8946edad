/- queue.Cancel walked: a row of the call's own that holds the timers of another name, in their order. -/
import Derived.Test.YtnkoibbaimhegaaQArm
import Derived.Lib.SliceRun
namespace Go.Proofs.Ytnkoibbaimhegaa.MQ
open Go.RowKit Go.Proofs Go.Proofs.YtnkoibbaimhegaaW.PrintWords Go.Proofs.YtnkoibbaimhegaaW.PrintLast Go.Proofs.YtnkoibbaimhegaaW.PrintMore
set_option linter.unusedVariables false
set_option linter.unusedSimpArgs false
/-- Is it a timer of that name? -/
def isN (name : ByteArray) (x : S25) : Bool := x.f2.toList == name.toList
theorem enter24 : ∀ (args : Array Value) (w : World), (callFunc 24 args).run Try.prog w = .ok (.enter 24 args) w := enters_of Try.func24 (by kernel_rfl) rfl
set_option maxHeartbeats 1000000 in
theorem del_any (x : S25) (name : ByteArray) (B : Nat) (w : World) (hB : w.cell? ⟨B, 0, none⟩ = some (.string name)) :
    Calls Try.prog 24 #[.agg #[.int .i64 x.f0, .int .i64 x.f1, .string x.f2], .pointer (some ⟨B, 0, none⟩)] w fun e w' => e = .returned (.bool (isN name x)) ∧ Below w.heap.size w w' := by
  have hu25 := Try.underlying25
  have b2 : (w.alloc (.cells #[.int .i64 x.f0, .int .i64 x.f1, .string x.f2] 25)).cell? ⟨w.heap.size, 2, none⟩ = some (.string x.f2) := by rw [World.cell?_alloc_new]; rfl
  have hbn : (w.alloc (.cells #[.int .i64 x.f0, .int .i64 x.f1, .string x.f2] 25)).cell? ⟨B, 0, none⟩ = some (.string name) := by
    rw [World.cell?_alloc_past _ B 0 (World.block_lt_of_cell? w _ hB)]; exact hB
  have HB1 : Aside0 (Below w.heap.size w (w.alloc (.cells #[.int .i64 x.f0, .int .i64 x.f1, .string x.f2] 25))) := ⟨below_alloc (Below.refl _ _) _⟩
  clear hB
  go_enter Try.func24, Try.ntmps24
  go_wp2
  go_ret
  exact ⟨rfl, HB1.out⟩
set_option maxHeartbeats 4000000 in
set_option maxRecDepth 100000 in
theorem index_any (A0 : Option Addr) (c0 : Nat) (l : List S25) (name : ByteArray) (B : Nat) (w : World) (hr0 : Kd.C k25 w A0 l.length l) (hc0 : l.length ≤ c0) (hn : l.length ≤ 1000) (hB : w.cell? ⟨B, 0, none⟩ = some (.string name)) :
    Calls Try.prog 32 #[.slice A0 l.length c0, .func (.func 24) #[] #[.pointer (some ⟨B, 0, none⟩)]] w fun e w' =>
      ∃ r : Int, e = .returned (.int .i64 r) ∧ ((r = -1 ∧ ∀ j, j < l.length → isN name (l.getD j z25) = false) ∨ ∃ i : Nat, r = i ∧ i < l.length ∧ isN name (l.getD i z25) = true ∧ ∀ j, j < i → isN name (l.getD j z25) = false) ∧ Below w.heap.size w w' := by
  have HR := Aside0.mk hr0
  have hu25 := Try.underlying25
  have eg := enter24
  have HBX := Aside0.mk hB
  have HB0 := Aside0.mk (Below.refl w.heap.size w)
  clear hr0 hB
  go_enter Try.func32, Try.ntmps32
  go_wp2
  go_loopw [5, 8] (fun _ s8 wr => ∃ i : Nat, s8 = .int .i64 i ∧ i ≤ l.length ∧ Aside0 (Below w.heap.size w wr) ∧ Aside0 (∀ j, j < i → isN name (l.getD j z25) = false)) (fun _ s8 _ => l.length - (intOf s8).toNat)
  case atStart => exact ⟨0, rfl, Nat.zero_le _, HB0, ⟨fun j hj => absurd hj (Nat.not_lt_zero _)⟩⟩
  case round =>
    obtain ⟨i, rfl, hin, HB, I⟩ := hrel
    by_cases hlt : i < l.length
    · have hn4 : (i : Int) < (l.length : Int) := by omega
      have p : (0 : Int) ≤ (i : Int) := Int.natCast_nonneg _
      obtain ⟨ad, rfl, x0, x1, x2⟩ := at_T25 HR.out _ p hn4
      replace x0 := (HB.out.cell (World.block_lt_of_cell? w _ x0)).trans x0
      replace x1 := (HB.out.cell (World.block_lt_of_cell? w _ x1)).trans x1
      replace x2 := (HB.out.cell (World.block_lt_of_cell? w _ x2)).trans x2
      have hbw := (HB.out.cell (World.block_lt_of_cell? w _ HBX.out)).trans HBX.out
      have Y : Aside0 (l.getD i z25 = rd_T25 l (i : Int)) := ⟨rfl⟩
      generalize rd_T25 l (i : Int) = y at x0 x1 x2 Y
      rw [Int.toNat_natCast] at x0 x1 x2
      have hc := del_any y name B wr hbw
      clear hbw
      have hwk : IntKind.i64.wrap ((i : Int) + 1) = (i : Int) + 1 := by rw [IntKind.wrap_i64]; omega
      by_cases hyx : isN name y = true
      · rw [hyx] at hc
        go_wp2_with (go_at_fn 24; refine hc.mono ?_; rintro e w' ⟨rfl, hb⟩; have HB2 := Aside0.mk (below_step HB.out hb); clear hb)
        go_ret
        exact ⟨(i : Int), rfl, .inr ⟨i, rfl, hlt, by rw [Y.out]; exact hyx, I.out⟩, HB2.out⟩
      · have hyx2 : isN name y = false := by cases h : isN name y with | true => exact absurd h hyx | false => rfl
        rw [hyx2] at hc
        go_wp2_with (go_at_fn 24; refine hc.mono ?_; rintro e w' ⟨rfl, hb⟩; have HB2 := Aside0.mk (below_step HB.out hb); clear hb)
        have I2 : Aside0 (∀ j, j < i + 1 → isN name (l.getD j z25) = false) := ⟨fun j hj => by
          rcases Nat.lt_or_ge j i with h1 | h1
          · exact I.out j h1
          · obtain rfl : j = i := by omega
            rw [Y.out, hyx2]⟩
        go_roundw
        case rel => exact ⟨i + 1, by go_num, by omega, HB2, I2⟩
        case measure => simp [intOf]; omega
    · have hn4 : ¬ ((i : Int) < (l.length : Int)) := by omega
      go_wp2
      go_ret
      exact ⟨-1, rfl, .inl ⟨rfl, fun j hj => I.out j (by omega)⟩, HB.out⟩
theorem cells3_get : ∀ (L : List S25) (j k : Nat), j < L.length → k < 3 → (cells3 L)[j * 3 + k]? = (enc3 (L.getD j z25))[k]?
  | [], _, _, h, _ => absurd h (Nat.not_lt_zero _)
  | y :: r, 0, k, _, hk => by
    rw [cells3, Nat.zero_mul, Nat.zero_add, List.getElem?_append_left (show k < 3 from hk)]
    rfl
  | y :: r, j + 1, k, h, hk => by
    rw [cells3, show (j + 1) * 3 + k = (enc3 y).length + (j * 3 + k) by show _ = 3 + _; omega, List.getElem?_append_right (Nat.le_add_right _ _), Nat.add_sub_cancel_left, cells3_get r j k (by simpa using h) hk]
    rfl
theorem row_cells {w : World} {g : Nat} {cur : Array Value} {L : List S25} (hg : w.heap[g]? = some (.cells cur 25 (0, 0))) (htake : cur.toList.take (L.length * 3) = cells3 L) (j : Nat) (hj : j < L.length) :
    w.cell? ⟨g, j * 3, none⟩ = some (.int .i64 (L.getD j z25).f0) ∧ w.cell? ⟨g, j * 3 + 1, none⟩ = some (.int .i64 (L.getD j z25).f1) ∧ w.cell? ⟨g, j * 3 + 2, none⟩ = some (.string (L.getD j z25).f2) := by
  have h : ∀ k, k < 3 → w.cell? ⟨g, j * 3 + k, none⟩ = (enc3 (L.getD j z25))[k]? := fun k hk => by
    rw [cell_of_row w g _ cur 25 (0, 0) hg, ← Array.getElem?_toList, ← cells3_get L j k hj hk, ← htake, List.getElem?_take_of_lt (by omega)]
  exact ⟨h 0 (by omega), h 1 (by omega), h 2 (by omega)⟩
/-- A store of a whole timer into a row of the call's own. -/
theorem set_row (g : Nat) (cap : Nat) (cur : Array Value) (L : List S25) (w : World) (hg : w.heap[g]? = some (.cells cur 25 (0, 0))) (hcs : cur.size = cap * 3) (hnc : L.length ≤ cap) (htake : cur.toList.take (L.length * 3) = cells3 L)
    (i : Nat) (hi : i < L.length) (y : S25) : ∃ cur', (((w.setCell ⟨g, i * 3, none⟩ (.int .i64 y.f0)).setCell ⟨g, i * 3 + 1, none⟩ (.int .i64 y.f1)).setCell ⟨g, i * 3 + 2, none⟩ (.string y.f2)).heap[g]? = some (.cells cur' 25 (0, 0)) ∧ cur'.size = cap * 3 ∧
      cur'.toList.take ((L.set i y).length * 3) = cells3 (L.set i y) := by
  obtain ⟨cur', h3, h4, h5⟩ := setCells_row (enc3 y) (i * 3) w cur hg (by rw [hcs]; show i * 3 + 3 ≤ _; omega)
  refine ⟨cur', h3, by rw [h4, hcs], ?_⟩
  have hel : (enc3 y).length = 3 := rfl
  have hs : L.set i y = L.take i ++ y :: L.drop (i + 1) := List.set_eq_take_append_cons_drop.trans (if_pos hi)
  have hAl : (cells3 (L.take i)).length = i * 3 := by rw [cells3_length, List.length_take, Nat.min_eq_left (by omega)]
  have hA : cur.toList.take (i * 3) = cells3 (L.take i) := by
    have h2 : cur.toList.take (i * 3) = (cur.toList.take (L.length * 3)).take (i * 3) := by rw [List.take_take, Nat.min_eq_left (by omega)]
    rw [h2, htake]
    conv => lhs; rw [← List.take_append_drop i L, cells3_append]
    rw [← hAl, List.take_left]
  have hD : (cur.toList.drop (i * 3 + 3)).take ((L.length - (i + 1)) * 3) = cells3 (L.drop (i + 1)) := by
    have h2 : (cur.toList.drop (i * 3 + 3)).take ((L.length - (i + 1)) * 3) = (cur.toList.take (L.length * 3)).drop (i * 3 + 3) := by
      rw [List.drop_take, show L.length * 3 - (i * 3 + 3) = (L.length - (i + 1)) * 3 by omega]
    rw [h2, htake]
    have h6 : (cells3 (L.take (i + 1))).length = i * 3 + 3 := by rw [cells3_length, List.length_take, Nat.min_eq_left (by omega)]; omega
    conv => lhs; rw [← List.take_append_drop (i + 1) L, cells3_append]
    rw [← h6, List.drop_left]
  rw [List.length_set, h5, hel, hA, hs, cells3_append, cells3, ← hD, List.append_assoc]
  have e1 : L.length * 3 = (cells3 (L.take i)).length + ((enc3 y).length + (L.length - (i + 1)) * 3) := by rw [hAl, hel]; omega
  rw [e1, List.take_length_add_append, List.take_length_add_append]
theorem zeros_cells (n : Nat) : (Builtin.zeroCells (Value.agg #[.int .i64 0, .int .i64 0, .string ByteArray.empty]).cells n).toList = cells3 (List.replicate n z25) :=
  reps_cells (R := fun x c => c = enc3 x) (fun _ _ h => h) _ _ (Kd.reps_zeros (z := (Value.agg #[.int .i64 0, .int .i64 0, .string ByteArray.empty])) (size := 3) (z0 := z25) rfl (by decide) rfl n)
theorem zero25 : ∀ w, (zeroValue 25).run Try.prog w = .ok (Value.agg #[.int .i64 0, .int .i64 0, .string ByteArray.empty]) w := fun w => by
  obtain ⟨i, hi, h⟩ := Option.map_eq_some_iff.1 info25
  simp only [Prod.mk.injEq] at h
  simp [zeroValue, typeInfo, hi, h.1]
theorem run_clear_rows (w : World) (g o n c : Nat) (ty : TypeId) (cur : Array Value) (hg : w.heap[g]? = some (.cells cur 25 (0, 0))) (hn : 0 < n) (hfit : o + n * 3 ≤ cur.size) :
    (Builtin.clear_ #[22] ty #[.slice (some ⟨g, o, none⟩) n c]).run Try.prog w = .ok (.tuple #[]) (w.setRow g (cur.toList.take o ++ cells3 (List.replicate n z25) ++ cur.toList.drop (o + n * 3)).toArray) := by
  have hl : (cells3 (List.replicate n z25)).length = n * 3 := by rw [cells3_length, List.length_replicate]
  have hst := run_storeCells_at Try.prog g o 25 (cells3 (List.replicate n z25)) 0 cur w hg (by rw [hl]; simpa using hfit) (cells3_one _)
  have hz := zeros_cells n
  have hv := zero25 w
  rw [hl] at hst
  simp only [Nat.add_zero] at hst
  obtain ⟨m, rfl⟩ : ∃ m, n = m + 1 := ⟨n - 1, by omega⟩
  unfold Builtin.clear_
  simp [run_underlying Try.underlying22, hv, hz, hst]
theorem filt_set (p : S25 → Bool) (l L : List S25) (i j : Nat) (hj : j < l.length) (hij : i ≤ j) (hlen : L.length = l.length) (h1 : L.take i = (l.take j).filter p) (h2 : L.drop j = l.drop j) (hp : p (l.getD j z25) = true) :
    (L.set i (l.getD j z25)).take (i + 1) = (l.take (j + 1)).filter p ∧ (L.set i (l.getD j z25)).drop (j + 1) = l.drop (j + 1) := by
  have hg : l.getD j z25 = l[j] := by rw [List.getD_eq_getElem?_getD, List.getElem?_eq_getElem hj]; rfl
  constructor
  · have hil : (L.take i).length = i := by rw [List.length_take]; omega
    rw [List.set_eq_take_append_cons_drop, if_pos (by omega), List.take_append, List.take_of_length_le (by omega), hil, Nat.add_sub_cancel_left, List.take_succ_cons, List.take_zero, h1, List.take_succ_eq_append_getElem hj, List.filter_append, ← hg]
    congr 1
    rw [List.filter_cons, if_pos hp]
    rfl
  · rw [List.drop_set, if_pos (by omega), ← List.drop_drop, ← List.drop_drop, h2]
set_option maxHeartbeats 4000000 in
set_option maxRecDepth 100000 in
theorem delete_some (base g cap : Nat) (l : List S25) (name : ByteArray) (B : Nat) (w : World) (hR : Kd.R k25 25 w base (fun _ => True) (.slice (some ⟨g, 0, none⟩) l.length cap) l) (hn : l.length ≤ 1000) (hbase : base ≤ w.heap.size) (hB : w.cell? ⟨B, 0, none⟩ = some (.string name)) (hBb : B < base) :
    Calls Try.prog 23 #[.slice (some ⟨g, 0, none⟩) l.length cap, .func (.func 24) #[] #[.pointer (some ⟨B, 0, none⟩)]] w fun e w' => ∃ v', e = .returned v' ∧ Kd.R k25 25 w' base (fun _ => True) v' (l.filter (fun x => !isN name x)) ∧ Below base w w' := by
  have HR := Aside0.mk hR
  have hu25 := Try.underlying25
  have hu22 := Try.underlying22
  have eg := enter24
  have HBX := Aside0.mk hB
  obtain ⟨A', c', e', hcap, hC⟩ := Kd.R_reads hR
  injection e' with e1 e2 e3
  subst e1 e3
  have hix := index_any _ cap l name B w hC hcap hn hB
  have HIX := Aside0.mk hix
  have HB0 := Aside0.mk (Below.refl base w)
  have HBS := Aside0.mk hbase
  have hgb : base ≤ g := Kd.R_base hR g rfl
  have HBB := Aside0.mk hBb
  clear hR hB hix hC hbase hBb
  go_enter Try.func23, Try.ntmps23
  go_wp2_with fail
  refine HIX.out.mono ?_
  rintro e w1 ⟨r, rfl, hr, hb1⟩
  have HB1 := Aside0.mk (hb1.mono HBS.out)
  have HR1 := Aside0.mk (Kd.R_below HR.out hb1)
  clear hb1 HIX
  rcases hr with ⟨rfl, hall⟩ | ⟨i0, rfl, hi0, hdel, hbef⟩
  · have hf : l.filter (fun x => !isN name x) = l := by
      rw [List.filter_eq_self]
      intro x hx
      obtain ⟨j, hj, rfl⟩ := List.mem_iff_getElem.1 hx
      have := hall j hj
      rw [List.getD_eq_getElem?_getD, List.getElem?_eq_getElem hj] at this
      show (!isN name l[j]) = true
      have h2 : isN name l[j] = false := this
      rw [h2]; rfl
    have HF := Aside0.mk hf
    clear hall hf
    go_wp2
    go_ret
    exact ⟨_, rfl, by rw [HF.out]; exact HR1.out, HB1.out⟩
  · have hne : ¬ ((i0 : Int) = -1) := by omega
    have hwk : IntKind.i64.wrap ((i0 : Int) + 1) = (i0 : Int) + 1 := by rw [IntKind.wrap_i64]; omega
    have hfil : (l.take i0).filter (fun x => !isN name x) = l.take i0 := by
      rw [List.filter_eq_self]
      intro x hx
      obtain ⟨j, hj, rfl⟩ := List.mem_iff_getElem.1 hx
      rw [List.length_take] at hj
      have := hbef j (by omega)
      rw [List.getD_eq_getElem?_getD, List.getElem?_eq_getElem (by omega)] at this
      rw [List.getElem_take]
      have h2 : isN name l[j] = false := this
      rw [h2]; rfl
    have hfil2 : (l.take (i0 + 1)).filter (fun x => !isN name x) = l.take i0 := by
      rw [List.take_succ_eq_append_getElem hi0, List.filter_append, hfil]
      have h2 : isN name l[i0] = true := by rw [List.getD_eq_getElem?_getD, List.getElem?_eq_getElem hi0] at hdel; exact hdel
      rw [List.filter_cons, h2]
      exact List.append_nil _
    have HF2 := Aside0.mk hfil2.symm
    clear hfil hfil2 hdel hbef
    go_wp2_with fail
    rw [show ((i0 : Int) == -1) = false from beq_eq_false_iff_ne.2 hne]
    go_loopw [5, 6, 7] (fun s5 s6 _ wr => ∃ (i j : Nat) (L : List S25), s5 = .int .i64 i ∧ s6 = .int .i64 j ∧ i < j ∧ j ≤ l.length ∧ L.length = l.length ∧ Aside0 (L.take i = (l.take j).filter (fun x => !isN name x)) ∧ Aside0 (L.drop j = l.drop j) ∧
      Aside0 (Kd.R k25 25 wr base (fun _ => True) (.slice (some ⟨g, 0, none⟩) l.length cap) L) ∧ Aside0 (Below base w wr)) (fun _ s6 _ _ => l.length - (intOf s6).toNat)
    case atStart => exact ⟨i0, i0 + 1, l, rfl, by go_num, Nat.lt_succ_self _, hi0, rfl, HF2, ⟨rfl⟩, HR1, HB1⟩
    case round =>
      clear HR1 HB1 HF2
      obtain ⟨i, j, L, rfl, rfl, hij, hjn, hL, HT, HD, HRr, HB⟩ := hrel
      by_cases hlt : j < l.length
      · have hy : L.getD j z25 = l.getD j z25 := by
          have := congrArg (fun x : List S25 => x[0]?) HD.out
          simp only [List.getElem?_drop, Nat.add_zero] at this
          rw [List.getD_eq_getElem?_getD, List.getD_eq_getElem?_getD, this]
        have HL := Aside0.mk hL
        have hjL : j < L.length := by omega
        have hiL : i < L.length := by omega
        rcases (own_of_R HRr.out).2 with ⟨e1, _⟩ | ⟨g', cap', cur, e1, hbg, hg, hnc, hcm, hcs, htake⟩
        · cases e1
        · injection e1 with e2 e3 e4
          injection e2 with e2
          injection e2 with e2
          subst e2 e4
          clear e3
          obtain ⟨x0, x1, x2⟩ := row_cells hg htake j hjL
          obtain ⟨y0, y1, y2⟩ := row_cells hg htake i hiL
          have z0 := blk_frozen hg (i * 3)
          have z1 := blk_frozen hg (i * 3 + 1)
          have z2 := blk_frozen hg (i * 3 + 2)
          rw [hy] at x0 x1 x2
          have HY := Aside0.mk hy
          have HCUR := Aside0.mk (And.intro hg (And.intro hcs (And.intro hnc (And.intro hcm htake))))
          generalize hyy : l.getD j z25 = y at x0 x1 x2
          have HYY := Aside0.mk hyy
          generalize L.getD i z25 = yi at y0 y1 y2
          have hgw : g < wr.heap.size := (Array.getElem?_eq_some_iff.1 hg).1
          clear hy hyy hg hcs hnc hcm htake hL
          have hn1 : (j : Int) < (l.length : Int) := by omega
          have hn2 : (i : Int) < (l.length : Int) := by omega
          have hn3 : (0 : Int) ≤ (j : Int) := Int.natCast_nonneg _
          have hn4 : (0 : Int) ≤ (i : Int) := Int.natCast_nonneg _
          have hBw : wr.cell? ⟨B, 0, none⟩ = some (.string name) := (HB.out.cell (p := ⟨B, 0, none⟩) HBB.out).trans HBX.out
          have hBr : base ≤ wr.heap.size := Nat.le_trans HBS.out HB.out.size
          obtain ⟨W2, hW2⟩ : ∃ W2, W2 = wr.alloc (.cells #[.int .i64 y.f0, .int .i64 y.f1, .string y.f2] 25) := ⟨_, rfl⟩
          have hBW2 : W2.cell? ⟨B, 0, none⟩ = some (.string name) := by rw [hW2, World.cell?_alloc_past _ B 0 (by have := HBB.out; omega)]; exact hBw
          have b0 : W2.cell? ⟨wr.heap.size, 0, none⟩ = some (.int .i64 y.f0) := by rw [hW2, World.cell?_alloc_new]; rfl
          have b1 : W2.cell? ⟨wr.heap.size, 1, none⟩ = some (.int .i64 y.f1) := by rw [hW2, World.cell?_alloc_new]; rfl
          have b2 : W2.cell? ⟨wr.heap.size, 2, none⟩ = some (.string y.f2) := by rw [hW2, World.cell?_alloc_new]; rfl
          have hB2 : Below wr.heap.size wr W2 := by rw [hW2]; exact below_alloc (Below.refl _ _) _
          have hs2 : W2.heap.size = wr.heap.size + 1 := by rw [hW2]; exact World.size_alloc _ _
          have hc := del_any y name B W2 hBW2
          have HC := Aside0.mk hc
          clear hc hBw hBW2
          have hwj : IntKind.i64.wrap ((j : Int) + 1) = (j : Int) + 1 := by rw [IntKind.wrap_i64]; omega
          have hwi : IntKind.i64.wrap ((i : Int) + 1) = (i : Int) + 1 := by rw [IntKind.wrap_i64]; omega
          go_wp2_with fail
          rw [← hW2]
          refine HC.out.mono ?_
          rintro e w3 ⟨rfl, hb⟩
          have HB3 : Aside0 (Below base w w3) := ⟨(HB.out.trans (hB2.mono hBr)).trans (hb.mono (by omega))⟩
          have hg3 : w3.heap[g]? = some (.cells cur 25 (0, 0)) := (hb.block g (by omega)).trans ((hB2.block g hgw).trans HCUR.out.1)
          have e0 := (hb.cell (World.block_lt_of_cell? W2 _ b0)).trans b0
          have e1 := (hb.cell (World.block_lt_of_cell? W2 _ b1)).trans b1
          have e2 := (hb.cell (World.block_lt_of_cell? W2 _ b2)).trans b2
          have HG3 := Aside0.mk hg3
          clear HC b0 b1 b2 x0 x1 x2 y0 y1 y2 z0 z1 z2 hb hB2 HB hs2 hW2 HRr
          cases hyx : isN name y with
          | true =>
            have HR3 : Aside0 (Kd.R k25 25 w3 base (fun _ => True) (.slice (some ⟨g, 0, none⟩) l.length cap) L) := ⟨by
              rw [← HL.out]
              exact R_of_own3 ⟨cells3_length _, .inr ⟨g, cap, cur, rfl, hbg, HG3.out, by have := HCUR.out.2.2.1; omega, HCUR.out.2.2.2.1, HCUR.out.2.1, HCUR.out.2.2.2.2⟩⟩⟩
            have HT2 : Aside0 (L.take i = (l.take (j + 1)).filter (fun x => !isN name x)) := ⟨by
              rw [HT.out, List.take_succ_eq_append_getElem hlt, List.filter_append, List.filter_cons]
              have : l[j] = y := by rw [← HYY.out, List.getD_eq_getElem?_getD, List.getElem?_eq_getElem hlt]; rfl
              rw [this, hyx]
              exact (List.append_nil _).symm⟩
            have HD2 : Aside0 (L.drop (j + 1) = l.drop (j + 1)) := ⟨by rw [← List.drop_drop, ← List.drop_drop, HD.out]⟩
            go_wp2
            go_roundw
            case rel => exact ⟨i, j + 1, L, rfl, by go_num, by omega, by omega, HL.out, HT2, HD2, HR3, HB3⟩
            case measure => simp [intOf]; omega
          | false =>
            obtain ⟨q0, q1, q2⟩ := row_cells hg3 HCUR.out.2.2.2.2 i hiL
            generalize L.getD i z25 = yo at q0 q1 q2
            have z0 := blk_frozen hg3 (i * 3)
            have z1 := blk_frozen hg3 (i * 3 + 1)
            have z2 := blk_frozen hg3 (i * 3 + 2)
            obtain ⟨cur', s1, s2, s3⟩ := set_row g cap cur L w3 hg3 HCUR.out.2.1 HCUR.out.2.2.1 HCUR.out.2.2.2.2 i hiL y
            have HS := Aside0.mk (And.intro s1 (And.intro s2 s3))
            have hp : (fun x => !isN name x) (l.getD j z25) = true := by show (!isN name (l.getD j z25)) = true; rw [HYY.out, hyx]; rfl
            have hfs := filt_set (fun x => !isN name x) l L i j hlt (by omega) HL.out HT.out HD.out hp
            rw [HYY.out] at hfs
            have HT2 := Aside0.mk hfs.1
            have HD2 := Aside0.mk hfs.2
            clear s1 s2 s3 hg3 hfs hp
            go_wp2
            go_roundw
            case rel => exact ⟨i + 1, j + 1, L.set i y, by go_num, by go_num, by omega, by omega, by rw [List.length_set]; exact HL.out, HT2, HD2, ⟨by
              rw [← HL.out, show L.length = (L.set i y).length from List.length_set.symm]
              exact R_of_own3 ⟨cells3_length _, .inr ⟨g, cap, cur', rfl, hbg, HS.out.1, by rw [List.length_set]; exact HCUR.out.2.2.1, HCUR.out.2.2.2.1, HS.out.2.1, HS.out.2.2⟩⟩⟩, ⟨((HB3.out.setCell (p := ⟨g, i * 3, none⟩) hbg _).setCell (p := ⟨g, i * 3 + 1, none⟩) hbg _).setCell (p := ⟨g, i * 3 + 2, none⟩) hbg _⟩⟩
            case measure => simp [intOf]; omega
      · obtain rfl : j = l.length := by omega
        have hn1 : ¬ ((l.length : Int) < (l.length : Int)) := by omega
        have HL := Aside0.mk hL
        have hij' : i < l.length := hij
        have hfin : L.take i = l.filter (fun x => !isN name x) := by rw [HT.out, List.take_of_length_le (Nat.le_refl _)]
        have HF := Aside0.mk hfin
        rcases (own_of_R HRr.out).2 with ⟨e1, _⟩ | ⟨g', cap', cur, e1, hbg, hg, hnc, hcm, hcs, htake⟩
        · cases e1
        · injection e1 with e2 e3 e4
          injection e2 with e2
          injection e2 with e2
          subst e2 e4
          clear e3
          have hcl0 := fun ty => run_clear_rows wr g (i * 3) (l.length - i) (cap - i) ty cur hg (by omega) (by rw [hcs]; omega)
          obtain ⟨C2, hC2⟩ : ∃ C2, C2 = (cur.toList.take (i * 3) ++ cells3 (List.replicate (l.length - i) z25) ++ cur.toList.drop (i * 3 + (l.length - i) * 3)).toArray := ⟨_, rfl⟩
          rw [← hC2] at hcl0
          have hLl : L.length = l.length := hL
          have hAl : (cells3 (L.take i)).length = i * 3 := by rw [cells3_length, List.length_take, Nat.min_eq_left (by omega)]
          have h2 : cur.toList.take (i * 3) = cells3 (L.take i) := by
            have h3 : cur.toList.take (i * 3) = (cur.toList.take (L.length * 3)).take (i * 3) := by rw [List.take_take, Nat.min_eq_left (by omega)]
            rw [h3, htake]
            conv => lhs; rw [← List.take_append_drop i L, cells3_append]
            rw [← hAl, List.take_left]
          have hC2s : C2.size = cap * 3 := by
            rw [hC2, List.size_toArray, List.length_append, List.length_append, List.length_take, List.length_drop, cells3_length, List.length_replicate, Array.length_toList, hcs]
            omega
          have hC2t : C2.toList.take (i * 3) = cells3 (L.take i) := by
            rw [hC2, h2, List.append_assoc, ← hAl]
            exact List.take_left
          have hLi : (L.take i).length = i := by rw [List.length_take]; omega
          have HE : Aside0 (Kd.R k25 25 (wr.setRow g C2) base (fun _ => True) (.slice (some ⟨g, 0, none⟩) i cap) (L.take i)) := ⟨by
            conv => arg 6; rw [← hLi]
            exact R_of_own3 ⟨cells3_length _, .inr ⟨g, cap, C2, rfl, hbg, setRow_heap wr g cur C2 25 (0, 0) hg, by omega, hcm, hC2s, by rw [hLi]; exact hC2t⟩⟩⟩
          have HBE : Aside0 (Below base w (wr.setRow g C2)) := ⟨below_setRow HB.out hbg _⟩
          have hilc : i ≤ cap := by omega
          clear hC2 hC2s hC2t h2 hAl htake hcs hg hLl hLi HT HD HRr hL
          go_wp2
          go_ret
          exact ⟨_, rfl, by rw [← HF.out]; exact HE.out, HBE.out⟩
set_option maxHeartbeats 4000000 in
set_option maxRecDepth 100000 in
theorem delete_nil (base : Nat) (name : ByteArray) (B : Nat) (w : World) (hbase : base ≤ w.heap.size) (hB : w.cell? ⟨B, 0, none⟩ = some (.string name)) :
    Calls Try.prog 23 #[.slice none 0 0, .func (.func 24) #[] #[.pointer (some ⟨B, 0, none⟩)]] w fun e w' => ∃ v', e = .returned v' ∧ Kd.R k25 25 w' base (fun _ => True) v' [] ∧ Below base w w' := by
  have hix := index_any none 0 [] name B w ⟨rfl, by decide, fun h => absurd h (by decide)⟩ (Nat.le_refl _) (by decide) hB
  have HIX := Aside0.mk hix
  have HBS := Aside0.mk hbase
  clear hix hB hbase
  go_enter Try.func23, Try.ntmps23
  go_wp2_with fail
  refine HIX.out.mono ?_
  rintro e w1 ⟨r, rfl, hr, hb1⟩
  have HB1 := Aside0.mk (hb1.mono HBS.out)
  clear hb1 HIX
  obtain rfl : r = -1 := by
    rcases hr with ⟨h, _⟩ | ⟨i, _, h, _⟩
    · exact h
    · exact absurd h (Nat.not_lt_zero _)
  clear hr
  go_wp2
  go_ret
  exact ⟨_, rfl, Kd.R_nil _ _ _ _ _, HB1.out⟩
theorem delete_any (base : Nat) (v : Value) (l : List S25) (name : ByteArray) (B : Nat) (w : World) (hR : Kd.R k25 25 w base (fun _ => True) v l) (hn : l.length ≤ 1000) (hbase : base ≤ w.heap.size) (hB : w.cell? ⟨B, 0, none⟩ = some (.string name)) (hBb : B < base) :
    Calls Try.prog 23 #[v, .func (.func 24) #[] #[.pointer (some ⟨B, 0, none⟩)]] w fun e w' => ∃ v', e = .returned v' ∧ Kd.R k25 25 w' base (fun _ => True) v' (l.filter (fun x => !isN name x)) ∧ Below base w w' := by
  rcases (own_of_R hR).2 with ⟨rfl, h2⟩ | ⟨g, cap, cur, rfl, _⟩
  · obtain rfl : l = [] := List.length_eq_zero_iff.1 h2
    exact delete_nil base name B w hbase hB
  · exact delete_some base g cap l name B w hR hn hbase hB hBb
set_option maxHeartbeats 4000000 in
set_option maxRecDepth 100000 in
theorem cancel_any (A0 : Option Addr) (c0 : Nat) (l : List S25) (name : ByteArray) (w : World) (hr0 : Kd.C k25 w A0 l.length l) (hc0 : l.length ≤ c0) (hn : l.length ≤ 1000) :
    Calls Try.prog 14 #[.slice A0 l.length c0, .string name] w fun e w' => ∃ v0_ : Value, e = .returned v0_ ∧ Kd.R k25 25 w' w.heap.size (fun _ => True) v0_ (l.filter (fun x => !isN name x)) ∧ Below w.heap.size w w' := by
  have hbn : (w.alloc (.cells #[.string name] 9)).cell? ⟨w.heap.size, 0, none⟩ = some (.string name) := by rw [World.cell?_alloc_new]; rfl
  have hcl := clone_any A0 c0 l (w.alloc (.cells #[.string name] 9)) (Kd.C_alloc hr0 _) hc0 (by omega)
  have hmf : ∀ (fn : Fn) (first cap : Array Value) (w : World), (Instr.makeFunc fn first cap).run Try.prog w = .ok (.func fn first cap) w := fun _ _ _ _ => rfl
  have HCL := Aside0.mk hcl
  have HBN := Aside0.mk hbn
  have HB := Aside0.mk (below_alloc (Below.refl w.heap.size w) (.cells #[.string name] 9))
  have hs : (w.alloc (.cells #[.string name] 9)).heap.size = w.heap.size + 1 := World.size_alloc _ _
  have HS := Aside0.mk hs
  clear hcl hr0 hbn hs
  go_enter Try.func14, Try.ntmps14
  go_wp2_with fail
  refine HCL.out.mono ?_
  rintro e w1 ⟨v1, rfl, ho, hb1⟩
  have hd := delete_any _ v1 l name w.heap.size w1 ho hn hb1.size ((hb1.cell (World.block_lt_of_cell? _ _ HBN.out)).trans HBN.out) (by rw [HS.out]; exact Nat.lt_succ_self _)
  have HD := Aside0.mk hd
  have HB1 := Aside0.mk (below_step HB.out hb1)
  clear hd ho hb1
  go_wp2_with fail
  refine HD.out.mono ?_
  rintro e w2 ⟨v2, rfl, ho, hb2⟩
  have HO := Aside0.mk (Kd.R_lower ho (show w.heap.size ≤ _ by rw [HS.out]; exact Nat.le_succ _))
  have HB2 := Aside0.mk (HB1.out.trans (hb2.mono (show w.heap.size ≤ _ by rw [HS.out]; exact Nat.le_succ _)))
  clear ho hb2
  go_wp2
  go_ret
  exact ⟨v2, rfl, HO.out, HB2.out⟩
end Go.Proofs.Ytnkoibbaimhegaa.MQ
