/- Go's slices.Insert of one mark into a row of the call's own, walked on each of its roads: the row holds the marks ahead of the place, the new one, and those behind it. -/
import Derived.Test.YthadibmgahlpfaaKE
import Derived.Shelf.Spec.SlicesInsert
import Derived.Lib.AppendZerosOnto
import Derived.Laws.NewBlocks
import Derived.Laws.CopyOwn
namespace Go.Proofs.Ythadibmgahlpfaa.MD
open Go Go.RowKit Go.Proofs Go.Proofs.YthadibmgahlpfaaW.PrintWords Go.Proofs.YthadibmgahlpfaaW.PrintLast Go.Proofs.YthadibmgahlpfaaW.PrintMore
set_option linter.unusedVariables false
set_option linter.unusedSimpArgs false
def cellsE : List E → List Value
  | [] => []
  | x :: r => encE x ++ cellsE r
theorem cellsE_length : ∀ l : List E, (cellsE l).length = l.length * 15
  | [] => rfl
  | x :: r => by rw [cellsE, List.length_append, cellsE_length r, List.length_cons]; show 15 + _ = _; omega
theorem cellsE_append : ∀ a b : List E, cellsE (a ++ b) = cellsE a ++ cellsE b
  | [], _ => rfl
  | x :: r, b => by rw [List.cons_append, cellsE, cellsE, cellsE_append r b, List.append_assoc]
theorem cellsE_one : ∀ (l : List E), ∀ v ∈ cellsE l, v.oneCell' = true
  | [], v, h => by cases h
  | x :: r, v, h => by
    rcases List.mem_append.1 h with h | h
    · exact encE_one _ v h
    · exact cellsE_one r v h
theorem reps_cells {R : E → List Value → Prop} (hR : ∀ x c, R x c → c = encE x) : ∀ (l : List E) (cs : List Value), Reps R 15 l cs → cs = cellsE l
  | [], cs, h => List.length_eq_zero_iff.1 (by rw [h.1]; rfl)
  | x :: r, cs, h => by
    have h0 := hR _ _ (h.2 0 x rfl)
    rw [Nat.zero_mul, List.drop_zero] at h0
    have hr : Reps R 15 r (cs.drop 15) := ⟨by rw [List.length_drop, h.1, List.length_cons]; omega, fun j p hp => by
      have := h.2 (j + 1) p hp
      rw [List.drop_drop]
      rwa [show 15 + j * 15 = (j + 1) * 15 by omega]⟩
    rw [cellsE, ← reps_cells hR r _ hr, ← h0, List.take_append_drop]
theorem cells_reps {R : E → List Value → Prop} (hR : ∀ x, R x (encE x)) : ∀ (l : List E), Reps R 15 l (cellsE l)
  | [] => Reps.none _ _
  | x :: r => by
    have ih := cells_reps hR r
    refine ⟨cellsE_length _, fun j p hp => ?_⟩
    cases j with
    | zero =>
      obtain rfl : x = p := Option.some.inj hp
      exact hR x
    | succ j =>
      have := ih.2 j p hp
      rw [show (j + 1) * 15 = 15 + j * 15 by omega, ← List.drop_drop]
      exact this
theorem own_of_R {w : World} {base : Nat} {ok : Nat → Prop} {v : Value} {l : List E} (h : Kd.R kE 64 w base ok v l) : w.ownsRow base 64 15 v l.length (cellsE l) := by
  obtain ⟨_, inner, ho, hr⟩ := h
  have := reps_cells (fun x c hx => kE_openM hx) l inner hr
  subst this
  exact ho
theorem R_of_ownE {w : World} {base : Nat} {v : Value} {l : List E} (h : w.ownsRow base 64 15 v l.length (cellsE l)) : Kd.R kE 64 w base (fun _ => True) v l :=
  ⟨fun _ _ => trivial, cellsE l, h, cells_reps (fun x => kE_mkM _ _ _ x) l⟩
section
variable {P : Program}
theorem run_copy_rows (w : World) (dT sT ty elem : TypeId) (g o dLen dCap : Nat) (a : Addr) (sLen sCap : Nat) (cur : Array Value) (t : TypeId) (cs : List Value) (z : Nat)
    (hu : P.underlying dT = some (.slice elem)) (hs : (P.info? elem).map (·.size) = some z)
    (hg : w.heap[g]? = some (.cells cur t (0, 0))) (hn : cs.length = Nat.min sLen dLen * z)
    (hsrc : ∀ j v, cs[j]? = some v → w.cell? (a.add j) = some v) (hfit : o + cs.length ≤ cur.size) (h1 : ∀ v ∈ cs, v.oneCell' = true) :
    (Builtin.copy_ #[dT, sT] ty #[.slice (some ⟨g, o, none⟩) dLen dCap, .slice (some a) sLen sCap]).run P w =
      .ok (goInt (Nat.min sLen dLen)) (w.setRow g (cur.toList.take o ++ cs ++ cur.toList.drop (o + cs.length)).toArray) := by
  have hl := run_firstCells_some (P := P) w z (Nat.min sLen dLen) a sLen sCap cs hn hsrc
  have hst := run_storeCells_at P g o t cs 0 cur w hg (by simpa using hfit) h1
  cases hq : P.info? elem with
  | none => simp [hq] at hs
  | some i =>
    have hi : i.size = z := by simpa [hq] using hs
    simp [Builtin.copy_, run_underlying hu, Builtin.lenOf, sizeOf, typeInfo, hq, hi, hl, hst]
end
/-- Of the elder memory one row's own block alone has changed, and the new row lies there or in new memory. -/
def After (w w' : World) (v v' : Value) : Prop := w.grownBy w' v.ownBlock ∧ (v'.ownBlock = v.ownBlock ∨ ∃ b, v'.ownBlock = some b ∧ w.heap.size ≤ b)
theorem grown_setRow {w W : World} (h : Below w.heap.size w W) (g : Nat) (cs : Array Value) : w.grownBy (W.setRow g cs) (some g) := by
  refine ⟨h.os, h.tape, h.output, by have := h.size; simpa [World.setRow] using this, fun k hk hne => ?_⟩
  rw [← h.block k hk]
  simp only [World.setRow, Array.getElem?_modify]
  rw [if_neg (fun e => hne (by rw [e]))]
/-- What stands in a row after the two copies. -/
theorem splice_room (C A X D : List Value) (n : Nat) (hA : C.take A.length = A) (hX : X.length = 15) (hn : A.length + 15 + D.length ≤ C.length) :
    let C1 := C.take (A.length + 15) ++ D ++ C.drop (A.length + 15 + D.length)
    C1.take A.length ++ X ++ C1.drop (A.length + 15) = A ++ X ++ D ++ C.drop (A.length + 15 + D.length) := by
  intro C1
  have e1 : C1.take A.length = A := by
    show (C.take (A.length + 15) ++ D ++ C.drop (A.length + 15 + D.length)).take A.length = A
    rw [List.append_assoc, List.take_append_of_le_length (by rw [List.length_take]; omega), List.take_take, Nat.min_eq_left (by omega), hA]
  have e2 : C1.drop (A.length + 15) = D ++ C.drop (A.length + 15 + D.length) := by
    show (C.take (A.length + 15) ++ D ++ C.drop (A.length + 15 + D.length)).drop (A.length + 15) = _
    rw [List.append_assoc, List.drop_append_of_le_length (by rw [List.length_take]; omega), List.drop_of_length_le (by rw [List.length_take]; omega), List.nil_append]
  rw [e1, e2, List.append_assoc, List.append_assoc, List.append_assoc]
theorem infoM : (Try.prog.info? 64).map (fun i => (i.zero, i.size, i.bytes)) = some (some (.agg #[.int .i64 0, .int .i64 0, .int .i64 0, .int .i64 0, .int .i64 0, .int .u64 0, .slice none 0 0, .slice none 0 0, .slice none 0 0, .slice none 0 0, .slice none 0 0, .string ByteArray.empty, .slice none 0 0, .int .u64 0, .slice none 0 0]), 15, 240) := by kernel_rfl
theorem sizeM : (Try.prog.info? 64).map (·.size) = some 15 := by kernel_rfl
theorem sizeOfM : ∀ w, (Go.sizeOf 64).run Try.prog w = .ok 15 w := fun w => by
  obtain ⟨i, hi, h⟩ := Option.map_eq_some_iff.1 sizeM
  simp [sizeOf, typeInfo, hi, h]
set_option maxHeartbeats 4000000 in
set_option maxRecDepth 100000 in
theorem insert_room (g cap : Nat) (cur : Array Value) (l : List E) (i : Nat) (x : E) (vb : Nat) (w : World) (hi : i < l.length) (hl : l.length ≤ 1000)
    (hg : w.heap[g]? = some (.cells cur 64 (0, 0))) (hroom : l.length + 1 ≤ cap) (hcm : cap ≤ 9223372036854775807) (hcs : cur.size = cap * 15) (htake : cur.toList.take (l.length * 15) = cellsE l)
    (hvb : w.heap[vb]? = some (.cells (encE x).toArray 64 (0, 0))) (hne : vb ≠ g) :
    Calls Try.prog 18 #[.slice (some ⟨g, 0, none⟩) l.length cap, .int .i64 i, .slice (some ⟨vb, 0, none⟩) 1 1] w fun e w' =>
      e = .returned (.slice (some ⟨g, 0, none⟩) (l.length + 1) cap) ∧ ∃ m, w' = (w.drewN m).setRow g (cellsE (l.take i) ++ encE x ++ cellsE (l.drop i) ++ cur.toList.drop ((l.length + 1) * 15)).toArray := by
  have hz1 : ¬ ((i : Int) = (l.length : Int)) := by omega
  have hov : ∀ lb cb (W : World), W.heap[vb]? = w.heap[vb]? → W.heap[g]? = w.heap[g]? → (callFunc 27 #[.slice (some ⟨vb, 0, none⟩) 1 1, .slice (some ⟨g, (i + 1) * 15, none⟩) lb cb]).run Try.prog W = .ok (.value (.bool false)) W := fun lb cb W h1 h2 => by
    rw [run_callFunc_extern Try.func27 (by kernel_rfl) (by kernel_rfl) (by kernel_rfl) (e := Extern.SlicesOverlaps.overlaps #[57, 57] #[4]) (by kernel_rfl),
      Lib.run_overlaps_apart W 57 4 64 Try.underlying57 15 sizeOfM ⟨vb, 0, none⟩ ⟨g, (i + 1) * 15, none⟩ 1 1 lb cb hne 64 64 (encE x).toArray.size cur.size (by unfold World.shape?; rw [h1, hvb]) (by unfold World.shape?; rw [h2, hg]) (by omega) (by unfold World.frozen?; rw [h1, hvb]; rfl) (by unfold World.frozen?; rw [h1, hvb]; rfl)]
    rfl
  have hw1 : IntKind.i64.wrap ((i : Int) + 1) = (i : Int) + 1 := by rw [IntKind.wrap_i64]; omega
  have hw2 : IntKind.i64.wrap ((l.length : Int) + 1) = (l.length : Int) + 1 := by rw [IntKind.wrap_i64]; omega
  have hb1 : (0 : Int) ≤ (i : Int) + 1 := by omega
  have hin : i ≤ l.length := by omega
  have htn : ((i : Int) + 1).toNat = i + 1 := by omega
  have htn2 : ((l.length : Int) + 1).toNat = l.length + 1 := by omega
  have hb2 : ¬ (cap = i + 1) := by omega
  have hb3 : (i : Int) ≤ (l.length : Int) + 1 := by omega
  have hb4 : ¬ (cap = i) := by omega
  have hb5 : ¬ ((cap : Int) < (l.length : Int) + 1) := by omega
  have hov0 := fun lb cb => hov lb cb w rfl rfl
  clear hov
  have hDl : (cellsE (l.drop i)).length = (l.length - i) * 15 := by rw [cellsE_length, List.length_drop]
  have hAl : (cellsE (l.take i)).length = i * 15 := by rw [cellsE_length, List.length_take, Nat.min_eq_left (by omega)]
  have hall : cellsE l = cellsE (l.take i) ++ cellsE (l.drop i) := by rw [← cellsE_append, List.take_append_drop]
  have hcl : cur.toList.length = cap * 15 := by rw [Array.length_toList, hcs]
  have hgc : ∀ (m : Nat) j v, (cellsE (l.drop i))[j]? = some v → (w.drewN m).cell? ((⟨g, i * 15, none⟩ : Addr).add j) = some v := fun m j v hj => by
    have hlt : j < (l.length - i) * 15 := by
      have := (List.getElem?_eq_some_iff.1 hj).1
      omega
    rw [Addr.add_lit]
    show w.cell? _ = _
    rw [cell_of_row w g (i * 15 + j) cur 64 (0, 0) hg, ← Array.getElem?_toList]
    have h2 : (cur.toList.take (l.length * 15))[i * 15 + j]? = some v := by
      rw [htake, hall, List.getElem?_append_right (by omega), hAl, Nat.add_sub_cancel_left]
      exact hj
    rw [List.getElem?_take_of_lt (by omega)] at h2
    exact h2
  obtain ⟨C1, hC1⟩ : ∃ C1, C1 = (cur.toList.take ((i + 1) * 15) ++ cellsE (l.drop i) ++ cur.toList.drop ((i + 1) * 15 + (cellsE (l.drop i)).length)).toArray := ⟨_, rfl⟩
  have hC1l : C1.size = cap * 15 := by
    rw [hC1, List.size_toArray, List.length_append, List.length_append, List.length_take, List.length_drop, hDl, hcl]
    omega
  have hcp1 : ∀ (W : World), W = w.drew → ∀ ty dc sc, (Builtin.copy_ #[57, 57] ty #[.slice (some ⟨g, (i + 1) * 15, none⟩) (l.length - i) dc, .slice (some ⟨g, i * 15, none⟩) (l.length + 1 - i) sc]).run Try.prog W = .ok (goInt (Nat.min (l.length + 1 - i) (l.length - i))) (W.setRow g C1) := fun W hW ty dc sc => by
    subst hW
    rw [hC1]
    exact run_copy_rows w.drew 57 57 ty 64 g ((i + 1) * 15) (l.length - i) dc ⟨g, i * 15, none⟩ (l.length + 1 - i) sc cur 64 (cellsE (l.drop i)) 15 Try.underlying57 sizeM hg
      (by rw [hDl]; show _ = min _ _ * 15; omega) (hgc 1) (by rw [hDl, hcs]; omega) (cellsE_one _)
  have hC2 : (C1.toList.take (i * 15) ++ encE x ++ C1.toList.drop (i * 15 + (encE x).length)).toArray = (cellsE (l.take i) ++ encE x ++ cellsE (l.drop i) ++ cur.toList.drop ((l.length + 1) * 15)).toArray := by
    have h := splice_room cur.toList (cellsE (l.take i)) (encE x) (cellsE (l.drop i)) l.length (by
      have h2 : cur.toList.take (cellsE (l.take i)).length = (cur.toList.take (l.length * 15)).take (cellsE (l.take i)).length := by rw [List.take_take, Nat.min_eq_left (by omega)]
      rw [h2, htake, hall, List.take_left]) rfl (by rw [hAl, hDl, hcl]; omega)
    simp only [hAl] at h
    rw [show i * 15 + 15 = (i + 1) * 15 by omega, show (i + 1) * 15 + (cellsE (l.drop i)).length = (l.length + 1) * 15 by omega] at h
    rw [hC1, show i * 15 + (encE x).length = (i + 1) * 15 by show i * 15 + 15 = _; omega, show (i + 1) * 15 + (cellsE (l.drop i)).length = (l.length + 1) * 15 by omega]
    rw [show ∀ L : List Value, L.toArray.toList = L from fun L => rfl, h]
  have hcp2 : ∀ ty dc, (Builtin.copy_ #[57, 57] ty #[.slice (some ⟨g, i * 15, none⟩) (l.length + 1 - i) dc, .slice (some ⟨vb, 0, none⟩) 1 1]).run Try.prog (w.drew.setRow g C1) = .ok (goInt (Nat.min 1 (l.length + 1 - i))) ((w.drew.setRow g C1).setRow g (cellsE (l.take i) ++ encE x ++ cellsE (l.drop i) ++ cur.toList.drop ((l.length + 1) * 15)).toArray) := fun ty dc => by
    rw [← hC2]
    refine run_copy_rows (w.drew.setRow g C1) 57 57 ty 64 g (i * 15) (l.length + 1 - i) dc ⟨vb, 0, none⟩ 1 1 C1 64 (encE x) 15 Try.underlying57 sizeM (setRow_heap w.drew g cur C1 64 (0, 0) hg) (by show 15 = min _ _ * 15; omega) (fun j v hj => ?_) (by rw [hC1l, show (encE x).length = 15 from rfl]; omega) (fun v hv => encE_one _ v hv)
    rw [Addr.add_lit]
    show (w.drew.setRow g C1).cell? _ = _
    rw [cell_setRow_other _ _ _ _ hne]
    show w.cell? _ = _
    rw [cell_of_row w vb (0 + j) _ 64 (0, 0) hvb, Nat.zero_add, List.getElem?_toArray]
    exact hj
  obtain ⟨C3, hC3⟩ : ∃ C3, C3 = (cellsE (l.take i) ++ encE x ++ cellsE (l.drop i) ++ cur.toList.drop ((l.length + 1) * 15)).toArray := ⟨_, rfl⟩
  rw [← hC3] at hcp2 ⊢
  clear hC3 hC2 hgc hall hDl hAl htake hC1
  go_enter Try.func18, Try.ntmps18
  go_wp2_with (simp only [hov0])
  go_region_law (refine step_copy_runI rfl _ _ 57 57 rfl _ _ (by simp [Act.eval, Act.put]) (by simp [Act.eval, Act.put]) (hcp1 _ rfl _ _ _) ?_)
  go_wp2_with (at_builtin; refine wpList_copy_runI _ rfl _ _ 57 57 rfl _ _ rfl rfl (hcp2 _ _) ?_)
  go_ret
  exact ⟨rfl, 1, setRow_setRow _ _ _ _⟩
theorem splice_grow (A X D Z : List Value) (hX : X.length = 15) (hZ : 15 + D.length ≤ Z.length) :
    let R1 := (A ++ Z).take A.length ++ X ++ (A ++ Z).drop (A.length + 15)
    (R1.take (A.length + 15) ++ D ++ R1.drop (A.length + 15 + D.length)).take (A.length + 15 + D.length) = A ++ X ++ D ∧ R1.length = (A ++ Z).length ∧ (R1.take (A.length + 15) ++ D ++ R1.drop (A.length + 15 + D.length)).length = (A ++ Z).length := by
  intro R1
  have e1 : R1 = A ++ X ++ Z.drop 15 := by
    show (A ++ Z).take A.length ++ X ++ (A ++ Z).drop (A.length + 15) = _
    rw [List.take_left, ← List.drop_drop, List.drop_left]
  have hR : R1.length = (A ++ Z).length := by rw [e1]; simp only [List.length_append, List.length_drop]; omega
  have e2 : R1.take (A.length + 15) = A ++ X := by
    rw [e1, List.take_append_of_le_length (by rw [List.length_append]; omega), List.take_of_length_le (by rw [List.length_append]; omega)]
  refine ⟨?_, hR, ?_⟩
  · rw [e2, List.take_append_of_le_length (by simp only [List.length_append]; omega), List.take_of_length_le (by simp only [List.length_append]; omega)]
  · have h2 := congrArg List.length e2
    rw [List.length_append, List.length_append, List.length_drop, h2, List.length_append, hR, List.length_append]
    omega
theorem zeros_length (m : Nat) : (Builtin.zeroCells (Value.agg #[.int .i64 0, .int .i64 0, .int .i64 0, .int .i64 0, .int .i64 0, .int .u64 0, .slice none 0 0, .slice none 0 0, .slice none 0 0, .slice none 0 0, .slice none 0 0, .string ByteArray.empty, .slice none 0 0, .int .u64 0, .slice none 0 0]).cells m).toList.length = m * 15 := by
  have h := (Kd.reps_zeros (R := fun (_ : Unit) _ => True) (z := .agg #[.int .i64 0, .int .i64 0, .int .i64 0, .int .i64 0, .int .i64 0, .int .u64 0, .slice none 0 0, .slice none 0 0, .slice none 0 0, .slice none 0 0, .slice none 0 0, .string ByteArray.empty, .slice none 0 0, .int .u64 0, .slice none 0 0]) (size := 15) (z0 := ()) rfl (by decide) trivial m).1
  rw [List.length_replicate] at h
  exact h
set_option maxHeartbeats 4000000 in
set_option maxRecDepth 100000 in
theorem insert_grow (g cap : Nat) (cur : Array Value) (l : List E) (i : Nat) (x : E) (vb : Nat) (w : World) (hi : i < l.length) (hl : l.length ≤ 1000)
    (hg : w.heap[g]? = some (.cells cur 64 (0, 0))) (hnc : l.length ≤ cap) (hroom : cap < l.length + 1) (hcs : cur.size = cap * 15) (htake : cur.toList.take (l.length * 15) = cellsE l)
    (hvb : w.heap[vb]? = some (.cells (encE x).toArray 64 (0, 0))) (hne : vb ≠ g) :
    Calls Try.prog 18 #[.slice (some ⟨g, 0, none⟩) l.length cap, .int .i64 i, .slice (some ⟨vb, 0, none⟩) 1 1] w fun e w' =>
      ∃ (G : Nat) (R2 : Array Value), e = .returned (.slice (some ⟨w.heap.size, 0, none⟩) (l.length + 1) G) ∧ l.length + 1 ≤ G ∧ G ≤ maxLen ∧ w'.heap[w.heap.size]? = some (.cells R2 64 (0, 0)) ∧ R2.size = G * 15 ∧
        R2.toList.take ((l.length + 1) * 15) = cellsE (l.take i) ++ encE x ++ cellsE (l.drop i) ∧ Below w.heap.size w w' := by
  obtain ⟨i0, hi0, hzz⟩ := Option.map_eq_some_iff.1 infoM
  simp only [Prod.mk.injEq] at hzz
  obtain ⟨hz0, hz1, hz2⟩ := hzz
  have hgw : g < w.heap.size := (Array.getElem?_eq_some_iff.1 hg).1
  have hvw : vb < w.heap.size := (Array.getElem?_eq_some_iff.1 hvb).1
  have hDl : (cellsE (l.drop i)).length = (l.length - i) * 15 := by rw [cellsE_length, List.length_drop]
  have hAl : (cellsE (l.take i)).length = i * 15 := by rw [cellsE_length, List.length_take, Nat.min_eq_left (by omega)]
  have hall : cellsE l = cellsE (l.take i) ++ cellsE (l.drop i) := by rw [← cellsE_append, List.take_append_drop]
  have hcl : cur.toList.length = cap * 15 := by rw [Array.length_toList, hcs]
  have hcell : ∀ j v, (cellsE l)[j]? = some v → w.cell? ⟨g, j, none⟩ = some v := fun j v hj => by
    have hlt : j < l.length * 15 := by
      have := (List.getElem?_eq_some_iff.1 hj).1
      rw [cellsE_length] at this
      exact this
    rw [cell_of_row w g j cur 64 (0, 0) hg, ← Array.getElem?_toList]
    rw [← htake, List.getElem?_take_of_lt hlt] at hj
    exact hj
  have hold : (Builtin.firstCells i0.size i (.slice (some ⟨g, 0, none⟩) i cap)).run Try.prog w.drew = .ok (cellsE (l.take i)).toArray w.drew := by
    rw [hz1]
    refine run_firstCells_some w.drew 15 i ⟨g, 0, none⟩ i cap (cellsE (l.take i)) hAl (fun j v hj => ?_)
    rw [Addr.add_lit, Nat.zero_add]
    exact hcell j v (by rw [hall, List.getElem?_append_left (List.getElem?_eq_some_iff.1 hj).1]; exact hj)
  have hik : i + (l.length + 1 - i) = l.length + 1 := by omega
  have hkk : (l.length : Int) + 1 - (i : Int) = ((l.length + 1 - i : Nat) : Int) := by omega
  have hrz : ∀ ty, (Builtin.append_ #[57, 3] ty #[.slice (some ⟨g, 0, none⟩) i cap, .int .i64 ((l.length : Int) + 1 - (i : Int))]).run Try.prog w = .ok (.slice (some ⟨w.heap.size, 0, none⟩) (l.length + 1) (grownCap w (l.length + 1) cap 64)) (w.drew.alloc (.cells ((cellsE (l.take i)).toArray ++ Builtin.zeroCells (Value.agg #[.int .i64 0, .int .i64 0, .int .i64 0, .int .i64 0, .int .i64 0, .int .u64 0, .slice none 0 0, .slice none 0 0, .slice none 0 0, .slice none 0 0, .slice none 0 0, .string ByteArray.empty, .slice none 0 0, .int .u64 0, .slice none 0 0]).cells (l.length + 1 - i) ++ Builtin.zeroCells (Value.agg #[.int .i64 0, .int .i64 0, .int .i64 0, .int .i64 0, .int .i64 0, .int .u64 0, .slice none 0 0, .slice none 0 0, .slice none 0 0, .slice none 0 0, .slice none 0 0, .string ByteArray.empty, .slice none 0 0, .int .u64 0, .slice none 0 0]).cells (grownCap w (l.length + 1) cap 64 - (l.length + 1))) 64)) := fun ty => by
    have h := Lib.run_append_grow_zeros w 57 3 ty 64 i0 _ .i64 .i64 Try.underlying57 Try.underlying3 hi0 hz0 (some ⟨g, 0, none⟩) i cap (cellsE (l.take i)) hold (l.length + 1 - i) (by omega) (by omega) (by omega) (by omega) (by rw [hz2]; omega) (by rw [hik, hz2]; exact growslice_fits hroom (by omega))
    rw [hik] at h
    rw [hkk]
    exact h
  have hGn : l.length + 1 ≤ grownCap w (l.length + 1) cap 64 := grownCap_ge w _ _ _
  have hGm : grownCap w (l.length + 1) cap 64 ≤ maxLen := grownCap_le_maxLen w (l.length + 1) cap 64 (by unfold maxLen; omega)
  generalize grownCap w (l.length + 1) cap 64 = G at hrz hGn hGm
  obtain ⟨Z, hZ⟩ : ∃ Z : List Value, Z = (Builtin.zeroCells (Value.agg #[.int .i64 0, .int .i64 0, .int .i64 0, .int .i64 0, .int .i64 0, .int .u64 0, .slice none 0 0, .slice none 0 0, .slice none 0 0, .slice none 0 0, .slice none 0 0, .string ByteArray.empty, .slice none 0 0, .int .u64 0, .slice none 0 0]).cells (l.length + 1 - i)).toList ++ (Builtin.zeroCells (Value.agg #[.int .i64 0, .int .i64 0, .int .i64 0, .int .i64 0, .int .i64 0, .int .u64 0, .slice none 0 0, .slice none 0 0, .slice none 0 0, .slice none 0 0, .slice none 0 0, .string ByteArray.empty, .slice none 0 0, .int .u64 0, .slice none 0 0]).cells (G - (l.length + 1))).toList := ⟨_, rfl⟩
  have hZl : Z.length = (G - i) * 15 := by rw [hZ, List.length_append, zeros_length, zeros_length]; omega
  obtain ⟨ROW, hROW⟩ : ∃ ROW : Array Value, ROW = (cellsE (l.take i)).toArray ++ Builtin.zeroCells (Value.agg #[.int .i64 0, .int .i64 0, .int .i64 0, .int .i64 0, .int .i64 0, .int .u64 0, .slice none 0 0, .slice none 0 0, .slice none 0 0, .slice none 0 0, .slice none 0 0, .string ByteArray.empty, .slice none 0 0, .int .u64 0, .slice none 0 0]).cells (l.length + 1 - i) ++ Builtin.zeroCells (Value.agg #[.int .i64 0, .int .i64 0, .int .i64 0, .int .i64 0, .int .i64 0, .int .u64 0, .slice none 0 0, .slice none 0 0, .slice none 0 0, .slice none 0 0, .slice none 0 0, .string ByteArray.empty, .slice none 0 0, .int .u64 0, .slice none 0 0]).cells (G - (l.length + 1)) := ⟨_, rfl⟩
  have hROWl : ROW.toList = cellsE (l.take i) ++ Z := by rw [hROW, hZ, Array.toList_append, Array.toList_append, List.append_assoc]
  rw [← hROW] at hrz
  clear hROW hZ
  obtain ⟨s1, s2, s3⟩ := splice_grow (cellsE (l.take i)) (encE x) (cellsE (l.drop i)) Z rfl (by rw [hDl, hZl]; omega)
  rw [← hROWl, hAl] at s1 s2 s3
  obtain ⟨W1, hW1⟩ : ∃ W1, W1 = w.drew.alloc (.cells ROW 64) := ⟨_, rfl⟩
  rw [← hW1] at hrz
  have hN : W1.heap[w.heap.size]? = some (.cells ROW 64 (0, 0)) := by rw [hW1]; exact Array.getElem?_push_size
  have hB1 : Below w.heap.size w W1 := by rw [hW1]; exact below_alloc (below_drew (Below.refl _ _)) _
  obtain ⟨R1, hR1⟩ : ∃ R1 : Array Value, R1 = (ROW.toList.take (i * 15) ++ encE x ++ ROW.toList.drop (i * 15 + (encE x).length)).toArray := ⟨_, rfl⟩
  obtain ⟨R2, hR2⟩ : ∃ R2 : Array Value, R2 = (R1.toList.take ((i + 1) * 15) ++ cellsE (l.drop i) ++ R1.toList.drop ((i + 1) * 15 + (cellsE (l.drop i)).length)).toArray := ⟨_, rfl⟩
  have hR1l : R1.toList.length = G * 15 := by
    rw [hR1]
    show (ROW.toList.take (i * 15) ++ encE x ++ ROW.toList.drop (i * 15 + 15)).length = _
    rw [s2, hROWl, List.length_append, hAl, hZl]; omega
  have hR2t : R2.toList.take ((l.length + 1) * 15) = cellsE (l.take i) ++ encE x ++ cellsE (l.drop i) := by
    rw [← s1, hR2, hR1]
    rw [show (l.length + 1) * 15 = i * 15 + 15 + (cellsE (l.drop i)).length by rw [hDl]; omega, show (i + 1) * 15 = i * 15 + 15 by omega]
    rfl
  have hR2l : R2.size = G * 15 := by
    have e : R2.toList.length = G * 15 := by
      rw [hR2]
      show (R1.toList.take ((i + 1) * 15) ++ cellsE (l.drop i) ++ R1.toList.drop ((i + 1) * 15 + (cellsE (l.drop i)).length)).length = _
      rw [List.length_append, List.length_append, List.length_take, List.length_drop, hDl, hR1l]
      omega
    rw [← e, Array.length_toList]
  have hcpA : ∀ ty dc, (Builtin.copy_ #[57, 57] ty #[.slice (some ⟨w.heap.size, i * 15, none⟩) (l.length + 1 - i) dc, .slice (some ⟨vb, 0, none⟩) 1 1]).run Try.prog W1 = .ok (goInt (Nat.min 1 (l.length + 1 - i))) (W1.setRow w.heap.size R1) := fun ty dc => by
    rw [hR1]
    refine run_copy_rows W1 57 57 ty 64 w.heap.size (i * 15) (l.length + 1 - i) dc ⟨vb, 0, none⟩ 1 1 ROW 64 (encE x) 15 Try.underlying57 sizeM hN (by show 15 = min _ _ * 15; omega) (fun j v hj => ?_) (by rw [← Array.length_toList, hROWl, List.length_append, hAl, hZl]; show i * 15 + 15 ≤ _; omega) (fun v hv => encE_one _ v hv)
    rw [Addr.add_lit, hB1.cell (p := ⟨vb, 0 + j, none⟩) hvw, cell_of_row w vb (0 + j) _ 64 (0, 0) hvb, Nat.zero_add, List.getElem?_toArray]
    exact hj
  have hB2 : Below w.heap.size w (W1.setRow w.heap.size R1).drew := below_drew (below_setRow hB1 (Nat.le_refl _) _)
  have hcpB : ∀ ty dc sc, (Builtin.copy_ #[57, 57] ty #[.slice (some ⟨w.heap.size, (i + 1) * 15, none⟩) (l.length - i) dc, .slice (some ⟨g, i * 15, none⟩) (l.length - i) sc]).run Try.prog (W1.setRow w.heap.size R1).drew = .ok (goInt (Nat.min (l.length - i) (l.length - i))) ((W1.setRow w.heap.size R1).drew.setRow w.heap.size R2) := fun ty dc sc => by
    rw [hR2]
    refine run_copy_rows (W1.setRow w.heap.size R1).drew 57 57 ty 64 w.heap.size ((i + 1) * 15) (l.length - i) dc ⟨g, i * 15, none⟩ (l.length - i) sc R1 64 (cellsE (l.drop i)) 15 Try.underlying57 sizeM (setRow_heap W1 w.heap.size ROW R1 64 (0, 0) hN) (by rw [hDl]; show _ = min _ _ * 15; omega) (fun j v hj => ?_) (by rw [← Array.length_toList, hR1l, hDl]; omega) (cellsE_one _)
    rw [Addr.add_lit, hB2.cell (p := ⟨g, i * 15 + j, none⟩) hgw]
    exact hcell _ v (by rw [hall, List.getElem?_append_right (by omega), hAl, Nat.add_sub_cancel_left]; exact hj)
  have hN3 : ((W1.setRow w.heap.size R1).drew.setRow w.heap.size R2).heap[w.heap.size]? = some (.cells R2 64 (0, 0)) := setRow_heap (W1.setRow w.heap.size R1).drew w.heap.size R1 R2 64 (0, 0) (setRow_heap W1 w.heap.size ROW R1 64 (0, 0) hN)
  have hB3 : Below w.heap.size w ((W1.setRow w.heap.size R1).drew.setRow w.heap.size R2) := below_setRow hB2 (Nat.le_refl _) _
  have HE := Aside0.mk (And.intro hN3 (And.intro hR2l (And.intro hR2t hB3)))
  have hGm' : G ≤ 9223372036854775807 := hGm
  have HG := Aside0.mk (And.intro hGn hGm)
  have hni : ¬ ((i : Int) = (l.length : Int)) := by omega
  have hw1 : IntKind.i64.wrap ((i : Int) + 1) = (i : Int) + 1 := by rw [IntKind.wrap_i64]; omega
  have hw2 : IntKind.i64.wrap ((l.length : Int) + 1) = (l.length : Int) + 1 := by rw [IntKind.wrap_i64]; omega
  have hw3 : IntKind.i64.wrap ((l.length : Int) + 1 - (i : Int)) = (l.length : Int) + 1 - (i : Int) := by rw [IntKind.wrap_i64]; omega
  have hb1 : (0 : Int) ≤ (i : Int) + 1 := by omega
  have hin : i ≤ l.length := by omega
  have htn : ((i : Int) + 1).toNat = i + 1 := by omega
  have hb3 : (i : Int) ≤ (l.length : Int) + 1 := by omega
  have hb4 : ¬ (cap = i) := by omega
  have hb5 : (cap : Int) < (l.length : Int) + 1 := by omega
  have hG1 : ¬ (G = i) := by omega
  have hG2 : ¬ (G = i + 1) := by omega
  have hic : i ≤ cap := by omega
  clear s1 s2 s3 hN hB1 hB2 hB3 hN3 hR1 hR2 hR1l hR2l hR2t hROWl hZl hall hcell hold hik hkk hW1 hDl hAl hcl htake
  go_enter Try.func18, Try.ntmps18
  go_wp2_with (first | (at_builtin; refine Lib.wpList_append_run _ rfl _ _ _ _ rfl _ _ rfl rfl _ _ (hrz _) ?_) | (at_builtin; refine wpList_copy_runI _ rfl _ _ 57 57 rfl _ _ rfl rfl (hcpA _ _) ?_))
  go_region_law (refine step_copy_runI rfl _ _ 57 57 rfl _ _ (by simp [Act.eval, Act.put]) (by simp [Act.eval, Act.put]) (hcpB _ _ _) ?_)
  go_wp2
  go_ret
  exact ⟨G, R2, rfl, HG.out.1, HG.out.2, HE.out.1, HE.out.2.1, HE.out.2.2.1, HE.out.2.2.2⟩
set_option maxHeartbeats 4000000 in
set_option maxRecDepth 100000 in
theorem insert_end (base : Nat) (A : Option Addr) (c : Nat) (l : List E) (x : E) (vb : Nat) (w : World) (hl : l.length ≤ 1000) (hR : Kd.R kE 64 w base (fun _ => True) (.slice A l.length c) l) (hbase : base ≤ w.heap.size)
    (hvb : w.heap[vb]? = some (.cells (encE x).toArray 64 (0, 0))) :
    Calls Try.prog 18 #[.slice A l.length c, .int .i64 l.length, .slice (some ⟨vb, 0, none⟩) 1 1] w fun e w' => ∃ v', e = .returned v' ∧ Kd.R kE 64 w' base (fun _ => True) v' (l ++ [x]) ∧ Below base w w' ∧ After w w' (.slice A l.length c) v' := by
  have hC : Kd.C kE w (some ⟨vb, 0, none⟩) 1 [x] := ⟨rfl, by decide, fun _ => ⟨_, rfl, fun j p hj => by
    cases j with
    | zero =>
      obtain rfl : x = p := Option.some.inj hj
      refine ⟨encE x, rfl, kE_mk w x, fun k u hu => ?_⟩
      rw [Addr.add_lit, cell_of_row w vb _ _ 64 (0, 0) hvb]
      show (encE x).toArray[0 + (0 * 15 + k)]? = some u
      rw [show 0 + (0 * 15 + k) = k by omega, List.getElem?_toArray]
      exact hu
    | succ j => cases hj⟩⟩
  have hlc : l.length ≤ c := (Kd.R_reads' hR).2.1
  have hnil : A = none → l.length = 0 ∧ c = 0 := fun h => by
    rcases (own_of_R hR).2 with ⟨h1, h2⟩ | ⟨g, cap, cur, h1, _⟩
    · injection h1 with _ _ h3
      exact ⟨h2, h3⟩
    · rw [h] at h1
      injection h1 with h1
      cases h1
  have hsp : ∀ ad, A = some ad → ad.spot = none := fun ad h => by
    rcases (own_of_R hR).2 with ⟨h1, h2⟩ | ⟨g, cap, cur, h1, _⟩
    · rw [h] at h1
      injection h1 with h1
      cases h1
    · rw [h] at h1
      injection h1 with h1
      injection h1 with h1
      rw [h1]
  have HC := Aside0.mk hC
  have HR := Aside0.mk hR
  have HB := Aside0.mk (Below.refl base w)
  clear hC hR
  rcases A with _ | ad
  · obtain ⟨h1, rfl⟩ := hnil rfl
    obtain rfl : l = [] := List.length_eq_zero_iff.1 h1
    clear hsp hnil
    go_enter Try.func18, Try.ntmps18
    go_wp2_with (at_builtin; refine Kd.R_append_rows kE (w0 := w) base rfl (.tmp 23) (.tmp 24) 57 64 (.agg #[.int .i64 0, .int .i64 0, .int .i64 0, .int .i64 0, .int .i64 0, .int .u64 0, .slice none 0 0, .slice none 0 0, .slice none 0 0, .slice none 0 0, .slice none 0 0, .string ByteArray.empty, .slice none 0 0, .int .u64 0, .slice none 0 0]) 240 rfl Try.underlying57 infoM rfl (by decide) (by omega) (.slice none 0 0) [] [x] _ _ _ (fun _ => True) (fun _ => False) rfl rfl HR.out HC.out (fun _ _ h => h) (fun _ h => h.elim) (fun _ _ => trivial) HB.out hbase (by simp) ?_; intro v1 w1 ho hbl hg hat; have HO := Aside0.mk ho; have HBL := Aside0.mk hbl; have HG := Aside0.mk (And.intro hg hat); clear ho hbl hg hat)
    go_ret
    exact ⟨_, rfl, HO.out, HBL.out, HG.out⟩
  · obtain ⟨b, o, sp⟩ := ad
    obtain rfl : sp = none := hsp _ rfl
    clear hsp hnil
    by_cases hcl : c = l.length
    · subst hcl
      go_enter Try.func18, Try.ntmps18
      go_wp2_with (at_builtin; go_loud (refine Kd.R_append_rows kE (w0 := w) base rfl (.tmp 23) (.tmp 24) 57 64 (.agg #[.int .i64 0, .int .i64 0, .int .i64 0, .int .i64 0, .int .i64 0, .int .u64 0, .slice none 0 0, .slice none 0 0, .slice none 0 0, .slice none 0 0, .slice none 0 0, .string ByteArray.empty, .slice none 0 0, .int .u64 0, .slice none 0 0]) 240 rfl Try.underlying57 infoM rfl (by decide) (by omega) (.slice (some ⟨b, o, none⟩) l.length l.length) l [x] _ _ _ (fun _ => True) (fun _ => False) rfl rfl HR.out HC.out (fun _ _ h => h) (fun _ h => h.elim) (fun _ _ => trivial) HB.out hbase (by omega) ?_; intro v1 w1 ho hbl hg hat; have HO := Aside0.mk ho; have HBL := Aside0.mk hbl; have HG := Aside0.mk (And.intro hg hat); clear ho hbl hg hat))
      go_ret
      exact ⟨_, rfl, HO.out, HBL.out, HG.out⟩
    · go_enter Try.func18, Try.ntmps18
      go_wp2_with (at_builtin; go_loud (refine Kd.R_append_rows kE (w0 := w) base rfl (.tmp 23) (.tmp 24) 57 64 (.agg #[.int .i64 0, .int .i64 0, .int .i64 0, .int .i64 0, .int .i64 0, .int .u64 0, .slice none 0 0, .slice none 0 0, .slice none 0 0, .slice none 0 0, .slice none 0 0, .string ByteArray.empty, .slice none 0 0, .int .u64 0, .slice none 0 0]) 240 rfl Try.underlying57 infoM rfl (by decide) (by omega) (.slice (some ⟨b, o, none⟩) l.length c) l [x] _ _ _ (fun _ => True) (fun _ => False) rfl rfl HR.out HC.out (fun _ _ h => h) (fun _ h => h.elim) (fun _ _ => trivial) HB.out hbase (by omega) ?_; intro v1 w1 ho hbl hg hat; have HO := Aside0.mk ho; have HBL := Aside0.mk hbl; have HG := Aside0.mk (And.intro hg hat); clear ho hbl hg hat))
      go_ret
      exact ⟨_, rfl, HO.out, HBL.out, HG.out⟩
theorem insert_any (base : Nat) (v : Value) (l : List E) (i : Nat) (x : E) (vb : Nat) (w : World) (hi : i ≤ l.length) (hl : l.length ≤ 1000) (hR : Kd.R kE 64 w base (fun _ => True) v l) (hbase : base ≤ w.heap.size)
    (hvb : w.heap[vb]? = some (.cells (encE x).toArray 64 (0, 0))) (hne : v.ownBlock ≠ some vb) :
    Calls Try.prog 18 #[v, .int .i64 i, .slice (some ⟨vb, 0, none⟩) 1 1] w fun e w' => ∃ v', e = .returned v' ∧ Kd.R kE 64 w' base (fun _ => True) v' (l.take i ++ x :: l.drop i) ∧ Below base w w' ∧ After w w' v v' := by
  rcases Nat.lt_or_ge i l.length with h | h
  · have hin : (cellsE (l.take i) ++ encE x ++ cellsE (l.drop i)) = cellsE (l.take i ++ x :: l.drop i) := by
      rw [cellsE_append, cellsE, List.append_assoc]
    have hlen : (l.take i ++ x :: l.drop i).length = l.length + 1 := by
      rw [List.length_append, List.length_cons, List.length_take, List.length_drop]; omega
    rcases (own_of_R hR).2 with ⟨_, h2⟩ | ⟨g, cap, cur, rfl, hbg, hg, hnc, hcm, hcs, htake⟩
    · omega
    · have hne' : vb ≠ g := fun e => hne (by rw [e]; rfl)
      rcases Nat.lt_or_ge cap (l.length + 1) with hroom | hroom
      · refine (insert_grow g cap cur l i x vb w h hl hg hnc hroom hcs htake hvb hne').mono ?_
        rintro e w' ⟨G, R2, rfl, h1, h2, h3, h4, h5, h6⟩
        refine ⟨_, rfl, R_of_ownE ⟨cellsE_length _, .inr ⟨w.heap.size, G, R2, by rw [hlen], hbase, h3, by rw [hlen]; exact h1, h2, h4, by rw [hlen, h5, hin]⟩⟩, h6.mono hbase, grown_of_below h6 _, .inr ⟨_, rfl, Nat.le_refl _⟩⟩
      · refine (insert_room g cap cur l i x vb w h hl hg hroom hcm hcs htake hvb hne').mono ?_
        rintro e w' ⟨rfl, m, rfl⟩
        have hA : (cellsE (l.take i) ++ encE x ++ cellsE (l.drop i)).length = (l.length + 1) * 15 := by rw [hin, cellsE_length, hlen]
        refine ⟨_, rfl, R_of_ownE ⟨cellsE_length _, .inr ⟨g, cap, _, by rw [hlen], hbg, setRow_heap (w.drewN m) g cur _ 64 (0, 0) hg, by rw [hlen]; exact hroom, hcm, ?_, ?_⟩⟩, below_setRow (pw_below_drewN (Below.refl _ _) _) hbg _, grown_setRow (pw_below_drewN (Below.refl _ _) _) g _, .inl rfl⟩
        · have hcl : cur.toList.length = cap * 15 := by rw [Array.length_toList, hcs]
          rw [List.size_toArray, List.length_append, hA, List.length_drop, hcl]; omega
        · rw [show ∀ L : List Value, L.toArray.toList = L from fun L => rfl, hlen, ← hA, List.take_left, hin]
  · obtain rfl : i = l.length := Nat.le_antisymm hi h
    obtain ⟨A, c, rfl⟩ := Kd.R_slice hR
    refine (insert_end base A c l x vb w hl hR hbase hvb).mono ?_
    rintro e w' ⟨v', rfl, h1, h2, h3⟩
    refine ⟨_, rfl, ?_, h2, h3⟩
    rw [List.take_of_length_le (Nat.le_refl _), List.drop_of_length_le (Nat.le_refl _)]
    exact h1
end Go.Proofs.Ythadibmgahlpfaa.MD
