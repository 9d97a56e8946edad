/- RingParts walked: for every maximum, every list and every cut the call answers true. -/
import Derived.Test.YtejfpnmomlnjhaaAll
import Derived.Test.YtejfpnmomlnjhaaAnchor
import Derived.Test.YtejfpnmomlnjhaaWMore
namespace Go.Proofs.Ytejfpnmomlnjhaa.RI
open Go.RowKit Go.Shelf Go.Proofs Go.Proofs.YtejfpnmomlnjhaaW.PrintWords Go.Proofs.YtejfpnmomlnjhaaW.PrintMore Go.Proofs.Ytejfpnmomlnjhaa.Plain
attribute [local go_sem] min2_int min_two
attribute [local go_sem] Oper.semAt_some
set_option linter.unusedVariables false
set_option linter.unusedSimpArgs false

theorem retM {F : Fence} {n : Nat} {P : Program} {fn : Func} {R : Ending → World → Prop} {a : Act} {w : World} {v : Value} (hr : (results fn a.tmps).run P w = .ok v w) (hd : a.defers = []) (hR : R (.returned v) w) : bodyPostM F n P fn R .ret a w := by
  change LeavesInM F n P fn a.tmps R a.defers _ w
  rw [hd]
  exact ⟨v, hr, hR⟩

/-- The two boxes of the law: the list's and the answer's. -/
structure Base (w : World) (sv : Value) (r : Bool) (W : World) : Prop where
  c4 : W.cell? ⟨w.heap.size, 0, none⟩ = some sv
  c6 : W.cell? ⟨w.heap.size + 1, 0, none⟩ = some (.bool r)
  z6 : W.frozen? ⟨w.heap.size + 1, 0, none⟩ = false
  below : Below w.heap.size w W
  size : w.heap.size + 1 < W.heap.size
theorem Base.next {w : World} {sv : Value} {r : Bool} {W W' : World} (h : Base w sv r W) (k : Below W.heap.size W W') : Base w sv r W' :=
  ⟨(k.cell (p := ⟨w.heap.size, 0, none⟩) (by have := h.size; show w.heap.size < _; omega)).trans h.c4, (k.cell (p := ⟨w.heap.size + 1, 0, none⟩) h.size).trans h.c6, (k.frozen (p := ⟨w.heap.size + 1, 0, none⟩) h.size).trans h.z6,
   h.below.trans (k.mono h.below.size), Nat.lt_of_lt_of_le h.size k.size⟩
theorem Base.others {w : World} {sv : Value} {r : Bool} {W W' : World} {b g : Nat} (h : Base w sv r W) (k : Others b g W W') (hb : w.heap.size + 1 < b) (hg : w.heap.size + 1 < g) : Base w sv r W' :=
  ⟨(k.cell (p := ⟨w.heap.size, 0, none⟩) (by have := h.size; show w.heap.size < _; omega) (by show w.heap.size ≠ _; omega) (by show w.heap.size ≠ _; omega)).trans h.c4,
   (k.cell (p := ⟨w.heap.size + 1, 0, none⟩) h.size (by show w.heap.size + 1 ≠ _; omega) (by show w.heap.size + 1 ≠ _; omega)).trans h.c6,
   (World.frozen?_of_block (a := ⟨w.heap.size + 1, 0, none⟩) (k.block (w.heap.size + 1) h.size (by omega) (by omega))).trans h.z6,
   k.below h.below (by omega) (by omega) h.below.size, Nat.lt_of_lt_of_le h.size k.size⟩
theorem Base.drewN {w : World} {sv : Value} {r : Bool} {W : World} (h : Base w sv r W) (k : Nat) : Base w sv r (W.drewN k) := ⟨h.c4, h.c6, h.z6, ⟨h.below.os, h.below.tape, h.below.output, h.below.size, h.below.block⟩, h.size⟩
theorem Base.set {w : World} {sv : Value} {r : Bool} {W : World} (h : Base w sv r W) (v : Bool) : Base w sv v (W.setCell ⟨w.heap.size + 1, 0, none⟩ (.bool v)) :=
  ⟨(setCell_ne (addr_ne_block (by omega)) _).trans h.c4, World.cell?_setCell_same' _ _ _ (by rw [h.c6]; rfl), by rw [World.frozen?_setCell]; exact h.z6, h.below.setCell (p := ⟨w.heap.size + 1, 0, none⟩) (by show w.heap.size ≤ w.heap.size + 1; omega) _, by simpa using h.size⟩
theorem Base.alloc {w : World} {sv : Value} {r : Bool} {W : World} (h : Base w sv r W) (o : Obj) : Base w sv r (W.alloc o) := h.next ((Below.refl _ W).alloc (Nat.le_refl _) o)
theorem base_new (w : World) (sv : Value) : Base w sv false ((w.alloc (.cells #[sv] 22)).alloc (.cells #[.bool false] 4)) := by
  refine ⟨by rw [World.cell?_alloc2_first]; rfl, ?_, ?_, ((Below.refl _ w).alloc (Nat.le_refl _) _).alloc (by simp) _, by simp⟩
  · have e := World.cell?_alloc_new (w := w.alloc (.cells #[sv] 22)) #[.bool false] 4 0
    rw [World.size_alloc] at e
    exact e
  · exact World.frozen?_alloc_at _ _ _ _ (by simp)

/-- What the law's statement says of its end. -/
abbrev End (w : World) (e : Ending) (w' : World) : Prop := e = .returned (.bool true) ∧ Below w.heap.size w w'

set_option maxRecDepth 100000 in
set_option maxHeartbeats 4000000 in
theorem parts_out (w : World) (z cut : Int) (A : Option Addr) (c : Nat) (xs : List Int) (hz : z < 0 ∨ 64 < z) :
    Calls Try.prog 3 #[.int .i64 z, .slice A xs.length c, .int .i64 cut] w (End w) := by
  refine (callsIn_wide (n := 5)).1 ?_
  refine callsIn_of_wp_marks Try.func3 rfl trivial ?_ rfl
  refine wpIn_wide.2 ?_
  simp only [Try.ntmps3, List.size_toArray, List.length_cons, List.length_nil, Nat.reduceAdd, Nat.reduceSub, Array.replicate_succ, Array.replicate_zero, List.push_toArray, List.append_toArray, List.nil_append, List.cons_append]
  have hb := base_new w (.slice A xs.length c)
  go_wp2_with fail
  generalize (w.alloc (.cells #[.slice A xs.length c] 22)).alloc (.cells #[.bool false] 4) = W1 at hb ⊢
  refine (RS.anchor_any W1).mono ?_
  rintro e W2 ⟨rfl, h2⟩
  replace hb := hb.next h2
  clear h2
  go_wp2_with fail
  refine (new_out W2 z hz).mono ?_
  rintro e W3 ⟨rfl, rfl⟩
  go_wp2_with fail
  refine (new_out W2 z hz).mono ?_
  rintro e W3 ⟨rfl, rfl⟩
  have hc4 := hb.c4
  have hc6 := hb.c6
  have hz6 := hb.z6
  have hsz := hb.size
  go_wp2_with fail
  refine retM (v := .bool true) ?hr rfl ⟨rfl, ?hb⟩
  case hr =>
    have e := ((hb.set true).alloc (.cells #[.pointer none] 24)).c6
    simp [results, Try.f3, go_sem, e]
  case hb => exact ((hb.set true).alloc (.cells #[.pointer none] 24)).below

set_option maxRecDepth 100000 in
set_option maxHeartbeats 4000000 in
theorem parts_cut (w : World) (m : Nat) (hm : m ≤ 64) (cut : Int) (A : Option Addr) (c : Nat) (xs : List Int) (hx : 300 < (xs.length : Int) ∨ cut < 0 ∨ (xs.length : Int) < cut) :
    Calls Try.prog 3 #[.int .i64 m, .slice A xs.length c, .int .i64 cut] w (End w) := by
  refine (callsIn_wide (n := 5)).1 ?_
  refine callsIn_of_wp_marks Try.func3 rfl trivial ?_ rfl
  refine wpIn_wide.2 ?_
  simp only [Try.ntmps3, List.size_toArray, List.length_cons, List.length_nil, Nat.reduceAdd, Nat.reduceSub, Array.replicate_succ, Array.replicate_zero, List.push_toArray, List.append_toArray, List.nil_append, List.cons_append]
  have hb := base_new w (.slice A xs.length c)
  go_wp2_with fail
  generalize (w.alloc (.cells #[.slice A xs.length c] 22)).alloc (.cells #[.bool false] 4) = W1 at hb ⊢
  refine (RS.anchor_any W1).mono ?_
  rintro e W2 ⟨rfl, h2⟩
  replace hb := hb.next h2
  clear h2
  go_wp2_with fail
  refine (new_in W2 m hm).mono ?_
  rintro e W3 ⟨rfl, _, h3⟩
  replace hb := hb.next h3
  have hs3 := h3.size
  clear h3
  go_wp2_with fail
  refine (new_in W3 m hm).mono ?_
  rintro e W4 ⟨rfl, _, h4⟩
  replace hb := hb.next h4
  clear h4
  have hc4 := hb.c4
  have hc6 := hb.c6
  have hz6 := hb.z6
  have hsz := hb.size
  have hsz' : w.heap.size < W4.heap.size := by omega
  have e := ((hb.set true).alloc (.cells #[.pointer (some ⟨W3.heap.size + 1, 0, none⟩)] 24))
  have E := Lib.hid e
  clear e
  rcases hx with hx | hx | hx
  · go_wp2_with fail
    refine retM (v := .bool true) ?_ rfl ⟨rfl, ?_⟩
    · simp [results, Try.f3, go_sem, E.out.c6]
    · exact E.out.below
  · by_cases h3 : 300 < (xs.length : Int)
    · go_wp2_with fail
      refine retM (v := .bool true) ?_ rfl ⟨rfl, ?_⟩
      · simp [results, Try.f3, go_sem, E.out.c6]
      · exact E.out.below
    · go_wp2_with fail
      refine retM (v := .bool true) ?_ rfl ⟨rfl, ?_⟩
      · simp [results, Try.f3, go_sem, E.out.c6]
      · exact E.out.below
  · by_cases h3 : 300 < (xs.length : Int)
    · go_wp2_with fail
      refine retM (v := .bool true) ?_ rfl ⟨rfl, ?_⟩
      · simp [results, Try.f3, go_sem, E.out.c6]
      · exact E.out.below
    · have h4 : ¬ cut < 0 := by omega
      go_wp2_with fail
      refine retM (v := .bool true) ?_ rfl ⟨rfl, ?_⟩
      · simp [results, Try.f3, go_sem, E.out.c6]
      · exact E.out.below

/-- The law's memory behind the two rings' making: the boxes, both rings, the box that holds the second one's address, the list. -/
structure St (w : World) (A : Option Addr) (c : Nat) (xs : List Int) (m ba ga fa na : Nat) (bufa : List Int) (bb gb fb nb : Nat) (bufb : List Int) (x9 : Nat) (W : World) : Prop where
  base : Base w (.slice A xs.length c) false W
  ra : At W ba ga m fa na bufa
  rb : At W bb gb m fb nb bufb
  c9 : W.cell? ⟨x9, 0, none⟩ = some (.pointer (some ⟨bb, 0, none⟩))
  l9 : x9 < W.heap.size
  ha : w.heap.size + 1 < ga ∧ ga < ba ∧ ba < gb ∧ gb < bb ∧ bb < x9
theorem St.drewN {w : World} {A : Option Addr} {c : Nat} {xs : List Int} {m ba ga fa na : Nat} {bufa : List Int} {bb gb fb nb : Nat} {bufb : List Int} {x9 : Nat} {W : World} (h : St w A c xs m ba ga fa na bufa bb gb fb nb bufb x9 W) (k : Nat) : St w A c xs m ba ga fa na bufa bb gb fb nb bufb x9 (W.drewN k) :=
  ⟨h.base.drewN k, h.ra.drewN k, h.rb.drewN k, h.c9, h.l9, h.ha⟩
theorem St.pushA {w : World} {A : Option Addr} {c : Nat} {xs : List Int} {m ba ga fa na : Nat} {bufa : List Int} {bb gb fb nb : Nat} {bufb : List Int} {x9 : Nat} {W W' : World} (h : St w A c xs m ba ga fa na bufa bb gb fb nb bufb x9 W) {f' n' : Nat} {buf' : List Int} (ho : Others ba ga W W') (hat : At W' ba ga m f' n' buf') :
    St w A c xs m ba ga f' n' buf' bb gb fb nb bufb x9 W' :=
  ⟨h.base.others ho (by have := h.ha; omega) (by have := h.ha; omega), hat, h.rb.blocks ho.size (ho.block bb h.rb.lb (by have := h.ha; omega) (by have := h.ha; omega)) (ho.block gb h.rb.lg (by have := h.ha; omega) (by have := h.ha; omega)),
   (ho.cell (p := ⟨x9, 0, none⟩) h.l9 (by have := h.ha; show x9 ≠ ba; omega) (by have := h.ha; show x9 ≠ ga; omega)).trans h.c9, Nat.lt_of_lt_of_le h.l9 ho.size, h.ha⟩
theorem St.pushB {w : World} {A : Option Addr} {c : Nat} {xs : List Int} {m ba ga fa na : Nat} {bufa : List Int} {bb gb fb nb : Nat} {bufb : List Int} {x9 : Nat} {W W' : World} (h : St w A c xs m ba ga fa na bufa bb gb fb nb bufb x9 W) {f' n' : Nat} {buf' : List Int} (ho : Others bb gb W W') (hat : At W' bb gb m f' n' buf') :
    St w A c xs m ba ga fa na bufa bb gb f' n' buf' x9 W' :=
  ⟨h.base.others ho (by have := h.ha; omega) (by have := h.ha; omega), h.ra.blocks ho.size (ho.block ba h.ra.lb (by have := h.ha; omega) (by have := h.ha; omega)) (ho.block ga h.ra.lg (by have := h.ha; omega) (by have := h.ha; omega)), hat,
   (ho.cell (p := ⟨x9, 0, none⟩) h.l9 (by have := h.ha; show x9 ≠ bb; omega) (by have := h.ha; show x9 ≠ gb; omega)).trans h.c9, Nat.lt_of_lt_of_le h.l9 ho.size, h.ha⟩
theorem At.below {W W' : World} {b g m f n : Nat} {buf : List Int} (h : At W b g m f n buf) (k : Below W.heap.size W W') : At W' b g m f n buf := h.blocks k.size (k.block b h.lb) (k.block g h.lg)

/-- Push onto a ring of the law, of a part of the law's list. -/
theorem push_st {w W : World} {b g m f n : Nat} {buf : List Int} (A : Option Addr) (c : Nat) (xs : List Int) (h : At W b g m f n buf) (hbl : Below w.heap.size w W) (hx : (Kd.int .i64).C w A xs.length xs) (hc : xs.length ≤ c)
    (hA : ∀ ad, A = some ad → 0 < xs.length → ad.block < w.heap.size) (hb : w.heap.size ≤ b) (hg : w.heap.size ≤ g) (hl : xs.length ≤ 300) :
    Calls Try.prog 7 #[.pointer (some ⟨b, 0, none⟩), .slice A xs.length c] W fun e W' => e = .returned (.int .i64 ((n + xs.length - m : Nat) : Int)) ∧ PushRel W b g m n (con 0 m f n buf) xs xs.length W' := by
  refine push_any W b g m f n buf A c xs h (Kd.C_below hx ?_) hc (fun ad e hp => ?_) (by omega)
  · exact hbl
  · have := hA ad e hp
    have := hbl.size
    exact ⟨by omega, by omega, by omega⟩

/-- What a push onto the second ring leaves: its number, and the memory with the list that the ring then holds. -/
def PB (w : World) (A : Option Addr) (c : Nat) (xs : List Int) (m ba ga fa na : Nat) (bufa : List Int) (bb gb x9 : Nat) (l : List Int) (v : Nat) (e : Ending) (W : World) : Prop :=
  e = .returned (.int .i64 (v : Int)) ∧ ∃ (f n : Nat) (buf : List Int), St w A c xs m ba ga fa na bufa bb gb f n buf x9 W ∧ con 0 m f n buf = last m l
theorem pushB_st {w : World} {A : Option Addr} {c : Nat} {xs : List Int} {m ba ga fa na : Nat} {bufa : List Int} {bb gb fb nb : Nat} {bufb : List Int} {x9 : Nat} (W : World) (A' : Option Addr) (c' : Nat) (ys : List Int) (l : List Int)
    (h : St w A c xs m ba ga fa na bufa bb gb fb nb bufb x9 W) (hcon : con 0 m fb nb bufb = last m l) (hx : (Kd.int .i64).C w A' ys.length ys) (hc : ys.length ≤ c') (hA : ∀ ad, A' = some ad → 0 < ys.length → ad.block < w.heap.size) (hl : ys.length ≤ 300) :
    Calls Try.prog 7 #[.pointer (some ⟨bb, 0, none⟩), .slice A' ys.length c'] W (PB w A c xs m ba ga fa na bufa bb gb x9 (l ++ ys) (nb + ys.length - m)) := by
  refine (push_st A' c' ys h.rb h.base.below hx hc hA (by have := h.ha; omega) (by have := h.ha; omega) hl).mono ?_
  rintro e W' ⟨rfl, f', n', buf', hat, hcon', ho⟩
  refine ⟨rfl, f', n', buf', h.pushB ho hat, ?_⟩
  rw [hcon', hcon, List.take_length, last_last]

theorem keeps_drewN (W : World) (k : Nat) : KeepsOthers W (W.drewN k) := ⟨Nat.le_refl _, fun _ _ h _ => h⟩
theorem below_drewN' (B : Nat) (W : World) (k : Nat) : Below B W (W.drewN k) := ⟨rfl, rfl, rfl, Nat.le_refl _, fun _ _ => rfl⟩
theorem below_drewN (W : World) (k : Nat) : Below W.heap.size W (W.drewN k) := ⟨rfl, rfl, rfl, Nat.le_refl _, fun _ _ => rfl⟩
theorem St.below {w : World} {A : Option Addr} {c : Nat} {xs : List Int} {m ba ga fa na : Nat} {bufa : List Int} {bb gb fb nb : Nat} {bufb : List Int} {x9 : Nat} {W W' : World} (h : St w A c xs m ba ga fa na bufa bb gb fb nb bufb x9 W) (k : Below W.heap.size W W') : St w A c xs m ba ga fa na bufa bb gb fb nb bufb x9 W' :=
  ⟨h.base.next k, h.ra.below k, h.rb.below k, (k.cell (p := ⟨x9, 0, none⟩) h.l9).trans h.c9, Nat.lt_of_lt_of_le h.l9 k.size, h.ha⟩
/-- A thing that All truly yields. -/
def Good (l : List Int) (x : Nat × Int) : Prop := x.1 < l.length ∧ x.2 = l.getD (l.length - 1 - x.1) 0
theorem good_nth {l : List Int} {i : Nat} (h : i < l.length) : Good l (nth l i) := ⟨h, rfl⟩
/-- The blocks that All reads. -/
def Read (b g Bs k : Nat) : Prop := k = b ∨ k = g ∨ k = Bs
theorem all_stops (n : Nat) (hn : 1 ≤ n) (Bs b g m f c : Nat) (buf : List Int) (w : World) (hBs : Bs < w.heap.size) (hcB : w.cell? ⟨Bs, 0, none⟩ = some (.pointer (some ⟨b, 0, none⟩))) (hat : At w b g m f c buf) :
    SeqStopsK Fence.wide n Try.prog 22 #[.pointer (some ⟨Bs, 0, none⟩)] (fun x : Nat × Int => #[.int .i64 (x.1 : Int), .int .i64 x.2]) (KpS (Read b g Bs)) (fun ys => ys = upto (con 0 m f c buf) c) (fun pre => ∃ k, k ≤ c ∧ pre = upto (con 0 m f c buf) k) c w := by
  intro l J Jx W hW hJ _ hY h0
  exact all1_in n hn l Bs b g m f c buf (Read b g Bs) (Or.inl rfl) (Or.inr (Or.inl rfl)) (Or.inr (Or.inr rfl)) J Jx
    (fun pre W1 k hj => hJ pre W1 _ none hj ⟨rfl, rfl, rfl, Nat.le_refl _, fun _ _ _ => rfl⟩ (fun r e => by cases e)) hY W ((hW.cell (p := ⟨Bs, 0, none⟩) hBs).trans hcB) (hat.below hW) h0

set_option maxRecDepth 100000 in
set_option maxHeartbeats 8000000 in
theorem parts_in (w : World) (m : Nat) (hm : m ≤ 64) (k : Nat) (A : Option Addr) (c : Nat) (xs : List Int) (hx : (Kd.int .i64).C w A xs.length xs) (hc : xs.length ≤ c) (hA : ∀ ad, A = some ad → 0 < xs.length → ad.block < w.heap.size) (hl : xs.length ≤ 300) (hk : k ≤ xs.length) :
    Calls Try.prog 3 #[.int .i64 m, .slice A xs.length c, .int .i64 k] w (End w) := by
  obtain ⟨i0, hi, hz0, hz1, hz2⟩ := info_parts info_e
  have hcut1 := cut_to (P := Try.prog) 22 3 .i64 Try.underlying22 hi A xs.length c (k : Int) (by omega) (by omega) hc
  have hcut2 := cut_from (P := Try.prog) 22 3 .i64 Try.underlying22 hi 1 hz1 A xs.length c (k : Int) (by omega) (by omega)
  have hx1 := Kd.C_take hx hk
  have hx2 := Kd.C_drop hx hk hc
  rw [Int.toNat_natCast] at hcut1 hcut2
  have hA2 : ∀ ad, (if c = k then A else A.map (·.add (k * 1))) = some ad → 0 < (xs.drop k).length → ad.block < w.heap.size := by
    intro ad h1 h2
    rw [List.length_drop] at h2
    split at h1
    · exact hA ad h1 (by omega)
    · cases A with
      | none => cases h1
      | some a =>
        injection h1 with h1
        rw [← h1, addr_add_block]
        exact hA a rfl (by omega)
  have hl1 : (xs.take k).length = k := by rw [List.length_take]; omega
  have hl2 : (xs.drop k).length = xs.length - k := List.length_drop
  have hp2 : (Kd.int .i64).sz = 1 := rfl
  rw [hp2] at hx2
  rw [← hl2] at hcut2
  generalize (if c = k then A else A.map (·.add (k * 1))) = A2 at hcut2 hx2 hA2
  refine (callsIn_wide (n := 5)).1 ?_
  refine callsIn_of_wp_marks Try.func3 rfl trivial ?_ rfl
  refine wpIn_wide.2 ?_
  simp only [Try.ntmps3, List.size_toArray, List.length_cons, List.length_nil, Nat.reduceAdd, Nat.reduceSub, Array.replicate_succ, Array.replicate_zero, List.push_toArray, List.append_toArray, List.nil_append, List.cons_append]
  have hb := base_new w (.slice A xs.length c)
  have hd1 : decide ((300 : Int) < (xs.length : Int)) = false := decide_eq_false (by omega)
  have hd2 : decide ((k : Int) < 0) = false := decide_eq_false (by omega)
  have HX := Lib.hid hx
  have HX1 := Lib.hid hx1
  have HX2 := Lib.hid hx2
  have HA := Lib.hid hA
  have HA2 := Lib.hid hA2
  have HL1 := Lib.hid hl1
  have HL2 := Lib.hid hl2
  clear hx hx1 hx2 hA hA2 hl1 hl2 hp2 hz0 hz1 hz2 hi
  go_wp2_with fail
  generalize (w.alloc (.cells #[.slice A xs.length c] 22)).alloc (.cells #[.bool false] 4) = W1 at hb ⊢
  refine (RS.anchor_any W1).mono ?_
  rintro e W2 ⟨rfl, h2⟩
  replace hb := hb.next h2
  have hs2 := hb.size
  clear h2
  go_wp2_with fail
  refine (new_in W2 m hm).mono ?_
  rintro e W3 ⟨rfl, hra, h3⟩
  replace hb := hb.next h3
  have hs3 := hra.lb
  clear h3
  go_wp2_with fail
  refine (new_in W3 m hm).mono ?_
  rintro e W4 ⟨rfl, hrb, h4⟩
  have hs4 := hrb.lb
  have hst : St w A c xs m (W2.heap.size + 1) W2.heap.size 0 0 (List.replicate m 0) (W3.heap.size + 1) W3.heap.size 0 0 (List.replicate m 0) W4.heap.size (W4.alloc (.cells #[.pointer (some ⟨W3.heap.size + 1, 0, none⟩)] 24)) :=
    ⟨(hb.next h4).alloc _, (hra.below h4).below ((Below.refl _ _).alloc (Nat.le_refl _) _), hrb.below ((Below.refl _ _).alloc (Nat.le_refl _) _), World.cell?_alloc_new _ _ _ 0, by simp, by omega⟩
  have hc4 := hst.base.c4
  have hsz' : w.heap.size < W4.heap.size := by omega
  have HST := Lib.hid hst
  clear hst h4 hb hra hrb
  go_wp2_with fail
  refine (push_st A c xs HST.out.ra HST.out.base.below HX.out hc HA.out (by omega) (by omega) hl).mono ?_
  rintro e W6 ⟨rfl, fa, na, bufa, hra, hcona, hoa⟩
  have hst := HST.out.pushA hoa hra
  have hna : na = min m xs.length := by
    have := congrArg List.length hcona
    rw [con_length, last_length, List.length_append, con_length, List.take_length] at this
    omega
  have hcona' : con 0 m fa na bufa = last m xs := by rw [hcona, con_zero, List.nil_append, List.take_length]
  clear hcona hoa HST hra
  have HST := Lib.hid hst
  have hc4 := hst.base.c4
  have hc9 := hst.c9
  clear hst
  have hp1 := fun W (h : St w A c xs m (W2.heap.size + 1) W2.heap.size fa na bufa (W3.heap.size + 1) W3.heap.size 0 0 (List.replicate m 0) W4.heap.size W) =>
    pushB_st W A c (xs.take k) [] h (by rw [con_zero, last_nil]) HX1.out (by rw [HL1.out]; omega) (fun ad e hp => HA.out ad e (by rw [HL1.out] at hp; omega)) (by rw [HL1.out]; omega)
  have hp2 := fun f n buf W (h : St w A c xs m (W2.heap.size + 1) W2.heap.size fa na bufa (W3.heap.size + 1) W3.heap.size f n buf W4.heap.size W) (hcon : con 0 m f n buf = last m ([] ++ xs.take k)) =>
    pushB_st W A2 (c - k) (xs.drop k) ([] ++ xs.take k) h hcon HX2.out (by rw [HL2.out]; omega) HA2.out (by rw [HL2.out]; omega)
  rw [HL1.out] at hp1
  simp only [HL2.out] at hp2
  have HP1 := Lib.hid hp1
  have HP2 := Lib.hid hp2
  clear hp1 hp2
  go_wp2_with fail
  go_region_held3 (fun w' => w'.cell? ⟨w.heap.size, 0, none⟩ = some (.slice A xs.length c) ∧ w'.cell? ⟨W4.heap.size, 0, none⟩ = some (.pointer (some ⟨W3.heap.size + 1, 0, none⟩)))
    (first | exact ⟨h74, h79⟩ | exact ⟨hc4, hc9⟩)
    (first | (go_at_call 7; refine (HP1.out _ (by first | exact HST.out.drewN 1 | exact HST.out)).mono ?_; rintro e W7 ⟨rfl, f7, n7, buf7, hst7, hcon7⟩; have h74 := hst7.base.c4; have h79 := hst7.c9; clear HP1) | (go_at_call 7; refine (HP2.out _ _ _ _ hst7 hcon7).mono ?_; rintro e W8 ⟨rfl, f8, n8, buf8, hst8, hcon8⟩; have h84 := hst8.base.c4; have h89 := hst8.c9; clear h74 h79; have h74 := h84; have h79 := h89))
  have hn7 : n7 = min m k := by
    have := congrArg List.length hcon7
    rw [con_length, last_length, List.nil_append, HL1.out] at this
    exact this
  have hcon8' : con 0 m f8 n8 buf8 = last m xs := by rw [hcon8, List.nil_append, List.take_append_drop]
  have hn8 : n8 = min m xs.length := by
    have := congrArg List.length hcon8'
    rw [con_length, last_length] at this
    exact this
  obtain rfl : n8 = na := by omega
  have hsum : IntKind.i64.wrap (((k - m : Nat) : Int) + ((n7 + (xs.length - k) - m : Nat) : Int)) = ((xs.length - m : Nat) : Int) := by rw [IntKind.wrap_i64]; omega
  rw [hsum]
  have hmin1 : (if ((xs.length : Int) < (m : Int)) then (xs.length : Int) else (m : Int)) = (n8 : Int) := by split <;> omega
  have hmin2 : (if (xs.length < m) then (xs.length : Int) else (m : Int)) = (n8 : Int) := by split <;> omega
  have HN8 := Lib.hid hn8
  have HC8 := Lib.hid hcon8'
  have HCA := Lib.hid hcona'
  have HST8 := Lib.hid hst8
  have hla := fun n => Calls.quiet_of_same (n := n) ((len_any (W8.drewN n) _ _ _ _ _ _ (hst8.ra.drewN n)).mono fun _ _ h => ⟨h.1, h.2.symm⟩)
  have hlb := fun n => Calls.quiet_of_same (n := n) ((len_any (W8.drewN n) _ _ _ _ _ _ (hst8.rb.drewN n)).mono fun _ _ h => ⟨h.1, h.2.symm⟩)
  have HLA := Lib.hid hla
  have HLB := Lib.hid hlb
  clear hn7 hsum hcon8 hcon8' hcona' hcon7 hst7 h84 h89 hn8 hst8 hla hlb hc4 hc9 HST HP2 HX1 HX2 hcut1 hcut2 hna
  go_wp2
  go_quiet ((first | (go_at_call 8; with_reducible exact HLA.out _) | (go_at_call 8; with_reducible exact HLB.out _)))
  have hal := callsIn_wide.1 (all_in 5 (some ⟨W2.heap.size + 1, 0, none⟩) (W8.drewN nq))
  have HAL := Lib.hid hal
  clear hal hmin1 hmin2
  go_wp2_with (go_at_call 9; with_reducible refine HAL.out.mono ?_; rintro e w' ⟨rfl, rfl⟩)
  have hB9 : Below W8.heap.size W8 ((W8.drewN nq).alloc (.cells #[.pointer (some ⟨W2.heap.size + 1, 0, none⟩)] 24)) := ((below_drewN W8 nq).alloc (Nat.le_refl _) _)
  have hst9 := HST8.out.below hB9
  have hcB := World.cell?_alloc_new (w := W8.drewN nq) #[.pointer (some ⟨W2.heap.size + 1, 0, none⟩)] 24 0
  have hsz9 : W8.heap.size < ((W8.drewN nq).alloc (.cells #[.pointer (some ⟨W2.heap.size + 1, 0, none⟩)] 24)).heap.size := by rw [World.size_alloc]; exact Nat.lt_succ_self _
  have HCB := Lib.hid hcB
  have HST9 := Lib.hid hst9
  clear hcB hst9 hB9 h74 h79
  generalize hW9 : (W8.drewN nq).alloc (.cells #[.pointer (some ⟨W2.heap.size + 1, 0, none⟩)] 24) = W9 at HCB HST9 hsz9 ⊢
  clear hW9
  refine wpIn_wide (n := 5).1 ?_
  refine wpIn_rangeFunc_ownG rfl (by omega) (gf := 22) (lb := #[.pointer (some ⟨W8.heap.size, 0, none⟩)]) rfl trivial (enters_of Try.func22 (by kernel_rfl) rfl)
    (all_stops 4 (by omega) W8.heap.size (W2.heap.size + 1) W2.heap.size m fa n8 bufa W9 hsz9 HCB.out HST9.out.ra) KpS.trans (KpS.putObj (fun j hj => ?_)) (Below.refl _ _) (fun _ => rfl)
    (fun _ W => Below W9.heap.size W9 W) (fun cc pre W => cc = .ret ∧ ∃ ini x, pre = ini ++ [x] ∧ ¬ Good (last m xs) x)
    (ownFrom_below (Nat.le_refl _) (Nat.le_refl _)) (fun cc => ownFrom_pure _ (fun pre => cc = .ret ∧ ∃ ini x, pre = ini ++ [x] ∧ ¬ Good (last m xs) x)) (Below.refl _ _)
    (fun x => { tmps := #[Value.int IntKind.i64 ↑m, Value.slice A xs.length c, Value.int IntKind.i64 ↑k, undef, Value.pointer (some { block := w.heap.size, off := 0 }), undef, Value.pointer (some { block := w.heap.size + 1, off := 0 }), Value.pointer (some { block := W2.heap.size + 1, off := 0 }), Value.int IntKind.i64 0, Value.pointer (some { block := W4.heap.size, off := 0 }), Value.int IntKind.i64 0, Value.int IntKind.i64 ↑(xs.length - m), Value.int IntKind.i64 ↑(xs.length - m), .int .i64 (x.1 : Int), .int .i64 x.2, undef, undef, Value.bool true, Value.bool false, Value.tuple #[Value.pointer (some { block := W2.heap.size + 1, off := 0 }), Value.int IntKind.i64 0], Value.int IntKind.i64 ↑m, Value.tuple #[Value.pointer (some { block := W2.heap.size + 1, off := 0 }), Value.int IntKind.i64 0], Value.pointer (some { block := W2.heap.size + 1, off := 0 }), Value.int IntKind.i64 0, Value.tuple #[Value.pointer (some { block := W3.heap.size + 1, off := 0 }), Value.int IntKind.i64 0], Value.int IntKind.i64 ↑m, Value.tuple #[Value.pointer (some { block := W3.heap.size + 1, off := 0 }), Value.int IntKind.i64 0], Value.pointer (some { block := W3.heap.size + 1, off := 0 }), Value.int IntKind.i64 0, Value.int IntKind.i64 0, Value.bool false, Value.bool false, Value.int IntKind.i64 0, Value.bool false, Value.bool false, Value.bool false, Value.pointer (some { block := W2.heap.size + 1, off := 0 }), Value.bool false, Value.bool false, Value.bool false, Value.pointer (some { block := W3.heap.size + 1, off := 0 }), Value.bool false, Value.bool false, Value.bool false, Value.slice A xs.length c, Value.int IntKind.i64 ↑xs.length, Value.bool false, Value.bool false, Value.bool false, Value.int IntKind.i64 ↑k, Value.bool false, Value.bool false, Value.bool false, Value.int IntKind.i64 ↑k, Value.slice A xs.length c, Value.int IntKind.i64 ↑xs.length, Value.bool false, Value.bool false, undef, undef, undef, Value.pointer (some { block := W2.heap.size + 1, off := 0 }), Value.slice A xs.length c, Value.int IntKind.i64 ↑(xs.length - m), Value.pointer (some { block := W3.heap.size + 1, off := 0 }), Value.slice A xs.length c, Value.int IntKind.i64 ↑k, Value.slice A k c, Value.int IntKind.i64 ↑(k - m), Value.pointer (some { block := W3.heap.size + 1, off := 0 }), Value.slice A xs.length c, Value.int IntKind.i64 ↑k, Value.slice A2 (xs.length - k) (c - k), Value.int IntKind.i64 ↑(n7 + (xs.length - k) - m), Value.int IntKind.i64 ↑(xs.length - m), Value.int IntKind.i64 ↑(xs.length - m), Value.int IntKind.i64 ↑(xs.length - m), Value.bool false, Value.bool false, Value.pointer (some { block := W2.heap.size + 1, off := 0 }), Value.int IntKind.i64 ↑n8, Value.pointer (some { block := W3.heap.size + 1, off := 0 }), Value.int IntKind.i64 ↑n8, Value.bool false, Value.bool false, Value.bool false, Value.pointer (some { block := W2.heap.size + 1, off := 0 }), Value.int IntKind.i64 ↑n8, Value.int IntKind.i64 ↑m, Value.slice A xs.length c, Value.int IntKind.i64 ↑xs.length, Value.int IntKind.i64 ↑n8, Value.bool false, Value.bool false, Value.pointer (some { block := W2.heap.size + 1, off := 0 }), Value.func (Fn.func 22) #[] #[Value.pointer (some { block := W8.heap.size, off := 0 })], .int .i64 (x.1 : Int), .int .i64 x.2, undef, undef, undef, undef, undef, undef, undef, undef, undef, undef, undef, undef, undef, undef, undef, undef, undef, undef, undef, undef, undef, undef, undef, undef, undef], defers := [] }) ?assign ?body ?done ?stop
  · have h1 := HST9.out.ra.lb
    have h2 := HST9.out.ra.lg
    rcases hj with rfl | rfl | rfl
    · exact h1
    · exact h2
    · exact hsz9
  case assign =>
    intro l x W K hK
    gi_wp2
    exact hK
  case body =>
    rintro l pre x W hI hpre
    have hst := HST9.out.below hI
    have hc4 := hst.base.c4
    have hc6 := hst.base.c6
    have hz6 := hst.base.z6
    have hc9 := hst.c9
    have hrb := hst.rb
    by_cases hlt : x.1 < n8
    · have hat := at_in W _ _ _ _ _ _ x.1 hrb hlt
      rw [HC8.out] at hat
      have hnl : n8 ≤ xs.length := by have h8 := HN8.out; omega
      have hlen : (last m xs).length = n8 := by rw [last_length]; exact HN8.out.symm
      have hlast : (last m xs).getD (n8 - 1 - x.1) 0 = xs.getD (xs.length - 1 - x.1) 0 := by
        have h8 := HN8.out
        unfold last
        rw [List.getD_eq_getElem?_getD, List.getElem?_drop, ← List.getD_eq_getElem?_getD]
        congr 1
        omega
      rw [hlast] at hat
      have hgood : Good (last m xs) x ↔ x.2 = xs.getD (xs.length - 1 - x.1) 0 := by
        unfold Good
        rw [hlen, hlast]
        exact ⟨fun h => h.2, fun h => ⟨hlt, h⟩⟩
      obtain ⟨ad, rfl, hcell⟩ := Kd.at_int (Kd.C_below HX.out hst.base.below) ((xs.length : Int) - 1 - (x.1 : Int)) (by omega) (by omega)
      have hz : ((xs.length : Int) - 1 - (x.1 : Int)).toNat = xs.length - 1 - x.1 := by omega
      rw [show rd xs ((xs.length : Int) - 1 - (x.1 : Int)) = xs.getD (xs.length - 1 - x.1) 0 by unfold rd; rw [hz], hz] at hcell
      generalize xs.getD (xs.length - 1 - x.1) 0 = y at hat hgood hcell
      have HAT := Lib.hid hat
      have HGOOD := Lib.hid hgood
      have HZ := Lib.hid hz
      clear hat hgood hlast hlen hz hst
      by_cases hy : x.2 = y
      · have hyb : (x.2 != y) = false := bne_eq_false_iff_eq.2 hy
        have hyb2 : (x.2 == y) = true := beq_iff_eq.2 hy
        have HYE := Lib.hid hy
        clear hy
        gi_wp2_with (refine ⟨trivial, ?_⟩; gi_at_call 10; refine (CallsIn.inRound l (callsIn_wide.2 HAT.out)).mono ?_; rintro e w' ⟨rfl, ⟨⟨d1, rfl⟩⟩⟩)
        exact ⟨(keeps_drewN W d1).from _, ⟨Nat.le_refl _, fun _ _ => rfl⟩, hI.trans (below_drewN' _ _ _)⟩
      · have hyb : (x.2 != y) = true := bne_iff_ne.2 hy
        have hyb2 : (x.2 == y) = false := beq_eq_false_iff_ne.2 hy
        have hng : ¬ Good (last m xs) x := fun h => hy (HGOOD.out.1 h)
        have HNG := Lib.hid hng
        clear hng hy
        gi_wp2_with (refine ⟨trivial, ?_⟩; gi_at_call 10; refine (CallsIn.inRound l (callsIn_wide.2 HAT.out)).mono ?_; rintro e w' ⟨rfl, ⟨⟨d1, rfl⟩⟩⟩)
        exact ⟨((keeps_drewN W d1).trans (KeepsOthers.setCell _ _ _)).from _, rfl, pre, x, rfl, HNG.out⟩
    · have hat := at_out W _ _ _ _ _ _ (x.1 : Int) hrb (Or.inr (by omega))
      have HAT := Lib.hid hat
      have hng : ¬ Good (last m xs) x := fun h => hlt (by have := h.1; have h8 := HN8.out; rw [last_length] at this; omega)
      have HNG := Lib.hid hng
      clear hat hng hst
      gi_wp2_with (refine ⟨trivial, ?_⟩; gi_at_call 10; refine (CallsIn.inRound l (callsIn_wide.2 HAT.out)).mono ?_; rintro e w' ⟨rfl, ⟨⟨d1, rfl⟩⟩⟩)
      exact ⟨((keeps_drewN W d1).trans (KeepsOthers.setCell _ _ _)).from _, rfl, pre, x, rfl, HNG.out⟩
  case done =>
    rintro D ys W hD hys hI hK
    have hst := HST9.out.below hI
    have hc4 := hst.base.c4
    have hc6 := hst.base.c6
    have hz6 := hst.base.z6
    have hset := hst.base.set true
    have hDl : w.heap.size + 1 < D := by have := HST9.out.base.size; omega
    clear hst
    go_wp2
    have hK' := (KeepsOthers.setCell W ⟨w.heap.size + 1, 0, none⟩ (.bool true)).same D _ hK rfl
    refine ⟨by simp, .inl ⟨_, _, rfl, run_takeDeferred hK', ?_⟩⟩
    have hc5 := cell_kept hset.c6 (grownBy_putObj' _ D (.deferred none)) (fun r e => by cases e; exact ⟨_, hK', rfl⟩)
    refine ⟨.bool true, ?_, rfl, ?_⟩
    · simp [results, Try.f3, go_sem, hc5]
    · exact hset.below.trans (belowK_b (w := w) (Nat.le_refl _) _ D _ _ (by omega) hK' rfl rfl)
  case stop =>
    rintro D cc pre W hD ⟨j, hj, rfl⟩ ⟨_, ini, x, he, hng⟩ hK
    exfalso
    cases j with
    | zero =>
      have := congrArg List.length he
      rw [upto_length, List.length_append] at this
      simp at this
    | succ j =>
      rw [upto_succ] at he
      have h2 := (List.append_inj' he rfl).2
      injection h2 with h2
      rw [← h2, HCA.out] at hng
      refine hng (good_nth ?_)
      rw [last_length]
      have := HN8.out
      omega

/-- A slice of ints that is not empty lies in a block that is there. -/
theorem block_of_reads {w : World} {A : Option Addr} {n : Nat} {xs : List Int} (h : ReadsInt w .i64 A n xs) : ∀ ad, A = some ad → 0 < n → ad.block < w.heap.size := by
  intro ad e hp
  obtain ⟨ad', e', hc⟩ := h.2.2 hp
  rw [e] at e'
  injection e' with e'
  subst e'
  have := World.block_lt_of_cell? w _ (hc 0 hp)
  rwa [addr_add_block] at this
theorem parts_walk (z : Int) (A : Option Addr) (c : Nat) (xs : List Int) (cut : Int) (w : World) (_hz : (Lit.int .i64 z).wf = true) (hr : ReadsInt w .i64 A xs.length xs) (hc : xs.length ≤ c) (_hw : ∀ x ∈ xs, (Lit.int .i64 x).wf = true) (_hy : xs.length * 8 ≤ 140737488351232) (_hcut : (Lit.int .i64 cut).wf = true) :
    Calls Try.prog 3 #[.int .i64 z, .slice A xs.length c, .int .i64 cut] w fun e w' => e = .returned (.bool true) ∧ Below w.heap.size w w' := by
  by_cases h1 : z < 0 ∨ 64 < z
  · exact parts_out w z cut A c xs h1
  · obtain ⟨m, rfl⟩ := Int.eq_ofNat_of_zero_le (by omega : 0 ≤ z)
    by_cases h2 : 300 < (xs.length : Int) ∨ cut < 0 ∨ (xs.length : Int) < cut
    · exact parts_cut w m (by omega) cut A c xs h2
    · obtain ⟨k, rfl⟩ := Int.eq_ofNat_of_zero_le (by omega : 0 ≤ cut)
      exact parts_in w m (by omega) k A c xs (Kd.C_of_reads (d := (0 : Int)) (h1 := fun _ => rfl) hr) hc (block_of_reads hr) (by omega) (by omega)
end Go.Proofs.Ytejfpnmomlnjhaa.RI
