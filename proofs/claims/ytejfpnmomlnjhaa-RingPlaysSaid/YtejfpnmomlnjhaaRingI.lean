/- The walks of a ring of Int: what New, Len, place, At and Push do to a ring's memory, said of the list that it holds. -/
import Derived.Test.YtejfpnmomlnjhaaProg
import Derived.Test.YtejfpnmomlnjhaaPlain
import Derived.Test.YtejfpnmomlnjhaaWWords
import Derived.WalkKit
import Derived.Deep.OwnRows
import Derived.Outline
import Derived.Deep.QuietTactic
import Derived.Deep.RegionHeld3
import Derived.Deep.LoopGhost
import Derived.BigQuiet
import Derived.StillTailTactics
import Derived.KernelRfl
import Derived.Lib.Hide
import Derived.WalkSpells
namespace Go.Proofs.Ytejfpnmomlnjhaa.RI
open Go.RowKit Go.Proofs.YtejfpnmomlnjhaaW.PrintWords Go.Proofs.Ytejfpnmomlnjhaa.Plain
set_option linter.unusedVariables false
set_option linter.unusedSimpArgs false

/-- Block b holds a ring: its slice over block g of m places, the eldest thing at f, n things. -/
structure At (w : World) (b g m f n : Nat) (buf : List Int) : Prop where
  len : buf.length = m
  m64 : m ≤ 64
  nm : n ≤ m
  fm : f < m ∨ f = 0
  ne : g ≠ b
  c0 : w.cell? ⟨b, 0, none⟩ = some (.slice (some ⟨g, 0, none⟩) m m)
  c1 : w.cell? ⟨b, 1, none⟩ = some (.int .i64 f)
  c2 : w.cell? ⟨b, 2, none⟩ = some (.int .i64 n)
  z1 : w.frozen? ⟨b, 1, none⟩ = false
  z2 : w.frozen? ⟨b, 2, none⟩ = false
  cg : ∀ j, j < m → w.cell? ⟨g, j, none⟩ = some (.int .i64 (buf.getD j 0))
  zg : ∀ j, j < m → w.frozen? ⟨g, j, none⟩ = false
  lb : b < w.heap.size
  lg : g < w.heap.size

/-- All but the two blocks b and g is as it was. -/
structure Others (b g : Nat) (w w' : World) : Prop where
  os : w'.os = w.os
  tape : w'.tape = w.tape
  output : w'.output = w.output
  size : w.heap.size ≤ w'.heap.size
  block : ∀ k, k < w.heap.size → k ≠ b → k ≠ g → w'.heap[k]? = w.heap[k]?
theorem Others.refl (b g : Nat) (w : World) : Others b g w w := ⟨rfl, rfl, rfl, Nat.le_refl _, fun _ _ _ _ => rfl⟩
theorem Others.setCell {b g : Nat} {a w : World} (h : Others b g a w) {p : Addr} (hp : p.block = b ∨ p.block = g) (u : Value) : Others b g a (w.setCell p u) :=
  ⟨h.os, h.tape, h.output, by simpa using h.size, fun k hk h1 h2 => (Below.heap_setCell w p u k (by rcases hp with hp | hp <;> omega)).trans (h.block k hk h1 h2)⟩
theorem Others.drewN {b g : Nat} {a w : World} (h : Others b g a w) (n : Nat) : Others b g a (w.drewN n) := ⟨h.os, h.tape, h.output, h.size, h.block⟩
theorem Others.drew {b g : Nat} {a w : World} (h : Others b g a w) : Others b g a w.drew := ⟨h.os, h.tape, h.output, h.size, h.block⟩
theorem Others.below {b g B : Nat} {a w w' : World} (h : Others b g w w') (k : Below B a w) (hb : B ≤ b) (hg : B ≤ g) (hB : B ≤ w.heap.size) : Below B a w' :=
  ⟨h.os.trans k.os, h.tape.trans k.tape, h.output.trans k.output, Nat.le_trans k.size h.size, fun i hi => (h.block i (by omega) (by omega) (by omega)).trans (k.block i hi)⟩
theorem Others.cell {b g : Nat} {w w' : World} (h : Others b g w w') {p : Addr} (h0 : p.block < w.heap.size) (h1 : p.block ≠ b) (h2 : p.block ≠ g) : w'.cell? p = w.cell? p := World.cell?_of_block (h.block _ h0 h1 h2)

section
variable {w : World} {b g m f n : Nat} {buf : List Int}
theorem At.drewN (h : At w b g m f n buf) (k : Nat) : At (w.drewN k) b g m f n buf := ⟨h.len, h.m64, h.nm, h.fm, h.ne, h.c0, h.c1, h.c2, h.z1, h.z2, h.cg, h.zg, h.lb, h.lg⟩
theorem At.drew (h : At w b g m f n buf) : At w.drew b g m f n buf := ⟨h.len, h.m64, h.nm, h.fm, h.ne, h.c0, h.c1, h.c2, h.z1, h.z2, h.cg, h.zg, h.lb, h.lg⟩
theorem setCell_ne {p q : Addr} (h : p ≠ q) (u : Value) : (w.setCell p u).cell? q = w.cell? q := World.cell?_setCell_other _ _ _ _ h
theorem addr_add_block (a : Addr) (i : Nat) : (a.add i).block = a.block := by unfold Addr.add; split <;> rfl
theorem addr_ne_off {x i j : Nat} (h : i ≠ j) : (⟨x, i, none⟩ : Addr) ≠ ⟨x, j, none⟩ := fun e => h (by injection e)
theorem addr_ne_block {x y i j : Nat} (h : x ≠ y) : (⟨x, i, none⟩ : Addr) ≠ ⟨y, j, none⟩ := fun e => h (by injection e)
theorem At.setF (h : At w b g m f n buf) {f' : Nat} (hf : f' < m ∨ f' = 0) : At (w.setCell ⟨b, 1, none⟩ (.int .i64 f')) b g m f' n buf :=
  ⟨h.len, h.m64, h.nm, hf, h.ne, (setCell_ne (addr_ne_off (by omega)) _).trans h.c0, World.cell?_setCell_same' _ _ _ (by rw [h.c1]; rfl), (setCell_ne (addr_ne_off (by omega)) _).trans h.c2,
   by rw [World.frozen?_setCell]; exact h.z1, by rw [World.frozen?_setCell]; exact h.z2, fun j hj => (setCell_ne (addr_ne_block (Ne.symm h.ne)) _).trans (h.cg j hj), fun j hj => by rw [World.frozen?_setCell]; exact h.zg j hj, by simpa using h.lb, by simpa using h.lg⟩
theorem At.setN (h : At w b g m f n buf) {n' : Nat} (hn : n' ≤ m) : At (w.setCell ⟨b, 2, none⟩ (.int .i64 n')) b g m f n' buf :=
  ⟨h.len, h.m64, hn, h.fm, h.ne, (setCell_ne (addr_ne_off (by omega)) _).trans h.c0, (setCell_ne (addr_ne_off (by omega)) _).trans h.c1, World.cell?_setCell_same' _ _ _ (by rw [h.c2]; rfl),
   by rw [World.frozen?_setCell]; exact h.z1, by rw [World.frozen?_setCell]; exact h.z2, fun j hj => (setCell_ne (addr_ne_block (Ne.symm h.ne)) _).trans (h.cg j hj), fun j hj => by rw [World.frozen?_setCell]; exact h.zg j hj, by simpa using h.lb, by simpa using h.lg⟩
theorem At.setB (h : At w b g m f n buf) {i : Nat} (hi : i < m) (x : Int) : At (w.setCell ⟨g, i, none⟩ (.int .i64 x)) b g m f n (buf.set i x) :=
  ⟨by rw [List.length_set]; exact h.len, h.m64, h.nm, h.fm, h.ne, (setCell_ne (addr_ne_block h.ne) _).trans h.c0, (setCell_ne (addr_ne_block h.ne) _).trans h.c1, (setCell_ne (addr_ne_block h.ne) _).trans h.c2,
   by rw [World.frozen?_setCell]; exact h.z1, by rw [World.frozen?_setCell]; exact h.z2,
   fun j hj => by
    by_cases e : i = j
    · subst e
      rw [World.cell?_setCell_same' _ _ _ (by rw [h.cg i hi]; rfl)]
      rw [List.getD_eq_getElem?_getD, List.getElem?_set_self (by rw [h.len]; exact hi)]; rfl
    · rw [setCell_ne (addr_ne_off e), h.cg j hj]
      rw [List.getD_eq_getElem?_getD, List.getD_eq_getElem?_getD, List.getElem?_set_ne e],
   fun j hj => by rw [World.frozen?_setCell]; exact h.zg j hj, by simpa using h.lb, by simpa using h.lg⟩
end

set_option maxHeartbeats 1000000 in
theorem place_any (w : World) (b g m f n : Nat) (buf : List Int) (z : Int) (h : At w b g m f n buf) (hm : 0 < m) (h0 : 0 ≤ z) (hz : z ≤ m) :
    Calls Try.prog 21 #[.pointer (some ⟨b, 0, none⟩), .int .i64 z] w fun e w' => e = .returned (.int .i64 (pl m f z.toNat : Nat)) ∧ Drawn0 w w' := by
  have hf : f < m := by rcases h.fm with h1 | h1 <;> omega
  have H := Lib.hid (pl_int hf h0 hz)
  have hc0 := h.c0
  have hc1 := h.c1
  have h64 := h.m64
  have hm1 : ¬ (m : Int) = 0 := by omega
  have hm2 : ((m : Int) == 0) = false := by simpa using hm1
  have hs : IntKind.i64.wrap ((f : Int) + z) = (f : Int) + z := by rw [IntKind.wrap_i64]; omega
  clear h
  go_enter Try.func21, Try.ntmps21
  go_wp2
  go_quiet (fail)
  all_goals
    go_wp2
    go_ret
    exact ⟨by rw [H.out]; rfl, ⟨⟨_, rfl⟩⟩⟩

set_option maxHeartbeats 1000000 in
theorem len_any (w : World) (b g m f n : Nat) (buf : List Int) (h : At w b g m f n buf) :
    Calls Try.prog 8 #[.pointer (some ⟨b, 0, none⟩)] w fun e w' => e = .returned (.int .i64 n) ∧ w = w' := by
  have hc2 := h.c2
  clear h
  go_enter Try.func8, Try.ntmps8
  go_wp2
  go_ret
  exact ⟨rfl, rfl⟩

set_option maxHeartbeats 1000000 in
theorem most_any (w : World) (b g m f n : Nat) (buf : List Int) (h : At w b g m f n buf) :
    Calls Try.prog 11 #[.pointer (some ⟨b, 0, none⟩)] w fun e w' => e = .returned (.int .i64 m) ∧ w = w' := by
  have hc0 := h.c0
  clear h
  go_enter Try.func11, Try.ntmps11
  go_wp2
  go_ret
  exact ⟨rfl, rfl⟩

set_option maxHeartbeats 1000000 in
theorem at_out (w : World) (b g m f n : Nat) (buf : List Int) (z : Int) (h : At w b g m f n buf) (hz : z < 0 ∨ (n : Int) ≤ z) :
    Calls Try.prog 10 #[.pointer (some ⟨b, 0, none⟩), .int .i64 z] w fun e w' => e = .returned (.tuple #[.int .i64 0, .bool false]) ∧ Drawn0 w w' := by
  have hc2 := h.c2
  clear h
  rcases hz with hz | hz
  · go_enter Try.func10, Try.ntmps10
    go_wp2
    go_ret2
    exact ⟨rfl, ⟨⟨0, rfl⟩⟩⟩
  · by_cases hz0 : z < 0
    · go_enter Try.func10, Try.ntmps10
      go_wp2
      go_ret2
      exact ⟨rfl, ⟨⟨0, rfl⟩⟩⟩
    · go_enter Try.func10, Try.ntmps10
      go_wp2
      go_ret2
      exact ⟨rfl, ⟨⟨0, rfl⟩⟩⟩

set_option maxHeartbeats 2000000 in
theorem at_in (w : World) (b g m f n : Nat) (buf : List Int) (i : Nat) (h : At w b g m f n buf) (hi : i < n) :
    Calls Try.prog 10 #[.pointer (some ⟨b, 0, none⟩), .int .i64 i] w fun e w' => e = .returned (.tuple #[.int .i64 ((con 0 m f n buf).getD (n - 1 - i) 0), .bool true]) ∧ Drawn0 w w' := by
  have hc0 := h.c0
  have hc2 := h.c2
  have h64 := h.m64
  have hnm := h.nm
  have hf : f < m := by rcases h.fm with h1 | h1 <;> omega
  have hp := fun w (hw : At w b g m f n buf) => place_any w b g m f n buf ((n : Int) - 1 - (i : Int)) hw (by omega) (by omega) (by omega)
  have hz : ((n : Int) - 1 - (i : Int)).toNat = n - 1 - i := by omega
  rw [hz] at hp
  have hl := pl_lt (i := n - 1 - i) hf (by omega)
  have hcell := h.cg _ hl
  have e : (con 0 m f n buf).getD (n - 1 - i) 0 = buf.getD (pl m f (n - 1 - i)) 0 := con_getD (by omega)
  rw [e]
  clear e hz
  generalize buf.getD (pl m f (n - 1 - i)) 0 = x at hcell ⊢
  generalize pl m f (n - 1 - i) = q at hl hcell hp
  have h1 : ¬ ((i : Int) < 0) := by omega
  have h2 : ¬ ((n : Int) ≤ (i : Int)) := by omega
  have s1 : IntKind.i64.wrap ((n : Int) - 1) = (n : Int) - 1 := by rw [IntKind.wrap_i64]; omega
  have s2 : IntKind.i64.wrap ((n : Int) - 1 - (i : Int)) = (n : Int) - 1 - (i : Int) := by rw [IntKind.wrap_i64]; omega
  have HP := Lib.hid hp
  have HA := Lib.hid h
  clear hp h
  go_enter Try.func10, Try.ntmps10
  go_wp2
  go_quiet ((go_at_call 21; exact Calls.quiet_of ((HP.out _ (HA.out.drewN _)).mono fun _ _ hh => ⟨hh.1, hh.2.out⟩)))
  all_goals
    go_wp2
    go_ret2
    exact ⟨rfl, ⟨⟨_, rfl⟩⟩⟩

/-- What Push's loop keeps, k things having been pushed. -/
def PushRel (w : World) (b g m n : Nat) (L xs : List Int) (k : Nat) (wr : World) : Prop :=
  ∃ (f' n' : Nat) (buf' : List Int), At wr b g m f' n' buf' ∧ con 0 m f' n' buf' = last m (L ++ xs.take k) ∧ Others b g w wr

set_option maxHeartbeats 4000000 in
set_option maxRecDepth 100000 in
theorem push_any (w : World) (b g m f n : Nat) (buf : List Int) (A : Option Addr) (c : Nat) (xs : List Int) (h : At w b g m f n buf) (hx : (Kd.int .i64).C w A xs.length xs) (hc : xs.length ≤ c)
    (hA : ∀ ad, A = some ad → 0 < xs.length → ad.block < w.heap.size ∧ ad.block ≠ b ∧ ad.block ≠ g) (hreach : xs.length * 8 ≤ 140737488351232) :
    Calls Try.prog 7 #[.pointer (some ⟨b, 0, none⟩), .slice A xs.length c] w fun e w' => e = .returned (.int .i64 ((n + xs.length - m : Nat) : Int)) ∧ PushRel w b g m n (con 0 m f n buf) xs xs.length w' := by
  have h64 := h.m64
  have hnm := h.nm
  have HN : (con 0 m f n buf).length = n := con_length
  have H0 : PushRel w b g m n (con 0 m f n buf) xs 0 w := ⟨f, n, buf, h, by rw [List.take_zero, List.append_nil, last_small]; rw [con_length]; exact hnm, Others.refl _ _ _⟩
  generalize con 0 m f n buf = L at HN H0 ⊢
  have HX := Lib.hid hx
  have HA := Lib.hid hA
  have HN' := Lib.hid HN
  clear hx hA HN h
  go_enter Try.func7, Try.ntmps7
  go_wp2
  go_loopw [5, 10] (fun v i wr => ∃ k : Nat, k ≤ xs.length ∧ i = .int .i64 k ∧ v = .int .i64 ((n + k - m : Nat) : Int) ∧ PushRel w b g m n L xs k wr) (fun _ i _ => xs.length - (intOf i).toNat)
  case atStart => exact ⟨0, Nat.zero_le _, rfl, by rw [show n + 0 - m = 0 by omega]; rfl, H0⟩
  case round =>
    obtain ⟨k, hk, rfl, rfl, f1, n1, buf1, hat, hcon, hoth⟩ := hrel
    clear H0
    by_cases hlt : k < xs.length
    · have hn1 : n1 = min m (n + k) := by
        have := congrArg List.length hcon
        rw [con_length, last_length, List.length_append, HN'.out, List.length_take] at this
        omega
      obtain ⟨ad, rfl, hcell⟩ := Kd.at_int HX.out (k : Int) (by omega) (by omega)
      have hadb := HA.out ad rfl (by omega)
      rw [Int.toNat_natCast] at hcell
      have hcell' : wr.cell? (ad.add k) = some (.int .i64 (rd xs (k : Int))) := by
        rw [← hcell]
        exact hoth.cell (by rw [addr_add_block]; exact hadb.1) (by rw [addr_add_block]; exact hadb.2.1) (by rw [addr_add_block]; exact hadb.2.2)
      have htake : xs.take (k + 1) = xs.take k ++ [rd xs (k : Int)] := by
        rw [List.take_succ_eq_append_getElem hlt]
        congr 2
        simp [rd, rdOf, List.getD_eq_getElem?_getD, hlt]
      clear hcell
      generalize rd xs (k : Int) = x at hcell' htake
      have HT := Lib.hid htake
      have HCO := Lib.hid hcon
      clear htake hcon
      have hc0 := hat.c0
      have hc1 := hat.c1
      have hc2 := hat.c2
      have hnm1 := hat.nm
      have hwk : IntKind.i64.wrap ((k : Int) + 1) = (k : Int) + 1 := by rw [IntKind.wrap_i64]; omega
      by_cases hm0 : m = 0
      · have hmb : ((m : Int) == 0) = true := by rw [beq_iff_eq]; omega
        have hg1 : wrap64 (((n + k - m : Nat) : Int) + 1) = ((n + (k + 1) - m : Nat) : Int) := by unfold wrap64; omega
        have HG := Lib.hid hg1
        clear hg1
        generalize ((n + k - m : Nat) : Int) = gone at HG ⊢
        go_wp2
        go_roundw
        case rel =>
          refine ⟨k + 1, by omega, by go_num, ?_, f1, n1, buf1, hat, ?_, hoth⟩
          · rw [← HG.out]
          · have e1 : n1 = 0 := by omega
            rw [e1, con_zero, hm0]
            unfold last
            rw [Nat.sub_zero, List.drop_length]
        case measure => simp [intOf]; omega
      · have hmb : ((m : Int) == 0) = false := by rw [beq_eq_false_iff_ne]; omega
        have hf1 : f1 < m := by rcases hat.fm with h1 | h1 <;> omega
        have hnext := con_next (d := 0) (x := x) hat.len hf1 hnm1 HCO.out
        rw [List.append_assoc, ← HT.out] at hnext
        have hz1 := hat.z1
        have hz2 := hat.z2
        have hq := pl_lt (i := n1) hf1 hnm1
        have hzg := hat.zg _ hq
        have hcg := hat.cg _ hq
        by_cases hfull : n1 = m
        · rw [if_pos hfull, if_pos hfull] at hnext
          have HNX := Lib.hid hnext
          clear hnext
          have hfb : ((n1 : Int) == (m : Int)) = true := by rw [beq_iff_eq]; omega
          have hp := fun w (hw : At w b g m f1 n1 buf1) => place_any w b g m f1 n1 buf1 (1 : Int) hw (by omega) (by omega) (by omega)
          rw [show (1 : Int).toNat = 1 from rfl] at hp
          have hf2 := pl_lt (i := 1) hf1 (by omega)
          have e1 : ((n1 - 1 : Nat) : Int) = (n1 : Int) - 1 := by omega
          have hq2 : pl m (pl m f1 1) (n1 - 1) = pl m f1 n1 := by unfold pl; split <;> split <;> split <;> omega
          have hB0 := fun w (hw : At w b g m f1 n1 buf1) => (hw.setF (f' := pl m f1 1) (Or.inl hf2)).setN (n' := n1 - 1) (by omega)
          rw [e1] at hB0
          have hp2 := fun w (hw : At w b g m (pl m f1 1) (n1 - 1) buf1) => place_any w b g m (pl m f1 1) (n1 - 1) buf1 ((n1 : Int) - 1) hw (by omega) (by omega) (by omega)
          rw [show ((n1 : Int) - 1).toNat = n1 - 1 by omega, hq2] at hp2
          have hB := fun w (hw : At w b g m (pl m f1 1) (n1 - 1) buf1) => (hw.setB hq x).setN (n' := n1) (by omega)
          have hw1 : IntKind.i64.wrap ((n1 : Int) - 1) = (n1 : Int) - 1 := by rw [IntKind.wrap_i64]; omega
          have hw2 : (n1 : Int) - 1 + 1 = (n1 : Int) := by omega
          have hw3 : IntKind.i64.wrap ((n1 : Int) - 1 + 1) = (n1 : Int) := by rw [IntKind.wrap_i64]; omega
          have hg1 : wrap64 (((n + k - m : Nat) : Int) + 1) = ((n + (k + 1) - m : Nat) : Int) := by unfold wrap64; omega
          have HG := Lib.hid hg1
          have HE1 := Lib.hid e1
          have HP := Lib.hid hp
          have HP2 := Lib.hid hp2
          have HB0 := Lib.hid hB0
          have HB := Lib.hid hB
          have HAT := Lib.hid hat
          have hgb := hat.ne
          have hgb' := Ne.symm hat.ne
          clear hg1 hp hp2 hB0 hB hat hn1 hfull hm0 e1 hq2
          generalize pl m f1 n1 = q at HP2 HB HNX hq hzg hcg
          generalize pl m f1 1 = f2 at HP HP2 HB0 HB HNX hf2
          generalize ((n + k - m : Nat) : Int) = gone at HG ⊢
          go_wp2
          go_quiet (fail)
          go_wp2_with (first | (go_at_call 21; refine (HP.out _ (by first | exact HAT.out.drewN _ | exact (HAT.out.drewN _).drew | exact (HAT.out.drewN _).drewN _)).mono ?_; rintro e w' ⟨rfl, ⟨⟨nd, rfl⟩⟩⟩))
          have hat2 := HB0.out _ (HAT.out.drewN (nq + nd))
          have hoth2 := ((hoth.drewN (nq + nd)).setCell (p := ⟨b, 1, none⟩) (Or.inl rfl) (.int .i64 (f2 : Int))).setCell (p := ⟨b, 2, none⟩) (Or.inl rfl) (.int .i64 ((n1 : Int) - 1))
          generalize ((wr.drewN (nq + nd)).setCell ⟨b, 1, none⟩ (.int .i64 (f2 : Int))).setCell ⟨b, 2, none⟩ (.int .i64 ((n1 : Int) - 1)) = W2 at hat2 hoth2 ⊢
          clear hc0 hc1 hc2 hz1 hz2 hzg hcg hcell'
          have hc0 := hat2.c0
          have hc2 := hat2.c2
          rw [HE1.out] at hc2
          have hz2 := hat2.z2
          have hzg := hat2.zg _ hq
          have hcg := hat2.cg _ hq
          have HAT2 := Lib.hid hat2
          clear hat2
          go_region_held3 (fun w' => w'.cell? ⟨b, 0, none⟩ = some (.slice (some ⟨g, 0, none⟩) m m) ∧ w'.cell? ⟨b, 2, none⟩ = some (.int .i64 ((n1 : Int) - 1))) (go_keep)
            (first | (go_at_call 21; refine (HP2.out _ (by first | exact HAT2.out | exact HAT2.out.drew | exact HAT2.out.drewN _ | exact (HAT2.out.drewN _).drew | exact (HAT2.out.drewN _).drewN _)).mono ?_; rintro e w' ⟨rfl, ⟨⟨nd2, rfl⟩⟩⟩))
          go_wp2
          go_roundw
          case rel =>
            refine ⟨k + 1, by omega, by go_num, by rw [← HG.out], f2, n1, buf1.set q x, ?_, HNX.out, ?_⟩
            · exact HB.out _ (HAT2.out.drewN _)
            · exact ((hoth2.drewN _).setCell (Or.inr rfl) _).setCell (Or.inl rfl) _
          case measure => simp [intOf]; omega
        · rw [if_neg hfull, if_neg hfull] at hnext
          have HNX := Lib.hid hnext
          clear hnext
          have hfb : ((n1 : Int) == (m : Int)) = false := by rw [beq_eq_false_iff_ne]; omega
          have hp := fun w (hw : At w b g m f1 n1 buf1) => place_any w b g m f1 n1 buf1 (n1 : Int) hw (by omega) (by omega) (by omega)
          rw [Int.toNat_natCast] at hp
          have hB := fun w (hw : At w b g m f1 n1 buf1) => (hw.setB hq x).setN (n' := n1 + 1) (by omega)
          have hwn : IntKind.i64.wrap ((n1 : Int) + 1) = (n1 : Int) + 1 := by rw [IntKind.wrap_i64]; omega
          have hgn : n + (k + 1) - m = n + k - m := by omega
          have HGN := Lib.hid hgn
          have HP := Lib.hid hp
          have HB := Lib.hid hB
          have HAT := Lib.hid hat
          have hgb := hat.ne
          clear hgn hp hB hat hn1 hfull hm0
          generalize pl m f1 n1 = q at HP HB HNX hq hzg hcg
          generalize hG : ((n + k - m : Nat) : Int) = gone
          have HG := Lib.hid hG
          clear hG
          go_wp2
          go_quiet (fail)
          go_wp2
          go_region_held3 (fun w' => w'.cell? ⟨b, 0, none⟩ = some (.slice (some ⟨g, 0, none⟩) m m) ∧ w'.cell? ⟨b, 2, none⟩ = some (.int .i64 n1)) (go_keep)
            (first | (go_at_call 21; refine (HP.out _ (by first | exact HAT.out.drewN _ | exact (HAT.out.drewN _).drew | exact (HAT.out.drewN _).drewN _)).mono ?_; rintro e w' ⟨rfl, ⟨⟨nd, rfl⟩⟩⟩))
          go_wp2
          go_roundw
          case rel =>
            refine ⟨k + 1, by omega, by go_num, by rw [HGN.out, HG.out], f1, n1 + 1, buf1.set q x, ?_, HNX.out, ?_⟩
            · have e : ((n1 + 1 : Nat) : Int) = (n1 : Int) + 1 := by omega
              rw [← e]
              exact HB.out _ (HAT.out.drewN _)
            · exact ((hoth.drewN _).setCell (Or.inr rfl) _).setCell (Or.inl rfl) _
          case measure => simp [intOf]; omega
    · have hk' : k = xs.length := by omega
      obtain rfl := hk'
      generalize hG : ((n + xs.length - m : Nat) : Int) = gone
      have HG := Lib.hid hG
      clear hG
      go_wp2
      go_ret
      exact ⟨by rw [HG.out]; rfl, f1, n1, buf1, hat, hcon, hoth⟩

set_option maxHeartbeats 1000000 in
theorem new_out (w : World) (z : Int) (h : z < 0 ∨ 64 < z) : Calls Try.prog 6 #[.int .i64 z] w fun e w' => e = .returned (.tuple #[.pointer none, .int .i64 10]) ∧ w = w' := by
  rcases h with h | h
  · go_enter Try.func6, Try.ntmps6
    go_wp2
    go_ret2
    exact ⟨rfl, rfl⟩
  · have h0 : ¬ z < 0 := by omega
    go_enter Try.func6, Try.ntmps6
    go_wp2
    go_ret2
    exact ⟨rfl, rfl⟩

theorem made_get (z : Value) (m j : Nat) (h : j < m) : (madeCells #[z] m)[j]? = some z := by
  simp [madeCells, h, Nat.mod_one]
theorem info_e : (Try.prog.info? 3).map (fun i => (i.zero, i.size, i.bytes)) = some (some (.int .i64 0), 1, 8) := by kernel_rfl
set_option maxHeartbeats 1000000 in
theorem new_in (w : World) (m : Nat) (h : m ≤ 64) : Calls Try.prog 6 #[.int .i64 m] w fun e w' => e = .returned (.tuple #[.pointer (some ⟨w.heap.size + 1, 0, none⟩), .int .i64 0]) ∧ At w' (w.heap.size + 1) w.heap.size m 0 0 (List.replicate m 0) ∧ Below w.heap.size w w' := by
  have h0 : ¬ ((m : Int) < 0) := by omega
  have h1 : ¬ ((64 : Int) < m) := by omega
  have hmk := run_make_row' (P := Try.prog) 22 3 (.int .i64 0) 8 Try.underlying22 info_e rfl .i64 .i64 m (by omega) (by omega)
  go_enter Try.func6, Try.ntmps6
  go_wp2
  go_ret2
  refine ⟨rfl, ?_, ((Below.refl _ w).alloc (Nat.le_refl _) _).alloc (by simp) _⟩
  have hgc := fun j (hj : j < m) => made_get (.int .i64 0) m j hj
  refine ⟨by simp, h, Nat.zero_le _, Or.inr rfl, by omega, ?_, ?_, ?_, ?_, ?_, ?_, ?_, by simp, by simp; omega⟩
  · have e := World.cell?_alloc_new (w := w.alloc (.cells (madeCells #[.int .i64 0] m) 3)) #[.slice (some ⟨w.heap.size, 0, none⟩) m m, .int .i64 0, .int .i64 0] 51 0
    rw [World.size_alloc] at e
    exact e
  · have e := World.cell?_alloc_new (w := w.alloc (.cells (madeCells #[.int .i64 0] m) 3)) #[.slice (some ⟨w.heap.size, 0, none⟩) m m, .int .i64 0, .int .i64 0] 51 1
    rw [World.size_alloc] at e
    exact e
  · have e := World.cell?_alloc_new (w := w.alloc (.cells (madeCells #[.int .i64 0] m) 3)) #[.slice (some ⟨w.heap.size, 0, none⟩) m m, .int .i64 0, .int .i64 0] 51 2
    rw [World.size_alloc] at e
    exact e
  · exact World.frozen?_alloc_at _ _ _ _ (by simp)
  · exact World.frozen?_alloc_at _ _ _ _ (by simp)
  · intro j hj
    rw [World.cell?_alloc2_first, hgc j hj]
    simp [List.getD_eq_getElem?_getD, hj]
  · intro j hj
    rw [World.frozen?_alloc_past _ _ _ (by simp)]
    exact World.frozen?_alloc_at _ _ _ _ rfl
end Go.Proofs.Ytejfpnmomlnjhaa.RI
