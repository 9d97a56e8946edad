/- sum.Read walked: it reads eight digits at base 16. -/
import Derived.Test.YtlbplbbkljjnnaaDoorGiven
import Derived.Test.YtlbplbbkljjnnaaDoorDigs
namespace Go.Proofs.YtlbplbbkljjnnaaDoor.Read
open Go.RowKit Go.Proofs Go.Proofs.YtlbplbbkljjnnaaDoorW.PrintWords Go.Proofs.YtlbplbbkljjnnaaDoorW.PrintMore Digs
set_option linter.unusedVariables false
set_option linter.unusedSimpArgs false
def numsN (s : ByteArray) : List Nat := s.data.toList.map (·.toNat)
theorem numsN_length (s : ByteArray) : (numsN s).length = s.size := by unfold numsN; rw [List.length_map, data_length]
/-- What Read answers. -/
def readF (s : ByteArray) : Int × Int := if s.size = 8 then match readL (numsN s) 0 with | some y => ((y : Nat), 0) | none => (0, 11) else (0, 11)
theorem or_digit (a d : Nat) (ha : a < 268435456) (hd : d < 16) : bits .or .u32 ((a : Int) * 16) (d : Int) = ((16 * a + d : Nat) : Int) := by
  have h := u32_or_nat (a * 16) d (by omega) (by omega)
  have e : ((a * 16 : Nat) : Int) = (a : Int) * 16 := by omega
  rw [e] at h
  rw [h]
  have h2 := Nat.shiftLeft_add_eq_or_of_lt (i := 4) (b := d) (by omega) a
  rw [Nat.shiftLeft_eq] at h2
  rw [show a * 16 = a * 2 ^ 4 from rfl, ← h2]
  omega
theorem step_some (l : List Nat) (j b a d : Nat) (hb : l[j]? = some b) (ha : readL (l.take j) 0 = some a) (hd : dv b = some d) : readL (l.take (j + 1)) 0 = some (16 * a + d) := by
  have hlt : j < l.length := by
    rcases Nat.lt_or_ge j l.length with h | h
    · exact h
    · rw [List.getElem?_eq_none h] at hb; cases hb
  rw [List.take_succ_eq_append_getElem hlt, readL_append, ha]
  rw [List.getElem?_eq_getElem hlt] at hb
  cases hb
  show readL [_] a = _
  rw [readL, hd]
  rfl
theorem step_none (l : List Nat) (j b a : Nat) (hb : l[j]? = some b) (ha : readL (l.take j) 0 = some a) (hd : dv b = none) : readL l 0 = none := by
  have hlt : j < l.length := by
    rcases Nat.lt_or_ge j l.length with h | h
    · exact h
    · rw [List.getElem?_eq_none h] at hb; cases hb
  rw [← List.take_append_drop j l, readL_append, ha, List.drop_eq_getElem_cons hlt]
  rw [List.getElem?_eq_getElem hlt] at hb
  cases hb
  show readL (_ :: _) a = _
  rw [readL, hd]
theorem pow_lt (l : List Nat) (j a : Nat) (hj : j ≤ l.length) (h : readL (l.take j) 0 = some a) (hj7 : j ≤ 7) : a < 268435456 := by
  have h1 := read_lt _ _ h
  rw [List.length_take, Nat.min_eq_left hj] at h1
  exact Nat.lt_of_lt_of_le h1 (Nat.le_trans (Nat.pow_le_pow_right (by omega) hj7) (by decide))
set_option maxRecDepth 100000 in
set_option maxHeartbeats 4000000 in
theorem read_any (s : ByteArray) (w : World) (hs : s.size ≤ 4611686018427387904) :
    Calls Tryd.prog 11 #[.string s] w fun e w' => e = .returned (.tuple #[.int .u32 (readF s).1, .int .i64 (readF s).2]) ∧ Below w.heap.size w w' := by
  by_cases h8 : s.size = 8
  · have e1 : ∀ y, readL (numsN s) 0 = some y → readF s = ((y : Int), 0) := by intro y hy; unfold readF; rw [if_pos h8, hy]
    have e2 : readL (numsN s) 0 = none → readF s = (0, 11) := by intro hy; unfold readF; rw [if_pos h8, hy]
    generalize readF s = R at e1 e2 ⊢
    have E1 := Aside0.mk e1
    have E2 := Aside0.mk e2
    clear e1 e2
    have hi8 : (s.size : Int) = 8 := by omega
    have kb := fun W => print_bytes (P := Tryd.prog) 9 27 5 Tryd.underlying9 Tryd.underlying27 Tryd.underlying5 s W
    have hln := numsN_length s
    rw [h8] at hln
    have hcl : ∀ j b : Nat, (numsN s)[j]? = some b → (Lib.bytesWorld w 5 s).cell? ⟨w.heap.size, j, none⟩ = some (.int .u8 (b : Int)) := by
      intro j b hb
      have hlt : j < s.size := by
        rcases Nat.lt_or_ge j s.size with h | h
        · exact h
        · rw [List.getElem?_eq_none (by omega)] at hb; cases hb
      rw [Lib.bytesWorld_cell w 5 s j hlt]
      unfold numsN at hb
      rw [List.getElem?_map] at hb
      rw [List.getD_eq_getElem?_getD]
      cases hx : s.data.toList[j]? with
      | none => rw [hx] at hb; cases hb
      | some c => rw [hx] at hb; cases hb; rfl
    have HB := Aside0.mk (bytes_below (Below.refl w.heap.size w) (Nat.le_refl _) 5 s)
    have HCL := Aside0.mk hcl
    have HLN := Aside0.mk hln
    clear hcl hln
    go_enter Tryd.func11, Tryd.ntmps11
    go_wp2_with fail
    generalize Lib.bytesWorld w 5 s = W at HB HCL ⊢
    generalize numsN s = l at HCL HLN E1 E2 ⊢
    clear kb hs hi8 h8
    go_loop [4, 13] (fun q i => ∃ j a : Nat, j ≤ 8 ∧ i = .int .i64 j ∧ q = .int .u32 a ∧ Aside0 (readL (l.take j) 0 = some a)) (fun _ i => 8 - (intOf i).toNat)
    case atStart => exact ⟨0, 0, by omega, rfl, rfl, ⟨rfl⟩⟩
    case round =>
      obtain ⟨j, a, hj, rfl, rfl, HA⟩ := hrel
      by_cases hjl : j < 8
      · obtain ⟨b, hb⟩ : ∃ b, l[j]? = some b := ⟨l[j]'(by rw [HLN.out]; exact hjl), List.getElem?_eq_getElem _⟩
        have hcell := HCL.out j b hb
        have hal := pow_lt l j a (by rw [HLN.out]; omega) HA.out (by omega)
        have hwj : IntKind.i64.wrap ((j : Int) + 1) = (j : Int) + 1 := by rw [IntKind.wrap_i64]; omega
        have HB1 := Aside0.mk hb
        clear hb
        by_cases h1 : 48 ≤ b
        · by_cases h2 : b ≤ 57
          · have hd : dv b = some (b - 48) := by unfold dv; rw [if_pos ⟨h1, h2⟩]
            have HS := Aside0.mk (step_some l j b a _ HB1.out HA.out hd)
            have hor := or_digit a (b - 48) hal (by omega)
            rw [show ((b - 48 : Nat) : Int) = (b : Int) - 48 by omega] at hor
            clear hd
            go_wp2
            go_round
            case rel => exact ⟨j + 1, 16 * a + (b - 48), by omega, by go_num, by congr 1, HS⟩
            case measure => simp [intOf]; omega
          · have h2' : ¬ ((b : Int) ≤ 57) := by omega
            by_cases h3 : 97 ≤ b
            · by_cases h4 : b ≤ 102
              · have hd : dv b = some (b - 87) := by unfold dv; rw [if_neg (by omega), if_pos ⟨h3, h4⟩]
                have HS := Aside0.mk (step_some l j b a _ HB1.out HA.out hd)
                have hor := or_digit a (b - 87) hal (by omega)
                rw [show ((b - 87 : Nat) : Int) = (b : Int) - 97 + 10 by omega] at hor
                clear hd
                go_wp2
                go_round
                case rel => exact ⟨j + 1, 16 * a + (b - 87), by omega, by go_num, by congr 1, HS⟩
                case measure => simp [intOf]; omega
              · have h4' : ¬ ((b : Int) ≤ 102) := by omega
                have hd : dv b = none := by unfold dv; rw [if_neg (by omega), if_neg (by omega)]
                have HS := Aside0.mk (E2.out (step_none l j b a HB1.out HA.out hd))
                clear hd
                go_wp2
                refine bodyPost_ret (v := .tuple #[.int .u32 0, .int .i64 11]) (by simp [results, Tryd.f11, go_sem]) rfl ⟨by rw [HS.out], HB.out⟩
            · have h3' : ¬ ((97 : Int) ≤ (b : Int)) := by omega
              have hd : dv b = none := by unfold dv; rw [if_neg (by omega), if_neg (by omega)]
              have HS := Aside0.mk (E2.out (step_none l j b a HB1.out HA.out hd))
              clear hd
              go_wp2
              refine bodyPost_ret (v := .tuple #[.int .u32 0, .int .i64 11]) (by simp [results, Tryd.f11, go_sem]) rfl ⟨by rw [HS.out], HB.out⟩
        · have h1' : ¬ ((48 : Int) ≤ (b : Int)) := by omega
          have h3' : ¬ ((97 : Int) ≤ (b : Int)) := by omega
          have hd : dv b = none := by unfold dv; rw [if_neg (by omega), if_neg (by omega)]
          have HS := Aside0.mk (E2.out (step_none l j b a HB1.out HA.out hd))
          clear hd
          go_wp2
          refine bodyPost_ret (v := .tuple #[.int .u32 0, .int .i64 11]) (by simp [results, Tryd.f11, go_sem]) rfl ⟨by rw [HS.out], HB.out⟩
      · have hjl2 : ¬ ((j : Int) < 8) := by omega
        have ht : l.take j = l := List.take_of_length_le (by rw [HLN.out]; omega)
        have h5 := HA.out
        rw [ht] at h5
        have HS := Aside0.mk (E1.out a h5)
        clear ht h5
        go_wp2
        refine bodyPost_ret (v := .tuple #[.int .u32 (a : Int), .int .i64 0]) (by simp [results, Tryd.f11, go_sem]) rfl ⟨by rw [HS.out], HB.out⟩
  · have e1 : readF s = (0, 11) := by unfold readF; rw [if_neg h8]
    rw [e1]
    have hi8 : ¬ ((s.size : Int) = 8) := by omega
    clear e1 hs
    go_enter Tryd.func11, Tryd.ntmps11
    go_wp2
    refine bodyPost_ret (v := .tuple #[.int .u32 0, .int .i64 11]) (by simp [results, Tryd.f11, go_sem]) rfl ⟨rfl, Below.refl _ _⟩
end Go.Proofs.YtlbplbbkljjnnaaDoor.Read
