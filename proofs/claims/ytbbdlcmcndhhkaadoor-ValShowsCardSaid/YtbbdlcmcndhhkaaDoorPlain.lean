/- val.Plain walked: a range over the bytes of a text. -/
import Derived.Test.YtbbdlcmcndhhkaaDoorForms
namespace Go.Proofs.YtbbdlcmcndhhkaaDoor.MValReckons
open Go.RowKit Go.Proofs.YtbbdlcmcndhhkaaDoorW.PrintWords Go.Proofs.YtbbdlcmcndhhkaaDoorW.PrintLast Go.Proofs.YtbbdlcmcndhhkaaDoorW.PrintMore
set_option linter.unusedVariables false
set_option linter.unusedSimpArgs false

def okB (b : Int) : Bool := !(decide (b < 32)) && (!(decide (126 < b)) && !(b == 39))
def plainB (s : ByteArray) : Bool := (bytesOf s).all okB && decide (s.size ≤ 48)
theorem drop_all (l : List Int) (i : Nat) (h : i < l.length) : (l.drop i).all okB = (okB (l.getD i 0) && (l.drop (i + 1)).all okB) := by
  rw [List.drop_eq_getElem_cons h, List.all_cons, List.getD_eq_getElem?_getD, List.getElem?_eq_getElem h]
  rfl
set_option maxHeartbeats 4000000 in
set_option maxRecDepth 100000 in
theorem plain_calls (s : ByteArray) (hs : s.size ≤ 140737488351232) (w : World) : Calls Tryd.prog 17 #[.string s] w fun e w' => e = .returned (.bool (plainB s)) ∧ Below w.heap.size w w' := by
  have kb := print_bytes (P := Tryd.prog) 9 58 5 Tryd.underlying9 Tryd.underlying58 Tryd.underlying5 s w
  have hr := bytes_reads w 5 s (by omega)
  have hb := bytes_below (Below.refl w.heap.size w) (Nat.le_refl _) 5 s
  have hz : decide ((s.size : Int) ≤ 48) = decide (s.size ≤ 48) := decide_eq_decide.2 (by omega)
  go_enter Tryd.func17, Tryd.ntmps17
  go_wp2
  generalize Lib.bytesWorld w 5 s = w1 at *
  go_loopg [8] (s.size + 1) (fun kq v8 w' => ∃ i : Nat, v8 = .int .i64 i ∧ Aside0 (((bytesOf s).drop i).all okB = (bytesOf s).all okB) ∧ Aside0 (kq + i = s.size + 1) ∧ w' = w1)
  case atStart => exact ⟨0, rfl, ⟨rfl⟩, ⟨rfl⟩, rfl⟩
  case round =>
    obtain ⟨i, rfl, HA, HK, rfl⟩ := hrel
    have hl := bytesOf_length s
    by_cases hi : i < s.size
    · obtain ⟨ad, hA, hc⟩ := hr.2.2 (by omega)
      obtain rfl := Option.some.inj hA
      have hcell := hc i hi
      rw [add_plain] at hcell
      have hd := drop_all (bytesOf s) i (by omega)
      generalize (bytesOf s).getD i 0 = c at hcell hd
      have hi1 : decide ((i : Int) < (s.size : Int)) = true := decide_eq_true (by omega)
      have hi2 : (0 ≤ (i : Int)) = True := eq_true (by omega)
      have hi3 : ((i : Int) < (s.size : Int)) = True := eq_true (by omega)
      have hw : IntKind.i64.wrap ((i : Int) + 1) = ((i + 1 : Nat) : Int) := by rw [IntKind.wrap_i64]; omega
      have HD := Aside0.mk hd
      have HB := Aside0.mk hb
      have HR := Aside0.mk hr
      have HL := Aside0.mk hl
      have HI := Aside0.mk hi
      clear hd hb hr hc hl hi hs
      have bad : okB c = false → plainB s = false := fun h => by rw [plainB, ← HA.out, HD.out, h]; rfl
      have HBAD := Aside0.mk bad
      clear bad
      by_cases c1 : c < 32
      · have h1 := decide_eq_true c1
        have := HBAD.out (by simp [okB, c1])
        go_wp2
        go_ret
        exact ⟨by first | rfl | simp, HB.out⟩
      have h1 := decide_eq_false c1
      by_cases c2 : 126 < c
      · have h2 := decide_eq_true c2
        have := HBAD.out (by simp [okB, c2])
        go_wp2
        go_ret
        exact ⟨by first | rfl | simp, HB.out⟩
      have h2 := decide_eq_false c2
      by_cases c3 : c = 39
      · have h3 : (c == 39) = true := beq_iff_eq.2 c3
        have := HBAD.out (by simp [okB, c3])
        go_wp2
        go_ret
        exact ⟨by first | rfl | simp, HB.out⟩
      have h3 : (c == 39) = false := beq_eq_false_iff_ne.2 c3
      have hok : okB c = true := by simp [okB, c1, c2, c3]
      go_wp2
      go_roundg (s.size - i)
      case measure => have := HK.out; have := HI.out; omega
      case rel => exact ⟨i + 1, by first | rfl | simp, ⟨by rw [← HA.out, HD.out, hok]; rfl⟩, ⟨by have := HI.out; omega⟩, rfl⟩
    · have hi1 : decide ((i : Int) < (s.size : Int)) = false := decide_eq_false (by omega)
      have hi3 : ((i : Int) < (s.size : Int)) = False := eq_false (by omega)
      have hall : plainB s = decide (s.size ≤ 48) := by
        rw [plainB, ← HA.out, List.drop_eq_nil_of_le (by omega)]
        rfl
      have HALL := Aside0.mk hall
      have HB := Aside0.mk hb
      clear hall hb hr hs hi
      go_wp2
      go_ret
      exact ⟨by rw [HALL.out]; simp, HB.out⟩
end Go.Proofs.YtbbdlcmcndhhkaaDoor.MValReckons
