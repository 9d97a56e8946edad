/- EventDone: the law walked, its plain facts told. (under way) -/
import Derived.Test.YtihmbfheaghfaaaDoorParts
import Derived.Test.YtihmbfheaghfaaaDoorPEventDonex5
namespace Go.Proofs.YtihmbfheaghfaaaDoor.DoneLaw
open Go.RowKit Go.Proofs Go.Proofs.YtihmbfheaghfaaaDoorW.PrintWords Go.Proofs.YtihmbfheaghfaaaDoorW.PrintMore Parts
set_option linter.unusedVariables false
def done1 : ByteArray := ⟨#[100, 111, 110, 101, 46, 115, 116, 97, 116, 101, 115]⟩
def done2 : ByteArray := ⟨#[100, 111, 110, 101, 46, 115, 116, 97, 116, 101]⟩
def done3 : ByteArray := ⟨#[100, 111, 110, 101]⟩
theorem anchor_f : PEventDone.whirligiglaw12_anchor.f = some true := Pure.anchor_f
theorem three_str (w : World) (x y z : ByteArray) : Kd.C Kd.string (w.alloc (.cells #[.string x, .string y, .string z] 9)) (some ⟨w.heap.size, 0, none⟩) [x, y, z].length [x, y, z] := by
  refine Kd.C_of_reads (d := ByteArray.empty) (h1 := fun _ => rfl) ⟨rfl, by show 3 ≤ 9223372036854775807; decide, fun _ => ⟨_, rfl, fun j hj => ?_⟩⟩
  rw [add_plain, World.cell?_alloc_new]
  match j, hj with
  | 0, _ => rfl
  | 1, _ => rfl
  | 2, _ => rfl
set_option maxRecDepth 100000 in
set_option maxHeartbeats 4000000 in
theorem law_in (a b : ByteArray) (k : Nat) (w : World) (hM : Max w) (ha : a.size ≤ 200) (hb : b.size ≤ 200)
    (NA : PEventDone.whirligigref02_Name.f k a = some true) (NB : PEventDone.whirligigref02_Name.f k b = some true)
    (D E : ByteArray) (hD : D.size ≤ 300) (FD : PEventDone.event_Done.f a = some D) (FE : PEventDone.event_Done.f b = some E)
    (FF : PEventDone.event_First.f k D [done1, done2, done3] = some 1) (F1 : PEventDone.event_Match.f done3 D = some true) (F2 : PEventDone.event_Match.f E D = some (a.toList == b.toList)) (F3 : (cut D).length = 3) :
    Calls Tryd.prog 3 #[.string a, .string b] w fun e w' => e = .returned (.bool true) ∧ Below w.heap.size w w' := by
  have HM := Aside0.mk hM
  have NA' := Aside0.mk NA
  have NB' := Aside0.mk NB
  have HFD := Aside0.mk FD
  have HFE := Aside0.mk FE
  have HFF := Aside0.mk FF
  have HF1 := Aside0.mk F1
  have HF2 := Aside0.mk F2
  have HF3 := Aside0.mk F3
  have HD := Aside0.mk hD
  have hga : ¬ ((200 : Int) < (a.size : Int)) := by omega
  have hgb : ¬ ((200 : Int) < (b.size : Int)) := by omega
  clear hM NA NB FD FE FF F1 F2 F3 hD
  go_enter Tryd.func3, Tryd.ntmps3
  go_wp2_with fail
  refine (PEventDone.whirligiglaw12_anchor.calls true _ anchor_f).mono ?_
  rintro e w1 ⟨rfl, m1, rfl⟩
  go_wp2_with fail
  refine (PEventDone.whirligigref02_Name.calls k a true _ NA'.out).mono ?_
  rintro e w2 ⟨rfl, hb2⟩
  have HB2 := Aside0.mk (below_step (pw_below_drewN (Below.refl w.heap.size w) m1) hb2)
  clear hb2
  go_wp2_with fail
  refine (PEventDone.whirligigref02_Name.calls k b true _ NB'.out).mono ?_
  rintro e w3 ⟨rfl, hb3⟩
  have HB3 := Aside0.mk (HB2.out.trans (hb3.mono HB2.out.size))
  clear hb3
  go_wp2_with fail
  refine (PEventDone.event_Done.calls a D _ HFD.out).mono ?_
  rintro e w4 ⟨rfl, m4, rfl⟩
  have HB4 := Aside0.mk (pw_below_drewN HB3.out m4)
  generalize w3.drewN m4 = W4 at HB4 ⊢
  have hF := PEventDone.event_First.calls k D (some ⟨W4.heap.size, 0, none⟩) 3 [done1, done2, done3] 1 _ (three_str W4 done1 done2 done3) (Nat.le_refl _) HFF.out
  have HF := Aside0.mk hF
  have HB5 := Aside0.mk (HB4.out.alloc HB4.out.size (.cells #[.string done1, .string done2, .string done3] 9))
  clear hF
  go_wp2_with fail
  refine HF.out.mono ?_
  rintro e w5 ⟨rfl, m5, rfl⟩
  go_wp2_with fail
  refine (PEventDone.event_Match.calls done3 D true _ HF1.out).mono ?_
  rintro e w6 ⟨rfl, m6, rfl⟩
  go_wp2_with fail
  refine (PEventDone.event_Done.calls b E _ HFE.out).mono ?_
  rintro e w7 ⟨rfl, m7, rfl⟩
  go_wp2_with fail
  refine (PEventDone.event_Match.calls E D _ _ HF2.out).mono ?_
  rintro e w8 ⟨rfl, m8, rfl⟩
  go_wp2_with fail
  have HB6 := Aside0.mk (pw_below_drewN HB5.out (m5 + m6 + m7 + m8))
  generalize (W4.alloc (.cells #[.string done1, .string done2, .string done3] 9)).drewN (m5 + m6 + m7 + m8) = W6 at HB6 ⊢
  have hP := parts_any D W6 (HM.out.below HB6.out) (by have := HD.out; omega)
  rw [← (cut_all D).1, HF3.out] at hP
  refine hP.mono ?_
  rintro e w9 ⟨rfl, rfl⟩
  have HB7 := Aside0.mk (HB6.out.alloc HB6.out.size (.cells ((cut D).map Value.string).toArray 9))
  go_wp2_with fail
  go_ret
  exact ⟨rfl, HB7.out⟩
set_option maxHeartbeats 1000000 in
theorem law_size (a b : ByteArray) (w : World) (h : 200 < a.size ∨ 200 < b.size) : Calls Tryd.prog 3 #[.string a, .string b] w fun e w' => e = .returned (.bool true) ∧ Below w.heap.size w w' := by
  by_cases ha : (200 : Int) < (a.size : Int)
  · go_enter Tryd.func3, Tryd.ntmps3
    go_wp2_with fail
    refine (PEventDone.whirligiglaw12_anchor.calls true _ anchor_f).mono ?_
    rintro e w1 ⟨rfl, m1, rfl⟩
    go_wp2_with fail
    go_ret
    exact ⟨rfl, pw_below_drewN (Below.refl _ _) _⟩
  · have hb : (200 : Int) < (b.size : Int) := by omega
    go_enter Tryd.func3, Tryd.ntmps3
    go_wp2_with fail
    refine (PEventDone.whirligiglaw12_anchor.calls true _ anchor_f).mono ?_
    rintro e w1 ⟨rfl, m1, rfl⟩
    go_wp2_with fail
    go_ret
    exact ⟨rfl, pw_below_drewN (Below.refl _ _) _⟩
set_option maxHeartbeats 1000000 in
theorem law_none (a b : ByteArray) (k : Nat) (x y : Bool) (w : World) (ha : a.size ≤ 200) (hb : b.size ≤ 200) (NA : PEventDone.whirligigref02_Name.f k a = some x) (NB : PEventDone.whirligigref02_Name.f k b = some y) (h : x = false ∨ y = false) :
    Calls Tryd.prog 3 #[.string a, .string b] w fun e w' => e = .returned (.bool true) ∧ Below w.heap.size w w' := by
  have hga : ¬ ((200 : Int) < (a.size : Int)) := by omega
  have hgb : ¬ ((200 : Int) < (b.size : Int)) := by omega
  have NA' := Aside0.mk NA
  have NB' := Aside0.mk NB
  clear NA NB
  cases x with
  | false =>
    go_enter Tryd.func3, Tryd.ntmps3
    go_wp2_with fail
    refine (PEventDone.whirligiglaw12_anchor.calls true _ anchor_f).mono ?_
    rintro e w1 ⟨rfl, m1, rfl⟩
    go_wp2_with fail
    refine (PEventDone.whirligigref02_Name.calls k a false _ NA'.out).mono ?_
    rintro e w2 ⟨rfl, hb2⟩
    have HB2 := Aside0.mk (below_step (pw_below_drewN (Below.refl w.heap.size w) m1) hb2)
    clear hb2
    go_wp2_with fail
    go_ret
    exact ⟨rfl, HB2.out⟩
  | true =>
    obtain rfl : y = false := h.resolve_left (by decide)
    go_enter Tryd.func3, Tryd.ntmps3
    go_wp2_with fail
    refine (PEventDone.whirligiglaw12_anchor.calls true _ anchor_f).mono ?_
    rintro e w1 ⟨rfl, m1, rfl⟩
    go_wp2_with fail
    refine (PEventDone.whirligigref02_Name.calls k a true _ NA'.out).mono ?_
    rintro e w2 ⟨rfl, hb2⟩
    have HB2 := Aside0.mk (below_step (pw_below_drewN (Below.refl w.heap.size w) m1) hb2)
    clear hb2
    go_wp2_with fail
    refine (PEventDone.whirligigref02_Name.calls k b false _ NB'.out).mono ?_
    rintro e w3 ⟨rfl, hb3⟩
    have HB3 := Aside0.mk (HB2.out.trans (hb3.mono HB2.out.size))
    clear hb3
    go_wp2_with fail
    go_ret
    exact ⟨rfl, HB3.out⟩
end Go.Proofs.YtihmbfheaghfaaaDoor.DoneLaw
