/- What the printed laws take as told of Show, Read, Plain and Yes. -/
import Derived.Test.YtbbdlcmcndhhkaaDoorVRead
import Derived.Test.YtbbdlcmcndhhkaaDoorMakes
import Derived.Test.YtbbdlcmcndhhkaaDoorRightAll
import Derived.Test.YtbbdlcmcndhhkaaDoorMValReckonsx2
namespace Go.Proofs.YtbbdlcmcndhhkaaDoor.MValReckons
open Go.RowKit Go.Proofs Go.Proofs.YtbbdlcmcndhhkaaDoorW.PrintWords Go.Proofs.YtbbdlcmcndhhkaaDoorW.PrintLast Go.Proofs.YtbbdlcmcndhhkaaDoorW.PrintMore
set_option linter.unusedVariables false
/-- What Read answers. -/
def readF (s : ByteArray) : Int × Int × ByteArray × Int :=
  if s.toList = ([116, 114, 117, 101] : List UInt8) then (2, 1, ⟨#[]⟩, 0) else if s.toList = ([102, 97, 108, 115, 101] : List UInt8) then (2, 0, ⟨#[]⟩, 0) else
    if textB s = true then (3, 0, s.extract 1 (s.size - 1), 0) else ((numF s).1, (numF s).2.1, ⟨#[]⟩, (numF s).2.2)
def val_Read.f (a0 : ByteArray) : Option (Int × Int × ByteArray × Int) := if a0.size ≤ 1000 then some (readF a0) else none
theorem val_Read.calls (a0 : ByteArray) (r1 : Int) (r2 : Int) (r3 : ByteArray) (r4 : Int) (w : World) (h : val_Read.f a0 = some (r1, r2, r3, r4)) (hT : Tab w) :
    Calls Tryd.prog 10 #[.string a0] w fun e w' => e = .returned (.tuple #[.agg #[.int .i64 r1, .int .i64 r2, .string r3], .int .i64 r4]) ∧ Below w.heap.size w w' := by
  unfold val_Read.f at h
  split at h
  · have h := Option.some.inj h
    unfold readF at h
    split at h
    · cases h; exact read_true a0 ‹_› w
    · split at h
      · cases h; exact read_false a0 ‹_› w
      · split at h
        · cases h; exact read_text a0 ‹_› ‹_› ‹_› w ‹_›
        · cases h; exact read_rest a0 ‹_› ‹_› ‹_› w hT (Bool.eq_false_iff.2 ‹_›)
  · cases h
def val_Show_all.f (a0_0 : Int) (a0_1 : Int) (a0_2 : ByteArray) : Option (ByteArray) := if a0_2.size ≤ 140737488351232 ∧ -9223372036854775808 ≤ a0_1 ∧ a0_1 ≤ 9223372036854775807 then some (showF a0_0 a0_1 a0_2) else none
theorem val_Show_all.calls (a0_0 : Int) (a0_1 : Int) (a0_2 : ByteArray) (r : ByteArray) (w : World) (h : val_Show_all.f a0_0 a0_1 a0_2 = some r) (hT : Tab w) :
    Calls Tryd.prog 13 #[.agg #[.int .i64 a0_0, .int .i64 a0_1, .string a0_2]] w fun e w' => e = .returned (.string r) ∧ Below w.heap.size w w' := by
  unfold val_Show_all.f at h
  split at h
  · rename_i hh
    cases h
    exact show_any a0_0 a0_1 a0_2 hh.1 hh.2.1 hh.2.2 w hT
  · cases h
def val_Plain.f (a0 : ByteArray) : Option (Bool) := if a0.size ≤ 140737488351232 then some (plainB a0) else none
theorem val_Plain.calls (a0 : ByteArray) (r : Bool) (w : World) (h : val_Plain.f a0 = some r) : Calls Tryd.prog 17 #[.string a0] w fun e w' => e = .returned (.bool r) ∧ Below w.heap.size w w' := by
  unfold val_Plain.f at h
  split at h
  · cases h; exact plain_calls a0 ‹_› w
  · cases h
def val_Value_Yes.f (a0_0 : Int) (a0_1 : Int) (a0_2 : ByteArray) : Option (Bool) := some (a0_0 == 2 && a0_1 != 0)
theorem val_Value_Yes.calls (a0_0 : Int) (a0_1 : Int) (a0_2 : ByteArray) (r : Bool) (w : World) (h : val_Value_Yes.f a0_0 a0_1 a0_2 = some r) : Calls Tryd.prog 16 #[.agg #[.int .i64 a0_0, .int .i64 a0_1, .string a0_2]] w fun e w' => e = .returned (.bool r) ∧ Below w.heap.size w w' := by
  cases h
  exact yes_any a0_0 a0_1 a0_2 w
theorem refPlainB_calls (k : Nat) (a0 : ByteArray) (r : Bool) (w : World) (h : whirligigref01_Plain.f k a0 = some r) : Calls Tryd.prog 18 #[.string a0] w fun e w' => e = .returned (.bool r) ∧ Below w.heap.size w w' := by
  refine (whirligigref01_Plain.calls k a0 r w h).mono ?_
  rintro e w' ⟨h1, h2⟩
  exact ⟨h1, h2.below⟩
end Go.Proofs.YtbbdlcmcndhhkaaDoor.MValReckons
