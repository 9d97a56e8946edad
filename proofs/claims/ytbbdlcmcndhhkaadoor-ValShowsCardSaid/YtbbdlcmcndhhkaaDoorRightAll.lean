/- val.Value.Right at every kind, as the printed law asks for it. -/
import Derived.Test.YtbbdlcmcndhhkaaDoorRight
import Derived.Test.YtbbdlcmcndhhkaaDoorMValReckonsx8
namespace Go.Proofs.YtbbdlcmcndhhkaaDoor.MValReckons
open Go.RowKit Go.Proofs.YtbbdlcmcndhhkaaDoorW.PrintWords Go.Proofs.YtbbdlcmcndhhkaaDoorW.PrintLast Go.Proofs.YtbbdlcmcndhhkaaDoorW.PrintMore
def val_Right_all.f (k n : Int) (s : ByteArray) : Option (Bool) := if k = 3 then (if s.size ≤ 140737488351232 then some (n == 0 && plainB s) else none) else val_Value_Right.f k n s
theorem val_Right_all.calls (a0_0 : Int) (a0_1 : Int) (a0_2 : ByteArray) (r : Bool) (w : World) (h : val_Right_all.f a0_0 a0_1 a0_2 = some r) :
    Calls Tryd.prog 14 #[.agg #[.int .i64 a0_0, .int .i64 a0_1, .string a0_2]] w fun e w' => e = .returned (.bool r) ∧ Below w.heap.size w w' := by
  unfold val_Right_all.f at h
  by_cases h3 : a0_0 = 3
  · rw [if_pos h3] at h
    subst h3
    by_cases hs : a0_2.size ≤ 140737488351232
    · rw [if_pos hs] at h
      rw [← Option.some.inj h]
      exact right3_calls a0_1 a0_2 hs w
    · rw [if_neg hs] at h
      cases h
  · rw [if_neg h3] at h
    exact val_Value_Right.calls a0_0 a0_1 a0_2 r w h
end Go.Proofs.YtbbdlcmcndhhkaaDoor.MValReckons
