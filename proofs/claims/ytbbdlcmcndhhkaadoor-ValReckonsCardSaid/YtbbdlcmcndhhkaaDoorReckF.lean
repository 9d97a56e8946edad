/- ValReckons, plain: the law's own answer is true. -/
import Derived.Test.YtbbdlcmcndhhkaaDoorMValReckonsx13d
import Derived.Test.YtbbdlcmcndhhkaaDoorReckLaw
namespace Go.Proofs.YtbbdlcmcndhhkaaDoor.MValReckons
open Go.RowKit Go.Proofs Go.Proofs.YtbbdlcmcndhhkaaDoorW.PrintWords Go.Proofs.YtbbdlcmcndhhkaaDoorW.PrintLast Go.Proofs.YtbbdlcmcndhhkaaDoorW.PrintMore
set_option linter.unusedVariables false
theorem right_all {k n : Int} {s : ByteArray} (h : Rx k n s) : val_Right_all.f k n s = some true := by
  unfold val_Right_all.f
  rcases h with ⟨h1, h2, h3⟩ | ⟨h1, h2⟩ | ⟨h1, h2, h3⟩
  · rw [if_pos h1]
    have hs : s.size ≤ 48 := by
      unfold plainB at h3
      simp at h3
      exact h3.2
    rw [if_pos (by omega), h2, h3]
    rfl
  · subst h1; subst h2
    rw [if_neg (by decide), val_Value_Right.f, if_pos rfl]
    decide +kernel
  · subst h1; subst h2
    rw [if_neg (by decide), val_Value_Right.f, if_neg (by decide), if_pos rfl, if_pos (by decide +kernel)]
    rcases h3 with rfl | rfl
    · rfl
    · rfl
theorem at_res {op k1 k2 kd : Int} {ok : Bool} (h : val_Result.f 20 op k1 k2 = some (kd, ok)) (k : Nat) (hk : 20 ≤ k) : val_Result.f k op k1 k2 = some (kd, ok) :=
  at_rounds (fun j => val_Result.mono op k1 k2 j) hk h
theorem j2_true (op k1 n1 : Int) (s1 : ByteArray) (k2 n2 : Int) (s2 : ByteArray) (kd : Int) (ok : Bool) (v : Int × Int × ByteArray × Int) (A : Asked op k1 n1 s1 k2 n2 s2 kd ok v) :
    whirligiglaw01_ValReckons.j2 398 op v.2.2.2 k1 n1 s1 k2 n2 s2 v.1 v.2.1 v.2.2.1 = some true := by
  rw [whirligiglaw01_ValReckons.j2]
  have r1 : whirligigref01_Result.f 397 op k1 k2 = some (if ok = true then kd else 0) := at_rounds (fun j => whirligigref01_Result.mono op k1 k2 j) (by omega : 20 ≤ 397) A.rr
  have r2 := at_res A.vr 397 (by omega)
  cases ok with
  | false =>
    have hv := A.bad rfl
    subst hv
    have r1' : whirligigref01_Result.f 397 op k1 k2 = some 0 := r1
    rw [r1', Option.bind_some, if_pos rfl, r2, Option.bind_some, if_pos (show ERR.2.2.2 = 20 from rfl)]
    have hc : (ERR.1 == 0 && (ERR.2.1 == 0 && (ERR.2.2.1.toList == ([] : List UInt8)))) = true := by decide +kernel
    rw [if_pos hc]
    rfl
  | true =>
    have hz := A.nz rfl
    obtain ⟨g1, g2⟩ := A.good rfl
    have g1' : whirligigref01_Reckon.f 397 op k1 n1 s1 k2 n2 s2 = some v := at_rounds (fun j => whirligigref01_Reckon.mono op k1 n1 s1 k2 n2 s2 j) (by omega : 133 ≤ 397) g1
    have r1' : whirligigref01_Result.f 397 op k1 k2 = some kd := r1
    rw [r1', Option.bind_some, if_neg hz]
    have f1 : ∀ a b c, whirligiglaw01_ref.f a b c = some (a, b, c) := fun _ _ _ => rfl
    rw [f1, Option.bind_some, f1, Option.bind_some, g1', Option.bind_some, r2, Option.bind_some, if_pos rfl, f1, Option.bind_some]
    have hc : ¬ ((!(v.1 == v.1) || (!(v.2.1 == v.2.1) || (!(v.2.2.1.toList == v.2.2.1.toList)))) = true) := by simp
    rw [if_neg hc, if_pos rfl, Option.bind_some, if_pos rfl]
    by_cases he : v.2.2.2 = 0
    · obtain ⟨e1, e2⟩ := g2 he
      rw [if_pos he, right_all e2, Option.bind_some, if_pos rfl, e1]
      simp
    · rw [if_neg he]
theorem reckons_f (op k1 n1 : Int) (s1 : ByteArray) (k2 n2 : Int) (s2 : ByteArray) (hn1 : InR n1) (hn2 : InR n2) : whirligiglaw01_ValReckons.f 400 op k1 n1 s1 k2 n2 s2 = some true := by
  have f1 : ∀ a b c, whirligiglaw01_ref.f a b c = some (a, b, c) := fun _ _ _ => rfl
  have han : whirligiglaw01_anchor.f 400 = some true := at_rounds (fun j => whirligiglaw01_anchor.mono j) (by omega : 30 ≤ 400) anchor_f
  obtain ⟨b1, R1, _⟩ := right_some k1 n1 s1
  obtain ⟨b2, R2, _⟩ := right_some k2 n2 s2
  have R1' : whirligigref01_Right.f 400 k1 n1 s1 = some b1 := at_rounds (fun j => whirligigref01_Right.mono k1 n1 s1 j) (by omega : 50 ≤ 400) R1
  have R2' : whirligigref01_Right.f 400 k2 n2 s2 = some b2 := at_rounds (fun j => whirligigref01_Right.mono k2 n2 s2 j) (by omega : 50 ≤ 400) R2
  unfold whirligiglaw01_ValReckons.f
  rw [han, Option.bind_some, if_pos rfl, f1, Option.bind_some, R1', Option.bind_some]
  cases b1 with
  | false => rw [if_neg (by decide), whirligiglaw01_ValReckons.j0, if_pos rfl]
  | true =>
    rw [if_pos rfl, f1, Option.bind_some, R2', Option.bind_some]
    cases b2 with
    | false => rw [whirligiglaw01_ValReckons.j0, if_pos (by decide)]
    | true =>
      obtain ⟨kd, ok, v, A⟩ := reck_law op k1 n1 s1 k2 n2 s2 (right_rx R1) (right_rx R2) hn1 hn2
      have t1 : val_Reckon.f 399 op k1 n1 s1 [⟨k2, n2, s2⟩] = some (if op = 1 ∨ op = 2 then ERR else v) := at_rounds (fun j => val_Reckon.mono op k1 n1 s1 [⟨k2, n2, s2⟩] j) (by omega : 22 ≤ 399) A.two
      have t2 : val_Reckon.f 398 op k1 n1 s1 [] = some (if op = 1 ∨ op = 2 then v else ERR) := at_rounds (fun j => val_Reckon.mono op k1 n1 s1 [] j) (by omega : 22 ≤ 398) A.one
      have t2' : val_Reckon.f 397 op k1 n1 s1 [] = some (if op = 1 ∨ op = 2 then v else ERR) := at_rounds (fun j => val_Reckon.mono op k1 n1 s1 [] j) (by omega : 22 ≤ 397) A.one
      have hj := j2_true op k1 n1 s1 k2 n2 s2 kd ok v A
      rw [whirligiglaw01_ValReckons.j0, if_neg (by decide), t1, Option.bind_some]
      by_cases ho : op = 1 ∨ op = 2
      · rw [if_pos ho] at t2 ⊢
        have hj1 : whirligiglaw01_ValReckons.j1 399 op ERR.2.2.2 true k1 n1 s1 k2 n2 s2 ERR.1 ERR.2.1 ERR.2.2.1 = some true := by
          rw [whirligiglaw01_ValReckons.j1, if_pos rfl, if_pos (show ERR.2.2.2 = 20 from rfl), t2, Option.bind_some]
          exact hj
        by_cases h1 : op = 1
        · rw [if_pos h1]; exact hj1
        · rw [if_neg h1]
          have h2 : (op == 2) = true := beq_iff_eq.2 (by omega)
          rw [h2]
          exact hj1
      · rw [if_neg ho] at t2 ⊢
        have h1 : ¬ op = 1 := fun h => ho (.inl h)
        have h2 : (op == 2) = false := beq_eq_false_iff_ne.2 (fun h => ho (.inr h))
        rw [if_neg h1, h2, whirligiglaw01_ValReckons.j1, if_neg (by decide), t2, Option.bind_some, if_pos (show ERR.2.2.2 = 20 from rfl)]
        exact hj
end Go.Proofs.YtbbdlcmcndhhkaaDoor.MValReckons
