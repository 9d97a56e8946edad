/- The document's word of an error: two arrays of 27, looked through. -/
import Derived.Test.YthpfekjbfhldcaaDoorSOk
import Derived.Deep.WholeRow
namespace Go.Proofs.YthpfekjbfhldcaaDoor.SayP
open Go Go.RowKit Go.Proofs Go.Proofs.YthpfekjbfhldcaaDoorW.PrintWords Go.Proofs.YthpfekjbfhldcaaDoorW.PrintLast Go.Proofs.YthpfekjbfhldcaaDoorW.PrintMore
set_option linter.unusedVariables false
set_option linter.unusedSimpArgs false
theorem store_whole {P : Program} {ops : Array Oper} {rest : List Oper} {o : Oper} {a : Act} {Q : Exit → Act → World → Prop} {w : World} {t : TypeId} {p x : Operand} {c c' : Array Value}
    (ho : o.op = .store t p x) (hgd : o.guard = none) (hN : o.dst = none) (hp : a.eval p = .pointer (some ⟨w.heap.size, 0, none⟩)) (hx : a.eval x = .agg c')
    (hi : (P.info? t).map (·.size) = some c'.size) (hs : c.size = c'.size) (h1 : c'.all (·.oneCell') = true) (h : wpList P ops Q rest a (w.alloc (.cells c' t))) : wpList P ops Q (o :: rest) a (w.alloc (.cells c t)) := by
  have hrun := run_storeAt_new (P := P) w t c c' hi hs h1
  refine wpList_plain hgd fun K hK => ?_
  unfold Oper.wp execOp
  simp only [ho, hp, hx, Sem.run_bind, Sem.run_pure, Result.andThen_ok, hrun]
  show K (a.put o.dst undef) _
  rw [hN]
  exact hK _ _ h
/-- The walk halts at it. -/
structure Hold (p : Prop) : Prop where
  out : p
def numsL : List Int := [0, 10, 11, 12, 13, 14, 15, 16, 20, 21, 22, 23, 24, 25, 30, 31, 32, 33, 34, 40, 41, 42, 43, 50, 51, 52, 53]
def wordsL : List ByteArray := [⟨#[111, 107]⟩, ⟨#[114, 97, 110, 103, 101]⟩, ⟨#[102, 111, 114, 109]⟩, ⟨#[110, 111, 110, 101]⟩, ⟨#[109, 97, 110, 121]⟩, ⟨#[115, 104, 111, 114, 116]⟩, ⟨#[108, 111, 110, 103]⟩, ⟨#[116, 119, 105, 99, 101]⟩, ⟨#[116, 121, 112, 101]⟩, ⟨#[111, 118, 101, 114]⟩, ⟨#[122, 101, 114, 111]⟩, ⟨#[100, 101, 101, 112]⟩, ⟨#[110, 97, 109, 101]⟩, ⟨#[119, 111, 114, 100]⟩,
  ⟨#[112, 97, 114, 101, 110, 116]⟩, ⟨#[115, 116, 97, 114, 116]⟩, ⟨#[116, 97, 114, 103, 101, 116]⟩, ⟨#[104, 105, 115, 116, 111, 114, 121]⟩, ⟨#[107, 105, 100, 115]⟩, ⟨#[102, 117, 108, 108]⟩, ⟨#[108, 111, 103]⟩, ⟨#[98, 114, 97, 110, 99, 104]⟩, ⟨#[115, 116, 111, 112]⟩, ⟨#[99, 104, 97, 114, 116]⟩, ⟨#[100, 105, 103, 101, 115, 116]⟩, ⟨#[115, 117, 109]⟩, ⟨#[116, 114, 97, 99, 101]⟩]
def numsA : Array Value := (numsL.map (Value.int .i64)).toArray
def wordsA : Array Value := (wordsL.map Value.string).toArray
def zeroN : Array Value := (List.replicate 27 (Value.int .i64 0)).toArray
def zeroW : Array Value := (List.replicate 27 (Value.string ByteArray.empty)).toArray
/-- What stands at a number's place. -/
def wordAt : List Int → List ByteArray → Int → ByteArray
  | n :: ns, s :: ss, e => if n = e then s else wordAt ns ss e
  | _, _, _ => errS
def rword (e : Int) : ByteArray := wordAt numsL wordsL e
theorem ite_some {c : Prop} [Decidable c] {a y : ByteArray} {x : Option ByteArray} (h : x = some y) : (if c then some a else x) = some (if c then a else y) := by
  by_cases hc : c
  · rw [if_pos hc, if_pos hc]
  · rw [if_neg hc, if_neg hc, h]
theorem rword_say (e : Int) : say_Word.f e = some (rword e) := by
  have hb : ∀ o : Option ByteArray, (o.bind fun t => some t) = o := fun o => by cases o <;> rfl
  unfold say_Word.f say_more.f rword numsL wordsL
  rw [hb]
  simp only [wordAt, eq_comm (b := e)]
  repeat (first | exact rfl | refine ite_some ?_)
theorem wordAt_hit : ∀ (ns : List Int) (ss : List ByteArray) (e : Int) (k : Nat) (h1 : k < ns.length) (h2 : k < ss.length), (∀ j, j < k → ∀ h : j < ns.length, ns[j] ≠ e) → ns[k] = e → wordAt ns ss e = ss[k]
  | [], _, _, _, h1, _, _, _ => absurd h1 (Nat.not_lt_zero _)
  | _ :: _, [], _, _, _, h2, _, _ => absurd h2 (Nat.not_lt_zero _)
  | n :: ns, s :: ss, e, 0, _, _, _, h => by rw [wordAt, if_pos (show n = e from h)]; rfl
  | n :: ns, s :: ss, e, k + 1, h1, h2, hn, h => by
    rw [wordAt, if_neg (show ¬ n = e from hn 0 (Nat.succ_pos _) (Nat.succ_pos _))]
    exact wordAt_hit ns ss e k (Nat.lt_of_succ_lt_succ h1) (Nat.lt_of_succ_lt_succ h2) (fun j hj h => hn (j + 1) (Nat.succ_lt_succ hj) (Nat.succ_lt_succ h)) h
theorem wordAt_miss : ∀ (ns : List Int) (ss : List ByteArray) (e : Int), (∀ j, ∀ h : j < ns.length, ns[j] ≠ e) → wordAt ns ss e = errS
  | [], _, _, _ => by rw [wordAt]; simp
  | _ :: _, [], _, _ => by rw [wordAt]; simp
  | n :: ns, s :: ss, e, hn => by
    rw [wordAt, if_neg (show ¬ n = e from hn 0 (Nat.succ_pos _))]
    exact wordAt_miss ns ss e (fun j h => hn (j + 1) (Nat.succ_lt_succ h))
theorem sizeN : (Tryd.prog.info? 41).map (·.size) = some numsA.size := by kernel_rfl
theorem sizeW : (Tryd.prog.info? 42).map (·.size) = some wordsA.size := by kernel_rfl
theorem allN : numsA.all (·.oneCell') = true := by kernel_rfl
theorem allW : wordsA.all (·.oneCell') = true := by kernel_rfl
set_option maxHeartbeats 8000000 in
set_option maxRecDepth 100000 in
theorem rword_any (e0 : Int) (w : World) :
    Calls Tryd.prog 10 #[.int .i64 e0] w fun e w' => e = .returned (.string (rword e0)) ∧ Below w.heap.size w w' := by
  have HB := Aside0.mk (((Below.refl w.heap.size w).alloc (Nat.le_refl _) (.cells numsA 41)).alloc (by simp) (.cells wordsA 42))
  have HN := Aside0.mk (show ∀ k, ∀ h : k < numsL.length, ((w.alloc (.cells numsA 41)).alloc (.cells wordsA 42)).cell? ⟨w.heap.size, k, none⟩ = some (.int .i64 numsL[k]) from fun k h => by
    rw [World.cell?_alloc_past _ _ _ (by simp), World.cell?_alloc_at _ _ _ _ rfl]
    simp [numsA, h])
  have HW := Aside0.mk (show ∀ k, ∀ h : k < wordsL.length, ((w.alloc (.cells numsA 41)).alloc (.cells wordsA 42)).cell? ⟨w.heap.size + 1, k, none⟩ = some (.string wordsL[k]) from fun k h => by
    rw [World.cell?_alloc_at _ _ _ _ (by simp)]
    simp [wordsA, h])
  go_enter Tryd.func10, Tryd.ntmps10
  go_wp2_with (first | ((with_reducible refine gate_dst (N := 6) rfl ?_); refine Hold.out ?_))
  refine ⟨?_⟩
  refine Kd.event_run (v := .agg numsA) (w1 := w) rfl (by kernel_rfl) ?_
  refine Kd.event_run (v := .pointer (some ⟨w.heap.size, 0, none⟩)) (w1 := w.alloc (.cells zeroN 41)) rfl (by kernel_rfl) ?_
  refine store_whole rfl rfl rfl rfl rfl sizeN rfl allN ?_
  have hz : (w.alloc (.cells numsA 41)).heap.size = w.heap.size + 1 := by simp
  generalize w.alloc (.cells numsA 41) = w1 at HB HN HW hz ⊢
  have HZ := Lib.hid hz
  clear hz
  go_wp2_with (first | ((with_reducible refine gate_dst (N := 7) rfl ?_); refine Hold.out ?_))
  refine ⟨?_⟩
  refine Kd.event_run (v := .agg wordsA) (w1 := w1) rfl (by kernel_rfl) ?_
  refine Kd.event_run (v := .pointer (some ⟨w1.heap.size, 0, none⟩)) (w1 := w1.alloc (.cells zeroW 42)) rfl (by kernel_rfl) ?_
  refine store_whole rfl rfl rfl rfl rfl sizeW rfl allW ?_
  rw [HZ.out]
  generalize w1.alloc (.cells wordsA 42) = w2 at HB HN HW ⊢
  go_wp2
  have hlN : numsL.length = 27 := by kernel_rfl
  have hlW : wordsL.length = 27 := by kernel_rfl
  have HLN := Aside0.mk hlN
  have HLW := Aside0.mk hlW
  clear hlN hlW
  go_loop [5] (fun v5 => ∃ k : Nat, v5 = .int .i64 k ∧ k ≤ 27 ∧ Aside0 (∀ j, j < k → ∀ h : j < numsL.length, numsL[j] ≠ e0)) (fun v5 => 27 - (intOf v5).toNat)
  case atStart => exact ⟨0, rfl, Nat.zero_le _, ⟨fun j hj => absurd hj (Nat.not_lt_zero _)⟩⟩
  case round =>
    obtain ⟨k, rfl, hk, HK⟩ := hrel
    by_cases hlt : k < 27
    · have h1 : k < numsL.length := by rw [HLN.out]; exact hlt
      have h2 : k < wordsL.length := by rw [HLW.out]; exact hlt
      obtain ⟨x, hx⟩ : ∃ x, x = numsL[k]'h1 := ⟨_, rfl⟩
      obtain ⟨y, hy⟩ : ∃ y, y = wordsL[k]'h2 := ⟨_, rfl⟩
      have hc1 : w2.cell? ⟨w.heap.size, k, none⟩ = some (.int .i64 x) := by rw [hx]; exact HN.out k h1
      have hc2 : w2.cell? ⟨w.heap.size + 1, k, none⟩ = some (.string y) := by rw [hy]; exact HW.out k h2
      have q1 : decide ((k : Int) < 27) = true := decide_eq_true (by omega)
      have q2 : (0 ≤ (k : Int)) = True := eq_true (Int.natCast_nonneg _)
      have q3 : ((k : Int) < 27) = True := eq_true (by omega)
      have HLT := Aside0.mk hlt
      by_cases he : x = e0
      · have hr : y = rword e0 := hy.trans (wordAt_hit numsL wordsL e0 k h1 h2 HK.out (hx.symm.trans he)).symm
        clear hx hy
        subst he
        have HRR := Aside0.mk hr
        clear h1 h2 hr
        go_wp2
        go_ret
        exact ⟨by rw [← HRR.out]; rfl, HB.out⟩
      · have HE : Aside0 (∀ j, j < k + 1 → ∀ h : j < numsL.length, numsL[j] ≠ e0) := ⟨fun j hj h => by
          rcases Nat.lt_succ_iff_lt_or_eq.1 hj with g | rfl
          · exact HK.out j g h
          · exact fun h' => he (hx.trans h')⟩
        have q4 : (x == e0) = false := beq_eq_false_iff_ne.2 he
        clear he h2 hc2 hx hy h1
        go_wp2
        go_round
        case rel => exact ⟨k + 1, by go_num, HLT.out, HE⟩
        case measure => have := HLT.out; simp [intOf]; omega
    · obtain rfl : k = 27 := by omega
      have hr : rword e0 = errS := wordAt_miss numsL wordsL e0 (fun j h => HK.out j (by rw [← HLN.out]; exact h) h)
      have HR := Aside0.mk hr
      clear hr hlt hk
      go_wp2
      go_ret
      exact ⟨by rw [HR.out]; rfl, HB.out⟩
end Go.Proofs.YthpfekjbfhldcaaDoor.SayP
