/- Reckon against the reference's, for any right values. -/
import Derived.Test.YtbbdlcmcndhhkaaDoorResult
namespace Go.Proofs.YtbbdlcmcndhhkaaDoor.MValReckons
open Go Go.RowKit Go.Proofs.YtbbdlcmcndhhkaaDoorW.PrintWords Go.Proofs.YtbbdlcmcndhhkaaDoorW.PrintLast Go.Proofs.YtbbdlcmcndhhkaaDoorW.PrintMore
set_option linter.unusedVariables false
set_option linter.unusedSimpArgs false
theorem result_mono {op k1 k2 : Int} {r} (h : val_Result.f 20 op k1 k2 = some r) : val_Result.f 21 op k1 k2 = some r := val_Result.mono _ _ _ 20 _ h
theorem two_err {op k1 n1 : Int} {s1 : ByteArray} {k2 n2 : Int} {s2 : ByteArray} {kd : Int} (h : val_Result.f 20 op k1 k2 = some (kd, false)) :
    val_Reckon.f 22 op k1 n1 s1 [⟨k2, n2, s2⟩] = some (0, 0, ⟨#[]⟩, 20) := by
  simp [val_Reckon.f, val_Reckon.j0, val_Reckon.j1, result_mono h, rd_T24]
theorem two_err12 {op k1 n1 : Int} {s1 : ByteArray} {k2 n2 : Int} {s2 : ByteArray} (ho : op = 1 ∨ op = 2) :
    val_Reckon.f 22 op k1 n1 s1 [⟨k2, n2, s2⟩] = some (0, 0, ⟨#[]⟩, 20) := by
  rcases ho with rfl | rfl <;> by_cases h1 : k1 = 1 <;> by_cases h2 : k1 = 2 <;>
  simp [val_Reckon.f, val_Reckon.j0, val_Reckon.j1, val_Result.f, rd_T24, h1, h2]
theorem one_err {op k1 n1 : Int} {s1 : ByteArray} (hk : k1 = 1 ∨ k1 = 2 ∨ k1 = 3) (ho : Op15 op) (h1 : op ≠ 1) (h2 : op ≠ 2) : val_Reckon.f 22 op k1 n1 s1 [] = some (0, 0, ⟨#[]⟩, 20) := by
  have g : op > 2 := by unfold Op15 at ho; omega
  have : ∃ r, val_Result.f 21 op k1 0 = some r := by
    unfold Op15 at ho
    rcases hk with rfl | rfl | rfl <;> rcases ho with rfl | rfl | rfl | rfl | rfl | rfl | rfl | rfl | rfl | rfl | rfl | rfl | rfl | rfl | rfl <;>
    exact ⟨_, rfl⟩
  obtain ⟨⟨kd, ok⟩, hr⟩ := this
  cases ok <;> simp [val_Reckon.f, val_Reckon.j0, val_Reckon.j1, hr, g]
theorem one_none {op k1 n1 : Int} {s1 : ByteArray} (ho : op ≤ 0 ∨ 16 ≤ op) : val_Reckon.f 22 op k1 n1 s1 [] = some (0, 0, ⟨#[]⟩, 20) := by
  have h := result_mono (result_none ho k1 0).1
  simp [val_Reckon.f, val_Reckon.j0, val_Reckon.j1, h]
theorem lift22 {op k1 n1 : Int} {s1 : ByteArray} {l : List S24} {r} (h : val_Reckon.f 20 op k1 n1 s1 l = some r) : val_Reckon.f 22 op k1 n1 s1 l = some r :=
  val_Reckon.mono op k1 n1 s1 l 21 _ (val_Reckon.mono op k1 n1 s1 l 20 _ h)
/-- The result of two numbers: a number, or an error. -/
def Num1 (r : Int × Int × ByteArray × Int) : Prop := r.2.2.2 = 0 → r.1 = 1 ∧ r.2.2.1 = ⟨#[]⟩
theorem num1_res (v : Int) : Num1 (res v) := by
  unfold Num1 res
  split
  · exact fun _ => ⟨rfl, rfl⟩
  · exact fun h => absurd h (by decide)
theorem num_ref {op n m : Int} (ho : op = 3 ∨ op = 4 ∨ op = 5 ∨ op = 6 ∨ op = 7) (hn : InR n) (hm : InR m) (s t : ByteArray) :
    ∃ r, num op n m = some r ∧ whirligigref01_Reckon.f 133 op 1 n s 1 m t = some r ∧ Num1 r := by
  rcases ho with rfl | rfl | rfl | rfl | rfl
  · refine ⟨_, num_mul hn hm, ?_, num1_res _⟩
    have := whirligigref01_times.mono n m 132 _ (ref_times hn hm)
    simp [whirligigref01_Reckon.f, this]
  · have h := ref_divide hn hm false 131
    rw [if_neg (by decide)] at h
    rcases laws_num hn hm with ⟨e, a, b⟩ | ⟨e, a, b⟩ | ⟨d, r, p, a, b, _⟩
    all_goals
      refine ⟨_, a, ?_, ?_⟩
      · rw [a] at h
        simp [whirligigref01_Reckon.f, whirligigref01_Reckon.j0, h]
      · unfold Num1; simp
  · have h := ref_divide hn hm true 131
    rw [if_pos rfl] at h
    rcases laws_num hn hm with ⟨e, a, b⟩ | ⟨e, a, b⟩ | ⟨d, r, p, a, b, _⟩
    all_goals
      refine ⟨_, b, ?_, ?_⟩
      · rw [b] at h
        simp [whirligigref01_Reckon.f, whirligigref01_Reckon.j0, h]
      · unfold Num1; simp
  · refine ⟨_, num_add hn hm, ?_, num1_res _⟩
    simp [whirligigref01_Reckon.f, whirligigref01_Reckon.j0, ref_sum hn hm]
  · refine ⟨_, num_sub hn hm, ?_, num1_res _⟩
    simp [whirligigref01_Reckon.f, whirligigref01_Reckon.j0, ref_less hn hm]
theorem truth_ref (b : Bool) : whirligigref01_truth.f b = some (2, bit b, ⟨#[]⟩, 0) := by cases b <;> rfl
theorem order_ref {op k n : Int} {s : ByteArray} {m : Int} {t : ByteArray} (ho : op = 8 ∨ op = 9 ∨ op = 10 ∨ op = 11) (hk : k = 1 ∨ k = 3) (h1 : Rt k n s) (h2 : Rt k m t) :
    ∃ b, val_Reckon.f 22 op k n s [⟨k, m, t⟩] = some (2, bit b, ⟨#[]⟩, 0) ∧ whirligigref01_Reckon.f 133 op k n s k m t = some (2, bit b, ⟨#[]⟩, 0) := by
  have f1 := before_f h1 h2
  have f2 := before_f h2 h1
  have sw := cmpV_swap m t n s
  have e : decide (cmpV n s m t ≤ 0) = !(decide (cmpV m t n s < 0)) := by rw [sw, ← decide_not, decide_eq_decide]; omega
  have e' : decide (cmpV n s m t ≥ 0) = !(decide (cmpV n s m t < 0)) := by rw [← decide_not, decide_eq_decide]; omega
  rcases ho with rfl | rfl | rfl | rfl
  · refine ⟨_, lift22 (reckon_less k n s m t hk), ?_⟩
    simp [whirligigref01_Reckon.f, whirligigref01_Reckon.j0, f1, truth_ref]
  · refine ⟨decide (cmpV n s m t ≤ 0), ?_, ?_⟩
    · rcases hk with rfl | rfl <;>
      simp [val_Reckon.f, val_Reckon.j0, val_Reckon.j1, val_Reckon.j2, val_Result.f, val_Result.j0, val_Result.j1, val_Result.j2, compare_f, val_order.f, truth_f, rd_T24]
    · rw [e]; simp only [whirligigref01_Reckon.f, whirligigref01_Reckon.j0, f2, truth_ref, Option.bind_some]; rfl
  · refine ⟨_, lift22 (reckon_more k n s m t hk), ?_⟩
    rw [← sw]; simp only [whirligigref01_Reckon.f, whirligigref01_Reckon.j0, f2, truth_ref, Option.bind_some]; rfl
  · refine ⟨decide (cmpV n s m t ≥ 0), ?_, ?_⟩
    · rcases hk with rfl | rfl <;>
      simp [val_Reckon.f, val_Reckon.j0, val_Reckon.j1, val_Reckon.j2, val_Result.f, val_Result.j0, val_Result.j1, val_Result.j2, compare_f, val_order.f, truth_f, rd_T24]
    · rw [e']; simp only [whirligigref01_Reckon.f, whirligigref01_Reckon.j0, f1, truth_ref, Option.bind_some]; rfl
theorem same_ref {op k n : Int} {s : ByteArray} {m : Int} {t : ByteArray} (ho : op = 12 ∨ op = 13) (hk : k = 1 ∨ k = 2 ∨ k = 3) :
    ∃ b, val_Reckon.f 22 op k n s [⟨k, m, t⟩] = some (2, bit b, ⟨#[]⟩, 0) ∧ whirligigref01_Reckon.f 133 op k n s k m t = some (2, bit b, ⟨#[]⟩, 0) := by
  rcases ho with rfl | rfl
  · refine ⟨_, lift22 (reckon_same k n s m t hk), ?_⟩
    simp [whirligigref01_Reckon.f, whirligigref01_Reckon.j0, truth_ref]
  · refine ⟨!(n == m && s.toList == t.toList), ?_, ?_⟩
    · rcases hk with rfl | rfl | rfl <;>
      simp [val_Reckon.f, val_Reckon.j0, val_Reckon.j1, val_Reckon.j2, val_Result.f, val_Result.j0, val_Result.j1, val_Result.j2, truth_f, rd_T24]
    · simp [whirligigref01_Reckon.f, whirligigref01_Reckon.j0, truth_ref]
theorem both_ref {op n : Int} {s : ByteArray} {m : Int} {t : ByteArray} (ho : op = 14 ∨ op = 15) (hn : n = 0 ∨ n = 1) (hm : m = 0 ∨ m = 1) :
    ∃ b, val_Reckon.f 22 op 2 n s [⟨2, m, t⟩] = some (2, bit b, ⟨#[]⟩, 0) ∧ whirligigref01_Reckon.f 133 op 2 n s 2 m t = some (2, bit b, ⟨#[]⟩, 0) := by
  rcases ho with rfl | rfl <;> rcases hn with rfl | rfl <;> rcases hm with rfl | rfl <;> first | exact ⟨true, rfl, rfl⟩ | exact ⟨false, rfl, rfl⟩
theorem join_ref {n : Int} {s : ByteArray} {m : Int} {t : ByteArray} (hs : plainB s = true) (ht : plainB t = true) :
    ∃ kv sv ev, val_Reckon.f 22 6 3 n s [⟨3, m, t⟩] = some (kv, 0, sv, ev) ∧ whirligigref01_Reckon.f 133 6 3 n s 3 m t = some (kv, 0, sv, ev) ∧ (ev = 0 → kv = 3 ∧ plainB sv = true) := by
  have a : s.size ≤ 48 := by unfold plainB at hs; simp at hs; exact hs.2
  have b : t.size ≤ 48 := by unfold plainB at ht; simp at ht; exact ht.2
  have w : wrap64 ((s.size : Int) + (t.size : Int)) = (s.size : Int) + (t.size : Int) := wrap_in (by unfold InR; omega)
  have g : s.size + t.size ≤ 9223372036854775807 := by omega
  by_cases h : (s.size : Int) + (t.size : Int) > 48
  · refine ⟨0, ⟨#[]⟩, 15, ?_, ?_, fun e => absurd e (by decide)⟩
    · simp [val_Reckon.f, val_Reckon.j0, val_Reckon.j1, val_Reckon.j2, val_Result.f, val_join.f, w, h, rd_T24]
    · simp [whirligigref01_Reckon.f, whirligigref01_Reckon.j0, w, h]
  · refine ⟨3, s ++ t, 0, ?_, ?_, fun _ => ⟨rfl, ?_⟩⟩
    · simp [val_Reckon.f, val_Reckon.j0, val_Reckon.j1, val_Reckon.j2, val_Result.f, val_join.f, val_Word.f, w, h, g, rd_T24]
    · simp [whirligigref01_Reckon.f, whirligigref01_Reckon.j0, w, h, g]
    · unfold plainB bytesOf at hs ht ⊢
      simp only [Bool.and_eq_true, decide_eq_true_eq] at hs ht ⊢
      refine ⟨?_, by rw [ByteArray.size_append]; omega⟩
      rw [ByteArray.data_append, Array.toList_append, List.map_append, List.all_append, hs.1, ht.1]
      rfl
theorem not_ref (n : Int) (s : ByteArray) (k2 m : Int) (t : ByteArray) : val_Reckon.f 22 1 2 n s [] = some (2, bit (n == 0), ⟨#[]⟩, 0) ∧ whirligigref01_Reckon.f 133 1 2 n s k2 m t = some (2, bit (n == 0), ⟨#[]⟩, 0) := by
  constructor
  · simp [val_Reckon.f, val_Reckon.j0, val_Reckon.j1, val_Result.f, truth_f]
  · simp [whirligigref01_Reckon.f, truth_ref]
theorem neg_ref {n : Int} (hn : InR n) (s : ByteArray) (k2 m : Int) (t : ByteArray) : val_Reckon.f 22 2 1 n s [] = some (res (-n)) ∧ whirligigref01_Reckon.f 133 2 1 n s k2 m t = some (res (-n)) := by
  constructor
  · have e : (n == -9223372036854775808) = decide (¬ InR (-n)) := by
      rw [Bool.eq_iff_iff, beq_iff_eq, decide_eq_true_iff]
      unfold InR at hn ⊢
      omega
    have := over_res e
    simp [val_Reckon.f, val_Reckon.j0, val_Reckon.j1, val_Result.f, this]
  · have := ref_less (n := 0) (m := n) (by decide) hn
    rw [Int.zero_sub] at this
    simp [whirligigref01_Reckon.f, this]
def ERR : Int × Int × ByteArray × Int := (0, 0, ⟨#[]⟩, 20)
theorem Rx.rt {k n : Int} {s : ByteArray} (h : Rx k n s) : Rt k n s := by
  rcases h with ⟨h1, h2, h3⟩ | h | h
  · exact .inl ⟨h1, h2, by unfold plainB at h3; simp at h3; exact h3.2⟩
  · exact .inr (.inl h)
  · exact .inr (.inr h)
theorem Rx.kind {k n : Int} {s : ByteArray} (h : Rx k n s) : k = 1 ∨ k = 2 ∨ k = 3 := by
  rcases h with ⟨h1, _⟩ | ⟨h1, _⟩ | ⟨h1, _⟩ <;> omega
theorem rx_bit (b : Bool) : Rx 2 (bit b) ⟨#[]⟩ := .inr (.inr ⟨rfl, rfl, by cases b <;> simp [bit]⟩)
/-- What the law asks: R1, R2 what Reckon comes to with one and with two values. -/
structure Asked (op k1 n1 : Int) (s1 : ByteArray) (k2 n2 : Int) (s2 : ByteArray) (kd : Int) (ok : Bool) (v : Int × Int × ByteArray × Int) : Prop where
  vr : val_Result.f 20 op k1 k2 = some (kd, ok)
  rr : whirligigref01_Result.f 20 op k1 k2 = some (if ok = true then kd else 0)
  nz : ok = true → kd ≠ 0
  two : val_Reckon.f 22 op k1 n1 s1 [⟨k2, n2, s2⟩] = some (if op = 1 ∨ op = 2 then ERR else v)
  one : val_Reckon.f 22 op k1 n1 s1 [] = some (if op = 1 ∨ op = 2 then v else ERR)
  bad : ok = false → v = ERR
  good : ok = true → whirligigref01_Reckon.f 133 op k1 n1 s1 k2 n2 s2 = some v ∧ (v.2.2.2 = 0 → v.1 = kd ∧ Rx v.1 v.2.1 v.2.2.1)
theorem one_bad12 {op k1 n1 : Int} {s1 : ByteArray} (h : (op = 1 ∧ k1 ≠ 2) ∨ (op = 2 ∧ k1 ≠ 1)) : val_Reckon.f 22 op k1 n1 s1 [] = some ERR := by
  rcases h with ⟨rfl, h⟩ | ⟨rfl, h⟩ <;> simp [val_Reckon.f, val_Reckon.j0, val_Reckon.j1, val_Result.f, h, ERR]
theorem no_combo {x : Option (Int × Bool)} {kd : Int} {p : Prop} (h : x = some (kd, true)) (g : x.map Prod.snd = some false) : p := by
  rw [h] at g; cases g
theorem kd_of {x : Option (Int × Bool)} {kd c : Int} {b : Bool} (h : x = some (kd, b)) (g : x.map Prod.fst = some c) : kd = c := by
  rw [h] at g; exact Option.some.inj g
theorem reck_ok {op k1 n1 : Int} {s1 : ByteArray} {k2 n2 : Int} {s2 : ByteArray} {kd : Int} (ho : Op15 op) (h1 : Rx k1 n1 s1) (h2 : Rx k2 n2 s2) (i1 : InR n1) (i2 : InR n2)
    (hv : val_Result.f 20 op k1 k2 = some (kd, true)) :
    ∃ v, val_Reckon.f 22 op k1 n1 s1 [⟨k2, n2, s2⟩] = some (if op = 1 ∨ op = 2 then ERR else v) ∧ val_Reckon.f 22 op k1 n1 s1 [] = some (if op = 1 ∨ op = 2 then v else ERR) ∧
      whirligigref01_Reckon.f 133 op k1 n1 s1 k2 n2 s2 = some v ∧ (v.2.2.2 = 0 → v.1 = kd ∧ Rx v.1 v.2.1 v.2.2.1) := by
  have hk1 := h1.kind
  have hk2 := h2.kind
  by_cases o1 : op = 1
  · subst o1
    rcases hk1 with rfl | rfl | rfl
    · exact no_combo hv rfl
    · obtain rfl := kd_of hv (c := 2) rfl
      obtain ⟨a, b⟩ := not_ref n1 s1 k2 n2 s2
      exact ⟨_, by rw [if_pos (.inl rfl)]; exact two_err12 (.inl rfl), by rw [if_pos (.inl rfl)]; exact a, b, fun _ => ⟨rfl, rx_bit _⟩⟩
    · exact no_combo hv rfl
  by_cases o2 : op = 2
  · subst o2
    rcases hk1 with rfl | rfl | rfl
    · obtain rfl := kd_of hv (c := 1) rfl
      obtain ⟨a, b⟩ := neg_ref i1 s1 k2 n2 s2
      exact ⟨_, by rw [if_pos (.inr rfl)]; exact two_err12 (.inr rfl), by rw [if_pos (.inr rfl)]; exact a, b, fun h => ⟨(num1_res _ h).1, .inr (.inl (num1_res _ h))⟩⟩
    · exact no_combo hv rfl
    · exact no_combo hv rfl
  have n12 : ¬ (op = 1 ∨ op = 2) := fun h => h.elim o1 o2
  simp only [if_neg n12]
  have one := one_err (n1 := n1) (s1 := s1) hk1 ho o1 o2
  have num : (op = 3 ∨ op = 4 ∨ op = 5 ∨ op = 6 ∨ op = 7) → k1 = 1 → k2 = 1 → kd = 1 → ∃ v, val_Reckon.f 22 op k1 n1 s1 [⟨k2, n2, s2⟩] = some v ∧ val_Reckon.f 22 op k1 n1 s1 [] = some ERR ∧
      whirligigref01_Reckon.f 133 op k1 n1 s1 k2 n2 s2 = some v ∧ (v.2.2.2 = 0 → v.1 = kd ∧ Rx v.1 v.2.1 v.2.2.1) := by
    rintro h rfl rfl rfl
    obtain ⟨r, a, b, c⟩ := num_ref h i1 i2 s1 s2
    exact ⟨r, lift22 (reckon_num op h n1 s1 n2 s2 r a), one, b, fun h => ⟨(c h).1, .inr (.inl (c h))⟩⟩
  have tr : k1 = k2 → kd = 2 → (∃ b, val_Reckon.f 22 op k1 n1 s1 [⟨k1, n2, s2⟩] = some (2, bit b, ⟨#[]⟩, 0) ∧ whirligigref01_Reckon.f 133 op k1 n1 s1 k1 n2 s2 = some (2, bit b, ⟨#[]⟩, 0)) →
      ∃ v, val_Reckon.f 22 op k1 n1 s1 [⟨k2, n2, s2⟩] = some v ∧ val_Reckon.f 22 op k1 n1 s1 [] = some ERR ∧
      whirligigref01_Reckon.f 133 op k1 n1 s1 k2 n2 s2 = some v ∧ (v.2.2.2 = 0 → v.1 = kd ∧ Rx v.1 v.2.1 v.2.2.1) := by
    rintro rfl rfl ⟨b, a, c⟩
    exact ⟨_, a, one, c, fun _ => ⟨rfl, rx_bit b⟩⟩
  have b01 : ∀ {n : Int} {s : ByteArray}, Rx 2 n s → n = 0 ∨ n = 1 := by
    intro n s h
    rcases h with ⟨h, _⟩ | ⟨h, _⟩ | ⟨_, _, h⟩
    · omega
    · omega
    · exact h
  have p3 : ∀ {n : Int} {s : ByteArray}, Rx 3 n s → plainB s = true := by
    intro n s h
    rcases h with ⟨_, _, h⟩ | ⟨h, _⟩ | ⟨h, _⟩
    · exact h
    · omega
    · omega
  unfold Op15 at ho
  rcases hk1 with rfl | rfl | rfl <;> rcases hk2 with rfl | rfl | rfl <;> rcases ho with rfl | rfl | rfl | rfl | rfl | rfl | rfl | rfl | rfl | rfl | rfl | rfl | rfl | rfl | rfl <;>
    first
    | exact absurd rfl o1
    | exact absurd rfl o2
    | exact no_combo hv rfl
    | exact num (by decide) rfl rfl (kd_of hv rfl)
    | exact tr rfl (kd_of hv rfl) (order_ref (by decide) (by decide) h1.rt h2.rt)
    | exact tr rfl (kd_of hv rfl) (same_ref (by decide) (by decide))
    | exact tr rfl (kd_of hv rfl) (both_ref (by decide) (b01 h1) (b01 h2))
    | (obtain ⟨kv, sv, ev, a, b, c⟩ := join_ref (n := n1) (m := n2) (p3 h1) (p3 h2)
       obtain rfl := kd_of hv (c := 3) rfl
       exact ⟨_, a, one, b, fun h => ⟨(c h).1, .inl ⟨(c h).1, rfl, (c h).2⟩⟩⟩)
theorem reck_law (op k1 n1 : Int) (s1 : ByteArray) (k2 n2 : Int) (s2 : ByteArray) (h1 : Rx k1 n1 s1) (h2 : Rx k2 n2 s2) (i1 : InR n1) (i2 : InR n2) :
    ∃ kd ok v, Asked op k1 n1 s1 k2 n2 s2 kd ok v := by
  rcases op15_or op with ho | ho
  · obtain ⟨kd, ok, hv, hr, hz⟩ := result_some ho h1.kind h2.kind
    cases ok with
    | true =>
      obtain ⟨v, a, b, c, d⟩ := reck_ok ho h1 h2 i1 i2 hv
      exact ⟨kd, true, v, ⟨hv, hr, hz, a, b, nofun, fun _ => ⟨c, d⟩⟩⟩
    | false =>
      refine ⟨kd, false, ERR, ⟨hv, hr, nofun, ?_, ?_, fun _ => rfl, nofun⟩⟩
      · rw [ite_self]; exact two_err hv
      · rw [ite_self]
        by_cases o1 : op = 1
        · subst o1
          refine one_bad12 (.inl ⟨rfl, fun h => ?_⟩)
          subst h
          exact Bool.noConfusion (Option.some.inj (congrArg (fun o => o.map Prod.snd) hv : some true = some false))
        by_cases o2 : op = 2
        · subst o2
          refine one_bad12 (.inr ⟨rfl, fun h => ?_⟩)
          subst h
          exact Bool.noConfusion (Option.some.inj (congrArg (fun o => o.map Prod.snd) hv : some true = some false))
        exact one_err h1.kind ho o1 o2
  · have a := result_none ho k1 k2
    have n12 : ¬ (op = 1 ∨ op = 2) := by omega
    exact ⟨0, false, ERR, ⟨a.1, a.2, nofun, by rw [if_neg n12]; exact two_err a.1, by rw [if_neg n12]; exact one_none ho, fun _ => rfl, nofun⟩⟩
end Go.Proofs.YtbbdlcmcndhhkaaDoor.MValReckons
