/- delta.Diff at one element type, walked: it answers the least patch between two lists, its row a new one. -/
import Derived.Test.YtfpbohfefliljaaDMath
import Derived.Test.YtfpbohfefliljaaDBase
import Derived.Test.YtfpbohfefliljaaDEq
import Derived.Test.YtfpbohfefliljaaSlB
namespace Go.Proofs.Ytfpbohfefliljaa.DiB
open Go Go.RowKit Go.Proofs Go.Proofs.YtfpbohfefliljaaW.PrintWords Go.Proofs.YtfpbohfefliljaaW.PrintLast Go.Proofs.YtfpbohfefliljaaW.PrintMore MD
set_option linter.unusedVariables false
set_option linter.unusedSimpArgs false
/-- The walk halts at it. -/
structure Hold (p : Prop) : Prop where
  out : p

theorem mid_any {α : Type} (d : Kd α) (t e : TypeId) (ht : Try.prog.underlying t = some (.slice e)) (hi : (Try.prog.info? e).map (·.size) = some d.sz) (A : Option Addr) (c : Nat) (xs : List α) (lo hi' : Nat) (h1 : lo ≤ hi') (hm : hi' ≤ xs.length) (hc : xs.length ≤ c) :
    ∃ A' : Option Addr, (∀ W : World, (Instr.slice t (.slice A xs.length c) (some (.int .i64 (lo : Int))) (some (.int .i64 (hi' : Int))) none).run Try.prog W = .ok (.slice A' (hi' - lo) (c - lo)) W) ∧
      (∀ w : World, d.C w A xs.length xs → d.C w A' ((xs.take hi').drop lo).length ((xs.take hi').drop lo)) := by
  refine ⟨if c = lo then A else A.map (·.add (lo * d.sz)), fun W => ?_, fun w h => Kd.C_mid h h1 hm hc⟩
  obtain ⟨i, hii, hsz⟩ := Option.map_eq_some_iff.1 hi
  have hel : Try.prog.elem t = e := by simp [Program.elem, ht]
  have hu : Try.prog.underlying t = some (.slice (Try.prog.elem t)) := by rw [hel]; exact ht
  rw [run_slice_lh W t A xs.length c hu .i64 .i64 (lo : Int) (hi' : Int) (by omega) (by omega) (by omega), hel]
  simp [sizeOf, typeInfo, hii, hsz, sliced, Result.andThen]
theorem sizeE : (Try.prog.info? 38).map (·.size) = some (Kd.int .u64).sz := by kernel_rfl
theorem clone_n (n : Nat) (A0 : Option Addr) (c0 : Nat) (l0 : List (Int)) (hn : n = l0.length) (w : World) (hr0 : Kd.C (Kd.int .u64) w A0 l0.length l0) (hc0 : l0.length ≤ c0) (hb : l0.length ≤ 1000) :
    Calls Try.prog 28 #[.slice A0 n c0] w fun e w' => ∃ v0_ : Value, e = .returned v0_ ∧ Kd.R (Kd.int .u64) 38 w' w.heap.size (fun _ => True) v0_ l0 ∧ Below w.heap.size w w' := by
  subst hn
  exact SlB.clone_any A0 c0 l0 w hr0 hc0 (by omega)
set_option maxHeartbeats 8000000 in
set_option maxRecDepth 100000 in
theorem diff_any (A0 : Option Addr) (c0 : Nat) (a : List (Int)) (A1 : Option Addr) (c1 : Nat) (b : List (Int)) (w : World) (hr0 : Kd.C (Kd.int .u64) w A0 a.length a) (hc0 : a.length ≤ c0) (hr1 : Kd.C (Kd.int .u64) w A1 b.length b) (hc1 : b.length ≤ c1) (ha : a.length ≤ 1000) (hb : b.length ≤ 1000) :
    Calls Try.prog 20 #[.slice A0 a.length c0, .slice A1 b.length c1] w fun e w' => ∃ v2_ : Value, e = .returned (.agg #[.int .i64 (dAt a b), .int .i64 (dLess a b), v2_]) ∧ Kd.R (Kd.int .u64) 38 w' w.heap.size (fun _ => True) v2_ (dWith a b) ∧ Below w.heap.size w w' := by
  have HR0 := Aside0.mk hr0
  have HC0 := Aside0.mk hc0
  have HR1 := Aside0.mk hr1
  have HC1 := Aside0.mk hc1
  have HA := Aside0.mk ha
  have HB := Aside0.mk hb
  have BK := Aside0.mk (blk_new w (.cells #[.int .i64 0, .int .i64 0, .slice none 0 0] 51))
  have HW := Aside0.mk ((Below.refl w.heap.size w).alloc (Nat.le_refl _) (.cells #[.int .i64 0, .int .i64 0, .slice none 0 0] 51))
  clear hr0 hc0 hr1 hc1 ha hb
  go_enter Try.func20, Try.ntmps20
  go_upto_block 0 with (fail)
  generalize w.alloc (.cells #[.int .i64 0, .int .i64 0, .slice none 0 0] 51) = w0 at BK HW ⊢
  go_cut [5] (fun v5 wc => v5 = .int .i64 ((pre a b : Nat) : Int) ∧ Drawn0 w0 wc)
  case first =>
    go_wp2
    go_loopw [5] (fun v5 wc => ∃ k : Nat, v5 = .int .i64 (k : Int) ∧ k ≤ a.length ∧ k ≤ b.length ∧ Aside0 (a.take k = b.take k) ∧ Drawn0 w0 wc) (fun v5 _ => a.length - (intOf v5).toNat)
    case atStart => exact ⟨0, rfl, Nat.zero_le _, Nat.zero_le _, ⟨rfl⟩, Drawn0.refl _⟩
    case round =>
      obtain ⟨k, rfl, hk1, hk2, HT, ⟨m1, rfl⟩⟩ := hrel
      have HK1 := Aside0.mk hk1
      have HK2 := Aside0.mk hk2
      clear hk1 hk2
      have hla := HA.out
      have hlb := HB.out
      have q2 : (0 ≤ (k : Int)) = True := eq_true (Int.natCast_nonneg _)
      by_cases h1 : k < a.length
      · have d1 : decide ((k : Int) < (a.length : Int)) = true := decide_eq_true (by omega)
        have n1 : (k < a.length) = True := eq_true h1
        by_cases h2 : k < b.length
        · have d2 : decide ((k : Int) < (b.length : Int)) = true := decide_eq_true (by omega)
          obtain ⟨ada, eada, hcada⟩ := Kd.at_int (HR0.out) ((k : Nat) : Int) (Int.natCast_nonneg _) (by omega)
          have hrada : rd a ((k : Nat) : Int) = a[k]'h1 := by unfold rd; rw [Int.toNat_natCast, List.getD_eq_getElem?_getD, List.getElem?_eq_getElem h1]; rfl
          rw [hrada, Int.toNat_natCast] at hcada
          obtain ⟨x, hx⟩ : ∃ z, z = a[k]'h1 := ⟨_, rfl⟩
          rw [← hx] at hcada
          replace hcada := pw_cell_below HW.out hcada
          cases eada
          clear hrada
          obtain ⟨adb, eadb, hcadb⟩ := Kd.at_int (HR1.out) ((k : Nat) : Int) (Int.natCast_nonneg _) (by omega)
          have hradb : rd b ((k : Nat) : Int) = b[k]'h2 := by unfold rd; rw [Int.toNat_natCast, List.getD_eq_getElem?_getD, List.getElem?_eq_getElem h2]; rfl
          rw [hradb, Int.toNat_natCast] at hcadb
          obtain ⟨y, hy⟩ : ∃ z, z = b[k]'h2 := ⟨_, rfl⟩
          rw [← hy] at hcadb
          replace hcadb := pw_cell_below HW.out hcadb
          cases eadb
          clear hradb
          have t1 : ((k : Int) < (a.length : Int)) = True := eq_true (by omega)
          have t2 : ((k : Int) < (b.length : Int)) = True := eq_true (by omega)
          by_cases he : x = y
          · have qe : (x == y) = true := beq_iff_eq.2 he
            have HT2 : Aside0 (a.take (k + 1) = b.take (k + 1)) := ⟨by rw [List.take_succ_eq_append_getElem h1, List.take_succ_eq_append_getElem h2, HT.out]; exact congrArg (fun z => b.take k ++ [z]) (hx.symm.trans (he.trans hy))⟩
            have H1 := Aside0.mk h1
            have H2 := Aside0.mk h2
            have hk9 : k < 1000 := by omega
            clear hx hy he h1 h2
            go_wp2
            repeat (go_quiet (fail); try go_wp2)
            go_roundw
            case rel => exact ⟨k + 1, by go_num, H1.out, H2.out, HT2, by repeat (first | (with_reducible exact Drawn0.refl _) | apply Drawn0.step)⟩
            case measure => have := H1.out; simp [intOf]; omega
          · have qe : (x == y) = false := beq_eq_false_iff_ne.2 he
            have qe1 : (x != y) = true := bne_iff_ne.2 he
            have qe2 : (x = y) = False := eq_false he
            have HP : Aside0 (pre a b = k) := ⟨pre_of k a b HK1.out HK2.out HT.out (.inr (.inr (by rw [List.getElem?_eq_getElem h1, List.getElem?_eq_getElem h2]; exact fun h => he (hx.trans ((Option.some.inj h).trans hy.symm)))))⟩
            clear hx hy he h1 h2
            go_wp2
            repeat (go_quiet (fail); try go_wp2)
            go_meet
            case rel => exact ⟨by rw [HP.out], by repeat (first | (with_reducible exact Drawn0.refl _) | apply Drawn0.step)⟩
        · have d2 : decide ((k : Int) < (b.length : Int)) = false := decide_eq_false (by omega)
          have n2 : (k < b.length) = False := eq_false (by omega)
          have n3 : (b.length ≤ k) = True := eq_true (by omega)
          have HP : Aside0 (pre a b = k) := ⟨pre_of k a b HK1.out HK2.out HT.out (.inr (.inl (by have := HK2.out; omega)))⟩
          clear h1 h2
          go_wp2
          repeat (go_quiet (fail); try go_wp2)
          go_meet
          case rel => exact ⟨by rw [HP.out], by repeat (first | (with_reducible exact Drawn0.refl _) | apply Drawn0.step)⟩
      · have d1 : decide ((k : Int) < (a.length : Int)) = false := decide_eq_false (by omega)
        have n1 : (k < a.length) = False := eq_false (by omega)
        have n3 : (a.length ≤ k) = True := eq_true (by omega)
        have HP : Aside0 (pre a b = k) := ⟨pre_of k a b HK1.out HK2.out HT.out (.inl (by have := HK1.out; omega))⟩
        clear h1
        go_wp2
        repeat (go_quiet (fail); try go_wp2)
        go_meet
        case rel => exact ⟨by rw [HP.out], by repeat (first | (with_reducible exact Drawn0.refl _) | apply Drawn0.step)⟩
  case rest =>
    obtain ⟨rfl, ⟨m0, rfl⟩⟩ := hcut
    have hpl := pre_le a b
    obtain ⟨p, hp⟩ : ∃ p, p = pre a b := ⟨_, rfl⟩
    rw [← hp] at hpl ⊢
    have HP := Aside0.mk hp
    have HPL := Aside0.mk hpl
    clear hp hpl
    obtain ⟨na, hna⟩ : ∃ na : Nat, na = a.length - p := ⟨_, rfl⟩
    obtain ⟨nb, hnb⟩ : ∃ nb : Nat, nb = b.length - p := ⟨_, rfl⟩
    have HNA := Aside0.mk hna
    have HNB := Aside0.mk hnb
    have s1 : wrap64 ((a.length : Int) - (p : Int)) = (na : Int) := by have := HPL.out; have := HA.out; unfold wrap64; omega
    have s2 : wrap64 ((b.length : Int) - (p : Int)) = (nb : Int) := by have := HPL.out; have := HB.out; unfold wrap64; omega
    clear hna hnb
    go_upto_block 2 with (fail)
    go_cut [6] (fun v6 wc => v6 = .int .i64 ((suf a b p : Nat) : Int) ∧ Drawn0 w0 wc)
    case first =>
      go_wp2
      go_loopw [6] (fun v6 wc => ∃ j : Nat, v6 = .int .i64 (j : Int) ∧ Aside0 (j ≤ na ∧ j ≤ nb) ∧ Aside0 ((a.drop p).reverse.take j = (b.drop p).reverse.take j) ∧ Drawn0 w0 wc) (fun v6 _ => na - (intOf v6).toNat)
      case atStart => exact ⟨0, rfl, ⟨Nat.zero_le _, Nat.zero_le _⟩, ⟨rfl⟩, Drawn0.step (Drawn0.refl _) _⟩
      case round =>
        obtain ⟨j, rfl, HJ, HT, ⟨m1, rfl⟩⟩ := hrel
        by_cases h1 : j < na
        · have d1 : decide ((j : Int) < (na : Int)) = true := decide_eq_true (by omega)
          have n1 : (j < na) = True := eq_true h1
          by_cases h2 : j < nb
          · have d2 : decide ((j : Int) < (nb : Int)) = true := decide_eq_true (by omega)
            have n2 : (j < nb) = True := eq_true h2
            obtain ⟨ea, hea⟩ : ∃ ea : Nat, ea = a.length - 1 := ⟨_, rfl⟩
            obtain ⟨eb, heb⟩ : ∃ eb : Nat, eb = b.length - 1 := ⟨_, rfl⟩
            obtain ⟨ia, hia⟩ : ∃ ia : Nat, ia = a.length - 1 - j := ⟨_, rfl⟩
            obtain ⟨ib, hib⟩ : ∃ ib : Nat, ib = b.length - 1 - j := ⟨_, rfl⟩
            have hbd := HPL.out
            have hna := HNA.out
            have hnb := HNB.out
            have hla := HA.out
            have hlb := HB.out
            have hia2 : ia < a.length := by omega
            have hib2 : ib < b.length := by omega
            obtain ⟨ada, eada, hcada⟩ := Kd.at_int (HR0.out) ((ia : Nat) : Int) (Int.natCast_nonneg _) (by omega)
            have hrada : rd a ((ia : Nat) : Int) = a[ia]'hia2 := by unfold rd; rw [Int.toNat_natCast, List.getD_eq_getElem?_getD, List.getElem?_eq_getElem hia2]; rfl
            rw [hrada, Int.toNat_natCast] at hcada
            obtain ⟨x, hx⟩ : ∃ z, z = a[ia]'hia2 := ⟨_, rfl⟩
            rw [← hx] at hcada
            replace hcada := pw_cell_below HW.out hcada
            cases eada
            clear hrada
            obtain ⟨adb, eadb, hcadb⟩ := Kd.at_int (HR1.out) ((ib : Nat) : Int) (Int.natCast_nonneg _) (by omega)
            have hradb : rd b ((ib : Nat) : Int) = b[ib]'hib2 := by unfold rd; rw [Int.toNat_natCast, List.getD_eq_getElem?_getD, List.getElem?_eq_getElem hib2]; rfl
            rw [hradb, Int.toNat_natCast] at hcadb
            obtain ⟨y, hy⟩ : ∃ z, z = b[ib]'hib2 := ⟨_, rfl⟩
            rw [← hy] at hcadb
            replace hcadb := pw_cell_below HW.out hcadb
            cases eadb
            clear hradb
            have hxr : (a.drop p).reverse[j]? = some x := by rw [rev_at a p j (by omega), ← hia, List.getElem?_eq_getElem hia2, hx]
            have hyr : (b.drop p).reverse[j]? = some y := by rw [rev_at b p j (by omega), ← hib, List.getElem?_eq_getElem hib2, hy]
            have hl1 : j < (a.drop p).reverse.length := by rw [List.length_reverse, List.length_drop]; omega
            have hl2 : j < (b.drop p).reverse.length := by rw [List.length_reverse, List.length_drop]; omega
            have hk9 : j < 1000 := by omega
            have hj2 : j + 1 ≤ na ∧ j + 1 ≤ nb := ⟨h1, h2⟩
            have t1 : ((ia : Int) < (a.length : Int)) = True := eq_true (by omega)
            have t2 : ((ib : Int) < (b.length : Int)) = True := eq_true (by omega)
            have t3 : (0 ≤ (ia : Int)) = True := eq_true (by omega)
            have t4 : (0 ≤ (ib : Int)) = True := eq_true (by omega)
            have s3 : wrap64 ((a.length : Int) - 1) = (ea : Int) := by unfold wrap64; omega
            have s4 : wrap64 ((b.length : Int) - 1) = (eb : Int) := by clear s3; unfold wrap64; omega
            have s5 : wrap64 ((ea : Int) - (j : Int)) = (ia : Int) := by clear s3 s4; unfold wrap64; omega
            have s6 : wrap64 ((eb : Int) - (j : Int)) = (ib : Int) := by clear s3 s4 s5; unfold wrap64; omega
            have HJ2 := Aside0.mk hj2
            have HXR := Aside0.mk hxr
            have HYR := Aside0.mk hyr
            have HL1 := Aside0.mk hl1
            have HL2 := Aside0.mk hl2
            clear hx hy
            clear hea heb hia hib hbd hna hnb hla hlb hia2 hib2 hxr hyr hl1 hl2 hj2 h1 h2
            by_cases he : x = y
            · have qe : (x == y) = true := beq_iff_eq.2 he
              have HT2 : Aside0 ((a.drop p).reverse.take (j + 1) = (b.drop p).reverse.take (j + 1)) := ⟨by rw [List.take_add_one, List.take_add_one, HXR.out, HYR.out, HT.out, he]⟩
              clear he
              go_wp2
              repeat (go_quiet (fail); try go_wp2)
              go_roundw
              case rel => exact ⟨j + 1, by go_num, HJ2, HT2, by repeat (first | (with_reducible exact Drawn0.refl _) | apply Drawn0.step)⟩
              case measure => have := HJ2.out; simp [intOf]; omega
            · have qe : (x == y) = false := beq_eq_false_iff_ne.2 he
              have qe1 : (x != y) = true := bne_iff_ne.2 he
              have qe2 : (x = y) = False := eq_false he
              have HQ : Aside0 (suf a b p = j) := ⟨pre_of j _ _ (Nat.le_of_lt HL1.out) (Nat.le_of_lt HL2.out) HT.out (.inr (.inr (by rw [HXR.out, HYR.out]; exact fun h => he (Option.some.inj h))))⟩
              clear he
              go_wp2
              repeat (go_quiet (fail); try go_wp2)
              go_meet
              case rel => exact ⟨by rw [HQ.out], by repeat (first | (with_reducible exact Drawn0.refl _) | apply Drawn0.step)⟩
          · have d2 : decide ((j : Int) < (nb : Int)) = false := decide_eq_false (by omega)
            have n2 : (j < nb) = False := eq_false h2
            have n3 : (nb ≤ j) = True := eq_true (by omega)
            have HQ : Aside0 (suf a b p = j) := ⟨by
              have h3 := HJ.out
              have h4 := HPL.out
              have h5 := HNA.out
              have h6 := HNB.out
              exact pre_of j _ _ (by rw [List.length_reverse, List.length_drop]; omega) (by rw [List.length_reverse, List.length_drop]; omega) HT.out (.inr (.inl (by rw [List.length_reverse, List.length_drop]; omega)))⟩
            clear h1 h2
            go_wp2
            repeat (go_quiet (fail); try go_wp2)
            go_meet
            case rel => exact ⟨by rw [HQ.out], by repeat (first | (with_reducible exact Drawn0.refl _) | apply Drawn0.step)⟩
        · have d1 : decide ((j : Int) < (na : Int)) = false := decide_eq_false (by omega)
          have n1 : (j < na) = False := eq_false h1
          have n3 : (na ≤ j) = True := eq_true (by omega)
          have HQ : Aside0 (suf a b p = j) := ⟨by
            have h3 := HJ.out
            have h4 := HPL.out
            have h5 := HNA.out
            have h6 := HNB.out
            exact pre_of j _ _ (by rw [List.length_reverse, List.length_drop]; omega) (by rw [List.length_reverse, List.length_drop]; omega) HT.out (.inl (by rw [List.length_reverse, List.length_drop]; omega))⟩
          clear h1
          go_wp2
          repeat (go_quiet (fail); try go_wp2)
          go_meet
          case rel => exact ⟨by rw [HQ.out], by repeat (first | (with_reducible exact Drawn0.refl _) | apply Drawn0.step)⟩
    case rest =>
      obtain ⟨rfl, ⟨m2, rfl⟩⟩ := hcut
      have hql := suf_le a b p
      have hbd := HPL.out
      have hna := HNA.out
      have hnb := HNB.out
      have hla := HA.out
      have hlb := HB.out
      by_cases hA : p = a.length ∧ p = b.length
      · have e1 : dAt a b = 0 := by unfold dAt; rw [← HP.out, if_pos hA]
        have e2 : dLess a b = 0 := by unfold dLess; rw [← HP.out]; omega
        have e3 : dWith a b = [] := by unfold dWith; rw [← HP.out, List.drop_eq_nil_iff, List.length_take]; omega
        have E := Aside0.mk (And.intro e1 (And.intro e2 e3))
        have d1 : ((p : Int) == (a.length : Int)) = true := beq_iff_eq.2 (by omega)
        have d2 : ((p : Int) == (b.length : Int)) = true := beq_iff_eq.2 (by omega)
        have n1 : (p = a.length) = True := eq_true hA.1
        have n2 : (p = b.length) = True := eq_true hA.2
        have k1 : (p == a.length) = true := beq_iff_eq.2 hA.1
        have k2 : (p == b.length) = true := beq_iff_eq.2 hA.2
        have b0 := blk_drewN BK.out m2
        have g0 : (w0.drewN m2).cell? ⟨w.heap.size, 0, none⟩ = some (.int .i64 0) := blk_cell b0 0
        have g1 : (w0.drewN m2).cell? ⟨w.heap.size, 1, none⟩ = some (.int .i64 0) := blk_cell b0 1
        have g2 : (w0.drewN m2).cell? ⟨w.heap.size, 2, none⟩ = some (.slice none 0 0) := blk_cell b0 2
        have z0 := blk_frozen b0 0
        have z1 := blk_frozen b0 1
        have z2 := blk_frozen b0 2
        have HW2 := Aside0.mk (pw_below_drewN HW.out m2)
        have B0 := Aside0.mk b0
        clear b0
        generalize w0.drewN m2 = w2 at g0 g1 g2 z0 z1 z2 HW2 B0 ⊢
        clear e1 e2 e3 hA hql hbd hna hnb hla hlb
        generalize suf a b p = q
        go_wp2
        refine bodyPost_ret (results_cell_row rfl _ _ w.heap.size 51 #[.int .i64 0, .int .i64 0, .slice none 0 0] (0, 0) _ rfl (blk_put (cs := #[.int .i64 0, .int .i64 0, .slice none 0 0]) (blk_put (cs := #[.int .i64 0, .int .i64 0, .slice none 0 0]) (blk_put (cs := #[.int .i64 0, .int .i64 0, .slice none 0 0]) B0.out 0 _ rfl) 1 _ rfl) 2 _ rfl) Try.underlying51 rfl (by kernel_rfl)) rfl ?_
        exact ⟨.slice none 0 0, by rw [E.out.1, E.out.2.1], by rw [E.out.2.2]; exact Kd.R_nil _ _ _ _ _, below_set (below_set (below_set HW2.out (Nat.le_refl _)) (Nat.le_refl _)) (Nat.le_refl _)⟩
      · obtain ⟨q, hq⟩ : ∃ q, q = suf a b p := ⟨_, rfl⟩
        rw [← hq] at hql ⊢
        obtain ⟨nl, hnl⟩ : ∃ nl : Nat, nl = a.length - p - q := ⟨_, rfl⟩
        obtain ⟨nh, hnh⟩ : ∃ nh : Nat, nh = b.length - q := ⟨_, rfl⟩
        have e1 : dAt a b = (p : Int) := by unfold dAt; rw [← HP.out, if_neg hA]
        have e2 : dLess a b = (nl : Int) := by unfold dLess; rw [← HP.out, ← hq, hnl]
        have e3 : dWith a b = (b.take nh).drop p := by unfold dWith; rw [← HP.out, ← hq, hnh]
        have E := Aside0.mk (And.intro e1 (And.intro e2 e3))
        have hlen : nh - p = ((b.take nh).drop p).length := by rw [List.length_drop, List.length_take]; omega
        have hph : p ≤ nh := by omega
        have hhb : nh ≤ b.length := by omega
        obtain ⟨A2, hcut, hcr⟩ := mid_any (Kd.int .u64) 39 38 Try.underlying39 sizeE A1 c1 b p nh hph hhb HC1.out
        have hcap : nh - p ≤ c1 - p := by have := HC1.out; omega
        have HCR := Aside0.mk (hcr _ (Kd.C_below HR1.out HW.out))
        have HLEN := Aside0.mk hlen
        have HCAP := Aside0.mk hcap
        have HL9 := Aside0.mk (show ((b.take nh).drop p).length ≤ 1000 by rw [← hlen]; omega)
        have s3 : wrap64 ((na : Int) - (q : Int)) = (nl : Int) := by unfold wrap64; omega
        have s4 : wrap64 ((b.length : Int) - (q : Int)) = (nh : Int) := by clear s3; unfold wrap64; omega
        have b0 := blk_drewN BK.out m2
        have hbr : ∃ ba bb : Bool, ((p : Int) == (a.length : Int)) = ba ∧ ((p : Int) == (b.length : Int)) = bb ∧ (p == a.length) = ba ∧ (p == b.length) = bb ∧ Aside0 (ba = true → bb = false) := by
          refine ⟨decide (p = a.length), decide (p = b.length), ?_, ?_, ?_, ?_, ⟨fun h => ?_⟩⟩
          · by_cases h : p = a.length
            · rw [decide_eq_true h]; exact beq_iff_eq.2 (by omega)
            · rw [decide_eq_false h]; exact beq_eq_false_iff_ne.2 (by omega)
          · by_cases h : p = b.length
            · rw [decide_eq_true h]; exact beq_iff_eq.2 (by omega)
            · rw [decide_eq_false h]; exact beq_eq_false_iff_ne.2 (by omega)
          · rfl
          · rfl
          · exact decide_eq_false (fun h2 => hA ⟨of_decide_eq_true h, h2⟩)
        obtain ⟨ba, bb, d1, d2, k1, k2, HBA⟩ := hbr
        have g0 : (w0.drewN m2).cell? ⟨w.heap.size, 0, none⟩ = some (.int .i64 0) := blk_cell b0 0
        have g1 : (w0.drewN m2).cell? ⟨w.heap.size, 1, none⟩ = some (.int .i64 0) := blk_cell b0 1
        have g2 : (w0.drewN m2).cell? ⟨w.heap.size, 2, none⟩ = some (.slice none 0 0) := blk_cell b0 2
        have z0 := blk_frozen b0 0
        have z1 := blk_frozen b0 1
        have z2 := blk_frozen b0 2
        have HW2 := Aside0.mk (pw_below_drewN HW.out m2)
        have HC2 := Aside0.mk (Kd.C_drewN HCR.out m2)
        have B0 := Aside0.mk b0
        clear b0 e1 e2 e3 hA hql hbd hna hnb hla hlb hnl hnh hq hcr hlen hcap hph hhb
        generalize w0.drewN m2 = w2 at g0 g1 g2 z0 z1 z2 HW2 B0 HC2 ⊢
        have fin : ∀ (v : Value) (W : World), Kd.R (Kd.int .u64) 38 W w2.heap.size (fun _ => True) v ((b.take nh).drop p) → Below w2.heap.size w2 W → W.heap[w.heap.size]? = some (.cells #[.int .i64 0, .int .i64 0, .slice none 0 0] 51 (0, 0)) ∧ Below w.heap.size w W ∧ Kd.R (Kd.int .u64) 38 W w.heap.size (fun k => True ∧ k ≠ w.heap.size) v ((b.take nh).drop p) := fun v W h1 h2 =>
          ⟨blk_below B0.out h2, HW2.out.trans (h2.mono HW2.out.size), Kd.R_mono (Kd.R_lower (Kd.R_mono (Kd.R_bound h1) (fun k hk => ⟨trivial, fun e => by have := hk.2.1; have := blk_lt B0.out; omega⟩)) HW2.out.size) (fun _ h => h)⟩
        have FIN := Aside0.mk fin
        clear fin
        generalize (b.take nh).drop p = ys at HC2 HLEN HL9 FIN E
        cases ba <;> cases bb
        all_goals (try exact absurd (HBA.out rfl) (by decide))
        all_goals
          go_wp2_with (go_at_call 28; refine Hold.out ?_)
          refine ⟨?_⟩
          refine (clone_n _ A2 _ ys HLEN.out w2 HC2.out (by rw [← HLEN.out]; exact HCAP.out) HL9.out).mono ?_
          rintro e w3 ⟨v, rfl, hR, hB⟩
          obtain ⟨b0, hB3, hR3⟩ := FIN.out v w3 hR hB
          have g0 : w3.cell? ⟨w.heap.size, 0, none⟩ = some (.int .i64 0) := blk_cell b0 0
          have g1 : w3.cell? ⟨w.heap.size, 1, none⟩ = some (.int .i64 0) := blk_cell b0 1
          have g2 : w3.cell? ⟨w.heap.size, 2, none⟩ = some (.slice none 0 0) := blk_cell b0 2
          have z0 := blk_frozen b0 0
          have z1 := blk_frozen b0 1
          have z2 := blk_frozen b0 2
          obtain ⟨A3, c3, rfl⟩ := Kd.R_slice hR3
          have B3 := Aside0.mk b0
          have HR3 := Aside0.mk hR3
          have HB3 := Aside0.mk hB3
          clear b0 hR3 hB3 hR hB
          go_wp2
          refine bodyPost_ret (results_cell_row rfl _ _ w.heap.size 51 #[.int .i64 (p : Int), .int .i64 (nl : Int), .slice A3 ys.length c3] (0, 0) _ rfl (blk_put (cs := #[.int .i64 (p : Int), .int .i64 (nl : Int), .slice none 0 0]) (blk_put (cs := #[.int .i64 (p : Int), .int .i64 0, .slice none 0 0]) (blk_put (cs := #[.int .i64 0, .int .i64 0, .slice none 0 0]) B3.out 0 _ rfl) 1 _ rfl) 2 _ rfl) Try.underlying51 rfl (by kernel_rfl)) rfl ?_
          exact ⟨_, by rw [E.out.1, E.out.2.1], by rw [E.out.2.2]; exact Kd.R_mono (Kd.R_far (p := ⟨w.heap.size, 2, none⟩) (Kd.R_far (p := ⟨w.heap.size, 1, none⟩) (Kd.R_far (p := ⟨w.heap.size, 0, none⟩) HR3.out (fun _ h => h.2) _) (fun _ h => h.2) _) (fun _ h => h.2) _) (fun _ _ => trivial), below_set (below_set (below_set HB3.out (Nat.le_refl _)) (Nat.le_refl _)) (Nat.le_refl _)⟩
end Go.Proofs.Ytfpbohfefliljaa.DiB
