/- Feed walked: the lines that end with further bytes. -/
import Derived.Test.YtlnllcgepplneaaFEnd
import Derived.Test.YtlnllcgepplneaaFCut
namespace Go.Proofs.Ytlnllcgepplneaa.MFrameLines
open Go.RowKit Go.Proofs Go.Proofs.YtlnllcgepplneaaW.PrintWords Go.Proofs.YtlnllcgepplneaaW.PrintLast Go.Proofs.YtlnllcgepplneaaW.PrintMore
set_option linter.unusedVariables false
set_option linter.unusedSimpArgs false
theorem info35 : (Try.prog.info? 35).map (fun i => (i.zero, i.size, i.bytes)) = some (some (.agg #[(.string ⟨#[]⟩), (.int .i64 0)]), 2, 24) := by kernel_rfl
/-- A reader's memory, by the bytes that have come since the last line. -/
def Sc (w : World) (base g : Nat) (v : Value) (cur : List Int) : Prop := ∃ p lo od so, St w base g v p lo od so ∧ Rel cur p lo od so
section
variable {g base B : Nat} {w wr w' w1 : World} {v v' vo : Value} {cur : List Int} {o : List S35}
theorem Sc.below (h : Sc w base g v cur) (hb : Below w.heap.size w w') : Sc w' base g v cur := by
  obtain ⟨p, lo, od, so, h1, h2⟩ := h
  exact ⟨p, lo, od, so, h1.below hb, h2⟩
theorem Sc.take (h : Sc w base g v cur) (A : Option Addr) (c : Nat) (l : List Int) (ok : Nat → Prop) (hC : Kd.F (Kd.int .u8) w ok A l.length l) (hok : ∀ k, ok k → k ≠ g) (hc : l.length ≤ c) (hl : l.length ≤ 1000000) :
    Calls Try.prog 13 #[.pointer (some ⟨g, 0, none⟩), .slice A l.length c] w fun e w' => e = .returned (.tuple #[]) ∧ ∃ v', Sc w' base g v' (cur ++ l) ∧ (v'.ownBlock = v.ownBlock ∨ ∃ b, v'.ownBlock = some b ∧ w.heap.size ≤ b) ∧ Oth g v.ownBlock w w' := by
  obtain ⟨p, lo, od, so, h1, h2⟩ := h
  refine (take_any w base g v p lo od so A c l ok h1 hC hok hc hl h2.hle).mono ?_
  rintro e w' ⟨he, ⟨v', hS, hv⟩, hO⟩
  exact ⟨he, v', ⟨_, _, _, _, hS, h2.take⟩, hv, hO⟩
theorem Sc.stop (h : Sc w base g v cur) : Calls Try.prog 14 #[.pointer (some ⟨g, 0, none⟩)] w fun e w' => e = .returned (.agg #[.string (lineOf cur).f0, .int .i64 (lineOf cur).f1]) ∧ Sc w' base g (.slice none 0 0) [] ∧ Oth g none w w' := by
  obtain ⟨p, lo, od, so, h1, h2⟩ := h
  refine (end_any w base g v p lo od so h1).mono ?_
  rintro e w' ⟨he, hS, hO⟩
  refine ⟨?_, ⟨_, _, _, _, hS, Rel.nil⟩, hO⟩
  rw [he, h2.line]
  cases lo <;> cases od <;> rfl
/-- Lines that are kept apart from the reader. -/
theorem lines_oth (h : Kd.R k35 35 wr B (fun k => k ≠ g) vo o) (hs : Sc wr base g v cur) (ho : Oth g v.ownBlock wr w') : Kd.R k35 35 w' B (fun k => k ≠ g) vo o := by
  obtain ⟨p, lo, od, so, h1, h2⟩ := hs
  refine Kd.R_mono (Kd.R_step (Kd.R_bound h) (fun k hk hlt => ho.block k hlt hk.1 ?_)) (fun _ hk => hk.1)
  intro e
  obtain ⟨_, _, _, q, hq, cells, hc⟩ := hk
  obtain ⟨cells', hc'⟩ := Kd.R_typed h1.own k e.symm
  rw [hc] at hc'
  injection hc' with hc'
  injection hc' with _ hc'
  subst hc'
  exact absurd hq (by decide)
theorem Sc.grown (hs : Sc w base g v cur) (h : Kd.R k35 35 w B (fun k => k ≠ g) vo o) (hg : w.grownBy w1 vo.ownBlock) : Sc w1 base g v cur := by
  obtain ⟨p, lo, od, so, h1, h2⟩ := hs
  refine ⟨p, lo, od, so, h1.step (hg.block g h1.lg (fun e => h.1 g e.symm rfl)) (fun k hk => hg.block k (h1.own_lt k hk) (fun e => ?_)) hg.size, h2⟩
  obtain ⟨cells, hc⟩ := Kd.R_typed h k e.symm
  obtain ⟨cells', hc'⟩ := Kd.R_typed h1.own k hk
  rw [hc] at hc'
  injection hc' with hc'
  injection hc' with _ hc'
  exact absurd hc' (by decide)
theorem Sc.lg (h : Sc w base g v cur) : g < w.heap.size := by
  obtain ⟨p, lo, od, so, h1, h2⟩ := h
  exact h1.lg
end
/-- Where Feed stands: what it has, and what is still to come. -/
structure Inv (w : World) (base g : Nat) (v : Value) (OUT : List S35) (CUR : List Int) (wr : World) (vo : Value) (rest : List Int) (v' : Value) (cur : List Int) (o : List S35) : Prop where
  st : Sc wr base g v' cur
  out : Kd.R k35 35 wr w.heap.size (fun k => k ≠ g) vo o
  all : o ++ (linesOf cur rest).1 = OUT
  cur : (linesOf cur rest).2 = CUR
  at_ : v'.ownBlock = none ∨ v'.ownBlock = v.ownBlock ∨ ∃ b, v'.ownBlock = some b ∧ w.heap.size ≤ b
  oth : Oth g v.ownBlock w wr
  few : o.length + rest.length ≤ 1000000
section
variable {w wr wa w' w2 w1 : World} {base g : Nat} {v vo v' v3 v1 : Value} {OUT o : List S35} {CUR cur cur3 rest rest3 X : List Int}
theorem Inv.move (h : Inv w base g v OUT CUR wr vo rest v' cur o) (hb : Below wr.heap.size wr wa) : Inv w base g v OUT CUR wa vo rest v' cur o :=
  ⟨h.st.below hb, Kd.R_below h.out hb, h.all, h.cur, h.at_, h.oth.trans (Oth.of_below hb g none) (.inr (.inl rfl)), h.few⟩
theorem Inv.took (h : Inv w base g v OUT CUR wa vo rest v' cur o) (ho : Oth g v'.ownBlock wa w') (hs : Sc w' base g v3 cur3) (hv : v3.ownBlock = v'.ownBlock ∨ ∃ b, v3.ownBlock = some b ∧ wa.heap.size ≤ b)
    (he : linesOf cur3 rest3 = linesOf cur rest) (hf : rest3.length ≤ rest.length) : Inv w base g v OUT CUR w' vo rest3 v3 cur3 o := by
  have hz := h.oth.size
  refine ⟨hs, lines_oth h.out h.st ho, by rw [he]; exact h.all, by rw [he]; exact h.cur, ?_, h.oth.trans ho ?_, by have := h.few; omega⟩
  · rcases hv with hv | ⟨b, hv, hb⟩
    · rw [hv]; exact h.at_
    · exact .inr (.inr ⟨b, hv, by omega⟩)
  · rcases h.at_ with e | e | ⟨b, e, hb⟩
    · exact .inr (.inl e)
    · exact .inl e
    · exact .inr (.inr ⟨b, e, hb⟩)
theorem Inv.ended (h : Inv w base g v OUT CUR wr vo rest v' cur o) (ho : Oth g none wr w') : Kd.R k35 35 w' w.heap.size (fun k => k ≠ g) vo o ∧ Oth g v.ownBlock w w' ∧ w.heap.size ≤ w'.heap.size :=
  ⟨lines_oth h.out h.st (ho.weak _), h.oth.trans ho (.inr (.inl rfl)), (h.oth.trans ho (.inr (.inl rfl))).size⟩
theorem Inv.pushed (h : Inv w base g v OUT CUR wr vo (10 :: X) v' cur o) (hs : Sc w' base g (.slice none 0 0) []) (hO : Oth g v.ownBlock w w') (hR : Kd.R k35 35 w' w.heap.size (fun k => k ≠ g) vo o) (hg : w'.grownBy w1 vo.ownBlock)
    (hR1 : Kd.R k35 35 w1 w.heap.size (fun k => k ≠ g) v1 (o ++ [lineOf cur])) : Inv w base g v OUT CUR w1 v1 X (.slice none 0 0) [] (o ++ [lineOf cur]) := by
  have h1 := h.all
  have h2 := h.cur
  have h3 := h.few
  rw [linesOf, if_pos rfl] at h1 h2
  refine ⟨hs.grown hR hg, hR1, by rw [List.append_assoc]; exact h1, h2, ?_, hO.trans (Oth.of_grown hg g) ?_, by rw [List.length_append]; simp at h3 ⊢; omega⟩
  · exact .inl rfl
  · rcases Kd.R_base2 hR with e | ⟨b, e, hb⟩
    · exact .inr (.inl e)
    · exact .inr (.inr ⟨b, e, hb⟩)
end
/-- Cut at a newline that is there: what comes ahead of it, and what behind. -/
theorem cut_some (w wr : World) (A : Option Addr) (c b : Nat) (l : List Int) (ok : Nat → Prop) (hF : Kd.F (Kd.int .u8) w ok A l.length l) (h : Kd.C (Kd.int .u8) wr A l.length l) (hb : Byt l) (hc : l.length ≤ c) (hn : l.length ≤ 1000000) (h10 : wr.cell? ⟨b, 0, none⟩ = some (.int .u8 10)) (hi : nl l < l.length) :
    ∃ (a d : List Int) (A3 : Option Addr) (c3 : Nat), Calls Try.prog 12 #[.slice A l.length c, .slice (some ⟨b, 0, none⟩) 1 1] wr (fun e w' => e = .returned (.tuple #[.slice A a.length c, .slice A3 d.length c3, .bool true]) ∧ ∃ q, w' = wr.drewN q) ∧
      Kd.F (Kd.int .u8) w ok A a.length a ∧ Kd.F (Kd.int .u8) w ok A3 d.length d ∧ d.length ≤ c3 ∧ a.length ≤ c ∧ a.length + d.length + 1 = l.length ∧ Byt d ∧ ∀ cur R, linesOf (cur ++ a) (10 :: (d ++ R)) = linesOf cur (l ++ R) := by
  have e1 : (l.take (nl l)).length = nl l := by rw [List.length_take]; omega
  have e2 : (l.drop (nl l + 1)).length = l.length - (nl l + 1) := List.length_drop
  refine ⟨l.take (nl l), l.drop (nl l + 1), _, c - (nl l + 1), ?_, Kd.F_take hF (by omega), Kd.F_cut hF (by omega) hc, by omega, by omega, by omega, fun x hx => hb x (List.mem_of_mem_drop hx), fun cur R => ?_⟩
  · rw [e1, e2]
    refine (cut_there A l.length c b l wr h hb hc (by omega) h10 hi).mono ?_
    rintro e w' ⟨he, hq⟩
    refine ⟨?_, hq⟩
    rw [he]
    simp only [show (Kd.int IntKind.u8).sz = 1 from rfl, Nat.mul_one]
  · rw [linesOf_nl cur l R hi, linesOf, if_pos rfl]
def lenV : Value → Nat
  | .slice _ n _ => n
  | _ => 0
set_option maxHeartbeats 4000000 in
set_option maxRecDepth 100000 in
theorem feed_any (w : World) (base g : Nat) (v : Value) (cur : List Int) (A : Option Addr) (c : Nat) (ls : List (List Int)) (ok : Nat → Prop)
    (h : Sc w base g v cur) (hC : Kd.F (Kd.slice 5 (Kd.int .u8)) w ok A ls.length ls) (hok : ∀ k, ok k → k < w.heap.size ∧ k ≠ g ∧ some k ≠ v.ownBlock)
    (hn : ls.length ≤ 9223372036854775807) (hl : ls.flatten.length ≤ 1000000) (hb : ∀ l ∈ ls, Byt l) :
    Calls Try.prog 7 #[.pointer (some ⟨g, 0, none⟩), .slice A ls.length c] w fun e w' => ∃ vo v', e = .returned vo ∧ Inv w base g v (linesOf cur ls.flatten).1 (linesOf cur ls.flatten).2 w' vo [] v' (linesOf cur ls.flatten).2 (linesOf cur ls.flatten).1 := by
  obtain ⟨OUT, hOUT⟩ : ∃ x, x = (linesOf cur ls.flatten).1 := ⟨_, rfl⟩
  obtain ⟨CUR, hCUR⟩ : ∃ x, x = (linesOf cur ls.flatten).2 := ⟨_, rfl⟩
  rw [← hOUT, ← hCUR]
  have I0 : Aside0 (Inv w base g v OUT CUR w (.slice none 0 0) ((ls.drop 0).flatten) v cur []) :=
    ⟨⟨h, Kd.R_nil _ _ _ _ _, hOUT.symm, hCUR.symm, .inr (.inl rfl), Oth.refl _ _ _, by simpa using hl⟩⟩
  have HC := Aside0.mk hC
  have HOK := Aside0.mk hok
  have HN := Aside0.mk hn
  have HL := Aside0.mk hl
  have HBY := Aside0.mk hb
  clear h hC hok hn hl hb hOUT hCUR
  go_enter Try.func7, Try.ntmps7
  go_wp2
  go_loopw [13, 5] (fun s13 s5 wr => ∃ (i : Nat) (v' : Value) (cur' : List Int) (o : List S35), s13 = .int .i64 i ∧ i ≤ ls.length ∧ Aside0 (Inv w base g v OUT CUR wr s5 (ls.drop i).flatten v' cur' o)) (fun s13 _ _ => ls.length - (intOf s13).toNat)
  case atStart => exact ⟨0, v, cur, [], rfl, Nat.zero_le _, I0⟩
  case round =>
    clear I0
    obtain ⟨i, v', cur', o, rfl, hin, HI⟩ := hrel
    by_cases hlt : i < ls.length
    · have hn4 : (i : Int) < (ls.length : Int) := by omega
      have p4 : (0 : Int) ≤ (i : Int) := Int.natCast_nonneg _
      have hF := Kd.F_step (W1 := wr) HC.out (fun k hk _ => HI.out.oth.block k (HOK.out k hk).1 (HOK.out k hk).2.1 (HOK.out k hk).2.2)
      obtain ⟨ad, cs, hA, _, hFK, hx, hin'⟩ := Kd.F_get HC.out [] (i : Int) p4 hn4
      obtain ⟨A1, c1, rfl, hc1, hF1⟩ := Kd.FK_slice_open hFK
      have hok1 := HOK.out _ (hin' (by decide))
      rw [Int.toNat_natCast] at hx hc1 hF1
      have hx0 : wr.cell? (ad.add i) = some (.slice A1 (ls.getD i []).length c1) := by
        have e := hx 0 _ rfl
        rw [show i * (Kd.slice 5 (Kd.int .u8)).sz + 0 = i from Nat.mul_one i] at e
        refine (World.cell?_of_block ?_).trans e
        rw [add_block]
        exact HI.out.oth.block ad.block hok1.1 hok1.2.1 hok1.2.2
      clear hx hFK hF hok1 hin'
      have hdrop : (ls.drop i).flatten = ls.getD i [] ++ (ls.drop (i + 1)).flatten := by
        rw [List.drop_eq_getElem_cons hlt, List.flatten_cons, List.getD_eq_getElem?_getD, List.getElem?_eq_getElem hlt]
        rfl
      have hby : Byt (ls.getD i []) := by
        rw [List.getD_eq_getElem?_getD, List.getElem?_eq_getElem hlt]
        exact HBY.out _ (List.getElem_mem hlt)
      rw [hdrop] at HI
      clear hdrop
      have hle : (ls.getD i []).length ≤ 1000000 := by
        have := HI.out.few
        rw [List.length_append] at this
        omega
      generalize ls.getD i [] = l at *
      subst hA
      have HF1 := Aside0.mk hF1
      have HC1 := Aside0.mk hc1
      have HB1 := Aside0.mk hby
      have HL1 := Aside0.mk hle
      have hwk : IntKind.i64.wrap ((i : Int) + 1) = (i : Int) + 1 := by have := HN.out; rw [IntKind.wrap_i64]; omega
      clear hF1 hc1 hby hle hin
      have HR : Aside0 (∃ R, R = (ls.drop (i + 1)).flatten) := ⟨_, rfl⟩
      obtain ⟨R, hR⟩ := HR.out
      have HRR := Aside0.mk hR
      rw [← hR] at HI
      clear HR hR
      go_wp2
      go_loopw [7, 5] (fun s7 s5 wi => ∃ (A2 : Option Addr) (c2 : Nat) (l2 : List Int) (v2 : Value) (cur2 : List Int) (o2 : List S35), s7 = .slice A2 l2.length c2 ∧ Aside0 (Kd.F (Kd.int .u8) w ok A2 l2.length l2) ∧ Aside0 (l2.length ≤ c2) ∧ Aside0 (Byt l2) ∧ Aside0 (l2.length ≤ 1000000) ∧ Aside0 (Inv w base g v OUT CUR wi s5 (l2 ++ R) v2 cur2 o2)) (fun s7 _ _ => lenV s7)
      case atStart => exact ⟨A1, c1, l, v', cur', o, rfl, HF1, HC1, HB1, HL1, HI⟩
      case round =>
        clear HI HF1 HC1 HB1 HL1 hx0
        obtain ⟨A2, c2, l2, v2, cur2, o2, rfl, HF2, HC2, HB2, HL2, HI2⟩ := hrel
        by_cases hnl : nl l2 < l2.length
        · have HNL := Aside0.mk hnl
          clear hnl
          have HA : Aside0 (Below wr.heap.size wr (wr.alloc (.cells #[.int .u8 10] 5))) := ⟨below_alloc (Below.refl _ _) _⟩
          have HFA : Aside0 (Kd.F (Kd.int .u8) (wr.alloc (.cells #[.int .u8 10] 5)) ok A2 l2.length l2) := ⟨Kd.F_step HF2.out (fun k hk _ => (HI2.out.move HA.out).oth.block k (HOK.out k hk).1 (HOK.out k hk).2.1 (HOK.out k hk).2.2)⟩
          obtain ⟨la, ld, A3, c3, hcut, hFa, hFd, hcd, hca, hlen, hbd, heq⟩ := cut_some w (wr.alloc (.cells #[.int .u8 10] 5)) A2 c2 wr.heap.size l2 ok HF2.out (Kd.F_now HFA.out) HB2.out HC2.out HL2.out ((blk_cell (blk_new wr _) 0).trans rfl) HNL.out
          have HTA : ∀ q, Kd.F (Kd.int .u8) ((wr.alloc (.cells #[.int .u8 10] 5)).drewN q) ok A2 la.length la := fun q => Kd.F_step hFa (fun k hk _ => (HI2.out.move (pw_below_drewN HA.out q)).oth.block k (HOK.out k hk).1 (HOK.out k hk).2.1 (HOK.out k hk).2.2)
          have HFD := Aside0.mk hFd
          have HCD := Aside0.mk hcd
          have HLEN := Aside0.mk hlen
          have HBD := Aside0.mk hbd
          have HCA := Aside0.mk hca
          have HEQ := Aside0.mk (heq cur2 R)
          have hla : la.length ≤ 1000000 := by have := HL2.out; omega
          have HLA := Aside0.mk hla
          clear hFa hFd hcd hlen hbd heq hla hca
          go_wp2_with (first
            | (go_at_call 12; refine hcut.mono ?_; rintro e w' ⟨rfl, q, rfl⟩)
            | (go_at_call 13; refine (Sc.take (HI2.out.move (pw_below_drewN HA.out q)).st A2 c2 la ok (HTA q) (fun k hk => (HOK.out k hk).2.1) HCA.out HLA.out).mono ?_; rintro e w13 ⟨rfl, v3, hs, hv, ho⟩; have HI3 := Aside0.mk ((HI2.out.move (pw_below_drewN HA.out q)).took ho hs hv HEQ.out (by have := HLEN.out; simp only [List.length_append, List.length_cons]; omega)); clear hs hv ho)
            | (go_at_call 14; refine (Sc.stop HI3.out.st).mono ?_; rintro e w14 ⟨rfl, hs, ho⟩; obtain ⟨hR, hO, hz⟩ := HI3.out.ended ho; have HS4 := Aside0.mk hs; have HR4 := Aside0.mk hR; have HO4 := Aside0.mk hO; have HZ4 := Aside0.mk hz; clear hs ho hR hO hz)
            | ((with_reducible refine gate_builtin (b := .append) (xs := #[.tmp 29, .tmp 32]) rfl ?_); at_builtin; refine Kd.R_append k35 (w0 := w14) w.heap.size rfl (.tmp 29) (.tmp 32) 28 35 (.agg #[.string ⟨#[]⟩, .int .i64 0]) 24 rfl Try.underlying28 info35 rfl (by decide) (by omega) u5 o2 (lineOf (cur2 ++ la)) [.string (lineOf (cur2 ++ la)).f0, .int .i64 (lineOf (cur2 ++ la)).f1] (fun k => k ≠ g) (fun _ => False) rfl rfl (k35_mkM _ _ _ _) (fun _ hk => hk.elim) (fun k hk => by have := HS4.out.lg; omega) HR4.out (Below.refl _ _) HZ4.out (by have := HI2.out.few; omega) ?_; intro v5 w5 ho hb hg hat; have HI5 := Aside0.mk (HI3.out.pushed HS4.out HO4.out HR4.out hg ho); clear ho hb hg hat))
          go_roundw
          case rel => exact ⟨A3, c3, ld, _, _, _, rfl, HFD, HCD, HBD, ⟨by have := HLEN.out; have := HL2.out; omega⟩, HI5⟩
          case measure => have := HLEN.out; simp [lenV]; omega
        · have HNL := Aside0.mk hnl
          clear hnl
          have HA : Aside0 (Below wr.heap.size wr (wr.alloc (.cells #[.int .u8 10] 5))) := ⟨below_alloc (Below.refl _ _) _⟩
          have HTA : ∀ q, Kd.F (Kd.int .u8) ((wr.alloc (.cells #[.int .u8 10] 5)).drewN q) ok A2 l2.length l2 := fun q => Kd.F_step HF2.out (fun k hk _ => (HI2.out.move (pw_below_drewN HA.out q)).oth.block k (HOK.out k hk).1 (HOK.out k hk).2.1 (HOK.out k hk).2.2)
          have HEQ := Aside0.mk (linesOf_rest cur2 l2 R HNL.out).symm
          go_wp2_with (first
            | (go_at_call 12; refine (cut_none A2 l2.length c2 wr.heap.size l2 _ (Kd.F_now (Kd.F_step HF2.out (fun k hk _ => (HI2.out.move HA.out).oth.block k (HOK.out k hk).1 (HOK.out k hk).2.1 (HOK.out k hk).2.2))) HB2.out ((blk_cell (blk_new wr _) 0).trans rfl) HNL.out).mono ?_; rintro e w' ⟨rfl, q, rfl⟩)
            | (go_at_call 13; refine (Sc.take (HI2.out.move (pw_below_drewN HA.out q)).st A2 c2 l2 ok (HTA q) (fun k hk => (HOK.out k hk).2.1) HC2.out HL2.out).mono ?_; rintro e w13 ⟨rfl, v3, hs, hv, ho⟩; have HI3 := Aside0.mk ((HI2.out.move (pw_below_drewN HA.out q)).took ho hs hv HEQ.out (by simp only [List.length_append]; omega)); clear hs hv ho))
          go_roundw
          case rel =>
            exact ⟨i + 1, _, _, _, by go_num, hlt, ⟨by rw [← HRR.out]; exact HI3.out⟩⟩
          case measure => simp [intOf]; omega
    · obtain rfl : i = ls.length := by omega
      rw [List.drop_length] at HI
      clear hin hlt
      go_wp2
      go_ret
      have h1 := HI.out.all
      have h2 := HI.out.cur
      simp only [List.flatten_nil, linesOf, List.append_nil] at h1 h2
      subst h1 h2
      exact ⟨_, _, rfl, HI.out⟩
end Go.Proofs.Ytlnllcgepplneaa.MFrameLines
