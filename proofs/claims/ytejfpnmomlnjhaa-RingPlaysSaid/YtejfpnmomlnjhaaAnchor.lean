/- The document's example of a ring, walked: the anchor of the laws answers true. -/
import Derived.Test.YtejfpnmomlnjhaaRingS
namespace Go.Proofs.Ytejfpnmomlnjhaa.RS
open Go.RowKit Go.Proofs.YtejfpnmomlnjhaaW.PrintWords Go.Proofs.Ytejfpnmomlnjhaa.Plain
set_option linter.unusedVariables false
set_option linter.unusedSimpArgs false

theorem At.alloc {w : World} {b g m f n : Nat} {buf : List ByteArray} (h : At w b g m f n buf) (o : Obj) : At (w.alloc o) b g m f n buf :=
  ⟨h.len, h.m64, h.nm, h.fm, h.ne, (World.cell?_alloc_lt w o _ h.lb).trans h.c0, (World.cell?_alloc_lt w o _ h.lb).trans h.c1, (World.cell?_alloc_lt w o _ h.lb).trans h.c2,
   (World.frozen?_alloc_old w o _ (Nat.ne_of_lt h.lb)).trans h.z1, (World.frozen?_alloc_old w o _ (Nat.ne_of_lt h.lb)).trans h.z2, fun j hj => (World.cell?_alloc_lt w o _ h.lg).trans (h.cg j hj),
   fun j hj => (World.frozen?_alloc_old w o _ (Nat.ne_of_lt h.lg)).trans (h.zg j hj), by simp; have := h.lb; omega, by simp; have := h.lg; omega⟩

def abc : List ByteArray := [⟨#[97]⟩, ⟨#[98]⟩, ⟨#[99]⟩]
theorem abc_at (w : World) : Kd.string.C (w.alloc (.cells #[.string ⟨#[97]⟩, .string ⟨#[98]⟩, .string ⟨#[99]⟩] 9)) (some ⟨w.heap.size, 0, none⟩) abc.length abc := by
  refine Kd.C_of_reads (d := ByteArray.empty) ⟨rfl, by decide, fun _ => ⟨_, rfl, fun j hj => ?_⟩⟩
  have e : (⟨w.heap.size, 0, none⟩ : Addr).add j = ⟨w.heap.size, j, none⟩ := by simp [Addr.add]; intro h; exact h.symm
  rw [e, World.cell?_alloc_new]
  match j, hj with
  | 0, _ => rfl
  | 1, _ => rfl
  | 2, _ => rfl

set_option maxHeartbeats 2000000 in
theorem anchor_any (w : World) : Calls Try.prog 5 #[] w fun e w' => e = .returned (.bool true) ∧ Below w.heap.size w w' := by
  go_enter Try.func5, Try.ntmps5
  go_wp2_with fail
  refine (new_in w 2 (by omega)).mono ?_
  rintro e w1 ⟨rfl, hat, hb⟩
  have hlb := hat.lb
  have hlg := hat.lg
  have hat2 := hat.alloc (.cells #[.string ⟨#[97]⟩, .string ⟨#[98]⟩, .string ⟨#[99]⟩] 9)
  have habc := abc_at w1
  clear hat
  go_wp2_with fail
  refine (push_any _ _ _ _ _ _ _ (some ⟨w1.heap.size, 0, none⟩) 3 abc hat2 habc (by decide) ?ha (by decide)).mono ?_
  case ha =>
    intro ad hx _
    injection hx with hx
    subst hx
    simp
    exact ⟨by omega, by omega⟩
  rintro e w2 ⟨rfl, f2, n2, buf2, hat3, hcon, hoth⟩
  have hn2 : n2 = 2 := by
    have := congrArg List.length hcon
    rw [con_length] at this
    rw [this]; rfl
  subst hn2
  have hb3 : Below w.heap.size w w2 := hoth.below (hb.alloc hb.size _) (by omega) (Nat.le_refl _) (by simp; omega)
  have h0 := fun W (hw : At W (w.heap.size + 1) w.heap.size 2 f2 2 buf2) => at_in W (w.heap.size + 1) w.heap.size 2 f2 2 buf2 0 hw (by omega)
  have h1 := fun W (hw : At W (w.heap.size + 1) w.heap.size 2 f2 2 buf2) => at_in W (w.heap.size + 1) w.heap.size 2 f2 2 buf2 1 hw (by omega)
  rw [hcon, show ((last 2 (con ByteArray.empty 2 0 0 (List.replicate 2 ByteArray.empty) ++ List.take abc.length abc)).getD (2 - 1 - 0) ByteArray.empty) = (⟨#[99]⟩ : ByteArray) from rfl] at h0
  rw [hcon, show ((last 2 (con ByteArray.empty 2 0 0 (List.replicate 2 ByteArray.empty) ++ List.take abc.length abc)).getD (2 - 1 - 1) ByteArray.empty) = (⟨#[98]⟩ : ByteArray) from rfl] at h1
  have hl := fun W (hw : At W (w.heap.size + 1) w.heap.size 2 f2 2 buf2) => len_any W (w.heap.size + 1) w.heap.size 2 f2 2 buf2 hw
  have hm := fun W (hw : At W (w.heap.size + 1) w.heap.size 2 f2 2 buf2) => most_any W (w.heap.size + 1) w.heap.size 2 f2 2 buf2 hw
  clear hcon hoth habc hat2 hb hlb hlg
  go_wp2_with fail
  refine (h0 _ hat3).mono ?_
  rintro e w3 ⟨rfl, ⟨⟨d1, rfl⟩⟩⟩
  go_wp2_with fail
  refine (h1 _ (hat3.drewN _)).mono ?_
  rintro e w3 ⟨rfl, ⟨⟨d2, rfl⟩⟩⟩
  go_wp2_with fail
  refine (hl _ (by first | exact hat3.drewN _ | exact (hat3.drewN _).drewN _)).mono ?_
  rintro e w3 ⟨rfl, rfl⟩
  go_wp2_with fail
  refine (hm _ (by first | exact hat3.drewN _ | exact (hat3.drewN _).drewN _)).mono ?_
  rintro e w3 ⟨rfl, rfl⟩
  go_wp2_with fail
  go_ret
  exact ⟨rfl, hb3.os, hb3.tape, hb3.output, hb3.size, hb3.block⟩
end Go.Proofs.Ytejfpnmomlnjhaa.RS
