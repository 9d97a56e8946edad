/- One piece fed. -/
import Derived.Test.YtlnllcgepplneaaFLeft
import Derived.Test.YtlnllcgepplneaaFRefs
namespace Go.Proofs.Ytlnllcgepplneaa.MFrameLines
open Go.RowKit Go.Proofs Go.Proofs.YtlnllcgepplneaaW.PrintWords Go.Proofs.YtlnllcgepplneaaW.PrintLast Go.Proofs.YtlnllcgepplneaaW.PrintMore
set_option linter.unusedVariables false
set_option linter.unusedSimpArgs false
/-- Bytes that are read: in their block alone. -/
theorem F_scalar {W : World} {A : Option Addr} {n : Nat} {xs : List Int} (h : Kd.C (Kd.int .u8) W A n xs) : Kd.F (Kd.int .u8) W (fun k => (∃ ad, A = some ad ∧ k = ad.block) ∧ k < W.heap.size) A n xs := by
  obtain ⟨h1, h2, h3⟩ := h
  intro W' hW
  refine ⟨h1, h2, fun hn => ?_⟩
  obtain ⟨ad, e, hc⟩ := h3 hn
  refine ⟨ad, e, fun j p hj => ?_⟩
  obtain ⟨c, hl, hr, hcell⟩ := hc j p hj
  refine ⟨c, hl, hr, fun i u hu => ?_⟩
  have hx := hcell i u hu
  have hlt := World.block_lt_of_cell? W _ hx
  rw [add_block] at hlt
  refine (World.cell?_of_block ?_).trans hx
  rw [add_block]
  exact hW _ ⟨⟨ad, e, rfl⟩, hlt⟩ hlt
/-- What a kind reads, in the blocks that there are. -/
theorem F_came {α : Type} {d : Kd α} (hd : Kd.Heap d) {W : World} {A : Option Addr} {n : Nat} {xs : List α} (h : d.C W A n xs) : Kd.F d W (fun k => k < W.heap.size) A n xs := fun W' hW => hd.C (fun k hk => hW k hk hk) h
theorem F_one {W : World} {A : Option Addr} {c : Nat} {l : List Int} {ok : Nat → Prop} (h : Kd.F (Kd.int .u8) W ok A l.length l) (hc : l.length ≤ c) :
    Kd.F (Kd.slice 5 (Kd.int .u8)) (W.alloc (.cells #[.slice A l.length c] 24)) (fun k => (ok k ∧ k < W.heap.size) ∨ k = W.heap.size) (some ⟨W.heap.size, 0, none⟩) [l].length [l] := by
  intro W' hW
  have hn : (W.alloc (.cells #[.slice A l.length c] 24)).heap[W.heap.size]? = some (.cells #[.slice A l.length c] 24 (0, 0)) := blk_new W _
  have hn' := (hW W.heap.size (.inr rfl) (by simp)).trans hn
  refine ⟨rfl, by show 1 ≤ _; decide, fun _ => ⟨_, rfl, fun j p hj => ?_⟩⟩
  match j, hj with
  | 0, hj =>
    obtain rfl : l = p := by simpa using hj
    refine ⟨[.slice A l.length c], rfl, ⟨A, c, rfl, hc, h W' (fun k hk hlt => (hW k (.inl ⟨hk, hlt⟩) (by simp; omega)).trans ((below_alloc (Below.refl W.heap.size W) _).block k hlt))⟩, fun i u hu => ?_⟩
    match i, hu with
    | 0, hu =>
      obtain rfl : _ = u := by simpa using hu
      exact (blk_cell hn' 0).trans rfl
/-- One piece fed, in a box of its own. -/
theorem feed_one (W : World) (base g : Nat) (v : Value) (cur : List Int) (A : Option Addr) (c : Nat) (l : List Int) (ok : Nat → Prop)
    (h : Sc W base g v cur) (hF : Kd.F (Kd.int .u8) W ok A l.length l) (hok : ∀ k, ok k → k < W.heap.size → k ≠ g ∧ some k ≠ v.ownBlock)
    (hc : l.length ≤ c) (hl : l.length ≤ 1000000) (hb : Byt l) :
    Calls Try.prog 7 #[.pointer (some ⟨g, 0, none⟩), .slice (some ⟨W.heap.size, 0, none⟩) 1 1] (W.alloc (.cells #[.slice A l.length c] 24)) fun e w' => ∃ vo v', e = .returned vo ∧ Inv (W.alloc (.cells #[.slice A l.length c] 24)) base g v (linesOf cur l).1 (linesOf cur l).2 w' vo [] v' (linesOf cur l).2 (linesOf cur l).1 := by
  have hb0 : Below W.heap.size W (W.alloc (.cells #[.slice A l.length c] 24)) := below_alloc (Below.refl _ _) _
  have hx := feed_any (W.alloc (.cells #[.slice A l.length c] 24)) base g v cur (some ⟨W.heap.size, 0, none⟩) 1 [l] (fun k => (ok k ∧ k < W.heap.size) ∨ k = W.heap.size) (h.below hb0) (F_one hF hc) (fun k hk => ?_) (by show 1 ≤ 9223372036854775807; decide) (by simpa using hl) (fun x hx => by rw [List.mem_singleton.1 hx]; exact hb)
  · rw [show [l].flatten = l by simp] at hx
    exact hx
  · rcases hk with ⟨hk, hlt⟩ | rfl
    · exact ⟨by simp; omega, hok k hk hlt⟩
    · have := h.lg
      refine ⟨by simp, by omega, fun e => ?_⟩
      obtain ⟨p, lo, od, so, h1, h2⟩ := h
      have := h1.own_lt _ e.symm
      omega
/-- A new reader. -/
theorem Sc.new (w : World) (base : Nat) (hb : base ≤ w.heap.size) : Sc (w.alloc (.cells #[.slice none 0 0, .bool false, .bool false, .bool false] 31)) base w.heap.size (.slice none 0 0) [] := by
  have hn : (w.alloc (.cells #[.slice none 0 0, .bool false, .bool false, .bool false] 31)).heap[w.heap.size]? = some (.cells #[.slice none 0 0, .bool false, .bool false, .bool false] 31 (0, 0)) := blk_new w _
  exact ⟨[], false, false, false, ⟨(blk_cell hn 0).trans rfl, (blk_cell hn 1).trans rfl, (blk_cell hn 2).trans rfl, (blk_cell hn 3).trans rfl, blk_frozen hn 0, blk_frozen hn 1, blk_frozen hn 2, blk_frozen hn 3, Kd.R_nil _ _ _ _ _, by simp, hb⟩, Rel.nil⟩
theorem byt_bytes (s : ByteArray) : Byt (bytesOf s) := by
  intro x hx
  unfold bytesOf at hx
  obtain ⟨b, _, rfl⟩ := List.mem_map.1 hx
  have := b.toNat_lt
  omega
theorem bytes_F (W : World) (s : ByteArray) (hs : s.size ≤ 9223372036854775807) : Kd.F (Kd.int .u8) (Lib.bytesWorld W 5 s) (fun k => k = W.heap.size) (some ⟨W.heap.size, 0, none⟩) (bytesOf s).length (bytesOf s) := by
  rw [bytesOf_length]
  refine Kd.F_mono (F_scalar (Kd.C_of_reads (d := (0 : Int)) (h1 := fun _ => rfl) (bytes_reads W 5 s hs))) ?_
  rintro k ⟨⟨ad, e, rfl⟩, _⟩
  injection e with e
  rw [← e]
end Go.Proofs.Ytlnllcgepplneaa.MFrameLines
