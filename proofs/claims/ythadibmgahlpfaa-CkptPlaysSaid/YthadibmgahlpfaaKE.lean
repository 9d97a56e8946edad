/- Marks by their cells alone: a place, a snapshot's numbers, and where its lists lie. -/
import Derived.Test.YthadibmgahlpfaaDBase
namespace Go.Proofs.Ythadibmgahlpfaa.MD
open Go Go.RowKit Go.Proofs Go.Proofs.YthadibmgahlpfaaW.PrintWords Go.Proofs.YthadibmgahlpfaaW.PrintLast Go.Proofs.YthadibmgahlpfaaW.PrintMore
set_option linter.unusedVariables false
structure E where
  f0 : Int
  s : S38
  A5 : Option Addr
  c5 : Nat
  A6 : Option Addr
  c6 : Nat
  A7 : Option Addr
  c7 : Nat
  A8 : Option Addr
  c8 : Nat
  A9 : Option Addr
  c9 : Nat
  A11 : Option Addr
  c11 : Nat
  A13 : Option Addr
  c13 : Nat
def encE (x : E) : List Value := [.int .i64 x.f0, .int .i64 x.s.f0, .int .i64 x.s.f1, .int .i64 x.s.f2, .int .i64 x.s.f3, .int .u64 x.s.f4, .slice x.A5 x.s.f5.length x.c5, .slice x.A6 x.s.f6.length x.c6, .slice x.A7 x.s.f7.length x.c7, .slice x.A8 x.s.f8.length x.c8, .slice x.A9 x.s.f9.length x.c9, .string x.s.f10.f0, .slice x.A11 x.s.f10.f1.length x.c11, .int .u64 x.s.f10.f2, .slice x.A13 x.s.f10.f3.length x.c13]
def tailE (x : E) : List Value := [.int .i64 x.s.f0, .int .i64 x.s.f1, .int .i64 x.s.f2, .int .i64 x.s.f3, .int .u64 x.s.f4, .slice x.A5 x.s.f5.length x.c5, .slice x.A6 x.s.f6.length x.c6, .slice x.A7 x.s.f7.length x.c7, .slice x.A8 x.s.f8.length x.c8, .slice x.A9 x.s.f9.length x.c9, .string x.s.f10.f0, .slice x.A11 x.s.f10.f1.length x.c11, .int .u64 x.s.f10.f2, .slice x.A13 x.s.f10.f3.length x.c13]
theorem encE_tail (x : E) : encE x = .int .i64 x.f0 :: tailE x := rfl
def zS : S38 := ⟨0, 0, 0, 0, 0, [], [], [], [], [], ⟨ByteArray.empty, [], 0, []⟩⟩
def zE : E := ⟨0, zS, none, 0, none, 0, none, 0, none, 0, none, 0, none, 0, none, 0⟩
theorem encE_one (x : E) : ∀ v ∈ encE x, v.oneCell' = true := by
  intro v hv
  simp only [encE, List.mem_cons, List.not_mem_nil, or_false] at hv
  rcases hv with rfl | rfl | rfl | rfl | rfl | rfl | rfl | rfl | rfl | rfl | rfl | rfl | rfl | rfl | rfl <;> rfl
def kE : Kd E where
  sz := 15
  E := []
  K := fun _ x cs => cs = encE x
  M := fun _ _ _ x cs => cs = encE x
  K_len := fun h => by rw [h]; rfl
  K_one := fun h u hu => by rw [h] at hu; exact encE_one _ u hu
  K_below := fun _ h => h
  K_of_M := fun h => h
  M_mono := fun _ h => h
  M_bound := fun h => h
  M_move := fun _ h => h
  M_lower := fun _ h => h
theorem kE_mk (w : World) (x : E) : kE.K w x (encE x) := rfl
theorem kE_mkM (w : World) (base : Nat) (ok : Nat → Prop) (x : E) : kE.M w base ok x (encE x) := rfl
theorem kE_openM {w : World} {base : Nat} {ok : Nat → Prop} {x : E} {cs : List Value} (h : kE.M w base ok x cs) : cs = encE x := h
def rd_E (xs : List E) (i : Int) : E := xs.getD i.toNat zE
theorem at_E {w : World} {A : Option Addr} {n : Nat} {xs : List E} (h : Kd.C kE w A n xs) (i : Int) (h0 : 0 ≤ i) (h1 : i < n) : ∃ ad, A = some ad ∧ w.cell? (ad.add (i.toNat * 15)) = some (.int .i64 (rd_E xs i).f0) ∧ w.cell? ⟨(ad.add (i.toNat * 15)).block, (ad.add (i.toNat * 15)).off + 1, none⟩ = some (.int .i64 (rd_E xs i).s.f0) ∧ w.cell? ⟨(ad.add (i.toNat * 15)).block, (ad.add (i.toNat * 15)).off + 2, none⟩ = some (.int .i64 (rd_E xs i).s.f1) ∧ w.cell? ⟨(ad.add (i.toNat * 15)).block, (ad.add (i.toNat * 15)).off + 3, none⟩ = some (.int .i64 (rd_E xs i).s.f2) ∧ w.cell? ⟨(ad.add (i.toNat * 15)).block, (ad.add (i.toNat * 15)).off + 4, none⟩ = some (.int .i64 (rd_E xs i).s.f3) ∧ w.cell? ⟨(ad.add (i.toNat * 15)).block, (ad.add (i.toNat * 15)).off + 5, none⟩ = some (.int .u64 (rd_E xs i).s.f4) ∧ w.cell? ⟨(ad.add (i.toNat * 15)).block, (ad.add (i.toNat * 15)).off + 6, none⟩ = some (.slice (rd_E xs i).A5 (rd_E xs i).s.f5.length (rd_E xs i).c5) ∧ w.cell? ⟨(ad.add (i.toNat * 15)).block, (ad.add (i.toNat * 15)).off + 7, none⟩ = some (.slice (rd_E xs i).A6 (rd_E xs i).s.f6.length (rd_E xs i).c6) ∧ w.cell? ⟨(ad.add (i.toNat * 15)).block, (ad.add (i.toNat * 15)).off + 8, none⟩ = some (.slice (rd_E xs i).A7 (rd_E xs i).s.f7.length (rd_E xs i).c7) ∧ w.cell? ⟨(ad.add (i.toNat * 15)).block, (ad.add (i.toNat * 15)).off + 9, none⟩ = some (.slice (rd_E xs i).A8 (rd_E xs i).s.f8.length (rd_E xs i).c8) ∧ w.cell? ⟨(ad.add (i.toNat * 15)).block, (ad.add (i.toNat * 15)).off + 10, none⟩ = some (.slice (rd_E xs i).A9 (rd_E xs i).s.f9.length (rd_E xs i).c9) ∧ w.cell? ⟨(ad.add (i.toNat * 15)).block, (ad.add (i.toNat * 15)).off + 11, none⟩ = some (.string (rd_E xs i).s.f10.f0) ∧ w.cell? ⟨(ad.add (i.toNat * 15)).block, (ad.add (i.toNat * 15)).off + 12, none⟩ = some (.slice (rd_E xs i).A11 (rd_E xs i).s.f10.f1.length (rd_E xs i).c11) ∧ w.cell? ⟨(ad.add (i.toNat * 15)).block, (ad.add (i.toNat * 15)).off + 13, none⟩ = some (.int .u64 (rd_E xs i).s.f10.f2) ∧ w.cell? ⟨(ad.add (i.toNat * 15)).block, (ad.add (i.toNat * 15)).off + 14, none⟩ = some (.slice (rd_E xs i).A13 (rd_E xs i).s.f10.f3.length (rd_E xs i).c13) := by
  obtain ⟨ad, c, e, _, hK, hc0⟩ := Kd.C_get h zE i h0 h1
  have hc : ∀ j u, c[j]? = some u → w.cell? (ad.add (i.toNat * 15 + j)) = some u := hc0
  have hK' : c = encE (rd_E xs i) := hK
  subst hK'
  exact ⟨ad, e, hc 0 _ rfl, by rw [← add_field _ _ 1 (by omega)]; exact hc 1 _ rfl, by rw [← add_field _ _ 2 (by omega)]; exact hc 2 _ rfl, by rw [← add_field _ _ 3 (by omega)]; exact hc 3 _ rfl, by rw [← add_field _ _ 4 (by omega)]; exact hc 4 _ rfl, by rw [← add_field _ _ 5 (by omega)]; exact hc 5 _ rfl, by rw [← add_field _ _ 6 (by omega)]; exact hc 6 _ rfl, by rw [← add_field _ _ 7 (by omega)]; exact hc 7 _ rfl, by rw [← add_field _ _ 8 (by omega)]; exact hc 8 _ rfl, by rw [← add_field _ _ 9 (by omega)]; exact hc 9 _ rfl, by rw [← add_field _ _ 10 (by omega)]; exact hc 10 _ rfl, by rw [← add_field _ _ 11 (by omega)]; exact hc 11 _ rfl, by rw [← add_field _ _ 12 (by omega)]; exact hc 12 _ rfl, by rw [← add_field _ _ 13 (by omega)]; exact hc 13 _ rfl, by rw [← add_field _ _ 14 (by omega)]; exact hc 14 _ rfl⟩
end Go.Proofs.Ythadibmgahlpfaa.MD
