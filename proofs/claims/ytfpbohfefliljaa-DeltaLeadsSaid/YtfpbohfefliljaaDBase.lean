/- The kinds of values in memory: timers, values, snapshots (made by a program; Lean checks it). -/
import Derived.Test.YtfpbohfefliljaaProg
import Derived.Below
import Derived.Deep.Draws
import Derived.Deep.AppendLies
import Derived.Maps.AppendAt
import Derived.OwnWalk
import Derived.Laws.BytesArg
import Derived.Laws.MakeOwn
import Derived.Laws.OwnMore
import Derived.Deep.OwnRows
import Derived.Tactics
import Derived.Lib.ConvBytes
import Derived.Laws.Slices
import Derived.WalkKit
import Derived.KernelRfl
import Derived.RowKit3
import Derived.Deep.LoopGhost
import Derived.Deep.QuietTactic
import Derived.BigQuiet
import Derived.WideLaws
import Derived.Deep.DeepCutAuto
import Derived.Deep.CutBlock
import Derived.Deep.RegionHeld3
import Derived.Laws.Rows
import Derived.Lib.AppendStr
import Derived.ArgAppend
import Derived.Laws.IdiomCopy
import Derived.OrdersHeld
import Derived.Laws.BitsLemmas
import Derived.RowKit
import Derived.Test.YtfpbohfefliljaaWWords
import Derived.Test.YtfpbohfefliljaaWLast
import Derived.Test.YtfpbohfefliljaaWTab
import Derived.Test.YtfpbohfefliljaaWFour
import Derived.Test.YtfpbohfefliljaaWQPut
import Derived.Test.YtfpbohfefliljaaWApart
import Derived.Test.YtfpbohfefliljaaWArr
import Derived.Test.YtfpbohfefliljaaWZeros
import Derived.Test.YtfpbohfefliljaaWFoot
import Derived.Test.YtfpbohfefliljaaWKept
import Derived.Test.YtfpbohfefliljaaWShare
import Derived.Test.YtfpbohfefliljaaWN
import Derived.Test.YtfpbohfefliljaaWFootNe
import Derived.Test.YtfpbohfefliljaaWAt
import Derived.Test.YtfpbohfefliljaaWEqStruct
import Derived.Test.YtfpbohfefliljaaWRepsOne
import Derived.Test.YtfpbohfefliljaaWInv
import Derived.Test.YtfpbohfefliljaaWInvWords
import Derived.Test.YtfpbohfefliljaaWGuard
import Derived.Test.YtfpbohfefliljaaWNEv
import Derived.Test.YtfpbohfefliljaaWMore
namespace Go.Proofs.Ytfpbohfefliljaa.MD
open Go.RowKit Go.Proofs.YtfpbohfefliljaaW.PrintWords Go.Proofs.YtfpbohfefliljaaW.PrintLast Go.Proofs.YtfpbohfefliljaaW.PrintMore
attribute [local go_sem] max2_int min2_int max_two min_two max_three min_three max_four min_four   -- for this text's walks alone
set_option linter.unusedVariables false
set_option linter.unusedSimpArgs false



def errW : Option Int → Value
  | none => .nilIface
  | some c => .iface 0 (.int .i64 c)
theorem errW_none : errW none = .nilIface := rfl
theorem errW_some (c : Int) : errW (some c) = .iface 0 (.int .i64 c) := rfl

theorem info3 : (Try.prog.info? 3).map (fun i => (i.zero, i.size, i.bytes)) = some (some (.int .i64 0), 1, 8) := by kernel_rfl
theorem info9 : (Try.prog.info? 9).map (fun i => (i.zero, i.size, i.bytes)) = some (some (.string ⟨#[]⟩), 1, 16) := by kernel_rfl
theorem info22 : (Try.prog.info? 22).map (fun i => (i.zero, i.size, i.bytes)) = some (some (.slice none 0 0), 1, 24) := by kernel_rfl
theorem info38 : (Try.prog.info? 38).map (fun i => (i.zero, i.size, i.bytes)) = some (some (.int .u64 0), 1, 8) := by kernel_rfl
theorem info39 : (Try.prog.info? 39).map (fun i => (i.zero, i.size, i.bytes)) = some (some (.slice none 0 0), 1, 24) := by kernel_rfl
theorem info40 : (Try.prog.info? 40).map (fun i => (i.zero, i.size, i.bytes)) = some (some (.slice none 0 0), 1, 24) := by kernel_rfl
theorem info41 : (Try.prog.info? 41).map (fun i => (i.zero, i.size, i.bytes)) = some (some (.slice none 0 0), 1, 24) := by kernel_rfl
theorem info42 : (Try.prog.info? 42).map (fun i => (i.zero, i.size, i.bytes)) = some (some (.slice none 0 0), 1, 24) := by kernel_rfl
theorem info68 : (Try.prog.info? 68).map (fun i => (i.zero, i.size, i.bytes)) = some (some (.agg #[(.int .i64 0), (.int .i64 0), (.string ⟨#[]⟩)]), 3, 32) := by kernel_rfl
theorem info71 : (Try.prog.info? 71).map (fun i => (i.zero, i.size, i.bytes)) = some (some (.agg #[(.int .i64 0), (.int .i64 0), (.string ⟨#[]⟩)]), 3, 32) := by kernel_rfl
-- the values' own types
def rd_L1 (xs : List (List Int)) (i : Int) : (List Int) := xs.getD i.toNat ([] : List Int)
theorem at_L1 {w : World} {A : Option Addr} {n : Nat} {xs : List (List Int)} (h : Kd.C (Kd.slice 3 (Kd.int .i64)) w A n xs) (i : Int) (h0 : 0 ≤ i) (h1 : i < n) : ∃ ad A0 c0, A = some ad ∧ w.cell? (ad.add i.toNat) = some (.slice A0 (rd_L1 xs i).length c0) ∧ (rd_L1 xs i).length ≤ c0 ∧ (Kd.int .i64).C w A0 (rd_L1 xs i).length (rd_L1 xs i) := by
  obtain ⟨ad, c, e, _, hK, hc0⟩ := Kd.C_get h ([] : List Int) i h0 h1
  have hc : ∀ j u, c[j]? = some u → w.cell? (ad.add (i.toNat * 1 + j)) = some u := hc0
  obtain ⟨A0, c0, rfl, l0, g0⟩ := hK
  exact ⟨ad, A0, c0, e, by have hq := hc 0 _ rfl; rwa [Nat.mul_one, Nat.add_zero] at hq, l0, g0⟩

/-! #### struct type 68 -/
structure S68 where
  f0 : Int
  f1 : Int
  f2 : ByteArray
def z68 : S68 := ⟨(0 : Int), (0 : Int), (⟨#[]⟩ : ByteArray)⟩
def k68 : Kd S68 := Kd.iso (Kd.pair (Kd.int .i64) (Kd.pair (Kd.int .i64) Kd.string)) (fun x : S68 => (x.f0, x.f1, x.f2))
theorem k68_open {w : World} {x : S68} {cs : List Value} (h : k68.K w x cs) : cs = [.int .i64 x.f0, .int .i64 x.f1, .string x.f2] := by
  obtain ⟨_, _, rfl, rfl, ⟨_, _, rfl, rfl, rfl⟩⟩ := h
  exact rfl
theorem k68_openM {w : World} {base : Nat} {ok : Nat → Prop} {x : S68} {cs : List Value} (h : k68.M w base ok x cs) : cs = [.int .i64 x.f0, .int .i64 x.f1, .string x.f2] := by
  obtain ⟨_, _, rfl, rfl, ⟨_, _, rfl, rfl, rfl⟩⟩ := h
  exact rfl
theorem k68_mk (w : World) (x : S68)  : k68.K w x [.int .i64 x.f0, .int .i64 x.f1, .string x.f2] := ⟨[.int .i64 x.f0], [.int .i64 x.f1, .string x.f2], rfl, rfl, ⟨[.int .i64 x.f1], [.string x.f2], rfl, rfl, rfl⟩⟩
theorem k68_mkM (w : World) (base : Nat) (ok : Nat → Prop) (x : S68)  : k68.M w base ok x [.int .i64 x.f0, .int .i64 x.f1, .string x.f2] := ⟨[.int .i64 x.f0], [.int .i64 x.f1, .string x.f2], rfl, rfl, ⟨[.int .i64 x.f1], [.string x.f2], rfl, rfl, rfl⟩⟩
theorem k68_mkF (W : World) (ok : Nat → Prop) (x : S68) : Kd.FK k68 W ok x [.int .i64 x.f0, .int .i64 x.f1, .string x.f2] := fun W2 _ => k68_mk W2 x
def rd_T68 (xs : List S68) (i : Int) : S68 := xs.getD i.toNat z68
theorem at_T68 {w : World} {A : Option Addr} {n : Nat} {xs : List S68} (h : Kd.C k68 w A n xs) (i : Int) (h0 : 0 ≤ i) (h1 : i < n) : ∃ ad , A = some ad ∧ w.cell? (ad.add (i.toNat * 3)) = some (.int .i64 (rd_T68 xs i).f0) ∧ w.cell? ⟨(ad.add (i.toNat * 3)).block, (ad.add (i.toNat * 3)).off + 1, none⟩ = some (.int .i64 (rd_T68 xs i).f1) ∧ w.cell? ⟨(ad.add (i.toNat * 3)).block, (ad.add (i.toNat * 3)).off + 2, none⟩ = some (.string (rd_T68 xs i).f2) := by
  obtain ⟨ad, c, e, _, hK, hc0⟩ := Kd.C_get h z68 i h0 h1
  have hc : ∀ j u, c[j]? = some u → w.cell? (ad.add (i.toNat * 3 + j)) = some u := hc0
  obtain rfl := k68_open hK
  exact ⟨ad, e, hc 0 _ rfl, by rw [← add_field _ _ 1 (by omega)]; exact hc 1 _ rfl, by rw [← add_field _ _ 2 (by omega)]; exact hc 2 _ rfl⟩

/-! #### struct type 71 -/
structure S71 where
  f0 : Int
  f1 : Int
  f2 : ByteArray
def z71 : S71 := ⟨(0 : Int), (0 : Int), (⟨#[]⟩ : ByteArray)⟩
def k71 : Kd S71 := Kd.iso (Kd.pair (Kd.int .i64) (Kd.pair (Kd.int .i64) Kd.string)) (fun x : S71 => (x.f0, x.f1, x.f2))
theorem k71_open {w : World} {x : S71} {cs : List Value} (h : k71.K w x cs) : cs = [.int .i64 x.f0, .int .i64 x.f1, .string x.f2] := by
  obtain ⟨_, _, rfl, rfl, ⟨_, _, rfl, rfl, rfl⟩⟩ := h
  exact rfl
theorem k71_openM {w : World} {base : Nat} {ok : Nat → Prop} {x : S71} {cs : List Value} (h : k71.M w base ok x cs) : cs = [.int .i64 x.f0, .int .i64 x.f1, .string x.f2] := by
  obtain ⟨_, _, rfl, rfl, ⟨_, _, rfl, rfl, rfl⟩⟩ := h
  exact rfl
theorem k71_mk (w : World) (x : S71)  : k71.K w x [.int .i64 x.f0, .int .i64 x.f1, .string x.f2] := ⟨[.int .i64 x.f0], [.int .i64 x.f1, .string x.f2], rfl, rfl, ⟨[.int .i64 x.f1], [.string x.f2], rfl, rfl, rfl⟩⟩
theorem k71_mkM (w : World) (base : Nat) (ok : Nat → Prop) (x : S71)  : k71.M w base ok x [.int .i64 x.f0, .int .i64 x.f1, .string x.f2] := ⟨[.int .i64 x.f0], [.int .i64 x.f1, .string x.f2], rfl, rfl, ⟨[.int .i64 x.f1], [.string x.f2], rfl, rfl, rfl⟩⟩
theorem k71_mkF (W : World) (ok : Nat → Prop) (x : S71) : Kd.FK k71 W ok x [.int .i64 x.f0, .int .i64 x.f1, .string x.f2] := fun W2 _ => k71_mk W2 x
def rd_T71 (xs : List S71) (i : Int) : S71 := xs.getD i.toNat z71
theorem at_T71 {w : World} {A : Option Addr} {n : Nat} {xs : List S71} (h : Kd.C k71 w A n xs) (i : Int) (h0 : 0 ≤ i) (h1 : i < n) : ∃ ad , A = some ad ∧ w.cell? (ad.add (i.toNat * 3)) = some (.int .i64 (rd_T71 xs i).f0) ∧ w.cell? ⟨(ad.add (i.toNat * 3)).block, (ad.add (i.toNat * 3)).off + 1, none⟩ = some (.int .i64 (rd_T71 xs i).f1) ∧ w.cell? ⟨(ad.add (i.toNat * 3)).block, (ad.add (i.toNat * 3)).off + 2, none⟩ = some (.string (rd_T71 xs i).f2) := by
  obtain ⟨ad, c, e, _, hK, hc0⟩ := Kd.C_get h z71 i h0 h1
  have hc : ∀ j u, c[j]? = some u → w.cell? (ad.add (i.toNat * 3 + j)) = some u := hc0
  obtain rfl := k71_open hK
  exact ⟨ad, e, hc 0 _ rfl, by rw [← add_field _ _ 1 (by omega)]; exact hc 1 _ rfl, by rw [← add_field _ _ 2 (by omega)]; exact hc 2 _ rfl⟩

def rd_L6 (xs : List (List Int)) (i : Int) : (List Int) := xs.getD i.toNat ([] : List Int)
theorem at_L6 {w : World} {A : Option Addr} {n : Nat} {xs : List (List Int)} (h : Kd.C (Kd.slice 38 (Kd.int .u64)) w A n xs) (i : Int) (h0 : 0 ≤ i) (h1 : i < n) : ∃ ad A0 c0, A = some ad ∧ w.cell? (ad.add i.toNat) = some (.slice A0 (rd_L6 xs i).length c0) ∧ (rd_L6 xs i).length ≤ c0 ∧ (Kd.int .u64).C w A0 (rd_L6 xs i).length (rd_L6 xs i) := by
  obtain ⟨ad, c, e, _, hK, hc0⟩ := Kd.C_get h ([] : List Int) i h0 h1
  have hc : ∀ j u, c[j]? = some u → w.cell? (ad.add (i.toNat * 1 + j)) = some u := hc0
  obtain ⟨A0, c0, rfl, l0, g0⟩ := hK
  exact ⟨ad, A0, c0, e, by have hq := hc 0 _ rfl; rwa [Nat.mul_one, Nat.add_zero] at hq, l0, g0⟩

def rd_L7 (xs : List (List S68)) (i : Int) : (List S68) := xs.getD i.toNat ([] : List S68)
theorem at_L7 {w : World} {A : Option Addr} {n : Nat} {xs : List (List S68)} (h : Kd.C (Kd.slice 68 k68) w A n xs) (i : Int) (h0 : 0 ≤ i) (h1 : i < n) : ∃ ad A0 c0, A = some ad ∧ w.cell? (ad.add i.toNat) = some (.slice A0 (rd_L7 xs i).length c0) ∧ (rd_L7 xs i).length ≤ c0 ∧ k68.C w A0 (rd_L7 xs i).length (rd_L7 xs i) := by
  obtain ⟨ad, c, e, _, hK, hc0⟩ := Kd.C_get h ([] : List S68) i h0 h1
  have hc : ∀ j u, c[j]? = some u → w.cell? (ad.add (i.toNat * 1 + j)) = some u := hc0
  obtain ⟨A0, c0, rfl, l0, g0⟩ := hK
  exact ⟨ad, A0, c0, e, by have hq := hc 0 _ rfl; rwa [Nat.mul_one, Nat.add_zero] at hq, l0, g0⟩

def rd_L8 (xs : List (List ByteArray)) (i : Int) : (List ByteArray) := xs.getD i.toNat ([] : List ByteArray)
theorem at_L8 {w : World} {A : Option Addr} {n : Nat} {xs : List (List ByteArray)} (h : Kd.C (Kd.slice 9 Kd.string) w A n xs) (i : Int) (h0 : 0 ≤ i) (h1 : i < n) : ∃ ad A0 c0, A = some ad ∧ w.cell? (ad.add i.toNat) = some (.slice A0 (rd_L8 xs i).length c0) ∧ (rd_L8 xs i).length ≤ c0 ∧ Kd.string.C w A0 (rd_L8 xs i).length (rd_L8 xs i) := by
  obtain ⟨ad, c, e, _, hK, hc0⟩ := Kd.C_get h ([] : List ByteArray) i h0 h1
  have hc : ∀ j u, c[j]? = some u → w.cell? (ad.add (i.toNat * 1 + j)) = some u := hc0
  obtain ⟨A0, c0, rfl, l0, g0⟩ := hK
  exact ⟨ad, A0, c0, e, by have hq := hc 0 _ rfl; rwa [Nat.mul_one, Nat.add_zero] at hq, l0, g0⟩

def rd_L9 (xs : List (List S71)) (i : Int) : (List S71) := xs.getD i.toNat ([] : List S71)
theorem at_L9 {w : World} {A : Option Addr} {n : Nat} {xs : List (List S71)} (h : Kd.C (Kd.slice 71 k71) w A n xs) (i : Int) (h0 : 0 ≤ i) (h1 : i < n) : ∃ ad A0 c0, A = some ad ∧ w.cell? (ad.add i.toNat) = some (.slice A0 (rd_L9 xs i).length c0) ∧ (rd_L9 xs i).length ≤ c0 ∧ k71.C w A0 (rd_L9 xs i).length (rd_L9 xs i) := by
  obtain ⟨ad, c, e, _, hK, hc0⟩ := Kd.C_get h ([] : List S71) i h0 h1
  have hc : ∀ j u, c[j]? = some u → w.cell? (ad.add (i.toNat * 1 + j)) = some u := hc0
  obtain ⟨A0, c0, rfl, l0, g0⟩ := hK
  exact ⟨ad, A0, c0, e, by have hq := hc 0 _ rfl; rwa [Nat.mul_one, Nat.add_zero] at hq, l0, g0⟩

/-! #### struct type 44 -/
structure S44 where
  f0 : ByteArray
  f1 : (List Int)
  f2 : Int
  f3 : (List ByteArray)
def z44 : S44 := ⟨(⟨#[]⟩ : ByteArray), ([] : List Int), (0 : Int), ([] : List ByteArray)⟩
def k44 : Kd S44 := Kd.iso (Kd.pair Kd.string (Kd.pair (Kd.slice 3 (Kd.int .i64)) (Kd.pair (Kd.int .u64) (Kd.slice 9 Kd.string)))) (fun x : S44 => (x.f0, x.f1, x.f2, x.f3))
theorem k44_open {w : World} {x : S44} {cs : List Value} (h : k44.K w x cs) : ∃ A1 c1 A3 c3, cs = [.string x.f0, .slice A1 x.f1.length c1, .int .u64 x.f2, .slice A3 x.f3.length c3] ∧ x.f1.length ≤ c1 ∧ (Kd.int .i64).C w A1 x.f1.length x.f1 ∧ x.f3.length ≤ c3 ∧ Kd.string.C w A3 x.f3.length x.f3 := by
  obtain ⟨_, _, rfl, rfl, ⟨_, _, rfl, ⟨A1, c1, rfl, l1, g1⟩, ⟨_, _, rfl, rfl, ⟨A3, c3, rfl, l3, g3⟩⟩⟩⟩ := h
  exact ⟨A1, c1, A3, c3, rfl, l1, g1, l3, g3⟩
theorem k44_openM {w : World} {base : Nat} {ok : Nat → Prop} {x : S44} {cs : List Value} (h : k44.M w base ok x cs) : ∃ v1 v3, cs = [.string x.f0, v1, .int .u64 x.f2, v3] ∧ (Kd.int .i64).R 3 w base ok v1 x.f1 ∧ Kd.string.R 9 w base ok v3 x.f3 := by
  obtain ⟨_, _, rfl, rfl, ⟨_, _, rfl, ⟨v1, rfl, g1⟩, ⟨_, _, rfl, rfl, ⟨v3, rfl, g3⟩⟩⟩⟩ := h
  exact ⟨v1, v3, rfl, g1, g3⟩
theorem k44_mk (w : World) (x : S44) {A1 : Option Addr} {c1 : Nat} (l1 : x.f1.length ≤ c1) (g1 : (Kd.int .i64).C w A1 x.f1.length x.f1) {A3 : Option Addr} {c3 : Nat} (l3 : x.f3.length ≤ c3) (g3 : Kd.string.C w A3 x.f3.length x.f3) : k44.K w x [.string x.f0, .slice A1 x.f1.length c1, .int .u64 x.f2, .slice A3 x.f3.length c3] := ⟨[.string x.f0], [.slice A1 x.f1.length c1, .int .u64 x.f2, .slice A3 x.f3.length c3], rfl, rfl, ⟨[.slice A1 x.f1.length c1], [.int .u64 x.f2, .slice A3 x.f3.length c3], rfl, ⟨A1, c1, rfl, l1, g1⟩, ⟨[.int .u64 x.f2], [.slice A3 x.f3.length c3], rfl, rfl, ⟨A3, c3, rfl, l3, g3⟩⟩⟩⟩
theorem k44_mkM (w : World) (base : Nat) (ok : Nat → Prop) (x : S44) {v1 : Value} (g1 : (Kd.int .i64).R 3 w base ok v1 x.f1) {v3 : Value} (g3 : Kd.string.R 9 w base ok v3 x.f3) : k44.M w base ok x [.string x.f0, v1, .int .u64 x.f2, v3] := ⟨[.string x.f0], [v1, .int .u64 x.f2, v3], rfl, rfl, ⟨[v1], [.int .u64 x.f2, v3], rfl, ⟨v1, rfl, g1⟩, ⟨[.int .u64 x.f2], [v3], rfl, rfl, ⟨v3, rfl, g3⟩⟩⟩⟩
theorem k44_openF {W : World} {ok : Nat → Prop} {x : S44} {cs : List Value} (h : Kd.FK k44 W ok x cs) : ∃ A1 c1 A3 c3, cs = [.string x.f0, .slice A1 x.f1.length c1, .int .u64 x.f2, .slice A3 x.f3.length c3] ∧ x.f1.length ≤ c1 ∧ Kd.F (Kd.int .i64) W ok A1 x.f1.length x.f1 ∧ x.f3.length ≤ c3 ∧ Kd.F Kd.string W ok A3 x.f3.length x.f3 := by
  obtain ⟨A1, c1, A3, c3, rfl, l1, _, l3, _⟩ := k44_open (Kd.FK_now h)
  exact ⟨A1, c1, A3, c3, rfl, l1, (fun W' hW => by obtain ⟨A1_, c1_, A3_, c3_, he, l1_, g1_, l3_, g3_⟩ := k44_open (h W' hW); injection (Option.some.inj (show some (Value.slice A1 x.f1.length c1) = some (Value.slice A1_ x.f1.length c1_) from congrArg (fun l => l[1]?) he)) with ha_ _ _; rw [ha_]; exact g1_), l3, (fun W' hW => by obtain ⟨A1_, c1_, A3_, c3_, he, l1_, g1_, l3_, g3_⟩ := k44_open (h W' hW); injection (Option.some.inj (show some (Value.slice A3 x.f3.length c3) = some (Value.slice A3_ x.f3.length c3_) from congrArg (fun l => l[3]?) he)) with ha_ _ _; rw [ha_]; exact g3_)⟩
theorem k44_mkF (W : World) (ok : Nat → Prop) (x : S44) {A1 : Option Addr} {c1 : Nat} (l1 : x.f1.length ≤ c1) (g1 : Kd.F (Kd.int .i64) W ok A1 x.f1.length x.f1) {A3 : Option Addr} {c3 : Nat} (l3 : x.f3.length ≤ c3) (g3 : Kd.F Kd.string W ok A3 x.f3.length x.f3) : Kd.FK k44 W ok x [.string x.f0, .slice A1 x.f1.length c1, .int .u64 x.f2, .slice A3 x.f3.length c3] := fun W2 hW => k44_mk W2 x l1 (g1 W2 hW) l3 (g3 W2 hW)
def rd_T44 (xs : List S44) (i : Int) : S44 := xs.getD i.toNat z44
theorem at_T44 {w : World} {A : Option Addr} {n : Nat} {xs : List S44} (h : Kd.C k44 w A n xs) (i : Int) (h0 : 0 ≤ i) (h1 : i < n) : ∃ ad A1 c1 A3 c3, A = some ad ∧ w.cell? (ad.add (i.toNat * 4)) = some (.string (rd_T44 xs i).f0) ∧ w.cell? ⟨(ad.add (i.toNat * 4)).block, (ad.add (i.toNat * 4)).off + 1, none⟩ = some (.slice A1 (rd_T44 xs i).f1.length c1) ∧ w.cell? ⟨(ad.add (i.toNat * 4)).block, (ad.add (i.toNat * 4)).off + 2, none⟩ = some (.int .u64 (rd_T44 xs i).f2) ∧ w.cell? ⟨(ad.add (i.toNat * 4)).block, (ad.add (i.toNat * 4)).off + 3, none⟩ = some (.slice A3 (rd_T44 xs i).f3.length c3) ∧ (rd_T44 xs i).f1.length ≤ c1 ∧ (Kd.int .i64).C w A1 (rd_T44 xs i).f1.length (rd_T44 xs i).f1 ∧ (rd_T44 xs i).f3.length ≤ c3 ∧ Kd.string.C w A3 (rd_T44 xs i).f3.length (rd_T44 xs i).f3 := by
  obtain ⟨ad, c, e, _, hK, hc0⟩ := Kd.C_get h z44 i h0 h1
  have hc : ∀ j u, c[j]? = some u → w.cell? (ad.add (i.toNat * 4 + j)) = some u := hc0
  obtain ⟨A1, c1, A3, c3, rfl, l1, g1, l3, g3⟩ := k44_open hK
  exact ⟨ad, A1, c1, A3, c3, e, hc 0 _ rfl, by rw [← add_field _ _ 1 (by omega)]; exact hc 1 _ rfl, by rw [← add_field _ _ 2 (by omega)]; exact hc 2 _ rfl, by rw [← add_field _ _ 3 (by omega)]; exact hc 3 _ rfl, l1, g1, l3, g3⟩

/-! #### struct type 46 -/
structure S46 where
  f0 : Int
  f1 : Int
  f2 : Int
  f3 : Int
  f4 : Int
  f5 : (List Int)
  f6 : (List S68)
  f7 : (List ByteArray)
  f8 : (List ByteArray)
  f9 : (List S71)
  f10 : S44
def z46 : S46 := ⟨(0 : Int), (0 : Int), (0 : Int), (0 : Int), (0 : Int), ([] : List Int), ([] : List S68), ([] : List ByteArray), ([] : List ByteArray), ([] : List S71), z44⟩
def k46 : Kd S46 := Kd.iso (Kd.pair (Kd.int .i64) (Kd.pair (Kd.int .i64) (Kd.pair (Kd.int .i64) (Kd.pair (Kd.int .i64) (Kd.pair (Kd.int .u64) (Kd.pair (Kd.slice 38 (Kd.int .u64)) (Kd.pair (Kd.slice 68 k68) (Kd.pair (Kd.slice 9 Kd.string) (Kd.pair (Kd.slice 9 Kd.string) (Kd.pair (Kd.slice 71 k71) k44)))))))))) (fun x : S46 => (x.f0, x.f1, x.f2, x.f3, x.f4, x.f5, x.f6, x.f7, x.f8, x.f9, x.f10))
theorem k46_open {w : World} {x : S46} {cs : List Value} (h : k46.K w x cs) : ∃ A5 c5 A6 c6 A7 c7 A8 c8 A9 c9 A11 c11 A13 c13, cs = [.int .i64 x.f0, .int .i64 x.f1, .int .i64 x.f2, .int .i64 x.f3, .int .u64 x.f4, .slice A5 x.f5.length c5, .slice A6 x.f6.length c6, .slice A7 x.f7.length c7, .slice A8 x.f8.length c8, .slice A9 x.f9.length c9, .string x.f10.f0, .slice A11 x.f10.f1.length c11, .int .u64 x.f10.f2, .slice A13 x.f10.f3.length c13] ∧ x.f5.length ≤ c5 ∧ (Kd.int .u64).C w A5 x.f5.length x.f5 ∧ x.f6.length ≤ c6 ∧ k68.C w A6 x.f6.length x.f6 ∧ x.f7.length ≤ c7 ∧ Kd.string.C w A7 x.f7.length x.f7 ∧ x.f8.length ≤ c8 ∧ Kd.string.C w A8 x.f8.length x.f8 ∧ x.f9.length ≤ c9 ∧ k71.C w A9 x.f9.length x.f9 ∧ x.f10.f1.length ≤ c11 ∧ (Kd.int .i64).C w A11 x.f10.f1.length x.f10.f1 ∧ x.f10.f3.length ≤ c13 ∧ Kd.string.C w A13 x.f10.f3.length x.f10.f3 := by
  obtain ⟨_, _, rfl, rfl, ⟨_, _, rfl, rfl, ⟨_, _, rfl, rfl, ⟨_, _, rfl, rfl, ⟨_, _, rfl, rfl, ⟨_, _, rfl, ⟨A5, c5, rfl, l5, g5⟩, ⟨_, _, rfl, ⟨A6, c6, rfl, l6, g6⟩, ⟨_, _, rfl, ⟨A7, c7, rfl, l7, g7⟩, ⟨_, _, rfl, ⟨A8, c8, rfl, l8, g8⟩, ⟨_, _, rfl, ⟨A9, c9, rfl, l9, g9⟩, s10⟩⟩⟩⟩⟩⟩⟩⟩⟩⟩ := h
  obtain ⟨A11, c11, A13, c13, rfl, l11, g11, l13, g13⟩ := k44_open s10
  exact ⟨A5, c5, A6, c6, A7, c7, A8, c8, A9, c9, A11, c11, A13, c13, rfl, l5, g5, l6, g6, l7, g7, l8, g8, l9, g9, l11, g11, l13, g13⟩
theorem k46_openM {w : World} {base : Nat} {ok : Nat → Prop} {x : S46} {cs : List Value} (h : k46.M w base ok x cs) : ∃ v5 v6 v7 v8 v9 v11 v13, cs = [.int .i64 x.f0, .int .i64 x.f1, .int .i64 x.f2, .int .i64 x.f3, .int .u64 x.f4, v5, v6, v7, v8, v9, .string x.f10.f0, v11, .int .u64 x.f10.f2, v13] ∧ (Kd.int .u64).R 38 w base ok v5 x.f5 ∧ k68.R 68 w base ok v6 x.f6 ∧ Kd.string.R 9 w base ok v7 x.f7 ∧ Kd.string.R 9 w base ok v8 x.f8 ∧ k71.R 71 w base ok v9 x.f9 ∧ (Kd.int .i64).R 3 w base ok v11 x.f10.f1 ∧ Kd.string.R 9 w base ok v13 x.f10.f3 := by
  obtain ⟨_, _, rfl, rfl, ⟨_, _, rfl, rfl, ⟨_, _, rfl, rfl, ⟨_, _, rfl, rfl, ⟨_, _, rfl, rfl, ⟨_, _, rfl, ⟨v5, rfl, g5⟩, ⟨_, _, rfl, ⟨v6, rfl, g6⟩, ⟨_, _, rfl, ⟨v7, rfl, g7⟩, ⟨_, _, rfl, ⟨v8, rfl, g8⟩, ⟨_, _, rfl, ⟨v9, rfl, g9⟩, s10⟩⟩⟩⟩⟩⟩⟩⟩⟩⟩ := h
  obtain ⟨v11, v13, rfl, g11, g13⟩ := k44_openM s10
  exact ⟨v5, v6, v7, v8, v9, v11, v13, rfl, g5, g6, g7, g8, g9, g11, g13⟩
theorem k46_mk (w : World) (x : S46) {A5 : Option Addr} {c5 : Nat} (l5 : x.f5.length ≤ c5) (g5 : (Kd.int .u64).C w A5 x.f5.length x.f5) {A6 : Option Addr} {c6 : Nat} (l6 : x.f6.length ≤ c6) (g6 : k68.C w A6 x.f6.length x.f6) {A7 : Option Addr} {c7 : Nat} (l7 : x.f7.length ≤ c7) (g7 : Kd.string.C w A7 x.f7.length x.f7) {A8 : Option Addr} {c8 : Nat} (l8 : x.f8.length ≤ c8) (g8 : Kd.string.C w A8 x.f8.length x.f8) {A9 : Option Addr} {c9 : Nat} (l9 : x.f9.length ≤ c9) (g9 : k71.C w A9 x.f9.length x.f9) {A11 : Option Addr} {c11 : Nat} (l11 : x.f10.f1.length ≤ c11) (g11 : (Kd.int .i64).C w A11 x.f10.f1.length x.f10.f1) {A13 : Option Addr} {c13 : Nat} (l13 : x.f10.f3.length ≤ c13) (g13 : Kd.string.C w A13 x.f10.f3.length x.f10.f3) : k46.K w x [.int .i64 x.f0, .int .i64 x.f1, .int .i64 x.f2, .int .i64 x.f3, .int .u64 x.f4, .slice A5 x.f5.length c5, .slice A6 x.f6.length c6, .slice A7 x.f7.length c7, .slice A8 x.f8.length c8, .slice A9 x.f9.length c9, .string x.f10.f0, .slice A11 x.f10.f1.length c11, .int .u64 x.f10.f2, .slice A13 x.f10.f3.length c13] := ⟨[.int .i64 x.f0], [.int .i64 x.f1, .int .i64 x.f2, .int .i64 x.f3, .int .u64 x.f4, .slice A5 x.f5.length c5, .slice A6 x.f6.length c6, .slice A7 x.f7.length c7, .slice A8 x.f8.length c8, .slice A9 x.f9.length c9, .string x.f10.f0, .slice A11 x.f10.f1.length c11, .int .u64 x.f10.f2, .slice A13 x.f10.f3.length c13], rfl, rfl, ⟨[.int .i64 x.f1], [.int .i64 x.f2, .int .i64 x.f3, .int .u64 x.f4, .slice A5 x.f5.length c5, .slice A6 x.f6.length c6, .slice A7 x.f7.length c7, .slice A8 x.f8.length c8, .slice A9 x.f9.length c9, .string x.f10.f0, .slice A11 x.f10.f1.length c11, .int .u64 x.f10.f2, .slice A13 x.f10.f3.length c13], rfl, rfl, ⟨[.int .i64 x.f2], [.int .i64 x.f3, .int .u64 x.f4, .slice A5 x.f5.length c5, .slice A6 x.f6.length c6, .slice A7 x.f7.length c7, .slice A8 x.f8.length c8, .slice A9 x.f9.length c9, .string x.f10.f0, .slice A11 x.f10.f1.length c11, .int .u64 x.f10.f2, .slice A13 x.f10.f3.length c13], rfl, rfl, ⟨[.int .i64 x.f3], [.int .u64 x.f4, .slice A5 x.f5.length c5, .slice A6 x.f6.length c6, .slice A7 x.f7.length c7, .slice A8 x.f8.length c8, .slice A9 x.f9.length c9, .string x.f10.f0, .slice A11 x.f10.f1.length c11, .int .u64 x.f10.f2, .slice A13 x.f10.f3.length c13], rfl, rfl, ⟨[.int .u64 x.f4], [.slice A5 x.f5.length c5, .slice A6 x.f6.length c6, .slice A7 x.f7.length c7, .slice A8 x.f8.length c8, .slice A9 x.f9.length c9, .string x.f10.f0, .slice A11 x.f10.f1.length c11, .int .u64 x.f10.f2, .slice A13 x.f10.f3.length c13], rfl, rfl, ⟨[.slice A5 x.f5.length c5], [.slice A6 x.f6.length c6, .slice A7 x.f7.length c7, .slice A8 x.f8.length c8, .slice A9 x.f9.length c9, .string x.f10.f0, .slice A11 x.f10.f1.length c11, .int .u64 x.f10.f2, .slice A13 x.f10.f3.length c13], rfl, ⟨A5, c5, rfl, l5, g5⟩, ⟨[.slice A6 x.f6.length c6], [.slice A7 x.f7.length c7, .slice A8 x.f8.length c8, .slice A9 x.f9.length c9, .string x.f10.f0, .slice A11 x.f10.f1.length c11, .int .u64 x.f10.f2, .slice A13 x.f10.f3.length c13], rfl, ⟨A6, c6, rfl, l6, g6⟩, ⟨[.slice A7 x.f7.length c7], [.slice A8 x.f8.length c8, .slice A9 x.f9.length c9, .string x.f10.f0, .slice A11 x.f10.f1.length c11, .int .u64 x.f10.f2, .slice A13 x.f10.f3.length c13], rfl, ⟨A7, c7, rfl, l7, g7⟩, ⟨[.slice A8 x.f8.length c8], [.slice A9 x.f9.length c9, .string x.f10.f0, .slice A11 x.f10.f1.length c11, .int .u64 x.f10.f2, .slice A13 x.f10.f3.length c13], rfl, ⟨A8, c8, rfl, l8, g8⟩, ⟨[.slice A9 x.f9.length c9], [.string x.f10.f0, .slice A11 x.f10.f1.length c11, .int .u64 x.f10.f2, .slice A13 x.f10.f3.length c13], rfl, ⟨A9, c9, rfl, l9, g9⟩, (k44_mk w x.f10 l11 g11 l13 g13)⟩⟩⟩⟩⟩⟩⟩⟩⟩⟩
theorem k46_mkM (w : World) (base : Nat) (ok : Nat → Prop) (x : S46) {v5 : Value} (g5 : (Kd.int .u64).R 38 w base ok v5 x.f5) {v6 : Value} (g6 : k68.R 68 w base ok v6 x.f6) {v7 : Value} (g7 : Kd.string.R 9 w base ok v7 x.f7) {v8 : Value} (g8 : Kd.string.R 9 w base ok v8 x.f8) {v9 : Value} (g9 : k71.R 71 w base ok v9 x.f9) {v11 : Value} (g11 : (Kd.int .i64).R 3 w base ok v11 x.f10.f1) {v13 : Value} (g13 : Kd.string.R 9 w base ok v13 x.f10.f3) : k46.M w base ok x [.int .i64 x.f0, .int .i64 x.f1, .int .i64 x.f2, .int .i64 x.f3, .int .u64 x.f4, v5, v6, v7, v8, v9, .string x.f10.f0, v11, .int .u64 x.f10.f2, v13] := ⟨[.int .i64 x.f0], [.int .i64 x.f1, .int .i64 x.f2, .int .i64 x.f3, .int .u64 x.f4, v5, v6, v7, v8, v9, .string x.f10.f0, v11, .int .u64 x.f10.f2, v13], rfl, rfl, ⟨[.int .i64 x.f1], [.int .i64 x.f2, .int .i64 x.f3, .int .u64 x.f4, v5, v6, v7, v8, v9, .string x.f10.f0, v11, .int .u64 x.f10.f2, v13], rfl, rfl, ⟨[.int .i64 x.f2], [.int .i64 x.f3, .int .u64 x.f4, v5, v6, v7, v8, v9, .string x.f10.f0, v11, .int .u64 x.f10.f2, v13], rfl, rfl, ⟨[.int .i64 x.f3], [.int .u64 x.f4, v5, v6, v7, v8, v9, .string x.f10.f0, v11, .int .u64 x.f10.f2, v13], rfl, rfl, ⟨[.int .u64 x.f4], [v5, v6, v7, v8, v9, .string x.f10.f0, v11, .int .u64 x.f10.f2, v13], rfl, rfl, ⟨[v5], [v6, v7, v8, v9, .string x.f10.f0, v11, .int .u64 x.f10.f2, v13], rfl, ⟨v5, rfl, g5⟩, ⟨[v6], [v7, v8, v9, .string x.f10.f0, v11, .int .u64 x.f10.f2, v13], rfl, ⟨v6, rfl, g6⟩, ⟨[v7], [v8, v9, .string x.f10.f0, v11, .int .u64 x.f10.f2, v13], rfl, ⟨v7, rfl, g7⟩, ⟨[v8], [v9, .string x.f10.f0, v11, .int .u64 x.f10.f2, v13], rfl, ⟨v8, rfl, g8⟩, ⟨[v9], [.string x.f10.f0, v11, .int .u64 x.f10.f2, v13], rfl, ⟨v9, rfl, g9⟩, (k44_mkM w base ok x.f10 g11 g13)⟩⟩⟩⟩⟩⟩⟩⟩⟩⟩
theorem k46_openF {W : World} {ok : Nat → Prop} {x : S46} {cs : List Value} (h : Kd.FK k46 W ok x cs) : ∃ A5 c5 A6 c6 A7 c7 A8 c8 A9 c9 A11 c11 A13 c13, cs = [.int .i64 x.f0, .int .i64 x.f1, .int .i64 x.f2, .int .i64 x.f3, .int .u64 x.f4, .slice A5 x.f5.length c5, .slice A6 x.f6.length c6, .slice A7 x.f7.length c7, .slice A8 x.f8.length c8, .slice A9 x.f9.length c9, .string x.f10.f0, .slice A11 x.f10.f1.length c11, .int .u64 x.f10.f2, .slice A13 x.f10.f3.length c13] ∧ x.f5.length ≤ c5 ∧ Kd.F (Kd.int .u64) W ok A5 x.f5.length x.f5 ∧ x.f6.length ≤ c6 ∧ Kd.F k68 W ok A6 x.f6.length x.f6 ∧ x.f7.length ≤ c7 ∧ Kd.F Kd.string W ok A7 x.f7.length x.f7 ∧ x.f8.length ≤ c8 ∧ Kd.F Kd.string W ok A8 x.f8.length x.f8 ∧ x.f9.length ≤ c9 ∧ Kd.F k71 W ok A9 x.f9.length x.f9 ∧ x.f10.f1.length ≤ c11 ∧ Kd.F (Kd.int .i64) W ok A11 x.f10.f1.length x.f10.f1 ∧ x.f10.f3.length ≤ c13 ∧ Kd.F Kd.string W ok A13 x.f10.f3.length x.f10.f3 := by
  obtain ⟨A5, c5, A6, c6, A7, c7, A8, c8, A9, c9, A11, c11, A13, c13, rfl, l5, _, l6, _, l7, _, l8, _, l9, _, l11, _, l13, _⟩ := k46_open (Kd.FK_now h)
  exact ⟨A5, c5, A6, c6, A7, c7, A8, c8, A9, c9, A11, c11, A13, c13, rfl, l5, (fun W' hW => by obtain ⟨A5_, c5_, A6_, c6_, A7_, c7_, A8_, c8_, A9_, c9_, A11_, c11_, A13_, c13_, he, l5_, g5_, l6_, g6_, l7_, g7_, l8_, g8_, l9_, g9_, l11_, g11_, l13_, g13_⟩ := k46_open (h W' hW); injection (Option.some.inj (show some (Value.slice A5 x.f5.length c5) = some (Value.slice A5_ x.f5.length c5_) from congrArg (fun l => l[5]?) he)) with ha_ _ _; rw [ha_]; exact g5_), l6, (fun W' hW => by obtain ⟨A5_, c5_, A6_, c6_, A7_, c7_, A8_, c8_, A9_, c9_, A11_, c11_, A13_, c13_, he, l5_, g5_, l6_, g6_, l7_, g7_, l8_, g8_, l9_, g9_, l11_, g11_, l13_, g13_⟩ := k46_open (h W' hW); injection (Option.some.inj (show some (Value.slice A6 x.f6.length c6) = some (Value.slice A6_ x.f6.length c6_) from congrArg (fun l => l[6]?) he)) with ha_ _ _; rw [ha_]; exact g6_), l7, (fun W' hW => by obtain ⟨A5_, c5_, A6_, c6_, A7_, c7_, A8_, c8_, A9_, c9_, A11_, c11_, A13_, c13_, he, l5_, g5_, l6_, g6_, l7_, g7_, l8_, g8_, l9_, g9_, l11_, g11_, l13_, g13_⟩ := k46_open (h W' hW); injection (Option.some.inj (show some (Value.slice A7 x.f7.length c7) = some (Value.slice A7_ x.f7.length c7_) from congrArg (fun l => l[7]?) he)) with ha_ _ _; rw [ha_]; exact g7_), l8, (fun W' hW => by obtain ⟨A5_, c5_, A6_, c6_, A7_, c7_, A8_, c8_, A9_, c9_, A11_, c11_, A13_, c13_, he, l5_, g5_, l6_, g6_, l7_, g7_, l8_, g8_, l9_, g9_, l11_, g11_, l13_, g13_⟩ := k46_open (h W' hW); injection (Option.some.inj (show some (Value.slice A8 x.f8.length c8) = some (Value.slice A8_ x.f8.length c8_) from congrArg (fun l => l[8]?) he)) with ha_ _ _; rw [ha_]; exact g8_), l9, (fun W' hW => by obtain ⟨A5_, c5_, A6_, c6_, A7_, c7_, A8_, c8_, A9_, c9_, A11_, c11_, A13_, c13_, he, l5_, g5_, l6_, g6_, l7_, g7_, l8_, g8_, l9_, g9_, l11_, g11_, l13_, g13_⟩ := k46_open (h W' hW); injection (Option.some.inj (show some (Value.slice A9 x.f9.length c9) = some (Value.slice A9_ x.f9.length c9_) from congrArg (fun l => l[9]?) he)) with ha_ _ _; rw [ha_]; exact g9_), l11, (fun W' hW => by obtain ⟨A5_, c5_, A6_, c6_, A7_, c7_, A8_, c8_, A9_, c9_, A11_, c11_, A13_, c13_, he, l5_, g5_, l6_, g6_, l7_, g7_, l8_, g8_, l9_, g9_, l11_, g11_, l13_, g13_⟩ := k46_open (h W' hW); injection (Option.some.inj (show some (Value.slice A11 x.f10.f1.length c11) = some (Value.slice A11_ x.f10.f1.length c11_) from congrArg (fun l => l[11]?) he)) with ha_ _ _; rw [ha_]; exact g11_), l13, (fun W' hW => by obtain ⟨A5_, c5_, A6_, c6_, A7_, c7_, A8_, c8_, A9_, c9_, A11_, c11_, A13_, c13_, he, l5_, g5_, l6_, g6_, l7_, g7_, l8_, g8_, l9_, g9_, l11_, g11_, l13_, g13_⟩ := k46_open (h W' hW); injection (Option.some.inj (show some (Value.slice A13 x.f10.f3.length c13) = some (Value.slice A13_ x.f10.f3.length c13_) from congrArg (fun l => l[13]?) he)) with ha_ _ _; rw [ha_]; exact g13_)⟩
theorem k46_mkF (W : World) (ok : Nat → Prop) (x : S46) {A5 : Option Addr} {c5 : Nat} (l5 : x.f5.length ≤ c5) (g5 : Kd.F (Kd.int .u64) W ok A5 x.f5.length x.f5) {A6 : Option Addr} {c6 : Nat} (l6 : x.f6.length ≤ c6) (g6 : Kd.F k68 W ok A6 x.f6.length x.f6) {A7 : Option Addr} {c7 : Nat} (l7 : x.f7.length ≤ c7) (g7 : Kd.F Kd.string W ok A7 x.f7.length x.f7) {A8 : Option Addr} {c8 : Nat} (l8 : x.f8.length ≤ c8) (g8 : Kd.F Kd.string W ok A8 x.f8.length x.f8) {A9 : Option Addr} {c9 : Nat} (l9 : x.f9.length ≤ c9) (g9 : Kd.F k71 W ok A9 x.f9.length x.f9) {A11 : Option Addr} {c11 : Nat} (l11 : x.f10.f1.length ≤ c11) (g11 : Kd.F (Kd.int .i64) W ok A11 x.f10.f1.length x.f10.f1) {A13 : Option Addr} {c13 : Nat} (l13 : x.f10.f3.length ≤ c13) (g13 : Kd.F Kd.string W ok A13 x.f10.f3.length x.f10.f3) : Kd.FK k46 W ok x [.int .i64 x.f0, .int .i64 x.f1, .int .i64 x.f2, .int .i64 x.f3, .int .u64 x.f4, .slice A5 x.f5.length c5, .slice A6 x.f6.length c6, .slice A7 x.f7.length c7, .slice A8 x.f8.length c8, .slice A9 x.f9.length c9, .string x.f10.f0, .slice A11 x.f10.f1.length c11, .int .u64 x.f10.f2, .slice A13 x.f10.f3.length c13] := fun W2 hW => k46_mk W2 x l5 (g5 W2 hW) l6 (g6 W2 hW) l7 (g7 W2 hW) l8 (g8 W2 hW) l9 (g9 W2 hW) l11 (g11 W2 hW) l13 (g13 W2 hW)
def rd_T46 (xs : List S46) (i : Int) : S46 := xs.getD i.toNat z46
theorem at_T46 {w : World} {A : Option Addr} {n : Nat} {xs : List S46} (h : Kd.C k46 w A n xs) (i : Int) (h0 : 0 ≤ i) (h1 : i < n) : ∃ ad A5 c5 A6 c6 A7 c7 A8 c8 A9 c9 A11 c11 A13 c13, A = some ad ∧ w.cell? (ad.add (i.toNat * 14)) = some (.int .i64 (rd_T46 xs i).f0) ∧ w.cell? ⟨(ad.add (i.toNat * 14)).block, (ad.add (i.toNat * 14)).off + 1, none⟩ = some (.int .i64 (rd_T46 xs i).f1) ∧ w.cell? ⟨(ad.add (i.toNat * 14)).block, (ad.add (i.toNat * 14)).off + 2, none⟩ = some (.int .i64 (rd_T46 xs i).f2) ∧ w.cell? ⟨(ad.add (i.toNat * 14)).block, (ad.add (i.toNat * 14)).off + 3, none⟩ = some (.int .i64 (rd_T46 xs i).f3) ∧ w.cell? ⟨(ad.add (i.toNat * 14)).block, (ad.add (i.toNat * 14)).off + 4, none⟩ = some (.int .u64 (rd_T46 xs i).f4) ∧ w.cell? ⟨(ad.add (i.toNat * 14)).block, (ad.add (i.toNat * 14)).off + 5, none⟩ = some (.slice A5 (rd_T46 xs i).f5.length c5) ∧ w.cell? ⟨(ad.add (i.toNat * 14)).block, (ad.add (i.toNat * 14)).off + 6, none⟩ = some (.slice A6 (rd_T46 xs i).f6.length c6) ∧ w.cell? ⟨(ad.add (i.toNat * 14)).block, (ad.add (i.toNat * 14)).off + 7, none⟩ = some (.slice A7 (rd_T46 xs i).f7.length c7) ∧ w.cell? ⟨(ad.add (i.toNat * 14)).block, (ad.add (i.toNat * 14)).off + 8, none⟩ = some (.slice A8 (rd_T46 xs i).f8.length c8) ∧ w.cell? ⟨(ad.add (i.toNat * 14)).block, (ad.add (i.toNat * 14)).off + 9, none⟩ = some (.slice A9 (rd_T46 xs i).f9.length c9) ∧ w.cell? ⟨(ad.add (i.toNat * 14)).block, (ad.add (i.toNat * 14)).off + 10, none⟩ = some (.string (rd_T46 xs i).f10.f0) ∧ w.cell? ⟨(ad.add (i.toNat * 14)).block, (ad.add (i.toNat * 14)).off + 11, none⟩ = some (.slice A11 (rd_T46 xs i).f10.f1.length c11) ∧ w.cell? ⟨(ad.add (i.toNat * 14)).block, (ad.add (i.toNat * 14)).off + 12, none⟩ = some (.int .u64 (rd_T46 xs i).f10.f2) ∧ w.cell? ⟨(ad.add (i.toNat * 14)).block, (ad.add (i.toNat * 14)).off + 13, none⟩ = some (.slice A13 (rd_T46 xs i).f10.f3.length c13) ∧ (rd_T46 xs i).f5.length ≤ c5 ∧ (Kd.int .u64).C w A5 (rd_T46 xs i).f5.length (rd_T46 xs i).f5 ∧ (rd_T46 xs i).f6.length ≤ c6 ∧ k68.C w A6 (rd_T46 xs i).f6.length (rd_T46 xs i).f6 ∧ (rd_T46 xs i).f7.length ≤ c7 ∧ Kd.string.C w A7 (rd_T46 xs i).f7.length (rd_T46 xs i).f7 ∧ (rd_T46 xs i).f8.length ≤ c8 ∧ Kd.string.C w A8 (rd_T46 xs i).f8.length (rd_T46 xs i).f8 ∧ (rd_T46 xs i).f9.length ≤ c9 ∧ k71.C w A9 (rd_T46 xs i).f9.length (rd_T46 xs i).f9 ∧ (rd_T46 xs i).f10.f1.length ≤ c11 ∧ (Kd.int .i64).C w A11 (rd_T46 xs i).f10.f1.length (rd_T46 xs i).f10.f1 ∧ (rd_T46 xs i).f10.f3.length ≤ c13 ∧ Kd.string.C w A13 (rd_T46 xs i).f10.f3.length (rd_T46 xs i).f10.f3 := by
  obtain ⟨ad, c, e, _, hK, hc0⟩ := Kd.C_get h z46 i h0 h1
  have hc : ∀ j u, c[j]? = some u → w.cell? (ad.add (i.toNat * 14 + j)) = some u := hc0
  obtain ⟨A5, c5, A6, c6, A7, c7, A8, c8, A9, c9, A11, c11, A13, c13, rfl, l5, g5, l6, g6, l7, g7, l8, g8, l9, g9, l11, g11, l13, g13⟩ := k46_open hK
  exact ⟨ad, A5, c5, A6, c6, A7, c7, A8, c8, A9, c9, A11, c11, A13, c13, e, hc 0 _ rfl, by rw [← add_field _ _ 1 (by omega)]; exact hc 1 _ rfl, by rw [← add_field _ _ 2 (by omega)]; exact hc 2 _ rfl, by rw [← add_field _ _ 3 (by omega)]; exact hc 3 _ rfl, by rw [← add_field _ _ 4 (by omega)]; exact hc 4 _ rfl, by rw [← add_field _ _ 5 (by omega)]; exact hc 5 _ rfl, by rw [← add_field _ _ 6 (by omega)]; exact hc 6 _ rfl, by rw [← add_field _ _ 7 (by omega)]; exact hc 7 _ rfl, by rw [← add_field _ _ 8 (by omega)]; exact hc 8 _ rfl, by rw [← add_field _ _ 9 (by omega)]; exact hc 9 _ rfl, by rw [← add_field _ _ 10 (by omega)]; exact hc 10 _ rfl, by rw [← add_field _ _ 11 (by omega)]; exact hc 11 _ rfl, by rw [← add_field _ _ 12 (by omega)]; exact hc 12 _ rfl, by rw [← add_field _ _ 13 (by omega)]; exact hc 13 _ rfl, l5, g5, l6, g6, l7, g7, l8, g8, l9, g9, l11, g11, l13, g13⟩

end Go.Proofs.Ytfpbohfefliljaa.MD
