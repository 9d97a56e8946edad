/- The kinds of values in memory: timers, values, snapshots, marks (made by a program; Lean checks it). -/
import Derived.Test.YthadibmgahlpfaaProg
import Derived.Below
import Derived.Deep.Draws
import Derived.Deep.AppendLies
import Derived.Maps.AppendAt
import Derived.OwnWalk
import Derived.Laws.BytesArg
import Derived.Laws.MakeOwn
import Derived.Laws.OwnMore
import Derived.Deep.OwnRows
import Derived.Tactics
import Derived.Lib.ConvBytes
import Derived.Laws.Slices
import Derived.WalkKit
import Derived.KernelRfl
import Derived.RowKit3
import Derived.Deep.LoopGhost
import Derived.Deep.QuietTactic
import Derived.BigQuiet
import Derived.WideLaws
import Derived.Deep.DeepCutAuto
import Derived.Deep.CutBlock
import Derived.Deep.RegionHeld3
import Derived.Laws.Rows
import Derived.Lib.AppendStr
import Derived.ArgAppend
import Derived.Laws.IdiomCopy
import Derived.OrdersHeld
import Derived.Laws.BitsLemmas
import Derived.RowKit
import Derived.Test.YthadibmgahlpfaaWWords
import Derived.Test.YthadibmgahlpfaaWLast
import Derived.Test.YthadibmgahlpfaaWTab
import Derived.Test.YthadibmgahlpfaaWFour
import Derived.Test.YthadibmgahlpfaaWQPut
import Derived.Test.YthadibmgahlpfaaWApart
import Derived.Test.YthadibmgahlpfaaWArr
import Derived.Test.YthadibmgahlpfaaWZeros
import Derived.Test.YthadibmgahlpfaaWFoot
import Derived.Test.YthadibmgahlpfaaWKept
import Derived.Test.YthadibmgahlpfaaWShare
import Derived.Test.YthadibmgahlpfaaWN
import Derived.Test.YthadibmgahlpfaaWFootNe
import Derived.Test.YthadibmgahlpfaaWAt
import Derived.Test.YthadibmgahlpfaaWEqStruct
import Derived.Test.YthadibmgahlpfaaWRepsOne
import Derived.Test.YthadibmgahlpfaaWInv
import Derived.Test.YthadibmgahlpfaaWInvWords
import Derived.Test.YthadibmgahlpfaaWGuard
import Derived.Test.YthadibmgahlpfaaWNEv
import Derived.Test.YthadibmgahlpfaaWMore
namespace Go.Proofs.Ythadibmgahlpfaa.MD
open Go.RowKit Go.Proofs.YthadibmgahlpfaaW.PrintWords Go.Proofs.YthadibmgahlpfaaW.PrintLast Go.Proofs.YthadibmgahlpfaaW.PrintMore
attribute [local go_sem] max2_int min2_int max_two min_two max_three min_three max_four min_four   -- for this text's walks alone
set_option linter.unusedVariables false
set_option linter.unusedSimpArgs false



def errW : Option Int → Value
  | none => .nilIface
  | some c => .iface 0 (.int .i64 c)
theorem errW_none : errW none = .nilIface := rfl
theorem errW_some (c : Int) : errW (some c) = .iface 0 (.int .i64 c) := rfl

theorem info3 : (Try.prog.info? 3).map (fun i => (i.zero, i.size, i.bytes)) = some (some (.int .i64 0), 1, 8) := by kernel_rfl
theorem info9 : (Try.prog.info? 9).map (fun i => (i.zero, i.size, i.bytes)) = some (some (.string ⟨#[]⟩), 1, 16) := by kernel_rfl
-- the values' own types
def rd_L2 (xs : List (List Int)) (i : Int) : (List Int) := xs.getD i.toNat ([] : List Int)
theorem at_L2 {w : World} {A : Option Addr} {n : Nat} {xs : List (List Int)} (h : Kd.C (Kd.slice 29 (Kd.int .u64)) w A n xs) (i : Int) (h0 : 0 ≤ i) (h1 : i < n) : ∃ ad A0 c0, A = some ad ∧ w.cell? (ad.add i.toNat) = some (.slice A0 (rd_L2 xs i).length c0) ∧ (rd_L2 xs i).length ≤ c0 ∧ (Kd.int .u64).C w A0 (rd_L2 xs i).length (rd_L2 xs i) := by
  obtain ⟨ad, c, e, _, hK, hc0⟩ := Kd.C_get h ([] : List Int) i h0 h1
  have hc : ∀ j u, c[j]? = some u → w.cell? (ad.add (i.toNat * 1 + j)) = some u := hc0
  obtain ⟨A0, c0, rfl, l0, g0⟩ := hK
  exact ⟨ad, A0, c0, e, by have hq := hc 0 _ rfl; rwa [Nat.mul_one, Nat.add_zero] at hq, l0, g0⟩

/-! #### struct type 78 -/
structure S78 where
  f0 : Int
  f1 : Int
  f2 : ByteArray
def z78 : S78 := ⟨(0 : Int), (0 : Int), (⟨#[]⟩ : ByteArray)⟩
def k78 : Kd S78 := Kd.iso (Kd.pair (Kd.int .i64) (Kd.pair (Kd.int .i64) Kd.string)) (fun x : S78 => (x.f0, x.f1, x.f2))
theorem k78_open {w : World} {x : S78} {cs : List Value} (h : k78.K w x cs) : cs = [.int .i64 x.f0, .int .i64 x.f1, .string x.f2] := by
  obtain ⟨_, _, rfl, rfl, ⟨_, _, rfl, rfl, rfl⟩⟩ := h
  exact rfl
theorem k78_openM {w : World} {base : Nat} {ok : Nat → Prop} {x : S78} {cs : List Value} (h : k78.M w base ok x cs) : cs = [.int .i64 x.f0, .int .i64 x.f1, .string x.f2] := by
  obtain ⟨_, _, rfl, rfl, ⟨_, _, rfl, rfl, rfl⟩⟩ := h
  exact rfl
theorem k78_mk (w : World) (x : S78)  : k78.K w x [.int .i64 x.f0, .int .i64 x.f1, .string x.f2] := ⟨[.int .i64 x.f0], [.int .i64 x.f1, .string x.f2], rfl, rfl, ⟨[.int .i64 x.f1], [.string x.f2], rfl, rfl, rfl⟩⟩
theorem k78_mkM (w : World) (base : Nat) (ok : Nat → Prop) (x : S78)  : k78.M w base ok x [.int .i64 x.f0, .int .i64 x.f1, .string x.f2] := ⟨[.int .i64 x.f0], [.int .i64 x.f1, .string x.f2], rfl, rfl, ⟨[.int .i64 x.f1], [.string x.f2], rfl, rfl, rfl⟩⟩
def rd_T78 (xs : List S78) (i : Int) : S78 := xs.getD i.toNat z78
theorem at_T78 {w : World} {A : Option Addr} {n : Nat} {xs : List S78} (h : Kd.C k78 w A n xs) (i : Int) (h0 : 0 ≤ i) (h1 : i < n) : ∃ ad , A = some ad ∧ w.cell? (ad.add (i.toNat * 3)) = some (.int .i64 (rd_T78 xs i).f0) ∧ w.cell? ⟨(ad.add (i.toNat * 3)).block, (ad.add (i.toNat * 3)).off + 1, none⟩ = some (.int .i64 (rd_T78 xs i).f1) ∧ w.cell? ⟨(ad.add (i.toNat * 3)).block, (ad.add (i.toNat * 3)).off + 2, none⟩ = some (.string (rd_T78 xs i).f2) := by
  obtain ⟨ad, c, e, _, hK, hc0⟩ := Kd.C_get h z78 i h0 h1
  have hc : ∀ j u, c[j]? = some u → w.cell? (ad.add (i.toNat * 3 + j)) = some u := hc0
  obtain rfl := k78_open hK
  exact ⟨ad, e, hc 0 _ rfl, by rw [← add_field _ _ 1 (by omega)]; exact hc 1 _ rfl, by rw [← add_field _ _ 2 (by omega)]; exact hc 2 _ rfl⟩

def rd_L5 (xs : List (List S78)) (i : Int) : (List S78) := xs.getD i.toNat ([] : List S78)
theorem at_L5 {w : World} {A : Option Addr} {n : Nat} {xs : List (List S78)} (h : Kd.C (Kd.slice 78 k78) w A n xs) (i : Int) (h0 : 0 ≤ i) (h1 : i < n) : ∃ ad A0 c0, A = some ad ∧ w.cell? (ad.add i.toNat) = some (.slice A0 (rd_L5 xs i).length c0) ∧ (rd_L5 xs i).length ≤ c0 ∧ k78.C w A0 (rd_L5 xs i).length (rd_L5 xs i) := by
  obtain ⟨ad, c, e, _, hK, hc0⟩ := Kd.C_get h ([] : List S78) i h0 h1
  have hc : ∀ j u, c[j]? = some u → w.cell? (ad.add (i.toNat * 1 + j)) = some u := hc0
  obtain ⟨A0, c0, rfl, l0, g0⟩ := hK
  exact ⟨ad, A0, c0, e, by have hq := hc 0 _ rfl; rwa [Nat.mul_one, Nat.add_zero] at hq, l0, g0⟩

def rd_L6 (xs : List (List ByteArray)) (i : Int) : (List ByteArray) := xs.getD i.toNat ([] : List ByteArray)
theorem at_L6 {w : World} {A : Option Addr} {n : Nat} {xs : List (List ByteArray)} (h : Kd.C (Kd.slice 9 Kd.string) w A n xs) (i : Int) (h0 : 0 ≤ i) (h1 : i < n) : ∃ ad A0 c0, A = some ad ∧ w.cell? (ad.add i.toNat) = some (.slice A0 (rd_L6 xs i).length c0) ∧ (rd_L6 xs i).length ≤ c0 ∧ Kd.string.C w A0 (rd_L6 xs i).length (rd_L6 xs i) := by
  obtain ⟨ad, c, e, _, hK, hc0⟩ := Kd.C_get h ([] : List ByteArray) i h0 h1
  have hc : ∀ j u, c[j]? = some u → w.cell? (ad.add (i.toNat * 1 + j)) = some u := hc0
  obtain ⟨A0, c0, rfl, l0, g0⟩ := hK
  exact ⟨ad, A0, c0, e, by have hq := hc 0 _ rfl; rwa [Nat.mul_one, Nat.add_zero] at hq, l0, g0⟩

/-! #### struct type 82 -/
structure S82 where
  f0 : Int
  f1 : Int
  f2 : ByteArray
def z82 : S82 := ⟨(0 : Int), (0 : Int), (⟨#[]⟩ : ByteArray)⟩
def k82 : Kd S82 := Kd.iso (Kd.pair (Kd.int .i64) (Kd.pair (Kd.int .i64) Kd.string)) (fun x : S82 => (x.f0, x.f1, x.f2))
theorem k82_open {w : World} {x : S82} {cs : List Value} (h : k82.K w x cs) : cs = [.int .i64 x.f0, .int .i64 x.f1, .string x.f2] := by
  obtain ⟨_, _, rfl, rfl, ⟨_, _, rfl, rfl, rfl⟩⟩ := h
  exact rfl
theorem k82_openM {w : World} {base : Nat} {ok : Nat → Prop} {x : S82} {cs : List Value} (h : k82.M w base ok x cs) : cs = [.int .i64 x.f0, .int .i64 x.f1, .string x.f2] := by
  obtain ⟨_, _, rfl, rfl, ⟨_, _, rfl, rfl, rfl⟩⟩ := h
  exact rfl
theorem k82_mk (w : World) (x : S82)  : k82.K w x [.int .i64 x.f0, .int .i64 x.f1, .string x.f2] := ⟨[.int .i64 x.f0], [.int .i64 x.f1, .string x.f2], rfl, rfl, ⟨[.int .i64 x.f1], [.string x.f2], rfl, rfl, rfl⟩⟩
theorem k82_mkM (w : World) (base : Nat) (ok : Nat → Prop) (x : S82)  : k82.M w base ok x [.int .i64 x.f0, .int .i64 x.f1, .string x.f2] := ⟨[.int .i64 x.f0], [.int .i64 x.f1, .string x.f2], rfl, rfl, ⟨[.int .i64 x.f1], [.string x.f2], rfl, rfl, rfl⟩⟩
def rd_T82 (xs : List S82) (i : Int) : S82 := xs.getD i.toNat z82
theorem at_T82 {w : World} {A : Option Addr} {n : Nat} {xs : List S82} (h : Kd.C k82 w A n xs) (i : Int) (h0 : 0 ≤ i) (h1 : i < n) : ∃ ad , A = some ad ∧ w.cell? (ad.add (i.toNat * 3)) = some (.int .i64 (rd_T82 xs i).f0) ∧ w.cell? ⟨(ad.add (i.toNat * 3)).block, (ad.add (i.toNat * 3)).off + 1, none⟩ = some (.int .i64 (rd_T82 xs i).f1) ∧ w.cell? ⟨(ad.add (i.toNat * 3)).block, (ad.add (i.toNat * 3)).off + 2, none⟩ = some (.string (rd_T82 xs i).f2) := by
  obtain ⟨ad, c, e, _, hK, hc0⟩ := Kd.C_get h z82 i h0 h1
  have hc : ∀ j u, c[j]? = some u → w.cell? (ad.add (i.toNat * 3 + j)) = some u := hc0
  obtain rfl := k82_open hK
  exact ⟨ad, e, hc 0 _ rfl, by rw [← add_field _ _ 1 (by omega)]; exact hc 1 _ rfl, by rw [← add_field _ _ 2 (by omega)]; exact hc 2 _ rfl⟩

def rd_L8 (xs : List (List S82)) (i : Int) : (List S82) := xs.getD i.toNat ([] : List S82)
theorem at_L8 {w : World} {A : Option Addr} {n : Nat} {xs : List (List S82)} (h : Kd.C (Kd.slice 82 k82) w A n xs) (i : Int) (h0 : 0 ≤ i) (h1 : i < n) : ∃ ad A0 c0, A = some ad ∧ w.cell? (ad.add i.toNat) = some (.slice A0 (rd_L8 xs i).length c0) ∧ (rd_L8 xs i).length ≤ c0 ∧ k82.C w A0 (rd_L8 xs i).length (rd_L8 xs i) := by
  obtain ⟨ad, c, e, _, hK, hc0⟩ := Kd.C_get h ([] : List S82) i h0 h1
  have hc : ∀ j u, c[j]? = some u → w.cell? (ad.add (i.toNat * 1 + j)) = some u := hc0
  obtain ⟨A0, c0, rfl, l0, g0⟩ := hK
  exact ⟨ad, A0, c0, e, by have hq := hc 0 _ rfl; rwa [Nat.mul_one, Nat.add_zero] at hq, l0, g0⟩

def rd_L9 (xs : List (List Int)) (i : Int) : (List Int) := xs.getD i.toNat ([] : List Int)
theorem at_L9 {w : World} {A : Option Addr} {n : Nat} {xs : List (List Int)} (h : Kd.C (Kd.slice 3 (Kd.int .i64)) w A n xs) (i : Int) (h0 : 0 ≤ i) (h1 : i < n) : ∃ ad A0 c0, A = some ad ∧ w.cell? (ad.add i.toNat) = some (.slice A0 (rd_L9 xs i).length c0) ∧ (rd_L9 xs i).length ≤ c0 ∧ (Kd.int .i64).C w A0 (rd_L9 xs i).length (rd_L9 xs i) := by
  obtain ⟨ad, c, e, _, hK, hc0⟩ := Kd.C_get h ([] : List Int) i h0 h1
  have hc : ∀ j u, c[j]? = some u → w.cell? (ad.add (i.toNat * 1 + j)) = some u := hc0
  obtain ⟨A0, c0, rfl, l0, g0⟩ := hK
  exact ⟨ad, A0, c0, e, by have hq := hc 0 _ rfl; rwa [Nat.mul_one, Nat.add_zero] at hq, l0, g0⟩

/-! #### struct type 36 -/
structure S36 where
  f0 : ByteArray
  f1 : (List Int)
  f2 : Int
  f3 : (List ByteArray)
def z36 : S36 := ⟨(⟨#[]⟩ : ByteArray), ([] : List Int), (0 : Int), ([] : List ByteArray)⟩
def k36 : Kd S36 := Kd.iso (Kd.pair Kd.string (Kd.pair (Kd.slice 3 (Kd.int .i64)) (Kd.pair (Kd.int .u64) (Kd.slice 9 Kd.string)))) (fun x : S36 => (x.f0, x.f1, x.f2, x.f3))
theorem k36_open {w : World} {x : S36} {cs : List Value} (h : k36.K w x cs) : ∃ A1 c1 A3 c3, cs = [.string x.f0, .slice A1 x.f1.length c1, .int .u64 x.f2, .slice A3 x.f3.length c3] ∧ x.f1.length ≤ c1 ∧ (Kd.int .i64).C w A1 x.f1.length x.f1 ∧ x.f3.length ≤ c3 ∧ Kd.string.C w A3 x.f3.length x.f3 := by
  obtain ⟨_, _, rfl, rfl, ⟨_, _, rfl, ⟨A1, c1, rfl, l1, g1⟩, ⟨_, _, rfl, rfl, ⟨A3, c3, rfl, l3, g3⟩⟩⟩⟩ := h
  exact ⟨A1, c1, A3, c3, rfl, l1, g1, l3, g3⟩
theorem k36_openM {w : World} {base : Nat} {ok : Nat → Prop} {x : S36} {cs : List Value} (h : k36.M w base ok x cs) : ∃ v1 v3, cs = [.string x.f0, v1, .int .u64 x.f2, v3] ∧ (Kd.int .i64).R 3 w base ok v1 x.f1 ∧ Kd.string.R 9 w base ok v3 x.f3 := by
  obtain ⟨_, _, rfl, rfl, ⟨_, _, rfl, ⟨v1, rfl, g1⟩, ⟨_, _, rfl, rfl, ⟨v3, rfl, g3⟩⟩⟩⟩ := h
  exact ⟨v1, v3, rfl, g1, g3⟩
theorem k36_mk (w : World) (x : S36) {A1 : Option Addr} {c1 : Nat} (l1 : x.f1.length ≤ c1) (g1 : (Kd.int .i64).C w A1 x.f1.length x.f1) {A3 : Option Addr} {c3 : Nat} (l3 : x.f3.length ≤ c3) (g3 : Kd.string.C w A3 x.f3.length x.f3) : k36.K w x [.string x.f0, .slice A1 x.f1.length c1, .int .u64 x.f2, .slice A3 x.f3.length c3] := ⟨[.string x.f0], [.slice A1 x.f1.length c1, .int .u64 x.f2, .slice A3 x.f3.length c3], rfl, rfl, ⟨[.slice A1 x.f1.length c1], [.int .u64 x.f2, .slice A3 x.f3.length c3], rfl, ⟨A1, c1, rfl, l1, g1⟩, ⟨[.int .u64 x.f2], [.slice A3 x.f3.length c3], rfl, rfl, ⟨A3, c3, rfl, l3, g3⟩⟩⟩⟩
theorem k36_mkM (w : World) (base : Nat) (ok : Nat → Prop) (x : S36) {v1 : Value} (g1 : (Kd.int .i64).R 3 w base ok v1 x.f1) {v3 : Value} (g3 : Kd.string.R 9 w base ok v3 x.f3) : k36.M w base ok x [.string x.f0, v1, .int .u64 x.f2, v3] := ⟨[.string x.f0], [v1, .int .u64 x.f2, v3], rfl, rfl, ⟨[v1], [.int .u64 x.f2, v3], rfl, ⟨v1, rfl, g1⟩, ⟨[.int .u64 x.f2], [v3], rfl, rfl, ⟨v3, rfl, g3⟩⟩⟩⟩
def rd_T36 (xs : List S36) (i : Int) : S36 := xs.getD i.toNat z36
theorem at_T36 {w : World} {A : Option Addr} {n : Nat} {xs : List S36} (h : Kd.C k36 w A n xs) (i : Int) (h0 : 0 ≤ i) (h1 : i < n) : ∃ ad A1 c1 A3 c3, A = some ad ∧ w.cell? (ad.add (i.toNat * 4)) = some (.string (rd_T36 xs i).f0) ∧ w.cell? ⟨(ad.add (i.toNat * 4)).block, (ad.add (i.toNat * 4)).off + 1, none⟩ = some (.slice A1 (rd_T36 xs i).f1.length c1) ∧ w.cell? ⟨(ad.add (i.toNat * 4)).block, (ad.add (i.toNat * 4)).off + 2, none⟩ = some (.int .u64 (rd_T36 xs i).f2) ∧ w.cell? ⟨(ad.add (i.toNat * 4)).block, (ad.add (i.toNat * 4)).off + 3, none⟩ = some (.slice A3 (rd_T36 xs i).f3.length c3) ∧ (rd_T36 xs i).f1.length ≤ c1 ∧ (Kd.int .i64).C w A1 (rd_T36 xs i).f1.length (rd_T36 xs i).f1 ∧ (rd_T36 xs i).f3.length ≤ c3 ∧ Kd.string.C w A3 (rd_T36 xs i).f3.length (rd_T36 xs i).f3 := by
  obtain ⟨ad, c, e, _, hK, hc0⟩ := Kd.C_get h z36 i h0 h1
  have hc : ∀ j u, c[j]? = some u → w.cell? (ad.add (i.toNat * 4 + j)) = some u := hc0
  obtain ⟨A1, c1, A3, c3, rfl, l1, g1, l3, g3⟩ := k36_open hK
  exact ⟨ad, A1, c1, A3, c3, e, hc 0 _ rfl, by rw [← add_field _ _ 1 (by omega)]; exact hc 1 _ rfl, by rw [← add_field _ _ 2 (by omega)]; exact hc 2 _ rfl, by rw [← add_field _ _ 3 (by omega)]; exact hc 3 _ rfl, l1, g1, l3, g3⟩

/-! #### struct type 38 -/
structure S38 where
  f0 : Int
  f1 : Int
  f2 : Int
  f3 : Int
  f4 : Int
  f5 : (List Int)
  f6 : (List S78)
  f7 : (List ByteArray)
  f8 : (List ByteArray)
  f9 : (List S82)
  f10 : S36
def z38 : S38 := ⟨(0 : Int), (0 : Int), (0 : Int), (0 : Int), (0 : Int), ([] : List Int), ([] : List S78), ([] : List ByteArray), ([] : List ByteArray), ([] : List S82), z36⟩
def k38 : Kd S38 := Kd.iso (Kd.pair (Kd.int .i64) (Kd.pair (Kd.int .i64) (Kd.pair (Kd.int .i64) (Kd.pair (Kd.int .i64) (Kd.pair (Kd.int .u64) (Kd.pair (Kd.slice 29 (Kd.int .u64)) (Kd.pair (Kd.slice 78 k78) (Kd.pair (Kd.slice 9 Kd.string) (Kd.pair (Kd.slice 9 Kd.string) (Kd.pair (Kd.slice 82 k82) k36)))))))))) (fun x : S38 => (x.f0, x.f1, x.f2, x.f3, x.f4, x.f5, x.f6, x.f7, x.f8, x.f9, x.f10))
theorem k38_open {w : World} {x : S38} {cs : List Value} (h : k38.K w x cs) : ∃ A5 c5 A6 c6 A7 c7 A8 c8 A9 c9 A11 c11 A13 c13, cs = [.int .i64 x.f0, .int .i64 x.f1, .int .i64 x.f2, .int .i64 x.f3, .int .u64 x.f4, .slice A5 x.f5.length c5, .slice A6 x.f6.length c6, .slice A7 x.f7.length c7, .slice A8 x.f8.length c8, .slice A9 x.f9.length c9, .string x.f10.f0, .slice A11 x.f10.f1.length c11, .int .u64 x.f10.f2, .slice A13 x.f10.f3.length c13] ∧ x.f5.length ≤ c5 ∧ (Kd.int .u64).C w A5 x.f5.length x.f5 ∧ x.f6.length ≤ c6 ∧ k78.C w A6 x.f6.length x.f6 ∧ x.f7.length ≤ c7 ∧ Kd.string.C w A7 x.f7.length x.f7 ∧ x.f8.length ≤ c8 ∧ Kd.string.C w A8 x.f8.length x.f8 ∧ x.f9.length ≤ c9 ∧ k82.C w A9 x.f9.length x.f9 ∧ x.f10.f1.length ≤ c11 ∧ (Kd.int .i64).C w A11 x.f10.f1.length x.f10.f1 ∧ x.f10.f3.length ≤ c13 ∧ Kd.string.C w A13 x.f10.f3.length x.f10.f3 := by
  obtain ⟨_, _, rfl, rfl, ⟨_, _, rfl, rfl, ⟨_, _, rfl, rfl, ⟨_, _, rfl, rfl, ⟨_, _, rfl, rfl, ⟨_, _, rfl, ⟨A5, c5, rfl, l5, g5⟩, ⟨_, _, rfl, ⟨A6, c6, rfl, l6, g6⟩, ⟨_, _, rfl, ⟨A7, c7, rfl, l7, g7⟩, ⟨_, _, rfl, ⟨A8, c8, rfl, l8, g8⟩, ⟨_, _, rfl, ⟨A9, c9, rfl, l9, g9⟩, s10⟩⟩⟩⟩⟩⟩⟩⟩⟩⟩ := h
  obtain ⟨A11, c11, A13, c13, rfl, l11, g11, l13, g13⟩ := k36_open s10
  exact ⟨A5, c5, A6, c6, A7, c7, A8, c8, A9, c9, A11, c11, A13, c13, rfl, l5, g5, l6, g6, l7, g7, l8, g8, l9, g9, l11, g11, l13, g13⟩
theorem k38_openM {w : World} {base : Nat} {ok : Nat → Prop} {x : S38} {cs : List Value} (h : k38.M w base ok x cs) : ∃ v5 v6 v7 v8 v9 v11 v13, cs = [.int .i64 x.f0, .int .i64 x.f1, .int .i64 x.f2, .int .i64 x.f3, .int .u64 x.f4, v5, v6, v7, v8, v9, .string x.f10.f0, v11, .int .u64 x.f10.f2, v13] ∧ (Kd.int .u64).R 29 w base ok v5 x.f5 ∧ k78.R 78 w base ok v6 x.f6 ∧ Kd.string.R 9 w base ok v7 x.f7 ∧ Kd.string.R 9 w base ok v8 x.f8 ∧ k82.R 82 w base ok v9 x.f9 ∧ (Kd.int .i64).R 3 w base ok v11 x.f10.f1 ∧ Kd.string.R 9 w base ok v13 x.f10.f3 := by
  obtain ⟨_, _, rfl, rfl, ⟨_, _, rfl, rfl, ⟨_, _, rfl, rfl, ⟨_, _, rfl, rfl, ⟨_, _, rfl, rfl, ⟨_, _, rfl, ⟨v5, rfl, g5⟩, ⟨_, _, rfl, ⟨v6, rfl, g6⟩, ⟨_, _, rfl, ⟨v7, rfl, g7⟩, ⟨_, _, rfl, ⟨v8, rfl, g8⟩, ⟨_, _, rfl, ⟨v9, rfl, g9⟩, s10⟩⟩⟩⟩⟩⟩⟩⟩⟩⟩ := h
  obtain ⟨v11, v13, rfl, g11, g13⟩ := k36_openM s10
  exact ⟨v5, v6, v7, v8, v9, v11, v13, rfl, g5, g6, g7, g8, g9, g11, g13⟩
theorem k38_mk (w : World) (x : S38) {A5 : Option Addr} {c5 : Nat} (l5 : x.f5.length ≤ c5) (g5 : (Kd.int .u64).C w A5 x.f5.length x.f5) {A6 : Option Addr} {c6 : Nat} (l6 : x.f6.length ≤ c6) (g6 : k78.C w A6 x.f6.length x.f6) {A7 : Option Addr} {c7 : Nat} (l7 : x.f7.length ≤ c7) (g7 : Kd.string.C w A7 x.f7.length x.f7) {A8 : Option Addr} {c8 : Nat} (l8 : x.f8.length ≤ c8) (g8 : Kd.string.C w A8 x.f8.length x.f8) {A9 : Option Addr} {c9 : Nat} (l9 : x.f9.length ≤ c9) (g9 : k82.C w A9 x.f9.length x.f9) {A11 : Option Addr} {c11 : Nat} (l11 : x.f10.f1.length ≤ c11) (g11 : (Kd.int .i64).C w A11 x.f10.f1.length x.f10.f1) {A13 : Option Addr} {c13 : Nat} (l13 : x.f10.f3.length ≤ c13) (g13 : Kd.string.C w A13 x.f10.f3.length x.f10.f3) : k38.K w x [.int .i64 x.f0, .int .i64 x.f1, .int .i64 x.f2, .int .i64 x.f3, .int .u64 x.f4, .slice A5 x.f5.length c5, .slice A6 x.f6.length c6, .slice A7 x.f7.length c7, .slice A8 x.f8.length c8, .slice A9 x.f9.length c9, .string x.f10.f0, .slice A11 x.f10.f1.length c11, .int .u64 x.f10.f2, .slice A13 x.f10.f3.length c13] := ⟨[.int .i64 x.f0], [.int .i64 x.f1, .int .i64 x.f2, .int .i64 x.f3, .int .u64 x.f4, .slice A5 x.f5.length c5, .slice A6 x.f6.length c6, .slice A7 x.f7.length c7, .slice A8 x.f8.length c8, .slice A9 x.f9.length c9, .string x.f10.f0, .slice A11 x.f10.f1.length c11, .int .u64 x.f10.f2, .slice A13 x.f10.f3.length c13], rfl, rfl, ⟨[.int .i64 x.f1], [.int .i64 x.f2, .int .i64 x.f3, .int .u64 x.f4, .slice A5 x.f5.length c5, .slice A6 x.f6.length c6, .slice A7 x.f7.length c7, .slice A8 x.f8.length c8, .slice A9 x.f9.length c9, .string x.f10.f0, .slice A11 x.f10.f1.length c11, .int .u64 x.f10.f2, .slice A13 x.f10.f3.length c13], rfl, rfl, ⟨[.int .i64 x.f2], [.int .i64 x.f3, .int .u64 x.f4, .slice A5 x.f5.length c5, .slice A6 x.f6.length c6, .slice A7 x.f7.length c7, .slice A8 x.f8.length c8, .slice A9 x.f9.length c9, .string x.f10.f0, .slice A11 x.f10.f1.length c11, .int .u64 x.f10.f2, .slice A13 x.f10.f3.length c13], rfl, rfl, ⟨[.int .i64 x.f3], [.int .u64 x.f4, .slice A5 x.f5.length c5, .slice A6 x.f6.length c6, .slice A7 x.f7.length c7, .slice A8 x.f8.length c8, .slice A9 x.f9.length c9, .string x.f10.f0, .slice A11 x.f10.f1.length c11, .int .u64 x.f10.f2, .slice A13 x.f10.f3.length c13], rfl, rfl, ⟨[.int .u64 x.f4], [.slice A5 x.f5.length c5, .slice A6 x.f6.length c6, .slice A7 x.f7.length c7, .slice A8 x.f8.length c8, .slice A9 x.f9.length c9, .string x.f10.f0, .slice A11 x.f10.f1.length c11, .int .u64 x.f10.f2, .slice A13 x.f10.f3.length c13], rfl, rfl, ⟨[.slice A5 x.f5.length c5], [.slice A6 x.f6.length c6, .slice A7 x.f7.length c7, .slice A8 x.f8.length c8, .slice A9 x.f9.length c9, .string x.f10.f0, .slice A11 x.f10.f1.length c11, .int .u64 x.f10.f2, .slice A13 x.f10.f3.length c13], rfl, ⟨A5, c5, rfl, l5, g5⟩, ⟨[.slice A6 x.f6.length c6], [.slice A7 x.f7.length c7, .slice A8 x.f8.length c8, .slice A9 x.f9.length c9, .string x.f10.f0, .slice A11 x.f10.f1.length c11, .int .u64 x.f10.f2, .slice A13 x.f10.f3.length c13], rfl, ⟨A6, c6, rfl, l6, g6⟩, ⟨[.slice A7 x.f7.length c7], [.slice A8 x.f8.length c8, .slice A9 x.f9.length c9, .string x.f10.f0, .slice A11 x.f10.f1.length c11, .int .u64 x.f10.f2, .slice A13 x.f10.f3.length c13], rfl, ⟨A7, c7, rfl, l7, g7⟩, ⟨[.slice A8 x.f8.length c8], [.slice A9 x.f9.length c9, .string x.f10.f0, .slice A11 x.f10.f1.length c11, .int .u64 x.f10.f2, .slice A13 x.f10.f3.length c13], rfl, ⟨A8, c8, rfl, l8, g8⟩, ⟨[.slice A9 x.f9.length c9], [.string x.f10.f0, .slice A11 x.f10.f1.length c11, .int .u64 x.f10.f2, .slice A13 x.f10.f3.length c13], rfl, ⟨A9, c9, rfl, l9, g9⟩, (k36_mk w x.f10 l11 g11 l13 g13)⟩⟩⟩⟩⟩⟩⟩⟩⟩⟩
theorem k38_mkM (w : World) (base : Nat) (ok : Nat → Prop) (x : S38) {v5 : Value} (g5 : (Kd.int .u64).R 29 w base ok v5 x.f5) {v6 : Value} (g6 : k78.R 78 w base ok v6 x.f6) {v7 : Value} (g7 : Kd.string.R 9 w base ok v7 x.f7) {v8 : Value} (g8 : Kd.string.R 9 w base ok v8 x.f8) {v9 : Value} (g9 : k82.R 82 w base ok v9 x.f9) {v11 : Value} (g11 : (Kd.int .i64).R 3 w base ok v11 x.f10.f1) {v13 : Value} (g13 : Kd.string.R 9 w base ok v13 x.f10.f3) : k38.M w base ok x [.int .i64 x.f0, .int .i64 x.f1, .int .i64 x.f2, .int .i64 x.f3, .int .u64 x.f4, v5, v6, v7, v8, v9, .string x.f10.f0, v11, .int .u64 x.f10.f2, v13] := ⟨[.int .i64 x.f0], [.int .i64 x.f1, .int .i64 x.f2, .int .i64 x.f3, .int .u64 x.f4, v5, v6, v7, v8, v9, .string x.f10.f0, v11, .int .u64 x.f10.f2, v13], rfl, rfl, ⟨[.int .i64 x.f1], [.int .i64 x.f2, .int .i64 x.f3, .int .u64 x.f4, v5, v6, v7, v8, v9, .string x.f10.f0, v11, .int .u64 x.f10.f2, v13], rfl, rfl, ⟨[.int .i64 x.f2], [.int .i64 x.f3, .int .u64 x.f4, v5, v6, v7, v8, v9, .string x.f10.f0, v11, .int .u64 x.f10.f2, v13], rfl, rfl, ⟨[.int .i64 x.f3], [.int .u64 x.f4, v5, v6, v7, v8, v9, .string x.f10.f0, v11, .int .u64 x.f10.f2, v13], rfl, rfl, ⟨[.int .u64 x.f4], [v5, v6, v7, v8, v9, .string x.f10.f0, v11, .int .u64 x.f10.f2, v13], rfl, rfl, ⟨[v5], [v6, v7, v8, v9, .string x.f10.f0, v11, .int .u64 x.f10.f2, v13], rfl, ⟨v5, rfl, g5⟩, ⟨[v6], [v7, v8, v9, .string x.f10.f0, v11, .int .u64 x.f10.f2, v13], rfl, ⟨v6, rfl, g6⟩, ⟨[v7], [v8, v9, .string x.f10.f0, v11, .int .u64 x.f10.f2, v13], rfl, ⟨v7, rfl, g7⟩, ⟨[v8], [v9, .string x.f10.f0, v11, .int .u64 x.f10.f2, v13], rfl, ⟨v8, rfl, g8⟩, ⟨[v9], [.string x.f10.f0, v11, .int .u64 x.f10.f2, v13], rfl, ⟨v9, rfl, g9⟩, (k36_mkM w base ok x.f10 g11 g13)⟩⟩⟩⟩⟩⟩⟩⟩⟩⟩
def rd_T38 (xs : List S38) (i : Int) : S38 := xs.getD i.toNat z38
theorem at_T38 {w : World} {A : Option Addr} {n : Nat} {xs : List S38} (h : Kd.C k38 w A n xs) (i : Int) (h0 : 0 ≤ i) (h1 : i < n) : ∃ ad A5 c5 A6 c6 A7 c7 A8 c8 A9 c9 A11 c11 A13 c13, A = some ad ∧ w.cell? (ad.add (i.toNat * 14)) = some (.int .i64 (rd_T38 xs i).f0) ∧ w.cell? ⟨(ad.add (i.toNat * 14)).block, (ad.add (i.toNat * 14)).off + 1, none⟩ = some (.int .i64 (rd_T38 xs i).f1) ∧ w.cell? ⟨(ad.add (i.toNat * 14)).block, (ad.add (i.toNat * 14)).off + 2, none⟩ = some (.int .i64 (rd_T38 xs i).f2) ∧ w.cell? ⟨(ad.add (i.toNat * 14)).block, (ad.add (i.toNat * 14)).off + 3, none⟩ = some (.int .i64 (rd_T38 xs i).f3) ∧ w.cell? ⟨(ad.add (i.toNat * 14)).block, (ad.add (i.toNat * 14)).off + 4, none⟩ = some (.int .u64 (rd_T38 xs i).f4) ∧ w.cell? ⟨(ad.add (i.toNat * 14)).block, (ad.add (i.toNat * 14)).off + 5, none⟩ = some (.slice A5 (rd_T38 xs i).f5.length c5) ∧ w.cell? ⟨(ad.add (i.toNat * 14)).block, (ad.add (i.toNat * 14)).off + 6, none⟩ = some (.slice A6 (rd_T38 xs i).f6.length c6) ∧ w.cell? ⟨(ad.add (i.toNat * 14)).block, (ad.add (i.toNat * 14)).off + 7, none⟩ = some (.slice A7 (rd_T38 xs i).f7.length c7) ∧ w.cell? ⟨(ad.add (i.toNat * 14)).block, (ad.add (i.toNat * 14)).off + 8, none⟩ = some (.slice A8 (rd_T38 xs i).f8.length c8) ∧ w.cell? ⟨(ad.add (i.toNat * 14)).block, (ad.add (i.toNat * 14)).off + 9, none⟩ = some (.slice A9 (rd_T38 xs i).f9.length c9) ∧ w.cell? ⟨(ad.add (i.toNat * 14)).block, (ad.add (i.toNat * 14)).off + 10, none⟩ = some (.string (rd_T38 xs i).f10.f0) ∧ w.cell? ⟨(ad.add (i.toNat * 14)).block, (ad.add (i.toNat * 14)).off + 11, none⟩ = some (.slice A11 (rd_T38 xs i).f10.f1.length c11) ∧ w.cell? ⟨(ad.add (i.toNat * 14)).block, (ad.add (i.toNat * 14)).off + 12, none⟩ = some (.int .u64 (rd_T38 xs i).f10.f2) ∧ w.cell? ⟨(ad.add (i.toNat * 14)).block, (ad.add (i.toNat * 14)).off + 13, none⟩ = some (.slice A13 (rd_T38 xs i).f10.f3.length c13) ∧ (rd_T38 xs i).f5.length ≤ c5 ∧ (Kd.int .u64).C w A5 (rd_T38 xs i).f5.length (rd_T38 xs i).f5 ∧ (rd_T38 xs i).f6.length ≤ c6 ∧ k78.C w A6 (rd_T38 xs i).f6.length (rd_T38 xs i).f6 ∧ (rd_T38 xs i).f7.length ≤ c7 ∧ Kd.string.C w A7 (rd_T38 xs i).f7.length (rd_T38 xs i).f7 ∧ (rd_T38 xs i).f8.length ≤ c8 ∧ Kd.string.C w A8 (rd_T38 xs i).f8.length (rd_T38 xs i).f8 ∧ (rd_T38 xs i).f9.length ≤ c9 ∧ k82.C w A9 (rd_T38 xs i).f9.length (rd_T38 xs i).f9 ∧ (rd_T38 xs i).f10.f1.length ≤ c11 ∧ (Kd.int .i64).C w A11 (rd_T38 xs i).f10.f1.length (rd_T38 xs i).f10.f1 ∧ (rd_T38 xs i).f10.f3.length ≤ c13 ∧ Kd.string.C w A13 (rd_T38 xs i).f10.f3.length (rd_T38 xs i).f10.f3 := by
  obtain ⟨ad, c, e, _, hK, hc0⟩ := Kd.C_get h z38 i h0 h1
  have hc : ∀ j u, c[j]? = some u → w.cell? (ad.add (i.toNat * 14 + j)) = some u := hc0
  obtain ⟨A5, c5, A6, c6, A7, c7, A8, c8, A9, c9, A11, c11, A13, c13, rfl, l5, g5, l6, g6, l7, g7, l8, g8, l9, g9, l11, g11, l13, g13⟩ := k38_open hK
  exact ⟨ad, A5, c5, A6, c6, A7, c7, A8, c8, A9, c9, A11, c11, A13, c13, e, hc 0 _ rfl, by rw [← add_field _ _ 1 (by omega)]; exact hc 1 _ rfl, by rw [← add_field _ _ 2 (by omega)]; exact hc 2 _ rfl, by rw [← add_field _ _ 3 (by omega)]; exact hc 3 _ rfl, by rw [← add_field _ _ 4 (by omega)]; exact hc 4 _ rfl, by rw [← add_field _ _ 5 (by omega)]; exact hc 5 _ rfl, by rw [← add_field _ _ 6 (by omega)]; exact hc 6 _ rfl, by rw [← add_field _ _ 7 (by omega)]; exact hc 7 _ rfl, by rw [← add_field _ _ 8 (by omega)]; exact hc 8 _ rfl, by rw [← add_field _ _ 9 (by omega)]; exact hc 9 _ rfl, by rw [← add_field _ _ 10 (by omega)]; exact hc 10 _ rfl, by rw [← add_field _ _ 11 (by omega)]; exact hc 11 _ rfl, by rw [← add_field _ _ 12 (by omega)]; exact hc 12 _ rfl, by rw [← add_field _ _ 13 (by omega)]; exact hc 13 _ rfl, l5, g5, l6, g6, l7, g7, l8, g8, l9, g9, l11, g11, l13, g13⟩

/-! #### struct type 64 -/
structure S64 where
  f0 : Int
  f1 : S38
def z64 : S64 := ⟨(0 : Int), z38⟩
def k64 : Kd S64 := Kd.iso (Kd.pair (Kd.int .i64) k38) (fun x : S64 => (x.f0, x.f1))
theorem k64_open {w : World} {x : S64} {cs : List Value} (h : k64.K w x cs) : ∃ A6 c6 A7 c7 A8 c8 A9 c9 A10 c10 A12 c12 A14 c14, cs = [.int .i64 x.f0, .int .i64 x.f1.f0, .int .i64 x.f1.f1, .int .i64 x.f1.f2, .int .i64 x.f1.f3, .int .u64 x.f1.f4, .slice A6 x.f1.f5.length c6, .slice A7 x.f1.f6.length c7, .slice A8 x.f1.f7.length c8, .slice A9 x.f1.f8.length c9, .slice A10 x.f1.f9.length c10, .string x.f1.f10.f0, .slice A12 x.f1.f10.f1.length c12, .int .u64 x.f1.f10.f2, .slice A14 x.f1.f10.f3.length c14] ∧ x.f1.f5.length ≤ c6 ∧ (Kd.int .u64).C w A6 x.f1.f5.length x.f1.f5 ∧ x.f1.f6.length ≤ c7 ∧ k78.C w A7 x.f1.f6.length x.f1.f6 ∧ x.f1.f7.length ≤ c8 ∧ Kd.string.C w A8 x.f1.f7.length x.f1.f7 ∧ x.f1.f8.length ≤ c9 ∧ Kd.string.C w A9 x.f1.f8.length x.f1.f8 ∧ x.f1.f9.length ≤ c10 ∧ k82.C w A10 x.f1.f9.length x.f1.f9 ∧ x.f1.f10.f1.length ≤ c12 ∧ (Kd.int .i64).C w A12 x.f1.f10.f1.length x.f1.f10.f1 ∧ x.f1.f10.f3.length ≤ c14 ∧ Kd.string.C w A14 x.f1.f10.f3.length x.f1.f10.f3 := by
  obtain ⟨_, _, rfl, rfl, s1⟩ := h
  obtain ⟨A6, c6, A7, c7, A8, c8, A9, c9, A10, c10, A12, c12, A14, c14, rfl, l6, g6, l7, g7, l8, g8, l9, g9, l10, g10, l12, g12, l14, g14⟩ := k38_open s1
  exact ⟨A6, c6, A7, c7, A8, c8, A9, c9, A10, c10, A12, c12, A14, c14, rfl, l6, g6, l7, g7, l8, g8, l9, g9, l10, g10, l12, g12, l14, g14⟩
theorem k64_openM {w : World} {base : Nat} {ok : Nat → Prop} {x : S64} {cs : List Value} (h : k64.M w base ok x cs) : ∃ v6 v7 v8 v9 v10 v12 v14, cs = [.int .i64 x.f0, .int .i64 x.f1.f0, .int .i64 x.f1.f1, .int .i64 x.f1.f2, .int .i64 x.f1.f3, .int .u64 x.f1.f4, v6, v7, v8, v9, v10, .string x.f1.f10.f0, v12, .int .u64 x.f1.f10.f2, v14] ∧ (Kd.int .u64).R 29 w base ok v6 x.f1.f5 ∧ k78.R 78 w base ok v7 x.f1.f6 ∧ Kd.string.R 9 w base ok v8 x.f1.f7 ∧ Kd.string.R 9 w base ok v9 x.f1.f8 ∧ k82.R 82 w base ok v10 x.f1.f9 ∧ (Kd.int .i64).R 3 w base ok v12 x.f1.f10.f1 ∧ Kd.string.R 9 w base ok v14 x.f1.f10.f3 := by
  obtain ⟨_, _, rfl, rfl, s1⟩ := h
  obtain ⟨v6, v7, v8, v9, v10, v12, v14, rfl, g6, g7, g8, g9, g10, g12, g14⟩ := k38_openM s1
  exact ⟨v6, v7, v8, v9, v10, v12, v14, rfl, g6, g7, g8, g9, g10, g12, g14⟩
theorem k64_mk (w : World) (x : S64) {A6 : Option Addr} {c6 : Nat} (l6 : x.f1.f5.length ≤ c6) (g6 : (Kd.int .u64).C w A6 x.f1.f5.length x.f1.f5) {A7 : Option Addr} {c7 : Nat} (l7 : x.f1.f6.length ≤ c7) (g7 : k78.C w A7 x.f1.f6.length x.f1.f6) {A8 : Option Addr} {c8 : Nat} (l8 : x.f1.f7.length ≤ c8) (g8 : Kd.string.C w A8 x.f1.f7.length x.f1.f7) {A9 : Option Addr} {c9 : Nat} (l9 : x.f1.f8.length ≤ c9) (g9 : Kd.string.C w A9 x.f1.f8.length x.f1.f8) {A10 : Option Addr} {c10 : Nat} (l10 : x.f1.f9.length ≤ c10) (g10 : k82.C w A10 x.f1.f9.length x.f1.f9) {A12 : Option Addr} {c12 : Nat} (l12 : x.f1.f10.f1.length ≤ c12) (g12 : (Kd.int .i64).C w A12 x.f1.f10.f1.length x.f1.f10.f1) {A14 : Option Addr} {c14 : Nat} (l14 : x.f1.f10.f3.length ≤ c14) (g14 : Kd.string.C w A14 x.f1.f10.f3.length x.f1.f10.f3) : k64.K w x [.int .i64 x.f0, .int .i64 x.f1.f0, .int .i64 x.f1.f1, .int .i64 x.f1.f2, .int .i64 x.f1.f3, .int .u64 x.f1.f4, .slice A6 x.f1.f5.length c6, .slice A7 x.f1.f6.length c7, .slice A8 x.f1.f7.length c8, .slice A9 x.f1.f8.length c9, .slice A10 x.f1.f9.length c10, .string x.f1.f10.f0, .slice A12 x.f1.f10.f1.length c12, .int .u64 x.f1.f10.f2, .slice A14 x.f1.f10.f3.length c14] := ⟨[.int .i64 x.f0], [.int .i64 x.f1.f0, .int .i64 x.f1.f1, .int .i64 x.f1.f2, .int .i64 x.f1.f3, .int .u64 x.f1.f4, .slice A6 x.f1.f5.length c6, .slice A7 x.f1.f6.length c7, .slice A8 x.f1.f7.length c8, .slice A9 x.f1.f8.length c9, .slice A10 x.f1.f9.length c10, .string x.f1.f10.f0, .slice A12 x.f1.f10.f1.length c12, .int .u64 x.f1.f10.f2, .slice A14 x.f1.f10.f3.length c14], rfl, rfl, (k38_mk w x.f1 l6 g6 l7 g7 l8 g8 l9 g9 l10 g10 l12 g12 l14 g14)⟩
theorem k64_mkM (w : World) (base : Nat) (ok : Nat → Prop) (x : S64) {v6 : Value} (g6 : (Kd.int .u64).R 29 w base ok v6 x.f1.f5) {v7 : Value} (g7 : k78.R 78 w base ok v7 x.f1.f6) {v8 : Value} (g8 : Kd.string.R 9 w base ok v8 x.f1.f7) {v9 : Value} (g9 : Kd.string.R 9 w base ok v9 x.f1.f8) {v10 : Value} (g10 : k82.R 82 w base ok v10 x.f1.f9) {v12 : Value} (g12 : (Kd.int .i64).R 3 w base ok v12 x.f1.f10.f1) {v14 : Value} (g14 : Kd.string.R 9 w base ok v14 x.f1.f10.f3) : k64.M w base ok x [.int .i64 x.f0, .int .i64 x.f1.f0, .int .i64 x.f1.f1, .int .i64 x.f1.f2, .int .i64 x.f1.f3, .int .u64 x.f1.f4, v6, v7, v8, v9, v10, .string x.f1.f10.f0, v12, .int .u64 x.f1.f10.f2, v14] := ⟨[.int .i64 x.f0], [.int .i64 x.f1.f0, .int .i64 x.f1.f1, .int .i64 x.f1.f2, .int .i64 x.f1.f3, .int .u64 x.f1.f4, v6, v7, v8, v9, v10, .string x.f1.f10.f0, v12, .int .u64 x.f1.f10.f2, v14], rfl, rfl, (k38_mkM w base ok x.f1 g6 g7 g8 g9 g10 g12 g14)⟩
def rd_T64 (xs : List S64) (i : Int) : S64 := xs.getD i.toNat z64
theorem at_T64 {w : World} {A : Option Addr} {n : Nat} {xs : List S64} (h : Kd.C k64 w A n xs) (i : Int) (h0 : 0 ≤ i) (h1 : i < n) : ∃ ad A6 c6 A7 c7 A8 c8 A9 c9 A10 c10 A12 c12 A14 c14, A = some ad ∧ w.cell? (ad.add (i.toNat * 15)) = some (.int .i64 (rd_T64 xs i).f0) ∧ w.cell? ⟨(ad.add (i.toNat * 15)).block, (ad.add (i.toNat * 15)).off + 1, none⟩ = some (.int .i64 (rd_T64 xs i).f1.f0) ∧ w.cell? ⟨(ad.add (i.toNat * 15)).block, (ad.add (i.toNat * 15)).off + 2, none⟩ = some (.int .i64 (rd_T64 xs i).f1.f1) ∧ w.cell? ⟨(ad.add (i.toNat * 15)).block, (ad.add (i.toNat * 15)).off + 3, none⟩ = some (.int .i64 (rd_T64 xs i).f1.f2) ∧ w.cell? ⟨(ad.add (i.toNat * 15)).block, (ad.add (i.toNat * 15)).off + 4, none⟩ = some (.int .i64 (rd_T64 xs i).f1.f3) ∧ w.cell? ⟨(ad.add (i.toNat * 15)).block, (ad.add (i.toNat * 15)).off + 5, none⟩ = some (.int .u64 (rd_T64 xs i).f1.f4) ∧ w.cell? ⟨(ad.add (i.toNat * 15)).block, (ad.add (i.toNat * 15)).off + 6, none⟩ = some (.slice A6 (rd_T64 xs i).f1.f5.length c6) ∧ w.cell? ⟨(ad.add (i.toNat * 15)).block, (ad.add (i.toNat * 15)).off + 7, none⟩ = some (.slice A7 (rd_T64 xs i).f1.f6.length c7) ∧ w.cell? ⟨(ad.add (i.toNat * 15)).block, (ad.add (i.toNat * 15)).off + 8, none⟩ = some (.slice A8 (rd_T64 xs i).f1.f7.length c8) ∧ w.cell? ⟨(ad.add (i.toNat * 15)).block, (ad.add (i.toNat * 15)).off + 9, none⟩ = some (.slice A9 (rd_T64 xs i).f1.f8.length c9) ∧ w.cell? ⟨(ad.add (i.toNat * 15)).block, (ad.add (i.toNat * 15)).off + 10, none⟩ = some (.slice A10 (rd_T64 xs i).f1.f9.length c10) ∧ w.cell? ⟨(ad.add (i.toNat * 15)).block, (ad.add (i.toNat * 15)).off + 11, none⟩ = some (.string (rd_T64 xs i).f1.f10.f0) ∧ w.cell? ⟨(ad.add (i.toNat * 15)).block, (ad.add (i.toNat * 15)).off + 12, none⟩ = some (.slice A12 (rd_T64 xs i).f1.f10.f1.length c12) ∧ w.cell? ⟨(ad.add (i.toNat * 15)).block, (ad.add (i.toNat * 15)).off + 13, none⟩ = some (.int .u64 (rd_T64 xs i).f1.f10.f2) ∧ w.cell? ⟨(ad.add (i.toNat * 15)).block, (ad.add (i.toNat * 15)).off + 14, none⟩ = some (.slice A14 (rd_T64 xs i).f1.f10.f3.length c14) ∧ (rd_T64 xs i).f1.f5.length ≤ c6 ∧ (Kd.int .u64).C w A6 (rd_T64 xs i).f1.f5.length (rd_T64 xs i).f1.f5 ∧ (rd_T64 xs i).f1.f6.length ≤ c7 ∧ k78.C w A7 (rd_T64 xs i).f1.f6.length (rd_T64 xs i).f1.f6 ∧ (rd_T64 xs i).f1.f7.length ≤ c8 ∧ Kd.string.C w A8 (rd_T64 xs i).f1.f7.length (rd_T64 xs i).f1.f7 ∧ (rd_T64 xs i).f1.f8.length ≤ c9 ∧ Kd.string.C w A9 (rd_T64 xs i).f1.f8.length (rd_T64 xs i).f1.f8 ∧ (rd_T64 xs i).f1.f9.length ≤ c10 ∧ k82.C w A10 (rd_T64 xs i).f1.f9.length (rd_T64 xs i).f1.f9 ∧ (rd_T64 xs i).f1.f10.f1.length ≤ c12 ∧ (Kd.int .i64).C w A12 (rd_T64 xs i).f1.f10.f1.length (rd_T64 xs i).f1.f10.f1 ∧ (rd_T64 xs i).f1.f10.f3.length ≤ c14 ∧ Kd.string.C w A14 (rd_T64 xs i).f1.f10.f3.length (rd_T64 xs i).f1.f10.f3 := by
  obtain ⟨ad, c, e, _, hK, hc0⟩ := Kd.C_get h z64 i h0 h1
  have hc : ∀ j u, c[j]? = some u → w.cell? (ad.add (i.toNat * 15 + j)) = some u := hc0
  obtain ⟨A6, c6, A7, c7, A8, c8, A9, c9, A10, c10, A12, c12, A14, c14, rfl, l6, g6, l7, g7, l8, g8, l9, g9, l10, g10, l12, g12, l14, g14⟩ := k64_open hK
  exact ⟨ad, A6, c6, A7, c7, A8, c8, A9, c9, A10, c10, A12, c12, A14, c14, e, hc 0 _ rfl, by rw [← add_field _ _ 1 (by omega)]; exact hc 1 _ rfl, by rw [← add_field _ _ 2 (by omega)]; exact hc 2 _ rfl, by rw [← add_field _ _ 3 (by omega)]; exact hc 3 _ rfl, by rw [← add_field _ _ 4 (by omega)]; exact hc 4 _ rfl, by rw [← add_field _ _ 5 (by omega)]; exact hc 5 _ rfl, by rw [← add_field _ _ 6 (by omega)]; exact hc 6 _ rfl, by rw [← add_field _ _ 7 (by omega)]; exact hc 7 _ rfl, by rw [← add_field _ _ 8 (by omega)]; exact hc 8 _ rfl, by rw [← add_field _ _ 9 (by omega)]; exact hc 9 _ rfl, by rw [← add_field _ _ 10 (by omega)]; exact hc 10 _ rfl, by rw [← add_field _ _ 11 (by omega)]; exact hc 11 _ rfl, by rw [← add_field _ _ 12 (by omega)]; exact hc 12 _ rfl, by rw [← add_field _ _ 13 (by omega)]; exact hc 13 _ rfl, by rw [← add_field _ _ 14 (by omega)]; exact hc 14 _ rfl, l6, g6, l7, g7, l8, g8, l9, g9, l10, g10, l12, g12, l14, g14⟩

end Go.Proofs.Ythadibmgahlpfaa.MD
