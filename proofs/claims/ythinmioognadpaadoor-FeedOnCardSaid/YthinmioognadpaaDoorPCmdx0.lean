-- Printed by a program of this session over its told contracts; Lean checks it.
import Derived.Test.YthinmioognadpaaDoorProg
import Derived.Test.YthinmioognadpaaDoorTold
import Derived.Test.YthinmioognadpaaDoorShort
import Derived.Below
import Derived.Deep.Draws
import Derived.Deep.AppendLies
import Derived.Maps.AppendAt
import Derived.OwnWalk
import Derived.Laws.BytesArg
import Derived.Laws.MakeOwn
import Derived.Laws.OwnMore
import Derived.Deep.OwnRows
import Derived.Tactics
import Derived.Lib.ConvBytes
import Derived.Laws.Slices
import Derived.WalkKit
import Derived.KernelRfl
import Derived.RowKit3
import Derived.Deep.LoopGhost
import Derived.Deep.QuietTactic
import Derived.BigQuiet
import Derived.WideLaws
import Derived.Deep.DeepCutAuto
import Derived.Deep.CutBlock
import Derived.Deep.RegionHeld3
import Derived.Laws.Rows
import Derived.Lib.AppendStr
import Derived.ArgAppend
import Derived.Laws.IdiomCopy
import Derived.OrdersHeld
import Derived.Laws.BitsLemmas
import Derived.RowKit
import Derived.Test.YthinmioognadpaaDoorWWords
import Derived.Test.YthinmioognadpaaDoorWLast
import Derived.Test.YthinmioognadpaaDoorWTab
import Derived.Test.YthinmioognadpaaDoorWFour
import Derived.Test.YthinmioognadpaaDoorWQPut
import Derived.Test.YthinmioognadpaaDoorWApart
import Derived.Test.YthinmioognadpaaDoorWArr
import Derived.Test.YthinmioognadpaaDoorWZeros
import Derived.Test.YthinmioognadpaaDoorWFoot
import Derived.Test.YthinmioognadpaaDoorWKept
import Derived.Test.YthinmioognadpaaDoorWShare
import Derived.Test.YthinmioognadpaaDoorWN
import Derived.Test.YthinmioognadpaaDoorWFootNe
import Derived.Test.YthinmioognadpaaDoorWAt
import Derived.Test.YthinmioognadpaaDoorWEqStruct
import Derived.Test.YthinmioognadpaaDoorWRepsOne
import Derived.Test.YthinmioognadpaaDoorWInv
import Derived.Test.YthinmioognadpaaDoorWInvWords
import Derived.Test.YthinmioognadpaaDoorWGuard
import Derived.Test.YthinmioognadpaaDoorWNEv
import Derived.Test.YthinmioognadpaaDoorWMore
namespace Go.Proofs.YthinmioognadpaaDoor.PCmd
open Go.RowKit Go.Proofs.YthinmioognadpaaDoorW.PrintWords Go.Proofs.YthinmioognadpaaDoorW.PrintLast Go.Proofs.YthinmioognadpaaDoorW.PrintMore
attribute [local go_sem] max2_int min2_int max_two min_two max_three min_three max_four min_four   -- for this text's walks alone
set_option linter.unusedVariables false
set_option linter.unusedSimpArgs false



def errW : Option Int → Value
  | none => .nilIface
  | some c => .iface 0 (.int .i64 c)
theorem errW_none : errW none = .nilIface := rfl
theorem errW_some (c : Int) : errW (some c) = .iface 0 (.int .i64 c) := rfl

theorem info5 : (Tryd.prog.info? 5).map (fun i => (i.zero, i.size, i.bytes)) = some (some (.int .u8 0), 1, 1) := by kernel_rfl
theorem info9 : (Tryd.prog.info? 9).map (fun i => (i.zero, i.size, i.bytes)) = some (some (.string ⟨#[]⟩), 1, 16) := by kernel_rfl
-- the values' own types
def rd_L3 (xs : List (List ByteArray)) (i : Int) : (List ByteArray) := xs.getD i.toNat ([] : List ByteArray)
theorem at_L3 {w : World} {A : Option Addr} {n : Nat} {xs : List (List ByteArray)} (h : Kd.C (Kd.slice 9 Kd.string) w A n xs) (i : Int) (h0 : 0 ≤ i) (h1 : i < n) : ∃ ad A0 c0, A = some ad ∧ w.cell? (ad.add i.toNat) = some (.slice A0 (rd_L3 xs i).length c0) ∧ (rd_L3 xs i).length ≤ c0 ∧ Kd.string.C w A0 (rd_L3 xs i).length (rd_L3 xs i) := by
  obtain ⟨ad, c, e, _, hK, hc0⟩ := Kd.C_get h ([] : List ByteArray) i h0 h1
  have hc : ∀ j u, c[j]? = some u → w.cell? (ad.add (i.toNat * 1 + j)) = some u := hc0
  obtain ⟨A0, c0, rfl, l0, g0⟩ := hK
  exact ⟨ad, A0, c0, e, by have hq := hc 0 _ rfl; rwa [Nat.mul_one, Nat.add_zero] at hq, l0, g0⟩

/-! #### struct type 28 -/
structure S28 where
  f0 : Int
  f1 : (List ByteArray)
  f2 : Int
  f3 : Int
  f4 : ByteArray
  f5 : Bool
  f6 : ByteArray
def z28 : S28 := ⟨(0 : Int), ([] : List ByteArray), (0 : Int), (0 : Int), (⟨#[]⟩ : ByteArray), false, (⟨#[]⟩ : ByteArray)⟩
def k28 : Kd S28 := Kd.iso (Kd.pair (Kd.int .i64) (Kd.pair (Kd.slice 9 Kd.string) (Kd.pair (Kd.int .u32) (Kd.pair (Kd.int .i64) (Kd.pair Kd.string (Kd.pair Kd.bool Kd.string)))))) (fun x : S28 => (x.f0, x.f1, x.f2, x.f3, x.f4, x.f5, x.f6))
theorem k28_open {w : World} {x : S28} {cs : List Value} (h : k28.K w x cs) : ∃ A1 c1, cs = [.int .i64 x.f0, .slice A1 x.f1.length c1, .int .u32 x.f2, .int .i64 x.f3, .string x.f4, .bool x.f5, .string x.f6] ∧ x.f1.length ≤ c1 ∧ Kd.string.C w A1 x.f1.length x.f1 := by
  obtain ⟨_, _, rfl, rfl, ⟨_, _, rfl, ⟨A1, c1, rfl, l1, g1⟩, ⟨_, _, rfl, rfl, ⟨_, _, rfl, rfl, ⟨_, _, rfl, rfl, ⟨_, _, rfl, rfl, rfl⟩⟩⟩⟩⟩⟩ := h
  exact ⟨A1, c1, rfl, l1, g1⟩
theorem k28_openM {w : World} {base : Nat} {ok : Nat → Prop} {x : S28} {cs : List Value} (h : k28.M w base ok x cs) : ∃ v1, cs = [.int .i64 x.f0, v1, .int .u32 x.f2, .int .i64 x.f3, .string x.f4, .bool x.f5, .string x.f6] ∧ Kd.string.R 9 w base ok v1 x.f1 := by
  obtain ⟨_, _, rfl, rfl, ⟨_, _, rfl, ⟨v1, rfl, g1⟩, ⟨_, _, rfl, rfl, ⟨_, _, rfl, rfl, ⟨_, _, rfl, rfl, ⟨_, _, rfl, rfl, rfl⟩⟩⟩⟩⟩⟩ := h
  exact ⟨v1, rfl, g1⟩
theorem k28_mk (w : World) (x : S28) {A1 : Option Addr} {c1 : Nat} (l1 : x.f1.length ≤ c1) (g1 : Kd.string.C w A1 x.f1.length x.f1) : k28.K w x [.int .i64 x.f0, .slice A1 x.f1.length c1, .int .u32 x.f2, .int .i64 x.f3, .string x.f4, .bool x.f5, .string x.f6] := ⟨[.int .i64 x.f0], [.slice A1 x.f1.length c1, .int .u32 x.f2, .int .i64 x.f3, .string x.f4, .bool x.f5, .string x.f6], rfl, rfl, ⟨[.slice A1 x.f1.length c1], [.int .u32 x.f2, .int .i64 x.f3, .string x.f4, .bool x.f5, .string x.f6], rfl, ⟨A1, c1, rfl, l1, g1⟩, ⟨[.int .u32 x.f2], [.int .i64 x.f3, .string x.f4, .bool x.f5, .string x.f6], rfl, rfl, ⟨[.int .i64 x.f3], [.string x.f4, .bool x.f5, .string x.f6], rfl, rfl, ⟨[.string x.f4], [.bool x.f5, .string x.f6], rfl, rfl, ⟨[.bool x.f5], [.string x.f6], rfl, rfl, rfl⟩⟩⟩⟩⟩⟩
theorem k28_mkM (w : World) (base : Nat) (ok : Nat → Prop) (x : S28) {v1 : Value} (g1 : Kd.string.R 9 w base ok v1 x.f1) : k28.M w base ok x [.int .i64 x.f0, v1, .int .u32 x.f2, .int .i64 x.f3, .string x.f4, .bool x.f5, .string x.f6] := ⟨[.int .i64 x.f0], [v1, .int .u32 x.f2, .int .i64 x.f3, .string x.f4, .bool x.f5, .string x.f6], rfl, rfl, ⟨[v1], [.int .u32 x.f2, .int .i64 x.f3, .string x.f4, .bool x.f5, .string x.f6], rfl, ⟨v1, rfl, g1⟩, ⟨[.int .u32 x.f2], [.int .i64 x.f3, .string x.f4, .bool x.f5, .string x.f6], rfl, rfl, ⟨[.int .i64 x.f3], [.string x.f4, .bool x.f5, .string x.f6], rfl, rfl, ⟨[.string x.f4], [.bool x.f5, .string x.f6], rfl, rfl, ⟨[.bool x.f5], [.string x.f6], rfl, rfl, rfl⟩⟩⟩⟩⟩⟩
def rd_T28 (xs : List S28) (i : Int) : S28 := xs.getD i.toNat z28
theorem at_T28 {w : World} {A : Option Addr} {n : Nat} {xs : List S28} (h : Kd.C k28 w A n xs) (i : Int) (h0 : 0 ≤ i) (h1 : i < n) : ∃ ad A1 c1, A = some ad ∧ w.cell? (ad.add (i.toNat * 7)) = some (.int .i64 (rd_T28 xs i).f0) ∧ w.cell? ⟨(ad.add (i.toNat * 7)).block, (ad.add (i.toNat * 7)).off + 1, none⟩ = some (.slice A1 (rd_T28 xs i).f1.length c1) ∧ w.cell? ⟨(ad.add (i.toNat * 7)).block, (ad.add (i.toNat * 7)).off + 2, none⟩ = some (.int .u32 (rd_T28 xs i).f2) ∧ w.cell? ⟨(ad.add (i.toNat * 7)).block, (ad.add (i.toNat * 7)).off + 3, none⟩ = some (.int .i64 (rd_T28 xs i).f3) ∧ w.cell? ⟨(ad.add (i.toNat * 7)).block, (ad.add (i.toNat * 7)).off + 4, none⟩ = some (.string (rd_T28 xs i).f4) ∧ w.cell? ⟨(ad.add (i.toNat * 7)).block, (ad.add (i.toNat * 7)).off + 5, none⟩ = some (.bool (rd_T28 xs i).f5) ∧ w.cell? ⟨(ad.add (i.toNat * 7)).block, (ad.add (i.toNat * 7)).off + 6, none⟩ = some (.string (rd_T28 xs i).f6) ∧ (rd_T28 xs i).f1.length ≤ c1 ∧ Kd.string.C w A1 (rd_T28 xs i).f1.length (rd_T28 xs i).f1 := by
  obtain ⟨ad, c, e, _, hK, hc0⟩ := Kd.C_get h z28 i h0 h1
  have hc : ∀ j u, c[j]? = some u → w.cell? (ad.add (i.toNat * 7 + j)) = some u := hc0
  obtain ⟨A1, c1, rfl, l1, g1⟩ := k28_open hK
  exact ⟨ad, A1, c1, e, hc 0 _ rfl, by rw [← add_field _ _ 1 (by omega)]; exact hc 1 _ rfl, by rw [← add_field _ _ 2 (by omega)]; exact hc 2 _ rfl, by rw [← add_field _ _ 3 (by omega)]; exact hc 3 _ rfl, by rw [← add_field _ _ 4 (by omega)]; exact hc 4 _ rfl, by rw [← add_field _ _ 5 (by omega)]; exact hc 5 _ rfl, by rw [← add_field _ _ 6 (by omega)]; exact hc 6 _ rfl, l1, g1⟩

end Go.Proofs.YthinmioognadpaaDoor.PCmd
