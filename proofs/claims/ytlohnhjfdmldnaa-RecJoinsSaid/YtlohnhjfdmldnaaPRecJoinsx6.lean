-- Printed by a program of this session over its told contracts; Lean checks it.
import Derived.Test.YtlohnhjfdmldnaaPRecJoinsx0
import Derived.Test.YtlohnhjfdmldnaaPRecJoinsx1
import Derived.Test.YtlohnhjfdmldnaaPRecJoinsx2
import Derived.Test.YtlohnhjfdmldnaaPRecJoinsx5
namespace Go.Proofs.Ytlohnhjfdmldnaa.PRecJoins
open Go.RowKit Go.Proofs.YtlohnhjfdmldnaaW.PrintWords Go.Proofs.YtlohnhjfdmldnaaW.PrintLast Go.Proofs.YtlohnhjfdmldnaaW.PrintMore
attribute [local go_sem] max2_int min2_int max_two min_two max_three min_three max_four min_four   -- for this text's walks alone
set_option linter.unusedVariables false
set_option linter.unusedSimpArgs false

attribute [local go_sem high] eqA27
/-! ### tattlerlaw06_RecJoins: function 6 -/
mutual
def tattlerlaw06_RecJoins.j0 : Nat → ByteArray → List (S27) → Int → Bool → Option (Bool)
  | 0, _, _, _, _ => none
  | k + 1, x0, x1, x2, x28 => if x28 = true then ((tattlerlaw06_fixed.f).bind fun t130 => (some t130)) else (tattlerlaw06_RecJoins.l0 k x0 x2 ([] : List (S27)) x1 (x1.length : Int) 0)
def tattlerlaw06_RecJoins.l0 : Nat → ByteArray → Int → List (S27) → List (S27) → Int → Int → Option (Bool)
  | 0, _, _, _, _, _, _ => none
  | k + 1, x0, x2, x7, x30, x31, x32 => if x32 < x31 then (if 0 ≤ x32 then (if x32 < (x30.length : Int) then ((tattlerlaw06_great.f k (([(⟨(rd_T27 x30 x32).f0, (⟨(rd_T27 x30 x32).f1.f0, (rd_T27 x30 x32).f1.f1, (rd_T27 x30 x32).f1.f2⟩ : S25), (rd_T27 x30 x32).f2, (rd_T27 x30 x32).f3, (rd_T27 x30 x32).f4, (rd_T27 x30 x32).f5⟩ : S27)] : List (S27)))).bind fun t136 => (if t136 = true then ((tattlerlaw06_fixed.f).bind fun t137 => (some t137)) else (if x7.length < 2199023255552 then (tattlerlaw06_RecJoins.l0 k x0 x2 (x7 ++ [(⟨x0, (⟨(rd_T27 x30 x32).f1.f0, (rd_T27 x30 x32).f1.f1, (rd_T27 x30 x32).f1.f2⟩ : S25), (rd_T27 x30 x32).f2, (rd_T27 x30 x32).f3, (rd_T27 x30 x32).f4, (rd_T27 x30 x32).f5⟩ : S27)]) x30 x31 (wrap64 (x32 + 1))) else (none)))) else (none)) else (none)) else (if (x7.length : Int) = 0 then (none) else (if 0 < (x7.length : Int) then (if 0 ≤ (Int.tmod (wrap64 (x2)) (x7.length : Int)) then (if (Int.tmod (wrap64 (x2)) (x7.length : Int)) < (x7.length : Int) then (tattlerlaw06_RecJoins.l1 k x7 (Int.tmod (wrap64 (x2)) (x7.length : Int)) (x7.length : Int) 0 ((rd_T27 x7 0).f0) ((rd_T27 x7 0).f1.f0) ((rd_T27 x7 0).f1.f1) ((rd_T27 x7 0).f1.f2) ((rd_T27 x7 0).f2) ((rd_T27 x7 0).f3) ((rd_T27 x7 0).f4) ((rd_T27 x7 0).f5) ((rd_T27 x7 (Int.tmod (wrap64 (x2)) (x7.length : Int))).f0) ((rd_T27 x7 (Int.tmod (wrap64 (x2)) (x7.length : Int))).f1.f0) ((rd_T27 x7 (Int.tmod (wrap64 (x2)) (x7.length : Int))).f1.f1) ((rd_T27 x7 (Int.tmod (wrap64 (x2)) (x7.length : Int))).f1.f2) ((rd_T27 x7 (Int.tmod (wrap64 (x2)) (x7.length : Int))).f2) ((rd_T27 x7 (Int.tmod (wrap64 (x2)) (x7.length : Int))).f3) ((rd_T27 x7 (Int.tmod (wrap64 (x2)) (x7.length : Int))).f4) ((rd_T27 x7 (Int.tmod (wrap64 (x2)) (x7.length : Int))).f5)) else (none)) else (none)) else (none)))
def tattlerlaw06_RecJoins.l1 : Nat → List (S27) → Int → Int → Int → ByteArray → Int → Int → Int → Int → Int → Int → ByteArray → ByteArray → Int → Int → Int → Int → Int → Int → ByteArray → Option (Bool)
  | 0, _, _, _, _, _, _, _, _, _, _, _, _, _, _, _, _, _, _, _, _ => none
  | k + 1, x7, x10, x60, x61, x144000, x144001, x144002, x144003, x144004, x144005, x144006, x144007, x145000, x145001, x145002, x145003, x145004, x145005, x145006, x145007 => if x61 < x60 then (if 0 ≤ x61 then (if x61 < (x7.length : Int) then ((rec_Join.f x144000 x144001 x144002 x144003 x144004 x144005 x144006 x144007 ((rd_T27 x7 x61).f0) ((rd_T27 x7 x61).f1.f0) ((rd_T27 x7 x61).f1.f1) ((rd_T27 x7 x61).f1.f2) ((rd_T27 x7 x61).f2) ((rd_T27 x7 x61).f3) ((rd_T27 x7 x61).f4) ((rd_T27 x7 x61).f5)).bind fun bt146 => (if (x7.length : Int) = 0 then (none) else (if 0 ≤ (Int.tmod (wrap64 ((wrap64 (x10 + (x7.length : Int))) - x61)) (x7.length : Int)) then (if (Int.tmod (wrap64 ((wrap64 (x10 + (x7.length : Int))) - x61)) (x7.length : Int)) < (x7.length : Int) then ((rec_Join.f ((rd_T27 x7 (Int.tmod (wrap64 ((wrap64 (x10 + (x7.length : Int))) - x61)) (x7.length : Int))).f0) ((rd_T27 x7 (Int.tmod (wrap64 ((wrap64 (x10 + (x7.length : Int))) - x61)) (x7.length : Int))).f1.f0) ((rd_T27 x7 (Int.tmod (wrap64 ((wrap64 (x10 + (x7.length : Int))) - x61)) (x7.length : Int))).f1.f1) ((rd_T27 x7 (Int.tmod (wrap64 ((wrap64 (x10 + (x7.length : Int))) - x61)) (x7.length : Int))).f1.f2) ((rd_T27 x7 (Int.tmod (wrap64 ((wrap64 (x10 + (x7.length : Int))) - x61)) (x7.length : Int))).f2) ((rd_T27 x7 (Int.tmod (wrap64 ((wrap64 (x10 + (x7.length : Int))) - x61)) (x7.length : Int))).f3) ((rd_T27 x7 (Int.tmod (wrap64 ((wrap64 (x10 + (x7.length : Int))) - x61)) (x7.length : Int))).f4) ((rd_T27 x7 (Int.tmod (wrap64 ((wrap64 (x10 + (x7.length : Int))) - x61)) (x7.length : Int))).f5) x145000 x145001 x145002 x145003 x145004 x145005 x145006 x145007).bind fun bt155 => (tattlerlaw06_RecJoins.l1 k x7 x10 x60 (wrap64 (x61 + 1)) bt146.1 bt146.2.1 bt146.2.2.1 bt146.2.2.2.1 bt146.2.2.2.2.1 bt146.2.2.2.2.2.1 bt146.2.2.2.2.2.2.1 bt146.2.2.2.2.2.2.2 bt155.1 bt155.2.1 bt155.2.2.1 bt155.2.2.2.1 bt155.2.2.2.2.1 bt155.2.2.2.2.2.1 bt155.2.2.2.2.2.2.1 bt155.2.2.2.2.2.2.2)) else (none)) else (none)))) else (none)) else (none)) else (tattlerlaw06_RecJoins.l2 k x7 (x7.length : Int) 0 x144000 x144001 x144002 x144003 x144004 x144005 x144006 x144007 x145000 x145001 x145002 x145003 x145004 x145005 x145006 x145007)
def tattlerlaw06_RecJoins.l2 : Nat → List (S27) → Int → Int → ByteArray → Int → Int → Int → Int → Int → Int → ByteArray → ByteArray → Int → Int → Int → Int → Int → Int → ByteArray → Option (Bool)
  | 0, _, _, _, _, _, _, _, _, _, _, _, _, _, _, _, _, _, _, _ => none
  | k + 1, x85, x86, x87, x144000, x144001, x144002, x144003, x144004, x144005, x144006, x144007, x145000, x145001, x145002, x145003, x145004, x145005, x145006, x145007 => if x87 < x86 then (if 0 ≤ x87 then (if x87 < (x85.length : Int) then ((rec_Compare.f ((rd_T27 x85 x87).f0) ((rd_T27 x85 x87).f1.f0) ((rd_T27 x85 x87).f1.f1) ((rd_T27 x85 x87).f1.f2) ((rd_T27 x85 x87).f2) ((rd_T27 x85 x87).f3) ((rd_T27 x85 x87).f4) ((rd_T27 x85 x87).f5) x144000 x144001 x144002 x144003 x144004 x144005 x144006 x144007).bind fun t166 => (if t166 > 0 then (some false) else ((rec_Join.f ((rd_T27 x85 x87).f0) ((rd_T27 x85 x87).f1.f0) ((rd_T27 x85 x87).f1.f1) ((rd_T27 x85 x87).f1.f2) ((rd_T27 x85 x87).f2) ((rd_T27 x85 x87).f3) ((rd_T27 x85 x87).f4) ((rd_T27 x85 x87).f5) ((rd_T27 x85 x87).f0) ((rd_T27 x85 x87).f1.f0) ((rd_T27 x85 x87).f1.f1) ((rd_T27 x85 x87).f1.f2) ((rd_T27 x85 x87).f2) ((rd_T27 x85 x87).f3) ((rd_T27 x85 x87).f4) ((rd_T27 x85 x87).f5)).bind fun bt167 => (if (!(bt167.1.toList == (((rd_T27 x85 x87).f0).toList)) || ((!(bt167.2.1 == ((rd_T27 x85 x87).f1.f0)) || (!(bt167.2.2.1 == ((rd_T27 x85 x87).f1.f1)) || (!(bt167.2.2.2.1 == ((rd_T27 x85 x87).f1.f2))))) || (!(bt167.2.2.2.2.1 == ((rd_T27 x85 x87).f2)) || (!(bt167.2.2.2.2.2.1 == ((rd_T27 x85 x87).f3)) || (!(bt167.2.2.2.2.2.2.1 == ((rd_T27 x85 x87).f4)) || (!(bt167.2.2.2.2.2.2.2.toList == (((rd_T27 x85 x87).f5).toList)))))))) = true then (some false) else (tattlerlaw06_RecJoins.l2 k x85 x86 (wrap64 (x87 + 1)) x144000 x144001 x144002 x144003 x144004 x144005 x144006 x144007 x145000 x145001 x145002 x145003 x145004 x145005 x145006 x145007))))) else (none)) else (none)) else ((tattlerlaw06_fixed.f).bind fun t163 => (if t163 = true then (some (x144000.toList == x145000.toList && ((x144001 == x145001 && (x144002 == x145002 && (x144003 == x145003))) && (x144004 == x145004 && (x144005 == x145005 && (x144006 == x145006 && (x144007.toList == x145007.toList))))))) else (some false)))
end
def tattlerlaw06_RecJoins.f (k : Nat) (a0 : ByteArray) (l1 : List (S27)) (a2 : Int) : Option (Bool) := if (a0.size : Int) > 1000 then (tattlerlaw06_RecJoins.j0 k a0 l1 a2 true) else (if (l1.length : Int) > 50 then (tattlerlaw06_RecJoins.j0 k a0 l1 a2 true) else (tattlerlaw06_RecJoins.j0 k a0 l1 a2 ((l1.length : Int) == 0)))
theorem tattlerlaw06_RecJoins.mono_l : ∀ k, (∀ y0 y1 y2 y3, LeO (tattlerlaw06_RecJoins.j0 k y0 y1 y2 y3) (tattlerlaw06_RecJoins.j0 (k + 1) y0 y1 y2 y3)) ∧ (∀ y0 y1 y2 y3 y4 y5, LeO (tattlerlaw06_RecJoins.l0 k y0 y1 y2 y3 y4 y5) (tattlerlaw06_RecJoins.l0 (k + 1) y0 y1 y2 y3 y4 y5)) ∧ (∀ y0 y1 y2 y3 y4 y5 y6 y7 y8 y9 y10 y11 y12 y13 y14 y15 y16 y17 y18 y19, LeO (tattlerlaw06_RecJoins.l1 k y0 y1 y2 y3 y4 y5 y6 y7 y8 y9 y10 y11 y12 y13 y14 y15 y16 y17 y18 y19) (tattlerlaw06_RecJoins.l1 (k + 1) y0 y1 y2 y3 y4 y5 y6 y7 y8 y9 y10 y11 y12 y13 y14 y15 y16 y17 y18 y19)) ∧ (∀ y0 y1 y2 y3 y4 y5 y6 y7 y8 y9 y10 y11 y12 y13 y14 y15 y16 y17 y18, LeO (tattlerlaw06_RecJoins.l2 k y0 y1 y2 y3 y4 y5 y6 y7 y8 y9 y10 y11 y12 y13 y14 y15 y16 y17 y18) (tattlerlaw06_RecJoins.l2 (k + 1) y0 y1 y2 y3 y4 y5 y6 y7 y8 y9 y10 y11 y12 y13 y14 y15 y16 y17 y18))
  | 0 => ⟨fun _ _ _ _ r h => by simp [tattlerlaw06_RecJoins.j0] at h, fun _ _ _ _ _ _ r h => by simp [tattlerlaw06_RecJoins.l0] at h, fun _ _ _ _ _ _ _ _ _ _ _ _ _ _ _ _ _ _ _ _ r h => by simp [tattlerlaw06_RecJoins.l1] at h, fun _ _ _ _ _ _ _ _ _ _ _ _ _ _ _ _ _ _ _ r h => by simp [tattlerlaw06_RecJoins.l2] at h⟩
  | k + 1 => by
    obtain ⟨ih0, ih1, ih2, ih3⟩ := tattlerlaw06_RecJoins.mono_l k
    refine ⟨?_, ?_, ?_, ?_⟩
    · intro y0 y1 y2 y3
      unfold tattlerlaw06_RecJoins.j0
      repeat' first
      | (with_reducible exact ih0 _ _ _ _)
      | (with_reducible exact ih1 _ _ _ _ _ _)
      | (with_reducible exact ih2 _ _ _ _ _ _ _ _ _ _ _ _ _ _ _ _ _ _ _ _)
      | (with_reducible exact ih3 _ _ _ _ _ _ _ _ _ _ _ _ _ _ _ _ _ _ _)
      | (with_reducible exact tattlerlaw06_great.mono _ _)
      | (with_reducible exact LeO.refl _)
      | (with_reducible exact LeO.none _)
      | (with_reducible refine LeO.ite ?_ ?_)
      | (with_reducible refine LeO.bind ?_ (fun _ => ?_))
      | exact ih0 _ _ _ _
      | exact ih1 _ _ _ _ _ _
      | exact ih2 _ _ _ _ _ _ _ _ _ _ _ _ _ _ _ _ _ _ _ _
      | exact ih3 _ _ _ _ _ _ _ _ _ _ _ _ _ _ _ _ _ _ _
      | exact tattlerlaw06_great.mono _ _
      | exact LeO.none _
      | refine LeO.ite ?_ ?_
      | refine LeO.bind ?_ (fun _ => ?_)
    · intro y0 y1 y2 y3 y4 y5
      unfold tattlerlaw06_RecJoins.l0
      repeat' first
      | (with_reducible exact ih0 _ _ _ _)
      | (with_reducible exact ih1 _ _ _ _ _ _)
      | (with_reducible exact ih2 _ _ _ _ _ _ _ _ _ _ _ _ _ _ _ _ _ _ _ _)
      | (with_reducible exact ih3 _ _ _ _ _ _ _ _ _ _ _ _ _ _ _ _ _ _ _)
      | (with_reducible exact tattlerlaw06_great.mono _ _)
      | (with_reducible exact LeO.refl _)
      | (with_reducible exact LeO.none _)
      | (with_reducible refine LeO.ite ?_ ?_)
      | (with_reducible refine LeO.bind ?_ (fun _ => ?_))
      | exact ih0 _ _ _ _
      | exact ih1 _ _ _ _ _ _
      | exact ih2 _ _ _ _ _ _ _ _ _ _ _ _ _ _ _ _ _ _ _ _
      | exact ih3 _ _ _ _ _ _ _ _ _ _ _ _ _ _ _ _ _ _ _
      | exact tattlerlaw06_great.mono _ _
      | exact LeO.none _
      | refine LeO.ite ?_ ?_
      | refine LeO.bind ?_ (fun _ => ?_)
    · intro y0 y1 y2 y3 y4 y5 y6 y7 y8 y9 y10 y11 y12 y13 y14 y15 y16 y17 y18 y19
      unfold tattlerlaw06_RecJoins.l1
      repeat' first
      | (with_reducible exact ih0 _ _ _ _)
      | (with_reducible exact ih1 _ _ _ _ _ _)
      | (with_reducible exact ih2 _ _ _ _ _ _ _ _ _ _ _ _ _ _ _ _ _ _ _ _)
      | (with_reducible exact ih3 _ _ _ _ _ _ _ _ _ _ _ _ _ _ _ _ _ _ _)
      | (with_reducible exact tattlerlaw06_great.mono _ _)
      | (with_reducible exact LeO.refl _)
      | (with_reducible exact LeO.none _)
      | (with_reducible refine LeO.ite ?_ ?_)
      | (with_reducible refine LeO.bind ?_ (fun _ => ?_))
      | exact ih0 _ _ _ _
      | exact ih1 _ _ _ _ _ _
      | exact ih2 _ _ _ _ _ _ _ _ _ _ _ _ _ _ _ _ _ _ _ _
      | exact ih3 _ _ _ _ _ _ _ _ _ _ _ _ _ _ _ _ _ _ _
      | exact tattlerlaw06_great.mono _ _
      | exact LeO.none _
      | refine LeO.ite ?_ ?_
      | refine LeO.bind ?_ (fun _ => ?_)
    · intro y0 y1 y2 y3 y4 y5 y6 y7 y8 y9 y10 y11 y12 y13 y14 y15 y16 y17 y18
      unfold tattlerlaw06_RecJoins.l2
      repeat' first
      | (with_reducible exact ih0 _ _ _ _)
      | (with_reducible exact ih1 _ _ _ _ _ _)
      | (with_reducible exact ih2 _ _ _ _ _ _ _ _ _ _ _ _ _ _ _ _ _ _ _ _)
      | (with_reducible exact ih3 _ _ _ _ _ _ _ _ _ _ _ _ _ _ _ _ _ _ _)
      | (with_reducible exact tattlerlaw06_great.mono _ _)
      | (with_reducible exact LeO.refl _)
      | (with_reducible exact LeO.none _)
      | (with_reducible refine LeO.ite ?_ ?_)
      | (with_reducible refine LeO.bind ?_ (fun _ => ?_))
      | exact ih0 _ _ _ _
      | exact ih1 _ _ _ _ _ _
      | exact ih2 _ _ _ _ _ _ _ _ _ _ _ _ _ _ _ _ _ _ _ _
      | exact ih3 _ _ _ _ _ _ _ _ _ _ _ _ _ _ _ _ _ _ _
      | exact tattlerlaw06_great.mono _ _
      | exact LeO.none _
      | refine LeO.ite ?_ ?_
      | refine LeO.bind ?_ (fun _ => ?_)
theorem tattlerlaw06_RecJoins.mono : ∀ a0 a1 a2 k, LeO (tattlerlaw06_RecJoins.f k a0 a1 a2) (tattlerlaw06_RecJoins.f (k + 1) a0 a1 a2) := by
  intro a0 a1 a2 k
  obtain ⟨ih0, ih1, ih2, ih3⟩ := tattlerlaw06_RecJoins.mono_l k
  unfold tattlerlaw06_RecJoins.f
  repeat' first
      | (with_reducible exact ih0 _ _ _ _)
      | (with_reducible exact ih1 _ _ _ _ _ _)
      | (with_reducible exact ih2 _ _ _ _ _ _ _ _ _ _ _ _ _ _ _ _ _ _ _ _)
      | (with_reducible exact ih3 _ _ _ _ _ _ _ _ _ _ _ _ _ _ _ _ _ _ _)
      | (with_reducible exact tattlerlaw06_great.mono _ _)
      | (with_reducible exact LeO.refl _)
      | (with_reducible exact LeO.none _)
      | (with_reducible refine LeO.ite ?_ ?_)
      | (with_reducible refine LeO.bind ?_ (fun _ => ?_))
      | exact ih0 _ _ _ _
      | exact ih1 _ _ _ _ _ _
      | exact ih2 _ _ _ _ _ _ _ _ _ _ _ _ _ _ _ _ _ _ _ _
      | exact ih3 _ _ _ _ _ _ _ _ _ _ _ _ _ _ _ _ _ _ _
      | exact tattlerlaw06_great.mono _ _
      | exact LeO.none _
      | refine LeO.ite ?_ ?_
      | refine LeO.bind ?_ (fun _ => ?_)
def tattlerlaw06_RecJoins.T13 : Bool × List (List Nat × List Nat) := (true, [([], []), ([0], [0]), ([1], [1]), ([], []), ([], []), ([3, 4], [3, 4]), ([5], [5]), ([], []), ([], []), ([7, 2, 0, 1, 2, 7, 8], [2, 7]), ([8, 6, 9, 0, 1, 2, 3, 4, 5, 6, 7, 8, 9], [6, 8])])
def tattlerlaw06_RecJoins.B13 : List Nat := [0, 1, 3, 0, 0, 24, 56, 0, 0, 391, 1023]
theorem tattlerlaw06_RecJoins.tab13 : rtab .any (opsOf Try.f6 13) = tattlerlaw06_RecJoins.T13 := by kernel_rfl
theorem tattlerlaw06_RecJoins.bits13 : waitsOk tattlerlaw06_RecJoins.T13.2 tattlerlaw06_RecJoins.B13 = true := by kernel_rfl
def tattlerlaw06_RecJoins.T18 : Bool × List (List Nat × List Nat) := (true, [([], []), ([], []), ([], []), ([2], [2]), ([1, 3], [1, 3]), ([], []), ([4, 5], [4, 5]), ([], []), ([7], [7]), ([6, 8], [6, 8]), ([0, 9], [0, 9]), ([10], [10]), ([], []), ([11, 12], [11, 12]), ([13, 13, 0, 1, 2, 3, 4, 5, 6, 7, 8, 9, 10, 11, 12, 13], [13])])
def tattlerlaw06_RecJoins.B18 : List Nat := [0, 0, 0, 4, 14, 0, 62, 0, 128, 510, 1023, 2047, 0, 8191, 16383]
theorem tattlerlaw06_RecJoins.tab18 : rtab .any (opsOf Try.f6 18) = tattlerlaw06_RecJoins.T18 := by kernel_rfl
theorem tattlerlaw06_RecJoins.bits18 : waitsOk tattlerlaw06_RecJoins.T18.2 tattlerlaw06_RecJoins.B18 = true := by kernel_rfl
def tattlerlaw06_RecJoins.T23 : Bool × List (List Nat × List Nat) := (true, [([], []), ([], []), ([0, 1], [0, 1]), ([2], [2]), ([3, 2], [3]), ([4], [4]), ([4], [4]), ([5, 6, 4, 4], [4, 5, 6]), ([4], [4]), ([7, 8, 4], [4, 7, 8]), ([4, 9], [4, 9])])
def tattlerlaw06_RecJoins.B23 : List Nat := [0, 0, 3, 7, 15, 31, 31, 127, 31, 511, 1023]
theorem tattlerlaw06_RecJoins.tab23 : rtab .any (opsOf Try.f6 23) = tattlerlaw06_RecJoins.T23 := by kernel_rfl
theorem tattlerlaw06_RecJoins.bits23 : waitsOk tattlerlaw06_RecJoins.T23.2 tattlerlaw06_RecJoins.B23 = true := by kernel_rfl
set_option maxHeartbeats 80000000 in
set_option maxRecDepth 100000 in
theorem tattlerlaw06_RecJoins.calls (k : Nat) (a0 : ByteArray) (A1 : Option Addr) (c1 : Nat) (l1 : List (S27)) (a2 : Int) (r : Bool) (w : World) (hr1 : Kd.C k27 w A1 l1.length l1) (hc1 : l1.length ≤ c1) (h : tattlerlaw06_RecJoins.f k a0 l1 a2 = some r) :
    Calls Try.prog 6 #[.string a0, .slice A1 l1.length c1, .int .u8 a2] w fun e w' => e = .returned (.bool r) ∧ Below w.heap.size w w' := by
 have hu27 := Try.underlying27
 have HR1 := Aside0.mk hr1
 have HC1 := Aside0.mk hc1
 clear hr1 hc1
 have HB := Aside0.mk (Below.refl w.heap.size w)
 have H : (if (a0.size : Int) > 1000 then (tattlerlaw06_RecJoins.j0 k a0 l1 a2 true) else (if (l1.length : Int) > 50 then (tattlerlaw06_RecJoins.j0 k a0 l1 a2 true) else (tattlerlaw06_RecJoins.j0 k a0 l1 a2 ((l1.length : Int) == 0)))) = some r := h
 clear h
 have HC4 := Aside0.mk H
 clear H
 go_enter Try.func6, Try.ntmps6
 go_upto_region 1 with (fail)
 go_cut [28] (fun v28 wc => ∃ (kq : Nat) (x28_3 : Bool), v28 = .bool x28_3 ∧ Aside0 (tattlerlaw06_RecJoins.j0 kq a0 l1 a2 x28_3 = some r) ∧ Aside0 (kq ≤ k) ∧ Aside0 (Below w.heap.size w wc))
 case first =>
  have H := HC4.out
  clear HC4
  by_cases c5 : (a0.size : Int) > 1000
  ·
   rw [if_pos c5] at H
   have c5b0 : decide (1000 < (a0.size : Int)) = true := decide_eq_true c5
   have c5b1 : decide (1000 < a0.size) = true := decide_eq_true (by omega)
   clear c5
   (first | rw [c5b0] | (simp only [i64_w, i32_w]; rw [c5b0]) | skip)
   have H' := Aside0.mk H
   clear H
   go_wp2
   go_meet
   case rel => exact ⟨_, (true), (by first | rfl | (simp; done) | (simp [*]; done)), H', ⟨by first | omega | exact Nat.le_refl _⟩, ⟨by repeat (first | (with_reducible first | exact HB.out | apply qA | apply qN | apply qD) | exact HB.out)⟩⟩
  rw [if_neg c5] at H
  have c5b0 : decide (1000 < (a0.size : Int)) = false := decide_eq_false c5
  have c5b1 : decide (1000 < a0.size) = false := decide_eq_false (by omega)
  clear c5
  (first | rw [c5b0] | (simp only [i64_w, i32_w]; rw [c5b0]) | skip)
  by_cases c6 : (l1.length : Int) > 50
  ·
   rw [if_pos c6] at H
   have c6b0 : decide (50 < (l1.length : Int)) = true := decide_eq_true c6
   have c6b1 : decide (50 < l1.length) = true := decide_eq_true (by omega)
   clear c6
   have H' := Aside0.mk H
   clear H
   go_wp2
   go_meet
   case rel => exact ⟨_, (true), (by first | rfl | (simp; done) | (simp [*]; done)), H', ⟨by first | omega | exact Nat.le_refl _⟩, ⟨by repeat (first | (with_reducible first | exact HB.out | apply qA | apply qN | apply qD) | exact HB.out)⟩⟩
  rw [if_neg c6] at H
  have c6b0 : decide (50 < (l1.length : Int)) = false := decide_eq_false c6
  have c6b1 : decide (50 < l1.length) = false := decide_eq_false (by omega)
  clear c6
  have H' := Aside0.mk H
  clear H
  go_wp2
  go_meet
  case rel => exact ⟨_, (((l1.length : Int) == 0)), (by first | rfl | (simp; done) | (simp [*]; done)), H', ⟨by first | omega | exact Nat.le_refl _⟩, ⟨by repeat (first | (with_reducible first | exact HB.out | apply qA | apply qN | apply qD) | exact HB.out)⟩⟩
 case rest =>
  clear HC4
  try clear c1
  try clear p2
  try clear c5
  try clear c5b0
  try clear c5b1
  try clear c6
  try clear c6b0
  try clear c6b1
  obtain ⟨kq, x28_3, rfl, HA, HJ3, HB⟩ := hcut
  cases kq with
  | zero => exact absurd HA.out (by simp [tattlerlaw06_RecJoins.j0])
  | succ kj3 =>
   have H := HA.out
   clear HA
   simp only [tattlerlaw06_RecJoins.j0] at H
   by_cases c7 : x28_3 = true
   ·
    subst c7
    have H1 : ((tattlerlaw06_fixed.f).bind fun t130 => (some t130)) = some r := by rw [if_pos rfl] at H; exact H
    clear H
    have H := H1
    clear H1
    replace H := Option.bind_eq_some_iff.mp H
    obtain ⟨t130, A80, H⟩ := H
    replace H : (some t130) = some r := H
    have A8 := Aside0.mk A80
    clear A80
    obtain rfl := Option.some.inj H
    go_wp2_with (first | ((with_reducible refine gate_callee (f := 11) rfl ?_); refine goesL_ (some 29) rfl rfl Try.func11 (by kernel_rfl) rfl #[] rfl (by (try simp only [List.map_toArray, List.map_cons, List.map_nil]); first | done | rfl | (simp only [List.length_drop, List.length_take]; rfl)) ?_; (with_reducible refine (tattlerlaw06_fixed.calls  t130 _ A8.out).mono ?_); rintro e w9 ⟨rfl, hb⟩; refine ⟨_, rfl, ?_⟩; have n0_ := Aside0.mk (below_step (by repeat (first | (with_reducible first | exact HB.out | apply qA | apply qN | apply qD) | exact HB.out)) hb); clear HB; have HB := n0_; clear n0_; (try clear hb); (try clear hb2); (try clear hk); (try clear hi)))
    go_ret
    exact ⟨by first | rfl | (simp [errW_none, errW_some] <;> rfl) | (simp [*, errW_none, errW_some] <;> rfl), by repeat (first | (with_reducible first | exact HB.out | apply qA | apply qN | apply qD) | exact HB.out)⟩
   replace c7 := Bool.eq_false_iff.mpr c7
   subst c7
   have H1 : (tattlerlaw06_RecJoins.l0 kj3 a0 a2 ([] : List (S27)) l1 (l1.length : Int) 0) = some r := by rw [if_neg (show ¬ (false = true) by decide)] at H; exact H
   clear H
   have H := H1
   clear H1
   have H' := Aside0.mk H
   clear H
   go_wp2
   go_loopg [7, 32] kj3 (fun kq v7 v32 w' => ∃ (x7_2 : List (S27)) (x32_2 : Int), v32 = .int .i64 x32_2 ∧ Aside0 (tattlerlaw06_RecJoins.l0 kq a0 a2 x7_2 l1 (l1.length : Int) x32_2 = some r) ∧ Aside0 (kq ≤ kj3) ∧ Aside0 (Kd.R k27 27 w' w.heap.size (fun _ => True) v7 x7_2) ∧ Aside0 (Below w.heap.size w w'))
   case atStart => exact ⟨(([] : List (S27))), (0), (by first | rfl | (simp; done) | (simp [*]; done)), H', ⟨Nat.le_refl _⟩, ⟨by first | exact Kd.R_nil _ _ _ _ _ | exact Kd.N_nil _ _ _ _ _ | exact Kd.V_nil _ _ _ _ _ | exact Kd.Q_nil _ _ _ _ _ | exact Kd.S_nil _ _ _ _ _⟩, ⟨by repeat (first | (with_reducible first | exact HB.out | apply qA | apply qN | apply qD) | exact HB.out)⟩⟩
   case round =>
    clear H'
    try clear c1
    try clear p2
    try clear c5
    try clear c5b0
    try clear c5b1
    try clear c6
    try clear c6b0
    try clear c6b1
    try clear c7
    try clear p2
    obtain ⟨x7_2, x32_2, rfl, HA, HK2, HO_7, HB⟩ := hrel
    cases gk with
    | zero => exact absurd HA.out (by simp [tattlerlaw06_RecJoins.l0])
    | succ k2 =>
     have H := HA.out
     clear HA
     simp only [tattlerlaw06_RecJoins.l0] at H
     by_cases c10 : x32_2 < (l1.length : Int)
     ·
      rw [if_pos c10] at H
      have c10b0 : decide (x32_2 < (l1.length : Int)) = true := decide_eq_true c10
      clear c10
      by_cases c11 : 0 ≤ x32_2
      rotate_left
      ·
       rw [if_neg c11] at H
       exact absurd H (by simp)
      rw [if_pos c11] at H
      have c11b0 : decide (0 ≤ x32_2) = true := decide_eq_true c11
      clear c11
      by_cases c12 : x32_2 < (l1.length : Int)
      rotate_left
      ·
       rw [if_neg c12] at H
       exact absurd H (by simp)
      rw [if_pos c12] at H
      have c12b0 : decide (x32_2 < (l1.length : Int)) = true := decide_eq_true c12
      clear c12
      obtain ⟨y133, hy133⟩ : ∃ y_ : List (S27), y_ = (([(⟨(rd_T27 l1 x32_2).f0, (⟨(rd_T27 l1 x32_2).f1.f0, (rd_T27 l1 x32_2).f1.f1, (rd_T27 l1 x32_2).f1.f2⟩ : S25), (rd_T27 l1 x32_2).f2, (rd_T27 l1 x32_2).f3, (rd_T27 l1 x32_2).f4, (rd_T27 l1 x32_2).f5⟩ : S27)] : List (S27))) := ⟨_, rfl⟩
      replace H : ((tattlerlaw06_great.f k2 y133).bind fun t136 => (if t136 = true then ((tattlerlaw06_fixed.f).bind fun t137 => (some t137)) else (if x7_2.length < 2199023255552 then (tattlerlaw06_RecJoins.l0 k2 a0 a2 (x7_2 ++ [(⟨a0, (⟨(rd_T27 l1 x32_2).f1.f0, (rd_T27 l1 x32_2).f1.f1, (rd_T27 l1 x32_2).f1.f2⟩ : S25), (rd_T27 l1 x32_2).f2, (rd_T27 l1 x32_2).f3, (rd_T27 l1 x32_2).f4, (rd_T27 l1 x32_2).f5⟩ : S27)]) l1 (l1.length : Int) (wrap64 (x32_2 + 1))) else (none)))) = some r := by first | (rw [hy133]; with_reducible exact H) | (have H2_ := (Option.bind_some _ _).symm.trans H; rw [hy133]; with_reducible exact H2_) | (have H2_ := (Option.bind_some _ _).symm.trans H; with_reducible exact H2_) | with_reducible exact H | (rw [hy133]; exact H) | exact H
      have Ny133 := Aside0.mk hy133
      clear hy133
      replace H := Option.bind_eq_some_iff.mp H
      obtain ⟨t136, A130, H⟩ := H
      replace H : (if t136 = true then ((tattlerlaw06_fixed.f).bind fun t137 => (some t137)) else (if x7_2.length < 2199023255552 then (tattlerlaw06_RecJoins.l0 k2 a0 a2 (x7_2 ++ [(⟨a0, (⟨(rd_T27 l1 x32_2).f1.f0, (rd_T27 l1 x32_2).f1.f1, (rd_T27 l1 x32_2).f1.f2⟩ : S25), (rd_T27 l1 x32_2).f2, (rd_T27 l1 x32_2).f3, (rd_T27 l1 x32_2).f4, (rd_T27 l1 x32_2).f5⟩ : S27)]) l1 (l1.length : Int) (wrap64 (x32_2 + 1))) else (none))) = some r := H
      have A13 := Aside0.mk A130
      clear A130
      by_cases c14 : t136 = true
      ·
       subst c14
       have H1 : ((tattlerlaw06_fixed.f).bind fun t137 => (some t137)) = some r := by rw [if_pos rfl] at H; exact H
       clear H
       have H := H1
       clear H1
       replace H := Option.bind_eq_some_iff.mp H
       obtain ⟨t137, A150, H⟩ := H
       replace H : (some t137) = some r := H
       have A15 := Aside0.mk A150
       clear A150
       obtain rfl := Option.some.inj H
       have p131 : 0 ≤ (x32_2 : Int) := of_decide_eq_true (by first | (with_reducible assumption) | assumption)
       have q131 : x32_2 < (l1.length : Int) := of_decide_eq_true (by first | (with_reducible assumption) | assumption)
       obtain ⟨ad131, e131, hx131_0, hx131_1, hx131_2, hx131_3, hx131_4, hx131_5, hx131_6, hx131_7⟩ := at_T27 HR1.out x32_2 p131 q131
       cases e131
       replace hx131_0 := (HB.out.cell (World.block_lt_of_cell? w _ hx131_0)).trans hx131_0
       replace hx131_1 := (HB.out.cell (World.block_lt_of_cell? w _ hx131_1)).trans hx131_1
       replace hx131_2 := (HB.out.cell (World.block_lt_of_cell? w _ hx131_2)).trans hx131_2
       replace hx131_3 := (HB.out.cell (World.block_lt_of_cell? w _ hx131_3)).trans hx131_3
       replace hx131_4 := (HB.out.cell (World.block_lt_of_cell? w _ hx131_4)).trans hx131_4
       replace hx131_5 := (HB.out.cell (World.block_lt_of_cell? w _ hx131_5)).trans hx131_5
       replace hx131_6 := (HB.out.cell (World.block_lt_of_cell? w _ hx131_6)).trans hx131_6
       replace hx131_7 := (HB.out.cell (World.block_lt_of_cell? w _ hx131_7)).trans hx131_7
       replace p131 := eq_true p131
       replace q131 := eq_true q131
       go_wp2_with (first | ((with_reducible refine gate_dst (N := 9) rfl ?_); (try (refine gate_guard (by rfl) ?_; dsimp only)); refine box_event ?hg (N := 9) ?hd (cs := #[.string (⟨#[]⟩ : ByteArray), .int .u64 0, .int .u32 0, .int .u8 0, .int .u8 0, .int .u32 0, .int .u64 0, .string (⟨#[]⟩ : ByteArray)]) (t := 27) ?hr ?_; (case hd => rfl); (case hg => rfl); (case hr => first | (go_simp; done) | (go_simp; rfl)); intro gb132 hg w16 hbox hb; have n0_ := Aside0.mk (Kd.R_below (Kd.R_elderB (by (with_reducible repeat (first | apply rA | apply rN | apply rD)); exact HO_7.out) gb132 (Nat.le_of_eq hg.symm)) hb); have n1_ := Aside0.mk (below_step (by repeat (first | (with_reducible first | exact HB.out | apply qA | apply qN | apply qD) | exact HB.out)) hb); have n2_ := Aside0.mk (hbox); have n3_ := Aside0.mk ((by rw [hg]; exact (below_size (by repeat (first | (with_reducible first | exact HB.out | apply qA | apply qN | apply qD) | exact HB.out))) : w.heap.size ≤ gb132)); have n4_ := Aside0.mk ((by rw [hg]; exact (below_size (by repeat (first | (with_reducible first | exact HB.out | apply qA | apply qN | apply qD) | exact HB.out))) : w.heap.size ≤ gb132)); clear HO_7; clear HB; have HO_7 := n0_; have HB := n1_; have BK132 := n2_; have GW132 := n3_; have GE132 := n4_; clear n0_ n1_ n2_ n3_ n4_; clear hb hbox hg; have hcz17_0 : w16.cell? ⟨gb132, 0, none⟩ = some (.string (⟨#[]⟩ : ByteArray)) := (blk_cell BK132.out 0).trans rfl; have hcz17_1 : w16.cell? ⟨gb132, 1, none⟩ = some (.int .u64 0) := (blk_cell BK132.out 1).trans rfl; have hcz17_2 : w16.cell? ⟨gb132, 2, none⟩ = some (.int .u32 0) := (blk_cell BK132.out 2).trans rfl; have hcz17_3 : w16.cell? ⟨gb132, 3, none⟩ = some (.int .u8 0) := (blk_cell BK132.out 3).trans rfl; have hcz17_4 : w16.cell? ⟨gb132, 4, none⟩ = some (.int .u8 0) := (blk_cell BK132.out 4).trans rfl; have hcz17_5 : w16.cell? ⟨gb132, 5, none⟩ = some (.int .u32 0) := (blk_cell BK132.out 5).trans rfl; have hcz17_6 : w16.cell? ⟨gb132, 6, none⟩ = some (.int .u64 0) := (blk_cell BK132.out 6).trans rfl; have hcz17_7 : w16.cell? ⟨gb132, 7, none⟩ = some (.string (⟨#[]⟩ : ByteArray)) := (blk_cell BK132.out 7).trans rfl; have hfz17_0 := blk_frozen BK132.out 0; have hfz17_1 := blk_frozen BK132.out 1; have hfz17_2 := blk_frozen BK132.out 2; have hfz17_3 := blk_frozen BK132.out 3; have hfz17_4 := blk_frozen BK132.out 4; have hfz17_5 := blk_frozen BK132.out 5; have hfz17_6 := blk_frozen BK132.out 6; have hfz17_7 := blk_frozen BK132.out 7) | ((with_reducible refine gate_dst (N := 37) rfl ?_); (try (refine gate_guard (by rfl) ?_; dsimp only)); refine Kd.R_lit k27 _ 27 ?hg (N := 37) ?hd (xs := ([(⟨(rd_T27 l1 x32_2).f0, (⟨(rd_T27 l1 x32_2).f1.f0, (rd_T27 l1 x32_2).f1.f1, (rd_T27 l1 x32_2).f1.f2⟩ : S25), (rd_T27 l1 x32_2).f2, (rd_T27 l1 x32_2).f3, (rd_T27 l1 x32_2).f4, (rd_T27 l1 x32_2).f5⟩ : S27)] : List (S27))) (inner := [.string ((rd_T27 l1 x32_2).f0), .int .u64 ((rd_T27 l1 x32_2).f1.f0), .int .u32 ((rd_T27 l1 x32_2).f1.f1), .int .u8 ((rd_T27 l1 x32_2).f1.f2), .int .u8 ((rd_T27 l1 x32_2).f2), .int .u32 ((rd_T27 l1 x32_2).f3), .int .u64 ((rd_T27 l1 x32_2).f4), .string ((rd_T27 l1 x32_2).f5)]) (ok := fun _ => True) (okp := fun _ => True) ?hr ?hp (fun _ hk => hk) trivial (Below.refl _ _) (Nat.le_refl _) (by simp) ?_; (case hd => rfl); (case hg => rfl); (case hr => first | (go_simp; done) | (go_simp; rfl)); (case hp => exact (Reps.c8 (show Kd.M k27 _ _ _ (⟨(rd_T27 l1 x32_2).f0, (⟨(rd_T27 l1 x32_2).f1.f0, (rd_T27 l1 x32_2).f1.f1, (rd_T27 l1 x32_2).f1.f2⟩ : S25), (rd_T27 l1 x32_2).f2, (rd_T27 l1 x32_2).f3, (rd_T27 l1 x32_2).f4, (rd_T27 l1 x32_2).f5⟩ : S27) [.string ((rd_T27 l1 x32_2).f0), .int .u64 ((rd_T27 l1 x32_2).f1.f0), .int .u32 ((rd_T27 l1 x32_2).f1.f1), .int .u8 ((rd_T27 l1 x32_2).f1.f2), .int .u8 ((rd_T27 l1 x32_2).f2), .int .u32 ((rd_T27 l1 x32_2).f3), .int .u64 ((rd_T27 l1 x32_2).f4), .string ((rd_T27 l1 x32_2).f5)] from (k27_mkM _ _ _ (⟨(rd_T27 l1 x32_2).f0, (⟨(rd_T27 l1 x32_2).f1.f0, (rd_T27 l1 x32_2).f1.f1, (rd_T27 l1 x32_2).f1.f2⟩ : S25), (rd_T27 l1 x32_2).f2, (rd_T27 l1 x32_2).f3, (rd_T27 l1 x32_2).f4, (rd_T27 l1 x32_2).f5⟩ : S27) )) (Reps.none _ _))); intro v134 w18 ho19 hb hg_ hnew_; clear hg_ hnew_; (first | rw [← Ny133.out] at ho19 | (simp only [Int.reduceToNat] at ho19; rw [← Ny133.out] at ho19)); have n0_ := Aside0.mk (Kd.R_elder' (by (with_reducible repeat (first | apply rA | apply rN | apply rD)); exact (Kd.R_mono (Kd.R_far (p := ⟨gb132, 7, none⟩) (Kd.R_far (p := ⟨gb132, 6, none⟩) (Kd.R_far (p := ⟨gb132, 5, none⟩) (Kd.R_far (p := ⟨gb132, 4, none⟩) (Kd.R_far (p := ⟨gb132, 3, none⟩) (Kd.R_far (p := ⟨gb132, 2, none⟩) (Kd.R_far (p := ⟨gb132, 1, none⟩) (Kd.R_far (p := ⟨gb132, 0, none⟩) (Kd.R_mono HO_7.out (fun k_ hk => (⟨hk, hk.2⟩ : _ ∧ k_ ≠ gb132))) (fun _ hk => hk.2) (.string ((rd_T27 l1 x32_2).f0))) (fun _ hk => hk.2) (.int .u64 ((rd_T27 l1 x32_2).f1.f0))) (fun _ hk => hk.2) (.int .u32 ((rd_T27 l1 x32_2).f1.f1))) (fun _ hk => hk.2) (.int .u8 ((rd_T27 l1 x32_2).f1.f2))) (fun _ hk => hk.2) (.int .u8 ((rd_T27 l1 x32_2).f2))) (fun _ hk => hk.2) (.int .u32 ((rd_T27 l1 x32_2).f3))) (fun _ hk => hk.2) (.int .u64 ((rd_T27 l1 x32_2).f4))) (fun _ hk => hk.2) (.string ((rd_T27 l1 x32_2).f5))) (fun _ h_ => h_.1))) (Kd.R_base ho19) hb); have n1_ := Aside0.mk (Kd.R_lower (Kd.R_newB (Kd.R_new' ho19 (Kd.R_lt (by (with_reducible repeat (first | apply rA | apply rN | apply rD)); exact (Kd.R_mono (Kd.R_far (p := ⟨gb132, 7, none⟩) (Kd.R_far (p := ⟨gb132, 6, none⟩) (Kd.R_far (p := ⟨gb132, 5, none⟩) (Kd.R_far (p := ⟨gb132, 4, none⟩) (Kd.R_far (p := ⟨gb132, 3, none⟩) (Kd.R_far (p := ⟨gb132, 2, none⟩) (Kd.R_far (p := ⟨gb132, 1, none⟩) (Kd.R_far (p := ⟨gb132, 0, none⟩) (Kd.R_mono HO_7.out (fun k_ hk => (⟨hk, hk.2⟩ : _ ∧ k_ ≠ gb132))) (fun _ hk => hk.2) (.string ((rd_T27 l1 x32_2).f0))) (fun _ hk => hk.2) (.int .u64 ((rd_T27 l1 x32_2).f1.f0))) (fun _ hk => hk.2) (.int .u32 ((rd_T27 l1 x32_2).f1.f1))) (fun _ hk => hk.2) (.int .u8 ((rd_T27 l1 x32_2).f1.f2))) (fun _ hk => hk.2) (.int .u8 ((rd_T27 l1 x32_2).f2))) (fun _ hk => hk.2) (.int .u32 ((rd_T27 l1 x32_2).f3))) (fun _ hk => hk.2) (.int .u64 ((rd_T27 l1 x32_2).f4))) (fun _ hk => hk.2) (.string ((rd_T27 l1 x32_2).f5))) (fun _ h_ => h_.1))))) (g := gb132) (o := .cells #[.string ((rd_T27 l1 x32_2).f0), .int .u64 ((rd_T27 l1 x32_2).f1.f0), .int .u32 ((rd_T27 l1 x32_2).f1.f1), .int .u8 ((rd_T27 l1 x32_2).f1.f2), .int .u8 ((rd_T27 l1 x32_2).f2), .int .u32 ((rd_T27 l1 x32_2).f3), .int .u64 ((rd_T27 l1 x32_2).f4), .string ((rd_T27 l1 x32_2).f5)] 27 (0, 0)) (by (with_reducible repeat (first | refine bN ?_ _ | refine bD ?_ | refine bA ?_ _)); refine blk_put (cs := #[.string ((rd_T27 l1 x32_2).f0), .int .u64 ((rd_T27 l1 x32_2).f1.f0), .int .u32 ((rd_T27 l1 x32_2).f1.f1), .int .u8 ((rd_T27 l1 x32_2).f1.f2), .int .u8 ((rd_T27 l1 x32_2).f2), .int .u32 ((rd_T27 l1 x32_2).f3), .int .u64 ((rd_T27 l1 x32_2).f4), .string (⟨#[]⟩ : ByteArray)]) ?_ 7 _ rfl; (with_reducible repeat (first | refine bN ?_ _ | refine bD ?_ | refine bA ?_ _)); refine blk_put (cs := #[.string ((rd_T27 l1 x32_2).f0), .int .u64 ((rd_T27 l1 x32_2).f1.f0), .int .u32 ((rd_T27 l1 x32_2).f1.f1), .int .u8 ((rd_T27 l1 x32_2).f1.f2), .int .u8 ((rd_T27 l1 x32_2).f2), .int .u32 ((rd_T27 l1 x32_2).f3), .int .u64 0, .string (⟨#[]⟩ : ByteArray)]) ?_ 6 _ rfl; (with_reducible repeat (first | refine bN ?_ _ | refine bD ?_ | refine bA ?_ _)); refine blk_put (cs := #[.string ((rd_T27 l1 x32_2).f0), .int .u64 ((rd_T27 l1 x32_2).f1.f0), .int .u32 ((rd_T27 l1 x32_2).f1.f1), .int .u8 ((rd_T27 l1 x32_2).f1.f2), .int .u8 ((rd_T27 l1 x32_2).f2), .int .u32 0, .int .u64 0, .string (⟨#[]⟩ : ByteArray)]) ?_ 5 _ rfl; (with_reducible repeat (first | refine bN ?_ _ | refine bD ?_ | refine bA ?_ _)); refine blk_put (cs := #[.string ((rd_T27 l1 x32_2).f0), .int .u64 ((rd_T27 l1 x32_2).f1.f0), .int .u32 ((rd_T27 l1 x32_2).f1.f1), .int .u8 ((rd_T27 l1 x32_2).f1.f2), .int .u8 0, .int .u32 0, .int .u64 0, .string (⟨#[]⟩ : ByteArray)]) ?_ 4 _ rfl; (with_reducible repeat (first | refine bN ?_ _ | refine bD ?_ | refine bA ?_ _)); refine blk_put (cs := #[.string ((rd_T27 l1 x32_2).f0), .int .u64 ((rd_T27 l1 x32_2).f1.f0), .int .u32 ((rd_T27 l1 x32_2).f1.f1), .int .u8 0, .int .u8 0, .int .u32 0, .int .u64 0, .string (⟨#[]⟩ : ByteArray)]) ?_ 3 _ rfl; (with_reducible repeat (first | refine bN ?_ _ | refine bD ?_ | refine bA ?_ _)); refine blk_put (cs := #[.string ((rd_T27 l1 x32_2).f0), .int .u64 ((rd_T27 l1 x32_2).f1.f0), .int .u32 0, .int .u8 0, .int .u8 0, .int .u32 0, .int .u64 0, .string (⟨#[]⟩ : ByteArray)]) ?_ 2 _ rfl; (with_reducible repeat (first | refine bN ?_ _ | refine bD ?_ | refine bA ?_ _)); refine blk_put (cs := #[.string ((rd_T27 l1 x32_2).f0), .int .u64 0, .int .u32 0, .int .u8 0, .int .u8 0, .int .u32 0, .int .u64 0, .string (⟨#[]⟩ : ByteArray)]) ?_ 1 _ rfl; (with_reducible repeat (first | refine bN ?_ _ | refine bD ?_ | refine bA ?_ _)); refine blk_put (cs := #[.string (⟨#[]⟩ : ByteArray), .int .u64 0, .int .u32 0, .int .u8 0, .int .u8 0, .int .u32 0, .int .u64 0, .string (⟨#[]⟩ : ByteArray)]) ?_ 0 _ rfl; (with_reducible repeat (first | refine bN ?_ _ | refine bD ?_ | refine bA ?_ _)); exact BK132.out)) (below_size (by repeat (first | (with_reducible first | exact HB.out | apply qA | apply qN | apply qD | refine below_set ?_ GE132.out) | exact HB.out)))); have n2_ := Aside0.mk (blk_below (g := gb132) (o := .cells #[.string ((rd_T27 l1 x32_2).f0), .int .u64 ((rd_T27 l1 x32_2).f1.f0), .int .u32 ((rd_T27 l1 x32_2).f1.f1), .int .u8 ((rd_T27 l1 x32_2).f1.f2), .int .u8 ((rd_T27 l1 x32_2).f2), .int .u32 ((rd_T27 l1 x32_2).f3), .int .u64 ((rd_T27 l1 x32_2).f4), .string ((rd_T27 l1 x32_2).f5)] 27 (0, 0)) (by (with_reducible repeat (first | refine bN ?_ _ | refine bD ?_ | refine bA ?_ _)); refine blk_put (cs := #[.string ((rd_T27 l1 x32_2).f0), .int .u64 ((rd_T27 l1 x32_2).f1.f0), .int .u32 ((rd_T27 l1 x32_2).f1.f1), .int .u8 ((rd_T27 l1 x32_2).f1.f2), .int .u8 ((rd_T27 l1 x32_2).f2), .int .u32 ((rd_T27 l1 x32_2).f3), .int .u64 ((rd_T27 l1 x32_2).f4), .string (⟨#[]⟩ : ByteArray)]) ?_ 7 _ rfl; (with_reducible repeat (first | refine bN ?_ _ | refine bD ?_ | refine bA ?_ _)); refine blk_put (cs := #[.string ((rd_T27 l1 x32_2).f0), .int .u64 ((rd_T27 l1 x32_2).f1.f0), .int .u32 ((rd_T27 l1 x32_2).f1.f1), .int .u8 ((rd_T27 l1 x32_2).f1.f2), .int .u8 ((rd_T27 l1 x32_2).f2), .int .u32 ((rd_T27 l1 x32_2).f3), .int .u64 0, .string (⟨#[]⟩ : ByteArray)]) ?_ 6 _ rfl; (with_reducible repeat (first | refine bN ?_ _ | refine bD ?_ | refine bA ?_ _)); refine blk_put (cs := #[.string ((rd_T27 l1 x32_2).f0), .int .u64 ((rd_T27 l1 x32_2).f1.f0), .int .u32 ((rd_T27 l1 x32_2).f1.f1), .int .u8 ((rd_T27 l1 x32_2).f1.f2), .int .u8 ((rd_T27 l1 x32_2).f2), .int .u32 0, .int .u64 0, .string (⟨#[]⟩ : ByteArray)]) ?_ 5 _ rfl; (with_reducible repeat (first | refine bN ?_ _ | refine bD ?_ | refine bA ?_ _)); refine blk_put (cs := #[.string ((rd_T27 l1 x32_2).f0), .int .u64 ((rd_T27 l1 x32_2).f1.f0), .int .u32 ((rd_T27 l1 x32_2).f1.f1), .int .u8 ((rd_T27 l1 x32_2).f1.f2), .int .u8 0, .int .u32 0, .int .u64 0, .string (⟨#[]⟩ : ByteArray)]) ?_ 4 _ rfl; (with_reducible repeat (first | refine bN ?_ _ | refine bD ?_ | refine bA ?_ _)); refine blk_put (cs := #[.string ((rd_T27 l1 x32_2).f0), .int .u64 ((rd_T27 l1 x32_2).f1.f0), .int .u32 ((rd_T27 l1 x32_2).f1.f1), .int .u8 0, .int .u8 0, .int .u32 0, .int .u64 0, .string (⟨#[]⟩ : ByteArray)]) ?_ 3 _ rfl; (with_reducible repeat (first | refine bN ?_ _ | refine bD ?_ | refine bA ?_ _)); refine blk_put (cs := #[.string ((rd_T27 l1 x32_2).f0), .int .u64 ((rd_T27 l1 x32_2).f1.f0), .int .u32 0, .int .u8 0, .int .u8 0, .int .u32 0, .int .u64 0, .string (⟨#[]⟩ : ByteArray)]) ?_ 2 _ rfl; (with_reducible repeat (first | refine bN ?_ _ | refine bD ?_ | refine bA ?_ _)); refine blk_put (cs := #[.string ((rd_T27 l1 x32_2).f0), .int .u64 0, .int .u32 0, .int .u8 0, .int .u8 0, .int .u32 0, .int .u64 0, .string (⟨#[]⟩ : ByteArray)]) ?_ 1 _ rfl; (with_reducible repeat (first | refine bN ?_ _ | refine bD ?_ | refine bA ?_ _)); refine blk_put (cs := #[.string (⟨#[]⟩ : ByteArray), .int .u64 0, .int .u32 0, .int .u8 0, .int .u8 0, .int .u32 0, .int .u64 0, .string (⟨#[]⟩ : ByteArray)]) ?_ 0 _ rfl; (with_reducible repeat (first | refine bN ?_ _ | refine bD ?_ | refine bA ?_ _)); exact BK132.out) hb); have n3_ := Aside0.mk (below_step (by repeat (first | (with_reducible first | exact HB.out | apply qA | apply qN | apply qD | refine below_set ?_ GE132.out) | exact HB.out)) hb); clear HO_7; clear BK132; clear HB; have HO_7 := n0_; have HO135 := n1_; have BK132 := n2_; have HB := n3_; clear n0_ n1_ n2_ n3_; clear hb ho19; obtain ⟨Ao20, co20, eo20⟩ := Kd.R_slice HO135.out; subst eo20) | ((with_reducible refine gate_callee (f := 10) rfl ?_); refine goesL_ (some 38) rfl rfl Try.func10 (by kernel_rfl) rfl #[.slice Ao20 y133.length co20] rfl (by (try simp only [List.map_toArray, List.map_cons, List.map_nil]); first | done | rfl | (simp only [List.length_drop, List.length_take]; rfl)) ?_; (with_reducible refine (tattlerlaw06_great.calls k2 _ _ y133 true _ ?side1 ?side2 A13.out).mono ?_); (case side1 => repeat (first | exact (Kd.R_reads' HO135.out).2.2 | (with_reducible refine Kd.C_alloc ?_ _) | (with_reducible refine Kd.C_drewN ?_ _) | (with_reducible refine Kd.C_drew ?_))); (case side2 => exact (Kd.R_reads' HO135.out).2.1); rintro e w21 ⟨rfl, hb⟩; refine ⟨_, rfl, ?_⟩; have n0_ := Aside0.mk (Kd.R_below (by (with_reducible repeat (first | apply rA | apply rN | apply rD)); exact HO_7.out) hb); have n1_ := Aside0.mk (Kd.R_below (by (with_reducible repeat (first | apply rA | apply rN | apply rD)); exact HO135.out) hb); have n2_ := Aside0.mk (blk_below (g := gb132) (o := .cells #[.string ((rd_T27 l1 x32_2).f0), .int .u64 ((rd_T27 l1 x32_2).f1.f0), .int .u32 ((rd_T27 l1 x32_2).f1.f1), .int .u8 ((rd_T27 l1 x32_2).f1.f2), .int .u8 ((rd_T27 l1 x32_2).f2), .int .u32 ((rd_T27 l1 x32_2).f3), .int .u64 ((rd_T27 l1 x32_2).f4), .string ((rd_T27 l1 x32_2).f5)] 27 (0, 0)) (by (with_reducible repeat (first | refine bN ?_ _ | refine bD ?_ | refine bA ?_ _)); exact BK132.out) hb); have n3_ := Aside0.mk (below_step (by repeat (first | (with_reducible first | exact HB.out | apply qA | apply qN | apply qD | refine below_set ?_ GE132.out) | exact HB.out)) hb); clear HO_7; clear HO135; clear BK132; clear HB; have HO_7 := n0_; have HO135 := n1_; have BK132 := n2_; have HB := n3_; clear n0_ n1_ n2_ n3_; (try clear hb); (try clear hb2); (try clear hk); (try clear hi)) | ((with_reducible refine gate_callee (f := 11) rfl ?_); refine goesL_ (some 39) rfl rfl Try.func11 (by kernel_rfl) rfl #[] rfl (by (try simp only [List.map_toArray, List.map_cons, List.map_nil]); first | done | rfl | (simp only [List.length_drop, List.length_take]; rfl)) ?_; (with_reducible refine (tattlerlaw06_fixed.calls  t137 _ A15.out).mono ?_); rintro e w22 ⟨rfl, hb⟩; refine ⟨_, rfl, ?_⟩; have n0_ := Aside0.mk (Kd.R_below (by (with_reducible repeat (first | apply rA | apply rN | apply rD)); exact HO_7.out) hb); have n1_ := Aside0.mk (Kd.R_below (by (with_reducible repeat (first | apply rA | apply rN | apply rD)); exact HO135.out) hb); have n2_ := Aside0.mk (blk_below (g := gb132) (o := .cells #[.string ((rd_T27 l1 x32_2).f0), .int .u64 ((rd_T27 l1 x32_2).f1.f0), .int .u32 ((rd_T27 l1 x32_2).f1.f1), .int .u8 ((rd_T27 l1 x32_2).f1.f2), .int .u8 ((rd_T27 l1 x32_2).f2), .int .u32 ((rd_T27 l1 x32_2).f3), .int .u64 ((rd_T27 l1 x32_2).f4), .string ((rd_T27 l1 x32_2).f5)] 27 (0, 0)) (by (with_reducible repeat (first | refine bN ?_ _ | refine bD ?_ | refine bA ?_ _)); exact BK132.out) hb); have n3_ := Aside0.mk (below_step (by repeat (first | (with_reducible first | exact HB.out | apply qA | apply qN | apply qD | refine below_set ?_ GE132.out) | exact HB.out)) hb); clear HO_7; clear HO135; clear BK132; clear HB; have HO_7 := n0_; have HO135 := n1_; have BK132 := n2_; have HB := n3_; clear n0_ n1_ n2_ n3_; (try clear hb); (try clear hb2); (try clear hk); (try clear hi)))
       go_ret
       exact ⟨by first | rfl | (simp [errW_none, errW_some] <;> rfl) | (simp [*, errW_none, errW_some] <;> rfl), by repeat (first | (with_reducible first | exact HB.out | apply qA | apply qN | apply qD | refine below_set ?_ GE132.out) | exact HB.out)⟩
      replace c14 := Bool.eq_false_iff.mpr c14
      subst c14
      have H1 : (if x7_2.length < 2199023255552 then (tattlerlaw06_RecJoins.l0 k2 a0 a2 (x7_2 ++ [(⟨a0, (⟨(rd_T27 l1 x32_2).f1.f0, (rd_T27 l1 x32_2).f1.f1, (rd_T27 l1 x32_2).f1.f2⟩ : S25), (rd_T27 l1 x32_2).f2, (rd_T27 l1 x32_2).f3, (rd_T27 l1 x32_2).f4, (rd_T27 l1 x32_2).f5⟩ : S27)]) l1 (l1.length : Int) (wrap64 (x32_2 + 1))) else (none)) = some r := by rw [if_neg (show ¬ (false = true) by decide)] at H; exact H
      clear H
      have H := H1
      clear H1
      by_cases c23 : x7_2.length < 2199023255552
      rotate_left
      ·
       rw [if_neg c23] at H
       exact absurd H (by simp)
      rw [if_pos c23] at H
      have LMc23 := Aside0.mk c23
      clear c23
      obtain ⟨y138, hy138⟩ : ∃ y_ : List (S27), y_ = (x7_2 ++ [(⟨a0, (⟨(rd_T27 l1 x32_2).f1.f0, (rd_T27 l1 x32_2).f1.f1, (rd_T27 l1 x32_2).f1.f2⟩ : S25), (rd_T27 l1 x32_2).f2, (rd_T27 l1 x32_2).f3, (rd_T27 l1 x32_2).f4, (rd_T27 l1 x32_2).f5⟩ : S27)]) := ⟨_, rfl⟩
      replace H : (tattlerlaw06_RecJoins.l0 k2 a0 a2 y138 l1 (l1.length : Int) (wrap64 (x32_2 + 1))) = some r := by first | (rw [hy138]; with_reducible exact H) | (have H2_ := (Option.bind_some _ _).symm.trans H; rw [hy138]; with_reducible exact H2_) | (have H2_ := (Option.bind_some _ _).symm.trans H; with_reducible exact H2_) | with_reducible exact H | (rw [hy138]; exact H) | exact H
      have Ny138 := Aside0.mk hy138
      clear hy138
      have H' := Aside0.mk H
      clear H
      have p131 : 0 ≤ (x32_2 : Int) := of_decide_eq_true (by first | (with_reducible assumption) | assumption)
      have q131 : x32_2 < (l1.length : Int) := of_decide_eq_true (by first | (with_reducible assumption) | assumption)
      obtain ⟨ad131, e131, hx131_0, hx131_1, hx131_2, hx131_3, hx131_4, hx131_5, hx131_6, hx131_7⟩ := at_T27 HR1.out x32_2 p131 q131
      cases e131
      replace hx131_0 := (HB.out.cell (World.block_lt_of_cell? w _ hx131_0)).trans hx131_0
      replace hx131_1 := (HB.out.cell (World.block_lt_of_cell? w _ hx131_1)).trans hx131_1
      replace hx131_2 := (HB.out.cell (World.block_lt_of_cell? w _ hx131_2)).trans hx131_2
      replace hx131_3 := (HB.out.cell (World.block_lt_of_cell? w _ hx131_3)).trans hx131_3
      replace hx131_4 := (HB.out.cell (World.block_lt_of_cell? w _ hx131_4)).trans hx131_4
      replace hx131_5 := (HB.out.cell (World.block_lt_of_cell? w _ hx131_5)).trans hx131_5
      replace hx131_6 := (HB.out.cell (World.block_lt_of_cell? w _ hx131_6)).trans hx131_6
      replace hx131_7 := (HB.out.cell (World.block_lt_of_cell? w _ hx131_7)).trans hx131_7
      replace p131 := eq_true p131
      replace q131 := eq_true q131
      go_wp2_with (first | ((with_reducible refine gate_dst (N := 9) rfl ?_); (try (refine gate_guard (by rfl) ?_; dsimp only)); refine box_event ?hg (N := 9) ?hd (cs := #[.string (⟨#[]⟩ : ByteArray), .int .u64 0, .int .u32 0, .int .u8 0, .int .u8 0, .int .u32 0, .int .u64 0, .string (⟨#[]⟩ : ByteArray)]) (t := 27) ?hr ?_; (case hd => rfl); (case hg => rfl); (case hr => first | (go_simp; done) | (go_simp; rfl)); intro gb132 hg w24 hbox hb; have n0_ := Aside0.mk (Kd.R_below (Kd.R_elderB (by (with_reducible repeat (first | apply rA | apply rN | apply rD)); exact HO_7.out) gb132 (Nat.le_of_eq hg.symm)) hb); have n1_ := Aside0.mk (below_step (by repeat (first | (with_reducible first | exact HB.out | apply qA | apply qN | apply qD) | exact HB.out)) hb); have n2_ := Aside0.mk (hbox); have n3_ := Aside0.mk ((by rw [hg]; exact (below_size (by repeat (first | (with_reducible first | exact HB.out | apply qA | apply qN | apply qD) | exact HB.out))) : w.heap.size ≤ gb132)); have n4_ := Aside0.mk ((by rw [hg]; exact (below_size (by repeat (first | (with_reducible first | exact HB.out | apply qA | apply qN | apply qD) | exact HB.out))) : w.heap.size ≤ gb132)); clear HO_7; clear HB; have HO_7 := n0_; have HB := n1_; have BK132 := n2_; have GW132 := n3_; have GE132 := n4_; clear n0_ n1_ n2_ n3_ n4_; clear hb hbox hg; have hcz25_0 : w24.cell? ⟨gb132, 0, none⟩ = some (.string (⟨#[]⟩ : ByteArray)) := (blk_cell BK132.out 0).trans rfl; have hcz25_1 : w24.cell? ⟨gb132, 1, none⟩ = some (.int .u64 0) := (blk_cell BK132.out 1).trans rfl; have hcz25_2 : w24.cell? ⟨gb132, 2, none⟩ = some (.int .u32 0) := (blk_cell BK132.out 2).trans rfl; have hcz25_3 : w24.cell? ⟨gb132, 3, none⟩ = some (.int .u8 0) := (blk_cell BK132.out 3).trans rfl; have hcz25_4 : w24.cell? ⟨gb132, 4, none⟩ = some (.int .u8 0) := (blk_cell BK132.out 4).trans rfl; have hcz25_5 : w24.cell? ⟨gb132, 5, none⟩ = some (.int .u32 0) := (blk_cell BK132.out 5).trans rfl; have hcz25_6 : w24.cell? ⟨gb132, 6, none⟩ = some (.int .u64 0) := (blk_cell BK132.out 6).trans rfl; have hcz25_7 : w24.cell? ⟨gb132, 7, none⟩ = some (.string (⟨#[]⟩ : ByteArray)) := (blk_cell BK132.out 7).trans rfl; have hfz25_0 := blk_frozen BK132.out 0; have hfz25_1 := blk_frozen BK132.out 1; have hfz25_2 := blk_frozen BK132.out 2; have hfz25_3 := blk_frozen BK132.out 3; have hfz25_4 := blk_frozen BK132.out 4; have hfz25_5 := blk_frozen BK132.out 5; have hfz25_6 := blk_frozen BK132.out 6; have hfz25_7 := blk_frozen BK132.out 7) | ((with_reducible refine gate_dst (N := 37) rfl ?_); (try (refine gate_guard (by rfl) ?_; dsimp only)); refine Kd.R_lit k27 _ 27 ?hg (N := 37) ?hd (xs := ([(⟨(rd_T27 l1 x32_2).f0, (⟨(rd_T27 l1 x32_2).f1.f0, (rd_T27 l1 x32_2).f1.f1, (rd_T27 l1 x32_2).f1.f2⟩ : S25), (rd_T27 l1 x32_2).f2, (rd_T27 l1 x32_2).f3, (rd_T27 l1 x32_2).f4, (rd_T27 l1 x32_2).f5⟩ : S27)] : List (S27))) (inner := [.string ((rd_T27 l1 x32_2).f0), .int .u64 ((rd_T27 l1 x32_2).f1.f0), .int .u32 ((rd_T27 l1 x32_2).f1.f1), .int .u8 ((rd_T27 l1 x32_2).f1.f2), .int .u8 ((rd_T27 l1 x32_2).f2), .int .u32 ((rd_T27 l1 x32_2).f3), .int .u64 ((rd_T27 l1 x32_2).f4), .string ((rd_T27 l1 x32_2).f5)]) (ok := fun _ => True) (okp := fun _ => True) ?hr ?hp (fun _ hk => hk) trivial (Below.refl _ _) (Nat.le_refl _) (by simp) ?_; (case hd => rfl); (case hg => rfl); (case hr => first | (go_simp; done) | (go_simp; rfl)); (case hp => exact (Reps.c8 (show Kd.M k27 _ _ _ (⟨(rd_T27 l1 x32_2).f0, (⟨(rd_T27 l1 x32_2).f1.f0, (rd_T27 l1 x32_2).f1.f1, (rd_T27 l1 x32_2).f1.f2⟩ : S25), (rd_T27 l1 x32_2).f2, (rd_T27 l1 x32_2).f3, (rd_T27 l1 x32_2).f4, (rd_T27 l1 x32_2).f5⟩ : S27) [.string ((rd_T27 l1 x32_2).f0), .int .u64 ((rd_T27 l1 x32_2).f1.f0), .int .u32 ((rd_T27 l1 x32_2).f1.f1), .int .u8 ((rd_T27 l1 x32_2).f1.f2), .int .u8 ((rd_T27 l1 x32_2).f2), .int .u32 ((rd_T27 l1 x32_2).f3), .int .u64 ((rd_T27 l1 x32_2).f4), .string ((rd_T27 l1 x32_2).f5)] from (k27_mkM _ _ _ (⟨(rd_T27 l1 x32_2).f0, (⟨(rd_T27 l1 x32_2).f1.f0, (rd_T27 l1 x32_2).f1.f1, (rd_T27 l1 x32_2).f1.f2⟩ : S25), (rd_T27 l1 x32_2).f2, (rd_T27 l1 x32_2).f3, (rd_T27 l1 x32_2).f4, (rd_T27 l1 x32_2).f5⟩ : S27) )) (Reps.none _ _))); intro v134 w26 ho27 hb hg_ hnew_; clear hg_ hnew_; (first | rw [← Ny133.out] at ho27 | (simp only [Int.reduceToNat] at ho27; rw [← Ny133.out] at ho27)); have n0_ := Aside0.mk (Kd.R_elder' (by (with_reducible repeat (first | apply rA | apply rN | apply rD)); exact (Kd.R_mono (Kd.R_far (p := ⟨gb132, 7, none⟩) (Kd.R_far (p := ⟨gb132, 6, none⟩) (Kd.R_far (p := ⟨gb132, 5, none⟩) (Kd.R_far (p := ⟨gb132, 4, none⟩) (Kd.R_far (p := ⟨gb132, 3, none⟩) (Kd.R_far (p := ⟨gb132, 2, none⟩) (Kd.R_far (p := ⟨gb132, 1, none⟩) (Kd.R_far (p := ⟨gb132, 0, none⟩) (Kd.R_mono HO_7.out (fun k_ hk => (⟨hk, hk.2⟩ : _ ∧ k_ ≠ gb132))) (fun _ hk => hk.2) (.string ((rd_T27 l1 x32_2).f0))) (fun _ hk => hk.2) (.int .u64 ((rd_T27 l1 x32_2).f1.f0))) (fun _ hk => hk.2) (.int .u32 ((rd_T27 l1 x32_2).f1.f1))) (fun _ hk => hk.2) (.int .u8 ((rd_T27 l1 x32_2).f1.f2))) (fun _ hk => hk.2) (.int .u8 ((rd_T27 l1 x32_2).f2))) (fun _ hk => hk.2) (.int .u32 ((rd_T27 l1 x32_2).f3))) (fun _ hk => hk.2) (.int .u64 ((rd_T27 l1 x32_2).f4))) (fun _ hk => hk.2) (.string ((rd_T27 l1 x32_2).f5))) (fun _ h_ => h_.1))) (Kd.R_base ho27) hb); have n1_ := Aside0.mk (Kd.R_lower (Kd.R_newB (Kd.R_new' ho27 (Kd.R_lt (by (with_reducible repeat (first | apply rA | apply rN | apply rD)); exact (Kd.R_mono (Kd.R_far (p := ⟨gb132, 7, none⟩) (Kd.R_far (p := ⟨gb132, 6, none⟩) (Kd.R_far (p := ⟨gb132, 5, none⟩) (Kd.R_far (p := ⟨gb132, 4, none⟩) (Kd.R_far (p := ⟨gb132, 3, none⟩) (Kd.R_far (p := ⟨gb132, 2, none⟩) (Kd.R_far (p := ⟨gb132, 1, none⟩) (Kd.R_far (p := ⟨gb132, 0, none⟩) (Kd.R_mono HO_7.out (fun k_ hk => (⟨hk, hk.2⟩ : _ ∧ k_ ≠ gb132))) (fun _ hk => hk.2) (.string ((rd_T27 l1 x32_2).f0))) (fun _ hk => hk.2) (.int .u64 ((rd_T27 l1 x32_2).f1.f0))) (fun _ hk => hk.2) (.int .u32 ((rd_T27 l1 x32_2).f1.f1))) (fun _ hk => hk.2) (.int .u8 ((rd_T27 l1 x32_2).f1.f2))) (fun _ hk => hk.2) (.int .u8 ((rd_T27 l1 x32_2).f2))) (fun _ hk => hk.2) (.int .u32 ((rd_T27 l1 x32_2).f3))) (fun _ hk => hk.2) (.int .u64 ((rd_T27 l1 x32_2).f4))) (fun _ hk => hk.2) (.string ((rd_T27 l1 x32_2).f5))) (fun _ h_ => h_.1))))) (g := gb132) (o := .cells #[.string ((rd_T27 l1 x32_2).f0), .int .u64 ((rd_T27 l1 x32_2).f1.f0), .int .u32 ((rd_T27 l1 x32_2).f1.f1), .int .u8 ((rd_T27 l1 x32_2).f1.f2), .int .u8 ((rd_T27 l1 x32_2).f2), .int .u32 ((rd_T27 l1 x32_2).f3), .int .u64 ((rd_T27 l1 x32_2).f4), .string ((rd_T27 l1 x32_2).f5)] 27 (0, 0)) (by (with_reducible repeat (first | refine bN ?_ _ | refine bD ?_ | refine bA ?_ _)); refine blk_put (cs := #[.string ((rd_T27 l1 x32_2).f0), .int .u64 ((rd_T27 l1 x32_2).f1.f0), .int .u32 ((rd_T27 l1 x32_2).f1.f1), .int .u8 ((rd_T27 l1 x32_2).f1.f2), .int .u8 ((rd_T27 l1 x32_2).f2), .int .u32 ((rd_T27 l1 x32_2).f3), .int .u64 ((rd_T27 l1 x32_2).f4), .string (⟨#[]⟩ : ByteArray)]) ?_ 7 _ rfl; (with_reducible repeat (first | refine bN ?_ _ | refine bD ?_ | refine bA ?_ _)); refine blk_put (cs := #[.string ((rd_T27 l1 x32_2).f0), .int .u64 ((rd_T27 l1 x32_2).f1.f0), .int .u32 ((rd_T27 l1 x32_2).f1.f1), .int .u8 ((rd_T27 l1 x32_2).f1.f2), .int .u8 ((rd_T27 l1 x32_2).f2), .int .u32 ((rd_T27 l1 x32_2).f3), .int .u64 0, .string (⟨#[]⟩ : ByteArray)]) ?_ 6 _ rfl; (with_reducible repeat (first | refine bN ?_ _ | refine bD ?_ | refine bA ?_ _)); refine blk_put (cs := #[.string ((rd_T27 l1 x32_2).f0), .int .u64 ((rd_T27 l1 x32_2).f1.f0), .int .u32 ((rd_T27 l1 x32_2).f1.f1), .int .u8 ((rd_T27 l1 x32_2).f1.f2), .int .u8 ((rd_T27 l1 x32_2).f2), .int .u32 0, .int .u64 0, .string (⟨#[]⟩ : ByteArray)]) ?_ 5 _ rfl; (with_reducible repeat (first | refine bN ?_ _ | refine bD ?_ | refine bA ?_ _)); refine blk_put (cs := #[.string ((rd_T27 l1 x32_2).f0), .int .u64 ((rd_T27 l1 x32_2).f1.f0), .int .u32 ((rd_T27 l1 x32_2).f1.f1), .int .u8 ((rd_T27 l1 x32_2).f1.f2), .int .u8 0, .int .u32 0, .int .u64 0, .string (⟨#[]⟩ : ByteArray)]) ?_ 4 _ rfl; (with_reducible repeat (first | refine bN ?_ _ | refine bD ?_ | refine bA ?_ _)); refine blk_put (cs := #[.string ((rd_T27 l1 x32_2).f0), .int .u64 ((rd_T27 l1 x32_2).f1.f0), .int .u32 ((rd_T27 l1 x32_2).f1.f1), .int .u8 0, .int .u8 0, .int .u32 0, .int .u64 0, .string (⟨#[]⟩ : ByteArray)]) ?_ 3 _ rfl; (with_reducible repeat (first | refine bN ?_ _ | refine bD ?_ | refine bA ?_ _)); refine blk_put (cs := #[.string ((rd_T27 l1 x32_2).f0), .int .u64 ((rd_T27 l1 x32_2).f1.f0), .int .u32 0, .int .u8 0, .int .u8 0, .int .u32 0, .int .u64 0, .string (⟨#[]⟩ : ByteArray)]) ?_ 2 _ rfl; (with_reducible repeat (first | refine bN ?_ _ | refine bD ?_ | refine bA ?_ _)); refine blk_put (cs := #[.string ((rd_T27 l1 x32_2).f0), .int .u64 0, .int .u32 0, .int .u8 0, .int .u8 0, .int .u32 0, .int .u64 0, .string (⟨#[]⟩ : ByteArray)]) ?_ 1 _ rfl; (with_reducible repeat (first | refine bN ?_ _ | refine bD ?_ | refine bA ?_ _)); refine blk_put (cs := #[.string (⟨#[]⟩ : ByteArray), .int .u64 0, .int .u32 0, .int .u8 0, .int .u8 0, .int .u32 0, .int .u64 0, .string (⟨#[]⟩ : ByteArray)]) ?_ 0 _ rfl; (with_reducible repeat (first | refine bN ?_ _ | refine bD ?_ | refine bA ?_ _)); exact BK132.out)) (below_size (by repeat (first | (with_reducible first | exact HB.out | apply qA | apply qN | apply qD | refine below_set ?_ GE132.out) | exact HB.out)))); have n2_ := Aside0.mk (blk_below (g := gb132) (o := .cells #[.string ((rd_T27 l1 x32_2).f0), .int .u64 ((rd_T27 l1 x32_2).f1.f0), .int .u32 ((rd_T27 l1 x32_2).f1.f1), .int .u8 ((rd_T27 l1 x32_2).f1.f2), .int .u8 ((rd_T27 l1 x32_2).f2), .int .u32 ((rd_T27 l1 x32_2).f3), .int .u64 ((rd_T27 l1 x32_2).f4), .string ((rd_T27 l1 x32_2).f5)] 27 (0, 0)) (by (with_reducible repeat (first | refine bN ?_ _ | refine bD ?_ | refine bA ?_ _)); refine blk_put (cs := #[.string ((rd_T27 l1 x32_2).f0), .int .u64 ((rd_T27 l1 x32_2).f1.f0), .int .u32 ((rd_T27 l1 x32_2).f1.f1), .int .u8 ((rd_T27 l1 x32_2).f1.f2), .int .u8 ((rd_T27 l1 x32_2).f2), .int .u32 ((rd_T27 l1 x32_2).f3), .int .u64 ((rd_T27 l1 x32_2).f4), .string (⟨#[]⟩ : ByteArray)]) ?_ 7 _ rfl; (with_reducible repeat (first | refine bN ?_ _ | refine bD ?_ | refine bA ?_ _)); refine blk_put (cs := #[.string ((rd_T27 l1 x32_2).f0), .int .u64 ((rd_T27 l1 x32_2).f1.f0), .int .u32 ((rd_T27 l1 x32_2).f1.f1), .int .u8 ((rd_T27 l1 x32_2).f1.f2), .int .u8 ((rd_T27 l1 x32_2).f2), .int .u32 ((rd_T27 l1 x32_2).f3), .int .u64 0, .string (⟨#[]⟩ : ByteArray)]) ?_ 6 _ rfl; (with_reducible repeat (first | refine bN ?_ _ | refine bD ?_ | refine bA ?_ _)); refine blk_put (cs := #[.string ((rd_T27 l1 x32_2).f0), .int .u64 ((rd_T27 l1 x32_2).f1.f0), .int .u32 ((rd_T27 l1 x32_2).f1.f1), .int .u8 ((rd_T27 l1 x32_2).f1.f2), .int .u8 ((rd_T27 l1 x32_2).f2), .int .u32 0, .int .u64 0, .string (⟨#[]⟩ : ByteArray)]) ?_ 5 _ rfl; (with_reducible repeat (first | refine bN ?_ _ | refine bD ?_ | refine bA ?_ _)); refine blk_put (cs := #[.string ((rd_T27 l1 x32_2).f0), .int .u64 ((rd_T27 l1 x32_2).f1.f0), .int .u32 ((rd_T27 l1 x32_2).f1.f1), .int .u8 ((rd_T27 l1 x32_2).f1.f2), .int .u8 0, .int .u32 0, .int .u64 0, .string (⟨#[]⟩ : ByteArray)]) ?_ 4 _ rfl; (with_reducible repeat (first | refine bN ?_ _ | refine bD ?_ | refine bA ?_ _)); refine blk_put (cs := #[.string ((rd_T27 l1 x32_2).f0), .int .u64 ((rd_T27 l1 x32_2).f1.f0), .int .u32 ((rd_T27 l1 x32_2).f1.f1), .int .u8 0, .int .u8 0, .int .u32 0, .int .u64 0, .string (⟨#[]⟩ : ByteArray)]) ?_ 3 _ rfl; (with_reducible repeat (first | refine bN ?_ _ | refine bD ?_ | refine bA ?_ _)); refine blk_put (cs := #[.string ((rd_T27 l1 x32_2).f0), .int .u64 ((rd_T27 l1 x32_2).f1.f0), .int .u32 0, .int .u8 0, .int .u8 0, .int .u32 0, .int .u64 0, .string (⟨#[]⟩ : ByteArray)]) ?_ 2 _ rfl; (with_reducible repeat (first | refine bN ?_ _ | refine bD ?_ | refine bA ?_ _)); refine blk_put (cs := #[.string ((rd_T27 l1 x32_2).f0), .int .u64 0, .int .u32 0, .int .u8 0, .int .u8 0, .int .u32 0, .int .u64 0, .string (⟨#[]⟩ : ByteArray)]) ?_ 1 _ rfl; (with_reducible repeat (first | refine bN ?_ _ | refine bD ?_ | refine bA ?_ _)); refine blk_put (cs := #[.string (⟨#[]⟩ : ByteArray), .int .u64 0, .int .u32 0, .int .u8 0, .int .u8 0, .int .u32 0, .int .u64 0, .string (⟨#[]⟩ : ByteArray)]) ?_ 0 _ rfl; (with_reducible repeat (first | refine bN ?_ _ | refine bD ?_ | refine bA ?_ _)); exact BK132.out) hb); have n3_ := Aside0.mk (below_step (by repeat (first | (with_reducible first | exact HB.out | apply qA | apply qN | apply qD | refine below_set ?_ GE132.out) | exact HB.out)) hb); clear HO_7; clear BK132; clear HB; have HO_7 := n0_; have HO135 := n1_; have BK132 := n2_; have HB := n3_; clear n0_ n1_ n2_ n3_; clear hb ho27; obtain ⟨Ao28, co28, eo28⟩ := Kd.R_slice HO135.out; subst eo28) | ((with_reducible refine gate_callee (f := 10) rfl ?_); refine goesL_ (some 38) rfl rfl Try.func10 (by kernel_rfl) rfl #[.slice Ao28 y133.length co28] rfl (by (try simp only [List.map_toArray, List.map_cons, List.map_nil]); first | done | rfl | (simp only [List.length_drop, List.length_take]; rfl)) ?_; (with_reducible refine (tattlerlaw06_great.calls k2 _ _ y133 false _ ?side1 ?side2 A13.out).mono ?_); (case side1 => repeat (first | exact (Kd.R_reads' HO135.out).2.2 | (with_reducible refine Kd.C_alloc ?_ _) | (with_reducible refine Kd.C_drewN ?_ _) | (with_reducible refine Kd.C_drew ?_))); (case side2 => exact (Kd.R_reads' HO135.out).2.1); rintro e w29 ⟨rfl, hb⟩; refine ⟨_, rfl, ?_⟩; have n0_ := Aside0.mk (Kd.R_below (by (with_reducible repeat (first | apply rA | apply rN | apply rD)); exact HO_7.out) hb); have n1_ := Aside0.mk (Kd.R_below (by (with_reducible repeat (first | apply rA | apply rN | apply rD)); exact HO135.out) hb); have n2_ := Aside0.mk (blk_below (g := gb132) (o := .cells #[.string ((rd_T27 l1 x32_2).f0), .int .u64 ((rd_T27 l1 x32_2).f1.f0), .int .u32 ((rd_T27 l1 x32_2).f1.f1), .int .u8 ((rd_T27 l1 x32_2).f1.f2), .int .u8 ((rd_T27 l1 x32_2).f2), .int .u32 ((rd_T27 l1 x32_2).f3), .int .u64 ((rd_T27 l1 x32_2).f4), .string ((rd_T27 l1 x32_2).f5)] 27 (0, 0)) (by (with_reducible repeat (first | refine bN ?_ _ | refine bD ?_ | refine bA ?_ _)); exact BK132.out) hb); have n3_ := Aside0.mk (below_step (by repeat (first | (with_reducible first | exact HB.out | apply qA | apply qN | apply qD | refine below_set ?_ GE132.out) | exact HB.out)) hb); clear HO_7; clear HO135; clear BK132; clear HB; have HO_7 := n0_; have HO135 := n1_; have BK132 := n2_; have HB := n3_; clear n0_ n1_ n2_ n3_; (try clear hb); (try clear hb2); (try clear hk); (try clear hi); have hcz30_0 : w29.cell? ⟨gb132, 0, none⟩ = some (.string ((rd_T27 l1 x32_2).f0)) := (blk_cell BK132.out 0).trans rfl; have hcz30_1 : w29.cell? ⟨gb132, 1, none⟩ = some (.int .u64 ((rd_T27 l1 x32_2).f1.f0)) := (blk_cell BK132.out 1).trans rfl; have hcz30_2 : w29.cell? ⟨gb132, 2, none⟩ = some (.int .u32 ((rd_T27 l1 x32_2).f1.f1)) := (blk_cell BK132.out 2).trans rfl; have hcz30_3 : w29.cell? ⟨gb132, 3, none⟩ = some (.int .u8 ((rd_T27 l1 x32_2).f1.f2)) := (blk_cell BK132.out 3).trans rfl; have hcz30_4 : w29.cell? ⟨gb132, 4, none⟩ = some (.int .u8 ((rd_T27 l1 x32_2).f2)) := (blk_cell BK132.out 4).trans rfl; have hcz30_5 : w29.cell? ⟨gb132, 5, none⟩ = some (.int .u32 ((rd_T27 l1 x32_2).f3)) := (blk_cell BK132.out 5).trans rfl; have hcz30_6 : w29.cell? ⟨gb132, 6, none⟩ = some (.int .u64 ((rd_T27 l1 x32_2).f4)) := (blk_cell BK132.out 6).trans rfl; have hcz30_7 : w29.cell? ⟨gb132, 7, none⟩ = some (.string ((rd_T27 l1 x32_2).f5)) := (blk_cell BK132.out 7).trans rfl; have hfz30_0 := blk_frozen BK132.out 0; have hfz30_1 := blk_frozen BK132.out 1; have hfz30_2 := blk_frozen BK132.out 2; have hfz30_3 := blk_frozen BK132.out 3; have hfz30_4 := blk_frozen BK132.out 4; have hfz30_5 := blk_frozen BK132.out 5; have hfz30_6 := blk_frozen BK132.out 6; have hfz30_7 := blk_frozen BK132.out 7) | ((with_reducible refine gate_builtin (b := .append) (xs := #[.tmp 42, .tmp 44]) rfl ?_); (try (refine gate_guard (by rfl) ?_; dsimp only)); at_builtin; refine Kd.R_append k27 (w0 := w) w.heap.size rfl (.tmp 42) (.tmp 44) 36 27 (.agg #[(.string ⟨#[]⟩), (.int .u64 0), (.int .u32 0), (.int .u8 0), (.int .u8 0), (.int .u32 0), (.int .u64 0), (.string ⟨#[]⟩)]) 64 rfl Try.underlying36 info27 rfl (by decide) (by omega) u7 x7_2 (⟨a0, (⟨(rd_T27 l1 x32_2).f1.f0, (rd_T27 l1 x32_2).f1.f1, (rd_T27 l1 x32_2).f1.f2⟩ : S25), (rd_T27 l1 x32_2).f2, (rd_T27 l1 x32_2).f3, (rd_T27 l1 x32_2).f4, (rd_T27 l1 x32_2).f5⟩ : S27) [.string a0, .int .u64 ((rd_T27 l1 x32_2).f1.f0), .int .u32 ((rd_T27 l1 x32_2).f1.f1), .int .u8 ((rd_T27 l1 x32_2).f1.f2), .int .u8 ((rd_T27 l1 x32_2).f2), .int .u32 ((rd_T27 l1 x32_2).f3), .int .u64 ((rd_T27 l1 x32_2).f4), .string ((rd_T27 l1 x32_2).f5)] (fun k_ => some k_ ≠ (.slice Ao28 y133.length co28 : Value).ownBlock ∧ k_ ≠ gb132) (fun _ => False) rfl (by first | (go_simp; done) | (go_simp; rfl)) ?aP (fun _ hk => hk.elim) ?aF ?aO ?aB ?aS ?aL ?_; (case aP => exact k27_mkM _ _ _ (⟨a0, (⟨(rd_T27 l1 x32_2).f1.f0, (rd_T27 l1 x32_2).f1.f1, (rd_T27 l1 x32_2).f1.f2⟩ : S25), (rd_T27 l1 x32_2).f2, (rd_T27 l1 x32_2).f3, (rd_T27 l1 x32_2).f4, (rd_T27 l1 x32_2).f5⟩ : S27)); (case aB => exact (by repeat (first | (with_reducible first | exact HB.out | apply qA | apply qN | apply qD | refine below_set ?_ GE132.out) | exact HB.out))); (case aF => exact (fun k_ hk => ⟨Kd.fresh' (Kd.R_lt (by (with_reducible repeat (first | apply rA | apply rN | apply rD)); exact (Kd.R_mono (Kd.R_far (p := ⟨gb132, 0, none⟩) (Kd.R_mono HO135.out (fun k_ hk => (⟨hk, hk.2⟩ : _ ∧ k_ ≠ gb132))) (fun _ hk => hk.2) (.string a0)) (fun _ h_ => h_.1)))) k_ hk, Kd.freshB (g := gb132) (o := .cells #[.string a0, .int .u64 ((rd_T27 l1 x32_2).f1.f0), .int .u32 ((rd_T27 l1 x32_2).f1.f1), .int .u8 ((rd_T27 l1 x32_2).f1.f2), .int .u8 ((rd_T27 l1 x32_2).f2), .int .u32 ((rd_T27 l1 x32_2).f3), .int .u64 ((rd_T27 l1 x32_2).f4), .string ((rd_T27 l1 x32_2).f5)] 27 (0, 0)) (by (with_reducible repeat (first | refine bN ?_ _ | refine bD ?_ | refine bA ?_ _)); refine blk_put (cs := #[.string ((rd_T27 l1 x32_2).f0), .int .u64 ((rd_T27 l1 x32_2).f1.f0), .int .u32 ((rd_T27 l1 x32_2).f1.f1), .int .u8 ((rd_T27 l1 x32_2).f1.f2), .int .u8 ((rd_T27 l1 x32_2).f2), .int .u32 ((rd_T27 l1 x32_2).f3), .int .u64 ((rd_T27 l1 x32_2).f4), .string ((rd_T27 l1 x32_2).f5)]) ?_ 0 _ rfl; (with_reducible repeat (first | refine bN ?_ _ | refine bD ?_ | refine bA ?_ _)); exact BK132.out) k_ hk⟩)); (case aO => exact (by (with_reducible repeat (first | apply rA | apply rN | apply rD)); exact Kd.R_mono (Kd.R_far (p := ⟨gb132, 0, none⟩) (Kd.R_mono HO_7.out (fun k_ hk => (⟨hk, hk.1.2⟩ : _ ∧ k_ ≠ gb132))) (fun _ hk => hk.2) (.string a0)) (fun _ hk => ⟨hk.1.2, hk.1.1.2⟩))); (case aS => exact (below_size (by repeat (first | (with_reducible first | exact HB.out | apply qA | apply qN | apply qD | refine below_set ?_ GE132.out) | exact HB.out)))); (case aL => have := LMc23.out; omega); intro v139 w31 ho hb hg hat; rw [← Ny138.out] at ho; have n0_ := Aside0.mk (blk_grown (g := gb132) (o := .cells #[.string a0, .int .u64 ((rd_T27 l1 x32_2).f1.f0), .int .u32 ((rd_T27 l1 x32_2).f1.f1), .int .u8 ((rd_T27 l1 x32_2).f1.f2), .int .u8 ((rd_T27 l1 x32_2).f2), .int .u32 ((rd_T27 l1 x32_2).f3), .int .u64 ((rd_T27 l1 x32_2).f4), .string ((rd_T27 l1 x32_2).f5)] 27 (0, 0)) (by (with_reducible repeat (first | refine bN ?_ _ | refine bD ?_ | refine bA ?_ _)); refine blk_put (cs := #[.string ((rd_T27 l1 x32_2).f0), .int .u64 ((rd_T27 l1 x32_2).f1.f0), .int .u32 ((rd_T27 l1 x32_2).f1.f1), .int .u8 ((rd_T27 l1 x32_2).f1.f2), .int .u8 ((rd_T27 l1 x32_2).f2), .int .u32 ((rd_T27 l1 x32_2).f3), .int .u64 ((rd_T27 l1 x32_2).f4), .string ((rd_T27 l1 x32_2).f5)]) ?_ 0 _ rfl; (with_reducible repeat (first | refine bN ?_ _ | refine bD ?_ | refine bA ?_ _)); exact BK132.out) hg (Kd.R_away HO_7.out (fun _ hk => hk.1.2))); have n1_ := Aside0.mk (Kd.R_after (ok := (fun k_ => k_ ≠ gb132)) (by (with_reducible repeat (first | apply rA | apply rN | apply rD)); exact Kd.R_mono (Kd.R_far (p := ⟨gb132, 0, none⟩) (Kd.R_mono HO135.out (fun k_ hk => (⟨hk, hk.2⟩ : _ ∧ k_ ≠ gb132))) (fun _ hk => hk.2) (.string a0)) (fun _ hk => ⟨hk.1.2, hk.1.1.2⟩)) hg hat); have n2_ := Aside0.mk (hb); have n3_ := Aside0.mk (ho); clear BK132; clear HO135; clear HB; clear HO_7; have BK132 := n0_; have HO135 := n1_; have HB := n2_; have HO140 := n3_; clear n0_ n1_ n2_ n3_; clear ho hb hg hat))
      go_roundg k2
      case measure => have := HJ3.out; have := HK2.out; omega
      case rel => exact ⟨(y138), (wrap64 (x32_2 + 1)), (by first | rfl | (simp; done) | (simp [*]; done)), H', ⟨by have := HJ3.out; have := HK2.out; omega⟩, ⟨by (with_reducible repeat (first | apply rA | apply rN | apply rD)); exact Kd.R_mono HO140.out (fun _ hk => trivial)⟩, ⟨by repeat (first | (with_reducible first | exact HB.out | apply qA | apply qN | apply qD | refine below_set ?_ GE132.out) | exact HB.out)⟩⟩
     rw [if_neg c10] at H
     have c10b0 : decide (x32_2 < (l1.length : Int)) = false := decide_eq_false c10
     clear c10
     by_cases c32 : (x7_2.length : Int) = 0
     ·
      rw [if_pos c32] at H
      exact absurd H (by simp)
     rw [if_neg c32] at H
     have c32b0 : ((x7_2.length : Int) == 0) = false := beq_eq_false_iff_ne.mpr c32
     have c32b1 : ((x7_2.length : Int) != 0) = true := bne_iff_ne.mpr c32
     have c32b2 : ¬ (x7_2 = []) := fun h_ => c32 (by rw [h_]; rfl)
     by_cases c33 : 0 < (x7_2.length : Int)
     rotate_left
     ·
      rw [if_neg c33] at H
      exact absurd H (by simp)
     rw [if_pos c33] at H
     have c33b0 : decide (0 < (x7_2.length : Int)) = true := decide_eq_true c33
     have c33b1 : decide (0 < x7_2.length) = true := decide_eq_true (by omega)
     clear c33
     obtain ⟨ji34, hji34⟩ : ∃ j_ : Int, (Int.tmod (wrap64 (a2)) (x7_2.length : Int)) = j_ := ⟨_, rfl⟩
     replace H : (if 0 ≤ (ji34) then (if (ji34) < (x7_2.length : Int) then (tattlerlaw06_RecJoins.l1 k2 x7_2 ji34 (x7_2.length : Int) 0 ((rd_T27 x7_2 0).f0) ((rd_T27 x7_2 0).f1.f0) ((rd_T27 x7_2 0).f1.f1) ((rd_T27 x7_2 0).f1.f2) ((rd_T27 x7_2 0).f2) ((rd_T27 x7_2 0).f3) ((rd_T27 x7_2 0).f4) ((rd_T27 x7_2 0).f5) ((rd_T27 x7_2 (ji34)).f0) ((rd_T27 x7_2 (ji34)).f1.f0) ((rd_T27 x7_2 (ji34)).f1.f1) ((rd_T27 x7_2 (ji34)).f1.f2) ((rd_T27 x7_2 (ji34)).f2) ((rd_T27 x7_2 (ji34)).f3) ((rd_T27 x7_2 (ji34)).f4) ((rd_T27 x7_2 (ji34)).f5)) else (none)) else (none)) = some r := by first | (rw [hji34] at H; exact H) | (simp only [hji34] at H ⊢; exact H)
     by_cases c35 : 0 ≤ (ji34)
     rotate_left
     ·
      rw [if_neg c35] at H
      exact absurd H (by simp)
     rw [if_pos c35] at H
     have c35b0 : decide (0 ≤ (ji34)) = true := decide_eq_true c35
     clear c35
     by_cases c36 : (ji34) < (x7_2.length : Int)
     rotate_left
     ·
      rw [if_neg c36] at H
      exact absurd H (by simp)
     rw [if_pos c36] at H
     have c36b0 : decide ((ji34) < (x7_2.length : Int)) = true := decide_eq_true c36
     clear c36
     have H' := Aside0.mk H
     clear H
     obtain ⟨Ao37, co37, eo37⟩ := Kd.R_slice HO_7.out
     subst eo37
     try go_wp2
     have n0_ := Aside0.mk (Kd.R_drew HO_7.out)
     have n1_ := Aside0.mk (below_drew1 HB.out)
     clear HO_7
     clear HB
     have HO_7 := n0_
     have HB := n1_
     clear n0_ n1_
     have p141 : 0 ≤ (0 : Int) := (by omega)
     have q141 : 0 < (x7_2.length : Int) := of_decide_eq_true (by first | (with_reducible assumption) | assumption)
     obtain ⟨ad141, e141, hx141_0, hx141_1, hx141_2, hx141_3, hx141_4, hx141_5, hx141_6, hx141_7⟩ := at_T27 (Kd.R_reads' HO_7.out).2.2 0 p141 q141
     cases e141
     have qi141 : (0 < x7_2.length) = True := eq_true (by omega)
     (try rw [show ((0 : Int)).toNat = 0 from rfl] at hx141_0)
     (try rw [show 0 * 8 = 0 from rfl] at hx141_0)
     (try rw [Addr.add_zero'] at hx141_0)
     (try rw [show ((0 : Int)).toNat = 0 from rfl] at hx141_1)
     (try rw [show 0 * 8 = 0 from rfl] at hx141_1)
     (try rw [Addr.add_zero'] at hx141_1)
     (try rw [show ((0 : Int)).toNat = 0 from rfl] at hx141_2)
     (try rw [show 0 * 8 = 0 from rfl] at hx141_2)
     (try rw [Addr.add_zero'] at hx141_2)
     (try rw [show ((0 : Int)).toNat = 0 from rfl] at hx141_3)
     (try rw [show 0 * 8 = 0 from rfl] at hx141_3)
     (try rw [Addr.add_zero'] at hx141_3)
     (try rw [show ((0 : Int)).toNat = 0 from rfl] at hx141_4)
     (try rw [show 0 * 8 = 0 from rfl] at hx141_4)
     (try rw [Addr.add_zero'] at hx141_4)
     (try rw [show ((0 : Int)).toNat = 0 from rfl] at hx141_5)
     (try rw [show 0 * 8 = 0 from rfl] at hx141_5)
     (try rw [Addr.add_zero'] at hx141_5)
     (try rw [show ((0 : Int)).toNat = 0 from rfl] at hx141_6)
     (try rw [show 0 * 8 = 0 from rfl] at hx141_6)
     (try rw [Addr.add_zero'] at hx141_6)
     (try rw [show ((0 : Int)).toNat = 0 from rfl] at hx141_7)
     (try rw [show 0 * 8 = 0 from rfl] at hx141_7)
     (try rw [Addr.add_zero'] at hx141_7)
     replace p141 := eq_true p141
     replace q141 := eq_true q141
     have p142 : 0 ≤ ((ji34) : Int) := of_decide_eq_true (by first | (with_reducible assumption) | assumption)
     have q142 : (ji34) < (x7_2.length : Int) := of_decide_eq_true (by first | (with_reducible assumption) | assumption)
     obtain ⟨ad142, e142, hx142_0, hx142_1, hx142_2, hx142_3, hx142_4, hx142_5, hx142_6, hx142_7⟩ := at_T27 (Kd.R_reads' HO_7.out).2.2 (ji34) p142 q142
     obtain rfl : ad141 = ad142 := (by injection e142)
     replace p142 := eq_true p142
     replace q142 := eq_true q142
     refine start_ (n := 11) (S := fun w' => w'.cell? ad141 = some (.string ((rd_T27 x7_2 0).f0)) ∧ w'.cell? ⟨ad141.block, ad141.off + 1, none⟩ = some (.int .u64 ((rd_T27 x7_2 0).f1.f0)) ∧ w'.cell? ⟨ad141.block, ad141.off + 2, none⟩ = some (.int .u32 ((rd_T27 x7_2 0).f1.f1)) ∧ w'.cell? ⟨ad141.block, ad141.off + 3, none⟩ = some (.int .u8 ((rd_T27 x7_2 0).f1.f2)) ∧ w'.cell? ⟨ad141.block, ad141.off + 4, none⟩ = some (.int .u8 ((rd_T27 x7_2 0).f2)) ∧ w'.cell? ⟨ad141.block, ad141.off + 5, none⟩ = some (.int .u32 ((rd_T27 x7_2 0).f3)) ∧ w'.cell? ⟨ad141.block, ad141.off + 6, none⟩ = some (.int .u64 ((rd_T27 x7_2 0).f4)) ∧ w'.cell? ⟨ad141.block, ad141.off + 7, none⟩ = some (.string ((rd_T27 x7_2 0).f5)) ∧ w'.cell? (ad141.add (((ji34)).toNat * 8)) = some (.string ((rd_T27 x7_2 (ji34)).f0)) ∧ w'.cell? ⟨(ad141.add (((ji34)).toNat * 8)).block, (ad141.add (((ji34)).toNat * 8)).off + 1, none⟩ = some (.int .u64 ((rd_T27 x7_2 (ji34)).f1.f0)) ∧ w'.cell? ⟨(ad141.add (((ji34)).toNat * 8)).block, (ad141.add (((ji34)).toNat * 8)).off + 2, none⟩ = some (.int .u32 ((rd_T27 x7_2 (ji34)).f1.f1)) ∧ w'.cell? ⟨(ad141.add (((ji34)).toNat * 8)).block, (ad141.add (((ji34)).toNat * 8)).off + 3, none⟩ = some (.int .u8 ((rd_T27 x7_2 (ji34)).f1.f2)) ∧ w'.cell? ⟨(ad141.add (((ji34)).toNat * 8)).block, (ad141.add (((ji34)).toNat * 8)).off + 4, none⟩ = some (.int .u8 ((rd_T27 x7_2 (ji34)).f2)) ∧ w'.cell? ⟨(ad141.add (((ji34)).toNat * 8)).block, (ad141.add (((ji34)).toNat * 8)).off + 5, none⟩ = some (.int .u32 ((rd_T27 x7_2 (ji34)).f3)) ∧ w'.cell? ⟨(ad141.add (((ji34)).toNat * 8)).block, (ad141.add (((ji34)).toNat * 8)).off + 6, none⟩ = some (.int .u64 ((rd_T27 x7_2 (ji34)).f4)) ∧ w'.cell? ⟨(ad141.add (((ji34)).toNat * 8)).block, (ad141.add (((ji34)).toNat * 8)).off + 7, none⟩ = some (.string ((rd_T27 x7_2 (ji34)).f5))) (ds := []) #[false, false, false, false, false, false, false, false, false, false, false] (by kernel_rfl) rfl rfl ⟨hx141_0, hx141_1, hx141_2, hx141_3, hx141_4, hx141_5, hx141_6, hx141_7, hx142_0, hx142_1, hx142_2, hx142_3, hx142_4, hx142_5, hx142_6, hx142_7⟩ (fun hHeld => ?_); refine with_tabW tattlerlaw06_RecJoins.tab13 tattlerlaw06_RecJoins.bits13 (fun HT_ HW_ => ?_)
     generalize wr.drew = w38 at HO_7 HB hx141_0 hx141_1 hx141_2 hx141_3 hx141_4 hx141_5 hx141_6 hx141_7 hx142_0 hx142_1 hx142_2 hx142_3 hx142_4 hx142_5 hx142_6 hx142_7 hHeld ⊢
     refine pure_ (i := 0) (N := some 52) (v := ?_) (a' := ?_) #[true, false, false, false, false, false, false, false, false, false, false] rfl rfl (any_of HT_.out (by kernel_rfl)) (fun _ _ _ h => h) (Or.inl ⟨by rfl, ?_⟩) ?_ ?_
     rotate_left
     ·
      intro w'
      go_simp
      with_reducible rfl
     rotate_left
     ·
      simp only [Act.put, List.setIfInBounds_toArray, List.set_cons_zero, List.set_cons_succ, i64_w, i32_w]
      rfl
     refine pure_ (i := 1) (N := some 53) (v := ?_) (a' := ?_) #[true, true, false, false, false, false, false, false, false, false, false] rfl rfl (any_of HT_.out (by kernel_rfl)) (fun _ _ _ h => h) (Or.inl ⟨by rfl, ?_⟩) ?_ ?_
     rotate_left
     ·
      intro w'
      go_simp
      with_reducible rfl
     rotate_left
     ·
      simp only [Act.put, List.setIfInBounds_toArray, List.set_cons_zero, List.set_cons_succ, i64_w, i32_w]
      rfl
     refine pure_ (i := 3) (N := some 55) (v := ?_) (a' := ?_) #[true, true, false, true, false, false, false, false, false, false, false] rfl rfl (any_of HT_.out (by kernel_rfl)) (fun _ _ _ h => h) (Or.inl ⟨by rfl, ?_⟩) ?_ ?_
     rotate_left
     ·
      intro w'
      go_simp
      with_reducible rfl
     rotate_left
     ·
      simp only [Act.put, List.setIfInBounds_toArray, List.set_cons_zero, List.set_cons_succ, i64_w, i32_w]
      rfl
     refine pure_ (i := 4) (N := some 56) (v := ?_) (a' := ?_) #[true, true, false, true, true, false, false, false, false, false, false] rfl rfl (any_of HT_.out (by kernel_rfl)) (fun _ _ _ h => h) (Or.inl ⟨by rfl, ?_⟩) ?_ ?_
     rotate_left
     ·
      intro w'
      go_simp
      with_reducible rfl
     rotate_left
     ·
      simp only [Act.put, List.setIfInBounds_toArray, List.set_cons_zero, List.set_cons_succ, i64_w, i32_w]
      rfl
     refine pure_ (i := 5) (N := some 57) (v := ?_) (a' := ?_) #[true, true, false, true, true, true, false, false, false, false, false] rfl rfl (any_of HT_.out (by kernel_rfl)) (fun _ _ _ h => h) (Or.inl ⟨by rfl, ?_⟩) ?_ ?_
     rotate_left
     ·
      intro w'
      go_simp
      with_reducible rfl
     rotate_left
     ·
      simp only [Act.put, List.setIfInBounds_toArray, List.set_cons_zero, List.set_cons_succ, i64_w, i32_w]
      rfl
     refine take_ (i := 2) (N := some 54) (v := ?_) (a' := ?_) #[true, true, true, true, true, true, false, false, false, false, false] rfl rfl (take_ofW HT_.out HW_.out (by kernel_rfl)) (fun _ _ _ h => h) (Or.inl ⟨by rfl, ?_⟩) hHeld ?_ ?_
     rotate_left
     ·
      rintro w' ⟨s0, s1, s2, s3, s4, s5, s6, s7, s8, s9, s10, s11, s12, s13, s14, s15⟩
      go_simp
      with_reducible rfl
     rotate_left
     ·
      simp only [Act.put, List.setIfInBounds_toArray, List.set_cons_zero, List.set_cons_succ, i64_w, i32_w]
      rfl
     refine take_ (i := 6) (N := some 58) (v := ?_) (a' := ?_) #[true, true, true, true, true, true, true, false, false, false, false] rfl rfl (take_ofW HT_.out HW_.out (by kernel_rfl)) (fun _ _ _ h => h) (Or.inl ⟨by rfl, ?_⟩) hHeld ?_ ?_
     rotate_left
     ·
      rintro w' ⟨s0, s1, s2, s3, s4, s5, s6, s7, s8, s9, s10, s11, s12, s13, s14, s15⟩
      go_simp
      with_reducible rfl
     rotate_left
     ·
      simp only [Act.put, List.setIfInBounds_toArray, List.set_cons_zero, List.set_cons_succ, i64_w, i32_w]
      rfl
     refine join_ (σ := Nat × Nat) 2 #[true, true, true, true, true, true, true, true, true, false, false] (fun s_ => [(11, .pointer (some ⟨s_.1, 0, none⟩)), (12, .pointer (some ⟨s_.2, 0, none⟩))]) (fun s_ w' => (w'.cell? ad141 = some (.string ((rd_T27 x7_2 0).f0)) ∧ w'.cell? ⟨ad141.block, ad141.off + 1, none⟩ = some (.int .u64 ((rd_T27 x7_2 0).f1.f0)) ∧ w'.cell? ⟨ad141.block, ad141.off + 2, none⟩ = some (.int .u32 ((rd_T27 x7_2 0).f1.f1)) ∧ w'.cell? ⟨ad141.block, ad141.off + 3, none⟩ = some (.int .u8 ((rd_T27 x7_2 0).f1.f2)) ∧ w'.cell? ⟨ad141.block, ad141.off + 4, none⟩ = some (.int .u8 ((rd_T27 x7_2 0).f2)) ∧ w'.cell? ⟨ad141.block, ad141.off + 5, none⟩ = some (.int .u32 ((rd_T27 x7_2 0).f3)) ∧ w'.cell? ⟨ad141.block, ad141.off + 6, none⟩ = some (.int .u64 ((rd_T27 x7_2 0).f4)) ∧ w'.cell? ⟨ad141.block, ad141.off + 7, none⟩ = some (.string ((rd_T27 x7_2 0).f5)) ∧ w'.cell? (ad141.add (((ji34)).toNat * 8)) = some (.string ((rd_T27 x7_2 (ji34)).f0)) ∧ w'.cell? ⟨(ad141.add (((ji34)).toNat * 8)).block, (ad141.add (((ji34)).toNat * 8)).off + 1, none⟩ = some (.int .u64 ((rd_T27 x7_2 (ji34)).f1.f0)) ∧ w'.cell? ⟨(ad141.add (((ji34)).toNat * 8)).block, (ad141.add (((ji34)).toNat * 8)).off + 2, none⟩ = some (.int .u32 ((rd_T27 x7_2 (ji34)).f1.f1)) ∧ w'.cell? ⟨(ad141.add (((ji34)).toNat * 8)).block, (ad141.add (((ji34)).toNat * 8)).off + 3, none⟩ = some (.int .u8 ((rd_T27 x7_2 (ji34)).f1.f2)) ∧ w'.cell? ⟨(ad141.add (((ji34)).toNat * 8)).block, (ad141.add (((ji34)).toNat * 8)).off + 4, none⟩ = some (.int .u8 ((rd_T27 x7_2 (ji34)).f2)) ∧ w'.cell? ⟨(ad141.add (((ji34)).toNat * 8)).block, (ad141.add (((ji34)).toNat * 8)).off + 5, none⟩ = some (.int .u32 ((rd_T27 x7_2 (ji34)).f3)) ∧ w'.cell? ⟨(ad141.add (((ji34)).toNat * 8)).block, (ad141.add (((ji34)).toNat * 8)).off + 6, none⟩ = some (.int .u64 ((rd_T27 x7_2 (ji34)).f4)) ∧ w'.cell? ⟨(ad141.add (((ji34)).toNat * 8)).block, (ad141.add (((ji34)).toNat * 8)).off + 7, none⟩ = some (.string ((rd_T27 x7_2 (ji34)).f5))) ∧ (Kd.R k27 27 w' w.heap.size (fun k_ => k_ ≠ s_.1 ∧ k_ ≠ s_.2) (.slice (some ad141) x7_2.length co37) x7_2) ∧ (w'.heap[s_.1]? = some (.cells #[.string (⟨#[]⟩ : ByteArray), .int .u64 0, .int .u32 0, .int .u8 0, .int .u8 0, .int .u32 0, .int .u64 0, .string (⟨#[]⟩ : ByteArray)] 27 (0, 0))) ∧ (w'.heap[s_.2]? = some (.cells #[.string (⟨#[]⟩ : ByteArray), .int .u64 0, .int .u32 0, .int .u8 0, .int .u8 0, .int .u32 0, .int .u64 0, .string (⟨#[]⟩ : ByteArray)] 27 (0, 0))) ∧ (w.heap.size ≤ s_.1) ∧ (w.heap.size ≤ s_.1) ∧ (s_.2 ≠ s_.1) ∧ (s_.1 ≠ s_.2) ∧ (w.heap.size ≤ s_.2) ∧ (w.heap.size ≤ s_.2) ∧ (Below w.heap.size w w')) ?_ ?_
     rotate_left
     ·
      intro hCont
      refine two_ (i := 7) (j := 8) (Ni := some 11) (Nj := some 12) #[true, true, true, true, true, true, true, true, false, false, false] #[true, true, true, true, true, true, true, false, true, false, false] rfl rfl rfl rfl (two_of HT_.out (by kernel_rfl)) (by decide) (by decide) (fun K hK => ?_) (fun K hK => ?_)
      rotate_left
      ·
       skip
       refine box_step ?hg (N := 12) ?hd (cs := #[.string (⟨#[]⟩ : ByteArray), .int .u64 0, .int .u32 0, .int .u8 0, .int .u8 0, .int .u32 0, .int .u64 0, .string (⟨#[]⟩ : ByteArray)]) (t := 27) ?hr ?_; (case hd => rfl); (case hg => rfl); (case hr => first | (go_simp; done) | (go_simp; rfl))
       intro gb144 hg w39 hbox hb
       have HS0_ := (hb.cell (World.block_lt_of_cell? _ _ (hHeld.1))).trans (hHeld.1)
       have HS1_ := (hb.cell (World.block_lt_of_cell? _ _ (hHeld.2.1))).trans (hHeld.2.1)
       have HS2_ := (hb.cell (World.block_lt_of_cell? _ _ (hHeld.2.2.1))).trans (hHeld.2.2.1)
       have HS3_ := (hb.cell (World.block_lt_of_cell? _ _ (hHeld.2.2.2.1))).trans (hHeld.2.2.2.1)
       have HS4_ := (hb.cell (World.block_lt_of_cell? _ _ (hHeld.2.2.2.2.1))).trans (hHeld.2.2.2.2.1)
       have HS5_ := (hb.cell (World.block_lt_of_cell? _ _ (hHeld.2.2.2.2.2.1))).trans (hHeld.2.2.2.2.2.1)
       have HS6_ := (hb.cell (World.block_lt_of_cell? _ _ (hHeld.2.2.2.2.2.2.1))).trans (hHeld.2.2.2.2.2.2.1)
       have HS7_ := (hb.cell (World.block_lt_of_cell? _ _ (hHeld.2.2.2.2.2.2.2.1))).trans (hHeld.2.2.2.2.2.2.2.1)
       have HS8_ := (hb.cell (World.block_lt_of_cell? _ _ (hHeld.2.2.2.2.2.2.2.2.1))).trans (hHeld.2.2.2.2.2.2.2.2.1)
       have HS9_ := (hb.cell (World.block_lt_of_cell? _ _ (hHeld.2.2.2.2.2.2.2.2.2.1))).trans (hHeld.2.2.2.2.2.2.2.2.2.1)
       have HS10_ := (hb.cell (World.block_lt_of_cell? _ _ (hHeld.2.2.2.2.2.2.2.2.2.2.1))).trans (hHeld.2.2.2.2.2.2.2.2.2.2.1)
       have HS11_ := (hb.cell (World.block_lt_of_cell? _ _ (hHeld.2.2.2.2.2.2.2.2.2.2.2.1))).trans (hHeld.2.2.2.2.2.2.2.2.2.2.2.1)
       have HS12_ := (hb.cell (World.block_lt_of_cell? _ _ (hHeld.2.2.2.2.2.2.2.2.2.2.2.2.1))).trans (hHeld.2.2.2.2.2.2.2.2.2.2.2.2.1)
       have HS13_ := (hb.cell (World.block_lt_of_cell? _ _ (hHeld.2.2.2.2.2.2.2.2.2.2.2.2.2.1))).trans (hHeld.2.2.2.2.2.2.2.2.2.2.2.2.2.1)
       have HS14_ := (hb.cell (World.block_lt_of_cell? _ _ (hHeld.2.2.2.2.2.2.2.2.2.2.2.2.2.2.1))).trans (hHeld.2.2.2.2.2.2.2.2.2.2.2.2.2.2.1)
       have HS15_ := (hb.cell (World.block_lt_of_cell? _ _ (hHeld.2.2.2.2.2.2.2.2.2.2.2.2.2.2.2))).trans (hHeld.2.2.2.2.2.2.2.2.2.2.2.2.2.2.2)
       have n0_ := Aside0.mk (Kd.R_below (Kd.R_elderB (by (with_reducible repeat (first | apply rA | apply rN | apply rD)); exact HO_7.out) gb144 (Nat.le_of_eq hg.symm)) hb)
       have n1_ := Aside0.mk (below_step (by repeat (first | (with_reducible first | exact HB.out | apply qA | apply qN | apply qD) | exact HB.out)) hb)
       have n2_ := Aside0.mk (hbox)
       have n3_ := Aside0.mk ((by rw [hg]; exact (below_size (by repeat (first | (with_reducible first | exact HB.out | apply qA | apply qN | apply qD) | exact HB.out))) : w.heap.size ≤ gb144))
       have n4_ := Aside0.mk ((by rw [hg]; exact (below_size (by repeat (first | (with_reducible first | exact HB.out | apply qA | apply qN | apply qD) | exact HB.out))) : w.heap.size ≤ gb144))
       clear HO_7
       clear HB
       have HO_7 := n0_
       have HB := n1_
       have BK144 := n2_
       have GW144 := n3_
       have GE144 := n4_
       clear n0_ n1_ n2_ n3_ n4_
       clear hb hbox hg
       refine hK.out _ _ ⟨HS0_, HS1_, HS2_, HS3_, HS4_, HS5_, HS6_, HS7_, HS8_, HS9_, HS10_, HS11_, HS12_, HS13_, HS14_, HS15_⟩ (fun hHeld => ?_)
       clear hK K
       refine norm_ (a' := ?_) ?_ ?_
       rotate_left
       ·
        show Act.put _ (some 12) _ = _
        simp only [Act.put, List.setIfInBounds_toArray, List.set_cons_zero, List.set_cons_succ, i64_w, i32_w]
        rfl
       refine one_ (i := 7) (N := some 11) #[true, true, true, true, true, true, true, true, true, false, false] rfl rfl (one_of HT_.out (by kernel_rfl)) (by decide) (fun K hK => ?_)
       refine box_step ?hg (N := 11) ?hd (cs := #[.string (⟨#[]⟩ : ByteArray), .int .u64 0, .int .u32 0, .int .u8 0, .int .u8 0, .int .u32 0, .int .u64 0, .string (⟨#[]⟩ : ByteArray)]) (t := 27) ?hr ?_; (case hd => rfl); (case hg => rfl); (case hr => first | (go_simp; done) | (go_simp; rfl))
       intro gb143 hg w40 hbox hb
       have HS0_ := (hb.cell (World.block_lt_of_cell? _ _ (hHeld.1))).trans (hHeld.1)
       have HS1_ := (hb.cell (World.block_lt_of_cell? _ _ (hHeld.2.1))).trans (hHeld.2.1)
       have HS2_ := (hb.cell (World.block_lt_of_cell? _ _ (hHeld.2.2.1))).trans (hHeld.2.2.1)
       have HS3_ := (hb.cell (World.block_lt_of_cell? _ _ (hHeld.2.2.2.1))).trans (hHeld.2.2.2.1)
       have HS4_ := (hb.cell (World.block_lt_of_cell? _ _ (hHeld.2.2.2.2.1))).trans (hHeld.2.2.2.2.1)
       have HS5_ := (hb.cell (World.block_lt_of_cell? _ _ (hHeld.2.2.2.2.2.1))).trans (hHeld.2.2.2.2.2.1)
       have HS6_ := (hb.cell (World.block_lt_of_cell? _ _ (hHeld.2.2.2.2.2.2.1))).trans (hHeld.2.2.2.2.2.2.1)
       have HS7_ := (hb.cell (World.block_lt_of_cell? _ _ (hHeld.2.2.2.2.2.2.2.1))).trans (hHeld.2.2.2.2.2.2.2.1)
       have HS8_ := (hb.cell (World.block_lt_of_cell? _ _ (hHeld.2.2.2.2.2.2.2.2.1))).trans (hHeld.2.2.2.2.2.2.2.2.1)
       have HS9_ := (hb.cell (World.block_lt_of_cell? _ _ (hHeld.2.2.2.2.2.2.2.2.2.1))).trans (hHeld.2.2.2.2.2.2.2.2.2.1)
       have HS10_ := (hb.cell (World.block_lt_of_cell? _ _ (hHeld.2.2.2.2.2.2.2.2.2.2.1))).trans (hHeld.2.2.2.2.2.2.2.2.2.2.1)
       have HS11_ := (hb.cell (World.block_lt_of_cell? _ _ (hHeld.2.2.2.2.2.2.2.2.2.2.2.1))).trans (hHeld.2.2.2.2.2.2.2.2.2.2.2.1)
       have HS12_ := (hb.cell (World.block_lt_of_cell? _ _ (hHeld.2.2.2.2.2.2.2.2.2.2.2.2.1))).trans (hHeld.2.2.2.2.2.2.2.2.2.2.2.2.1)
       have HS13_ := (hb.cell (World.block_lt_of_cell? _ _ (hHeld.2.2.2.2.2.2.2.2.2.2.2.2.2.1))).trans (hHeld.2.2.2.2.2.2.2.2.2.2.2.2.2.1)
       have HS14_ := (hb.cell (World.block_lt_of_cell? _ _ (hHeld.2.2.2.2.2.2.2.2.2.2.2.2.2.2.1))).trans (hHeld.2.2.2.2.2.2.2.2.2.2.2.2.2.2.1)
       have HS15_ := (hb.cell (World.block_lt_of_cell? _ _ (hHeld.2.2.2.2.2.2.2.2.2.2.2.2.2.2.2))).trans (hHeld.2.2.2.2.2.2.2.2.2.2.2.2.2.2.2)
       have n0_ := Aside0.mk (Kd.R_below (Kd.R_elderB (by (with_reducible repeat (first | apply rA | apply rN | apply rD)); exact HO_7.out) gb143 (Nat.le_of_eq hg.symm)) hb)
       have n1_ := Aside0.mk (blk_below (g := gb144) (o := .cells #[.string (⟨#[]⟩ : ByteArray), .int .u64 0, .int .u32 0, .int .u8 0, .int .u8 0, .int .u32 0, .int .u64 0, .string (⟨#[]⟩ : ByteArray)] 27 (0, 0)) (by (with_reducible repeat (first | refine bN ?_ _ | refine bD ?_ | refine bA ?_ _)); exact BK144.out) hb)
       have n2_ := Aside0.mk (below_step (by repeat (first | (with_reducible first | exact HB.out | apply qA | apply qN | apply qD | refine below_set ?_ GE144.out) | exact HB.out)) hb)
       have n3_ := Aside0.mk (hbox)
       have n4_ := Aside0.mk ((by rw [hg]; exact (below_size (by repeat (first | (with_reducible first | exact HB.out | apply qA | apply qN | apply qD | refine below_set ?_ GE144.out) | exact HB.out))) : w.heap.size ≤ gb143))
       have n5_ := Aside0.mk ((by rw [hg]; exact (below_size (by repeat (first | (with_reducible first | exact HB.out | apply qA | apply qN | apply qD | refine below_set ?_ GE144.out) | exact HB.out))) : w.heap.size ≤ gb143))
       have n6_ := Aside0.mk ((by rw [hg]; exact Nat.ne_of_lt (blk_lt (g := gb144) (o := .cells #[.string (⟨#[]⟩ : ByteArray), .int .u64 0, .int .u32 0, .int .u8 0, .int .u8 0, .int .u32 0, .int .u64 0, .string (⟨#[]⟩ : ByteArray)] 27 (0, 0)) (by (with_reducible repeat (first | refine bN ?_ _ | refine bD ?_ | refine bA ?_ _)); exact BK144.out)) : gb144 ≠ gb143))
       have n7_ := Aside0.mk ((by rw [hg]; exact Nat.ne_of_gt (blk_lt (g := gb144) (o := .cells #[.string (⟨#[]⟩ : ByteArray), .int .u64 0, .int .u32 0, .int .u8 0, .int .u8 0, .int .u32 0, .int .u64 0, .string (⟨#[]⟩ : ByteArray)] 27 (0, 0)) (by (with_reducible repeat (first | refine bN ?_ _ | refine bD ?_ | refine bA ?_ _)); exact BK144.out)) : gb143 ≠ gb144))
       clear HO_7
       clear BK144
       clear HB
       have HO_7 := n0_
       have BK144 := n1_
       have HB := n2_
       have BK143 := n3_
       have GW143 := n4_
       have GE143 := n5_
       have NB144_143 := n6_
       have NB143_144 := n7_
       clear n0_ n1_ n2_ n3_ n4_ n5_ n6_ n7_
       clear hb hbox hg
       refine hK.out _ _ ⟨HS0_, HS1_, HS2_, HS3_, HS4_, HS5_, HS6_, HS7_, HS8_, HS9_, HS10_, HS11_, HS12_, HS13_, HS14_, HS15_⟩ (fun hHeld => ?_)
       clear hK K
       refine norm_ (a' := ?_) ?_ ?_
       rotate_left
       ·
        show Act.put _ (some 11) _ = _
        simp only [Act.put, List.setIfInBounds_toArray, List.set_cons_zero, List.set_cons_succ, i64_w, i32_w]
        rfl
       exact norm_ (by first | (simp only [putAll, Act.put, List.setIfInBounds_toArray, List.set_cons_zero, List.set_cons_succ]; done) | (simp only [putAll, Act.put, List.setIfInBounds_toArray, List.set_cons_zero, List.set_cons_succ]; rfl) | (simp only [putAll, Act.put, List.setIfInBounds_toArray, List.set_cons_zero, List.set_cons_succ]; simp)) (hCont (gb143, gb144) _ ⟨hHeld, (by (with_reducible repeat (first | apply rA | apply rN | apply rD)); exact Kd.R_mono HO_7.out (fun _ hk => ⟨hk.2, hk.1.2⟩)), (by (with_reducible repeat (first | refine bN ?_ _ | refine bD ?_ | refine bA ?_ _)); exact BK143.out), (by (with_reducible repeat (first | refine bN ?_ _ | refine bD ?_ | refine bA ?_ _)); exact BK144.out), GW143.out, GE143.out, NB144_143.out, NB143_144.out, GW144.out, GE144.out, (by repeat (first | (with_reducible first | exact HB.out | apply qA | apply qN | apply qD | refine below_set ?_ GE144.out | refine below_set ?_ GE143.out) | exact HB.out))⟩)
      skip
      refine box_step ?hg (N := 11) ?hd (cs := #[.string (⟨#[]⟩ : ByteArray), .int .u64 0, .int .u32 0, .int .u8 0, .int .u8 0, .int .u32 0, .int .u64 0, .string (⟨#[]⟩ : ByteArray)]) (t := 27) ?hr ?_; (case hd => rfl); (case hg => rfl); (case hr => first | (go_simp; done) | (go_simp; rfl))
      intro gb143 hg w39 hbox hb
      have HS0_ := (hb.cell (World.block_lt_of_cell? _ _ (hHeld.1))).trans (hHeld.1)
      have HS1_ := (hb.cell (World.block_lt_of_cell? _ _ (hHeld.2.1))).trans (hHeld.2.1)
      have HS2_ := (hb.cell (World.block_lt_of_cell? _ _ (hHeld.2.2.1))).trans (hHeld.2.2.1)
      have HS3_ := (hb.cell (World.block_lt_of_cell? _ _ (hHeld.2.2.2.1))).trans (hHeld.2.2.2.1)
      have HS4_ := (hb.cell (World.block_lt_of_cell? _ _ (hHeld.2.2.2.2.1))).trans (hHeld.2.2.2.2.1)
      have HS5_ := (hb.cell (World.block_lt_of_cell? _ _ (hHeld.2.2.2.2.2.1))).trans (hHeld.2.2.2.2.2.1)
      have HS6_ := (hb.cell (World.block_lt_of_cell? _ _ (hHeld.2.2.2.2.2.2.1))).trans (hHeld.2.2.2.2.2.2.1)
      have HS7_ := (hb.cell (World.block_lt_of_cell? _ _ (hHeld.2.2.2.2.2.2.2.1))).trans (hHeld.2.2.2.2.2.2.2.1)
      have HS8_ := (hb.cell (World.block_lt_of_cell? _ _ (hHeld.2.2.2.2.2.2.2.2.1))).trans (hHeld.2.2.2.2.2.2.2.2.1)
      have HS9_ := (hb.cell (World.block_lt_of_cell? _ _ (hHeld.2.2.2.2.2.2.2.2.2.1))).trans (hHeld.2.2.2.2.2.2.2.2.2.1)
      have HS10_ := (hb.cell (World.block_lt_of_cell? _ _ (hHeld.2.2.2.2.2.2.2.2.2.2.1))).trans (hHeld.2.2.2.2.2.2.2.2.2.2.1)
      have HS11_ := (hb.cell (World.block_lt_of_cell? _ _ (hHeld.2.2.2.2.2.2.2.2.2.2.2.1))).trans (hHeld.2.2.2.2.2.2.2.2.2.2.2.1)
      have HS12_ := (hb.cell (World.block_lt_of_cell? _ _ (hHeld.2.2.2.2.2.2.2.2.2.2.2.2.1))).trans (hHeld.2.2.2.2.2.2.2.2.2.2.2.2.1)
      have HS13_ := (hb.cell (World.block_lt_of_cell? _ _ (hHeld.2.2.2.2.2.2.2.2.2.2.2.2.2.1))).trans (hHeld.2.2.2.2.2.2.2.2.2.2.2.2.2.1)
      have HS14_ := (hb.cell (World.block_lt_of_cell? _ _ (hHeld.2.2.2.2.2.2.2.2.2.2.2.2.2.2.1))).trans (hHeld.2.2.2.2.2.2.2.2.2.2.2.2.2.2.1)
      have HS15_ := (hb.cell (World.block_lt_of_cell? _ _ (hHeld.2.2.2.2.2.2.2.2.2.2.2.2.2.2.2))).trans (hHeld.2.2.2.2.2.2.2.2.2.2.2.2.2.2.2)
      have n0_ := Aside0.mk (Kd.R_below (Kd.R_elderB (by (with_reducible repeat (first | apply rA | apply rN | apply rD)); exact HO_7.out) gb143 (Nat.le_of_eq hg.symm)) hb)
      have n1_ := Aside0.mk (below_step (by repeat (first | (with_reducible first | exact HB.out | apply qA | apply qN | apply qD) | exact HB.out)) hb)
      have n2_ := Aside0.mk (hbox)
      have n3_ := Aside0.mk ((by rw [hg]; exact (below_size (by repeat (first | (with_reducible first | exact HB.out | apply qA | apply qN | apply qD) | exact HB.out))) : w.heap.size ≤ gb143))
      have n4_ := Aside0.mk ((by rw [hg]; exact (below_size (by repeat (first | (with_reducible first | exact HB.out | apply qA | apply qN | apply qD) | exact HB.out))) : w.heap.size ≤ gb143))
      clear HO_7
      clear HB
      have HO_7 := n0_
      have HB := n1_
      have BK143 := n2_
      have GW143 := n3_
      have GE143 := n4_
      clear n0_ n1_ n2_ n3_ n4_
      clear hb hbox hg
      refine hK.out _ _ ⟨HS0_, HS1_, HS2_, HS3_, HS4_, HS5_, HS6_, HS7_, HS8_, HS9_, HS10_, HS11_, HS12_, HS13_, HS14_, HS15_⟩ (fun hHeld => ?_)
      clear hK K
      refine norm_ (a' := ?_) ?_ ?_
      rotate_left
      ·
       show Act.put _ (some 11) _ = _
       simp only [Act.put, List.setIfInBounds_toArray, List.set_cons_zero, List.set_cons_succ, i64_w, i32_w]
       rfl
      refine one_ (i := 8) (N := some 12) #[true, true, true, true, true, true, true, true, true, false, false] rfl rfl (one_of HT_.out (by kernel_rfl)) (by decide) (fun K hK => ?_)
      refine box_step ?hg (N := 12) ?hd (cs := #[.string (⟨#[]⟩ : ByteArray), .int .u64 0, .int .u32 0, .int .u8 0, .int .u8 0, .int .u32 0, .int .u64 0, .string (⟨#[]⟩ : ByteArray)]) (t := 27) ?hr ?_; (case hd => rfl); (case hg => rfl); (case hr => first | (go_simp; done) | (go_simp; rfl))
      intro gb144 hg w40 hbox hb
      have HS0_ := (hb.cell (World.block_lt_of_cell? _ _ (hHeld.1))).trans (hHeld.1)
      have HS1_ := (hb.cell (World.block_lt_of_cell? _ _ (hHeld.2.1))).trans (hHeld.2.1)
      have HS2_ := (hb.cell (World.block_lt_of_cell? _ _ (hHeld.2.2.1))).trans (hHeld.2.2.1)
      have HS3_ := (hb.cell (World.block_lt_of_cell? _ _ (hHeld.2.2.2.1))).trans (hHeld.2.2.2.1)
      have HS4_ := (hb.cell (World.block_lt_of_cell? _ _ (hHeld.2.2.2.2.1))).trans (hHeld.2.2.2.2.1)
      have HS5_ := (hb.cell (World.block_lt_of_cell? _ _ (hHeld.2.2.2.2.2.1))).trans (hHeld.2.2.2.2.2.1)
      have HS6_ := (hb.cell (World.block_lt_of_cell? _ _ (hHeld.2.2.2.2.2.2.1))).trans (hHeld.2.2.2.2.2.2.1)
      have HS7_ := (hb.cell (World.block_lt_of_cell? _ _ (hHeld.2.2.2.2.2.2.2.1))).trans (hHeld.2.2.2.2.2.2.2.1)
      have HS8_ := (hb.cell (World.block_lt_of_cell? _ _ (hHeld.2.2.2.2.2.2.2.2.1))).trans (hHeld.2.2.2.2.2.2.2.2.1)
      have HS9_ := (hb.cell (World.block_lt_of_cell? _ _ (hHeld.2.2.2.2.2.2.2.2.2.1))).trans (hHeld.2.2.2.2.2.2.2.2.2.1)
      have HS10_ := (hb.cell (World.block_lt_of_cell? _ _ (hHeld.2.2.2.2.2.2.2.2.2.2.1))).trans (hHeld.2.2.2.2.2.2.2.2.2.2.1)
      have HS11_ := (hb.cell (World.block_lt_of_cell? _ _ (hHeld.2.2.2.2.2.2.2.2.2.2.2.1))).trans (hHeld.2.2.2.2.2.2.2.2.2.2.2.1)
      have HS12_ := (hb.cell (World.block_lt_of_cell? _ _ (hHeld.2.2.2.2.2.2.2.2.2.2.2.2.1))).trans (hHeld.2.2.2.2.2.2.2.2.2.2.2.2.1)
      have HS13_ := (hb.cell (World.block_lt_of_cell? _ _ (hHeld.2.2.2.2.2.2.2.2.2.2.2.2.2.1))).trans (hHeld.2.2.2.2.2.2.2.2.2.2.2.2.2.1)
      have HS14_ := (hb.cell (World.block_lt_of_cell? _ _ (hHeld.2.2.2.2.2.2.2.2.2.2.2.2.2.2.1))).trans (hHeld.2.2.2.2.2.2.2.2.2.2.2.2.2.2.1)
      have HS15_ := (hb.cell (World.block_lt_of_cell? _ _ (hHeld.2.2.2.2.2.2.2.2.2.2.2.2.2.2.2))).trans (hHeld.2.2.2.2.2.2.2.2.2.2.2.2.2.2.2)
      have n0_ := Aside0.mk (Kd.R_below (Kd.R_elderB (by (with_reducible repeat (first | apply rA | apply rN | apply rD)); exact HO_7.out) gb144 (Nat.le_of_eq hg.symm)) hb)
      have n1_ := Aside0.mk (blk_below (g := gb143) (o := .cells #[.string (⟨#[]⟩ : ByteArray), .int .u64 0, .int .u32 0, .int .u8 0, .int .u8 0, .int .u32 0, .int .u64 0, .string (⟨#[]⟩ : ByteArray)] 27 (0, 0)) (by (with_reducible repeat (first | refine bN ?_ _ | refine bD ?_ | refine bA ?_ _)); exact BK143.out) hb)
      have n2_ := Aside0.mk (below_step (by repeat (first | (with_reducible first | exact HB.out | apply qA | apply qN | apply qD | refine below_set ?_ GE143.out) | exact HB.out)) hb)
      have n3_ := Aside0.mk (hbox)
      have n4_ := Aside0.mk ((by rw [hg]; exact (below_size (by repeat (first | (with_reducible first | exact HB.out | apply qA | apply qN | apply qD | refine below_set ?_ GE143.out) | exact HB.out))) : w.heap.size ≤ gb144))
      have n5_ := Aside0.mk ((by rw [hg]; exact (below_size (by repeat (first | (with_reducible first | exact HB.out | apply qA | apply qN | apply qD | refine below_set ?_ GE143.out) | exact HB.out))) : w.heap.size ≤ gb144))
      have n6_ := Aside0.mk ((by rw [hg]; exact Nat.ne_of_lt (blk_lt (g := gb143) (o := .cells #[.string (⟨#[]⟩ : ByteArray), .int .u64 0, .int .u32 0, .int .u8 0, .int .u8 0, .int .u32 0, .int .u64 0, .string (⟨#[]⟩ : ByteArray)] 27 (0, 0)) (by (with_reducible repeat (first | refine bN ?_ _ | refine bD ?_ | refine bA ?_ _)); exact BK143.out)) : gb143 ≠ gb144))
      have n7_ := Aside0.mk ((by rw [hg]; exact Nat.ne_of_gt (blk_lt (g := gb143) (o := .cells #[.string (⟨#[]⟩ : ByteArray), .int .u64 0, .int .u32 0, .int .u8 0, .int .u8 0, .int .u32 0, .int .u64 0, .string (⟨#[]⟩ : ByteArray)] 27 (0, 0)) (by (with_reducible repeat (first | refine bN ?_ _ | refine bD ?_ | refine bA ?_ _)); exact BK143.out)) : gb144 ≠ gb143))
      clear HO_7
      clear BK143
      clear HB
      have HO_7 := n0_
      have BK143 := n1_
      have HB := n2_
      have BK144 := n3_
      have GW144 := n4_
      have GE144 := n5_
      have NB143_144 := n6_
      have NB144_143 := n7_
      clear n0_ n1_ n2_ n3_ n4_ n5_ n6_ n7_
      clear hb hbox hg
      refine hK.out _ _ ⟨HS0_, HS1_, HS2_, HS3_, HS4_, HS5_, HS6_, HS7_, HS8_, HS9_, HS10_, HS11_, HS12_, HS13_, HS14_, HS15_⟩ (fun hHeld => ?_)
      clear hK K
      refine norm_ (a' := ?_) ?_ ?_
      rotate_left
      ·
       show Act.put _ (some 12) _ = _
       simp only [Act.put, List.setIfInBounds_toArray, List.set_cons_zero, List.set_cons_succ, i64_w, i32_w]
       rfl
      exact norm_ (by first | (simp only [putAll, Act.put, List.setIfInBounds_toArray, List.set_cons_zero, List.set_cons_succ]; done) | (simp only [putAll, Act.put, List.setIfInBounds_toArray, List.set_cons_zero, List.set_cons_succ]; rfl) | (simp only [putAll, Act.put, List.setIfInBounds_toArray, List.set_cons_zero, List.set_cons_succ]; simp)) (hCont (gb143, gb144) _ ⟨hHeld, (by (with_reducible repeat (first | apply rA | apply rN | apply rD)); exact Kd.R_mono HO_7.out (fun _ hk => ⟨hk.1.2, hk.2⟩)), (by (with_reducible repeat (first | refine bN ?_ _ | refine bD ?_ | refine bA ?_ _)); exact BK143.out), (by (with_reducible repeat (first | refine bN ?_ _ | refine bD ?_ | refine bA ?_ _)); exact BK144.out), GW143.out, GE143.out, NB144_143.out, NB143_144.out, GW144.out, GE144.out, (by repeat (first | (with_reducible first | exact HB.out | apply qA | apply qN | apply qD | refine below_set ?_ GE143.out | refine below_set ?_ GE144.out) | exact HB.out))⟩)
     rintro ⟨gb143, gb144⟩ w41 ⟨hS_, h0_, h1_, h2_, h3_, h4_, h5_, h6_, h7_, h8_, h9_⟩
     have n0_ : Aside0 (Kd.R k27 27 w41 w.heap.size (fun k_ => k_ ≠ gb143 ∧ k_ ≠ gb144) (.slice (some ad141) x7_2.length co37) x7_2) := ⟨h0_⟩
     have n1_ : Aside0 (w41.heap[gb143]? = some (.cells #[.string (⟨#[]⟩ : ByteArray), .int .u64 0, .int .u32 0, .int .u8 0, .int .u8 0, .int .u32 0, .int .u64 0, .string (⟨#[]⟩ : ByteArray)] 27 (0, 0))) := ⟨h1_⟩
     have n2_ : Aside0 (w41.heap[gb144]? = some (.cells #[.string (⟨#[]⟩ : ByteArray), .int .u64 0, .int .u32 0, .int .u8 0, .int .u8 0, .int .u32 0, .int .u64 0, .string (⟨#[]⟩ : ByteArray)] 27 (0, 0))) := ⟨h2_⟩
     have n3_ : Aside0 (w.heap.size ≤ gb143) := ⟨h3_⟩
     have n4_ : Aside0 (w.heap.size ≤ gb143) := ⟨h4_⟩
     have n5_ : Aside0 (gb144 ≠ gb143) := ⟨h5_⟩
     have n6_ : Aside0 (gb143 ≠ gb144) := ⟨h6_⟩
     have n7_ : Aside0 (w.heap.size ≤ gb144) := ⟨h7_⟩
     have n8_ : Aside0 (w.heap.size ≤ gb144) := ⟨h8_⟩
     have n9_ : Aside0 (Below w.heap.size w w41) := ⟨h9_⟩
     clear HO_7
     clear HB
     clear h0_ h1_ h2_ h3_ h4_ h5_ h6_ h7_ h8_ h9_
     have HO_7 := n0_
     have BK143 := n1_
     have BK144 := n2_
     have GW143 := n3_
     have GE143 := n4_
     have NB144_143 := n5_
     have NB143_144 := n6_
     have GW144 := n7_
     have GE144 := n8_
     have HB := n9_
     clear n0_ n1_ n2_ n3_ n4_ n5_ n6_ n7_ n8_ n9_
     have hHeld : w41.cell? ad141 = some (.string ((rd_T27 x7_2 0).f0)) ∧ w41.cell? ⟨ad141.block, ad141.off + 1, none⟩ = some (.int .u64 ((rd_T27 x7_2 0).f1.f0)) ∧ w41.cell? ⟨ad141.block, ad141.off + 2, none⟩ = some (.int .u32 ((rd_T27 x7_2 0).f1.f1)) ∧ w41.cell? ⟨ad141.block, ad141.off + 3, none⟩ = some (.int .u8 ((rd_T27 x7_2 0).f1.f2)) ∧ w41.cell? ⟨ad141.block, ad141.off + 4, none⟩ = some (.int .u8 ((rd_T27 x7_2 0).f2)) ∧ w41.cell? ⟨ad141.block, ad141.off + 5, none⟩ = some (.int .u32 ((rd_T27 x7_2 0).f3)) ∧ w41.cell? ⟨ad141.block, ad141.off + 6, none⟩ = some (.int .u64 ((rd_T27 x7_2 0).f4)) ∧ w41.cell? ⟨ad141.block, ad141.off + 7, none⟩ = some (.string ((rd_T27 x7_2 0).f5)) ∧ w41.cell? (ad141.add (((ji34)).toNat * 8)) = some (.string ((rd_T27 x7_2 (ji34)).f0)) ∧ w41.cell? ⟨(ad141.add (((ji34)).toNat * 8)).block, (ad141.add (((ji34)).toNat * 8)).off + 1, none⟩ = some (.int .u64 ((rd_T27 x7_2 (ji34)).f1.f0)) ∧ w41.cell? ⟨(ad141.add (((ji34)).toNat * 8)).block, (ad141.add (((ji34)).toNat * 8)).off + 2, none⟩ = some (.int .u32 ((rd_T27 x7_2 (ji34)).f1.f1)) ∧ w41.cell? ⟨(ad141.add (((ji34)).toNat * 8)).block, (ad141.add (((ji34)).toNat * 8)).off + 3, none⟩ = some (.int .u8 ((rd_T27 x7_2 (ji34)).f1.f2)) ∧ w41.cell? ⟨(ad141.add (((ji34)).toNat * 8)).block, (ad141.add (((ji34)).toNat * 8)).off + 4, none⟩ = some (.int .u8 ((rd_T27 x7_2 (ji34)).f2)) ∧ w41.cell? ⟨(ad141.add (((ji34)).toNat * 8)).block, (ad141.add (((ji34)).toNat * 8)).off + 5, none⟩ = some (.int .u32 ((rd_T27 x7_2 (ji34)).f3)) ∧ w41.cell? ⟨(ad141.add (((ji34)).toNat * 8)).block, (ad141.add (((ji34)).toNat * 8)).off + 6, none⟩ = some (.int .u64 ((rd_T27 x7_2 (ji34)).f4)) ∧ w41.cell? ⟨(ad141.add (((ji34)).toNat * 8)).block, (ad141.add (((ji34)).toNat * 8)).off + 7, none⟩ = some (.string ((rd_T27 x7_2 (ji34)).f5)) := hS_
     refine norm_ (a' := ?_) ?_ ?_
     rotate_left
     ·
      simp only [putAll, Act.put, List.setIfInBounds_toArray, List.set_cons_zero, List.set_cons_succ]
      rfl
     refine one_ (i := 9) (N := none) #[true, true, true, true, true, true, true, true, true, true, false] rfl rfl (one_of HT_.out (by kernel_rfl)) (by decide) (fun K hK => ?_)
     have hs42 : w41.cell? ⟨gb143, 0, none⟩ = some (.string (⟨#[]⟩ : ByteArray)) := (blk_cell BK143.out 0).trans rfl
     have hfs42 := blk_frozen BK143.out 0
     have hns42_1 := NB144_143.out
     have hms42_1 := NB143_144.out
     have hs43 : w41.cell? ⟨gb143, 1, none⟩ = some (.int .u64 0) := (blk_cell BK143.out 1).trans rfl
     have hfs43 := blk_frozen BK143.out 1
     have hns43_1 := NB144_143.out
     have hms43_1 := NB143_144.out
     have hs44 : w41.cell? ⟨gb143, 2, none⟩ = some (.int .u32 0) := (blk_cell BK143.out 2).trans rfl
     have hfs44 := blk_frozen BK143.out 2
     have hns44_1 := NB144_143.out
     have hms44_1 := NB143_144.out
     have hs45 : w41.cell? ⟨gb143, 3, none⟩ = some (.int .u8 0) := (blk_cell BK143.out 3).trans rfl
     have hfs45 := blk_frozen BK143.out 3
     have hns45_1 := NB144_143.out
     have hms45_1 := NB143_144.out
     have hs46 : w41.cell? ⟨gb143, 4, none⟩ = some (.int .u8 0) := (blk_cell BK143.out 4).trans rfl
     have hfs46 := blk_frozen BK143.out 4
     have hns46_1 := NB144_143.out
     have hms46_1 := NB143_144.out
     have hs47 : w41.cell? ⟨gb143, 5, none⟩ = some (.int .u32 0) := (blk_cell BK143.out 5).trans rfl
     have hfs47 := blk_frozen BK143.out 5
     have hns47_1 := NB144_143.out
     have hms47_1 := NB143_144.out
     have hs48 : w41.cell? ⟨gb143, 6, none⟩ = some (.int .u64 0) := (blk_cell BK143.out 6).trans rfl
     have hfs48 := blk_frozen BK143.out 6
     have hns48_1 := NB144_143.out
     have hms48_1 := NB143_144.out
     have hs49 : w41.cell? ⟨gb143, 7, none⟩ = some (.string (⟨#[]⟩ : ByteArray)) := (blk_cell BK143.out 7).trans rfl
     have hfs49 := blk_frozen BK143.out 7
     have hns49_1 := NB144_143.out
     have hms49_1 := NB143_144.out
     refine skip_ (w1 := ?_) (by rfl) rfl ?_ ?_
     rotate_left
     ·
      go_simp
      rfl
     have zw0 := Kd.own_blk (Kd.R_away HO_7.out (fun _ hk => hk.1))
     refine hK.out _ _ ⟨((cell_far (p := ⟨gb143, _, none⟩) (by exact zw0) _).trans (((cell_far (p := ⟨gb143, _, none⟩) (by exact zw0) _).trans (((cell_far (p := ⟨gb143, _, none⟩) (by exact zw0) _).trans (((cell_far (p := ⟨gb143, _, none⟩) (by exact zw0) _).trans (((cell_far (p := ⟨gb143, _, none⟩) (by exact zw0) _).trans (((cell_far (p := ⟨gb143, _, none⟩) (by exact zw0) _).trans (((cell_far (p := ⟨gb143, _, none⟩) (by exact zw0) _).trans (((cell_far (p := ⟨gb143, _, none⟩) (by exact zw0) _).trans (hHeld.1)))))))))))))))), ((cell_far (p := ⟨gb143, _, none⟩) (by exact zw0) _).trans (((cell_far (p := ⟨gb143, _, none⟩) (by exact zw0) _).trans (((cell_far (p := ⟨gb143, _, none⟩) (by exact zw0) _).trans (((cell_far (p := ⟨gb143, _, none⟩) (by exact zw0) _).trans (((cell_far (p := ⟨gb143, _, none⟩) (by exact zw0) _).trans (((cell_far (p := ⟨gb143, _, none⟩) (by exact zw0) _).trans (((cell_far (p := ⟨gb143, _, none⟩) (by exact zw0) _).trans (((cell_far (p := ⟨gb143, _, none⟩) (by exact zw0) _).trans (hHeld.2.1)))))))))))))))), ((cell_far (p := ⟨gb143, _, none⟩) (by exact zw0) _).trans (((cell_far (p := ⟨gb143, _, none⟩) (by exact zw0) _).trans (((cell_far (p := ⟨gb143, _, none⟩) (by exact zw0) _).trans (((cell_far (p := ⟨gb143, _, none⟩) (by exact zw0) _).trans (((cell_far (p := ⟨gb143, _, none⟩) (by exact zw0) _).trans (((cell_far (p := ⟨gb143, _, none⟩) (by exact zw0) _).trans (((cell_far (p := ⟨gb143, _, none⟩) (by exact zw0) _).trans (((cell_far (p := ⟨gb143, _, none⟩) (by exact zw0) _).trans (hHeld.2.2.1)))))))))))))))), ((cell_far (p := ⟨gb143, _, none⟩) (by exact zw0) _).trans (((cell_far (p := ⟨gb143, _, none⟩) (by exact zw0) _).trans (((cell_far (p := ⟨gb143, _, none⟩) (by exact zw0) _).trans (((cell_far (p := ⟨gb143, _, none⟩) (by exact zw0) _).trans (((cell_far (p := ⟨gb143, _, none⟩) (by exact zw0) _).trans (((cell_far (p := ⟨gb143, _, none⟩) (by exact zw0) _).trans (((cell_far (p := ⟨gb143, _, none⟩) (by exact zw0) _).trans (((cell_far (p := ⟨gb143, _, none⟩) (by exact zw0) _).trans (hHeld.2.2.2.1)))))))))))))))), ((cell_far (p := ⟨gb143, _, none⟩) (by exact zw0) _).trans (((cell_far (p := ⟨gb143, _, none⟩) (by exact zw0) _).trans (((cell_far (p := ⟨gb143, _, none⟩) (by exact zw0) _).trans (((cell_far (p := ⟨gb143, _, none⟩) (by exact zw0) _).trans (((cell_far (p := ⟨gb143, _, none⟩) (by exact zw0) _).trans (((cell_far (p := ⟨gb143, _, none⟩) (by exact zw0) _).trans (((cell_far (p := ⟨gb143, _, none⟩) (by exact zw0) _).trans (((cell_far (p := ⟨gb143, _, none⟩) (by exact zw0) _).trans (hHeld.2.2.2.2.1)))))))))))))))), ((cell_far (p := ⟨gb143, _, none⟩) (by exact zw0) _).trans (((cell_far (p := ⟨gb143, _, none⟩) (by exact zw0) _).trans (((cell_far (p := ⟨gb143, _, none⟩) (by exact zw0) _).trans (((cell_far (p := ⟨gb143, _, none⟩) (by exact zw0) _).trans (((cell_far (p := ⟨gb143, _, none⟩) (by exact zw0) _).trans (((cell_far (p := ⟨gb143, _, none⟩) (by exact zw0) _).trans (((cell_far (p := ⟨gb143, _, none⟩) (by exact zw0) _).trans (((cell_far (p := ⟨gb143, _, none⟩) (by exact zw0) _).trans (hHeld.2.2.2.2.2.1)))))))))))))))), ((cell_far (p := ⟨gb143, _, none⟩) (by exact zw0) _).trans (((cell_far (p := ⟨gb143, _, none⟩) (by exact zw0) _).trans (((cell_far (p := ⟨gb143, _, none⟩) (by exact zw0) _).trans (((cell_far (p := ⟨gb143, _, none⟩) (by exact zw0) _).trans (((cell_far (p := ⟨gb143, _, none⟩) (by exact zw0) _).trans (((cell_far (p := ⟨gb143, _, none⟩) (by exact zw0) _).trans (((cell_far (p := ⟨gb143, _, none⟩) (by exact zw0) _).trans (((cell_far (p := ⟨gb143, _, none⟩) (by exact zw0) _).trans (hHeld.2.2.2.2.2.2.1)))))))))))))))), ((cell_far (p := ⟨gb143, _, none⟩) (by exact zw0) _).trans (((cell_far (p := ⟨gb143, _, none⟩) (by exact zw0) _).trans (((cell_far (p := ⟨gb143, _, none⟩) (by exact zw0) _).trans (((cell_far (p := ⟨gb143, _, none⟩) (by exact zw0) _).trans (((cell_far (p := ⟨gb143, _, none⟩) (by exact zw0) _).trans (((cell_far (p := ⟨gb143, _, none⟩) (by exact zw0) _).trans (((cell_far (p := ⟨gb143, _, none⟩) (by exact zw0) _).trans (((cell_far (p := ⟨gb143, _, none⟩) (by exact zw0) _).trans (hHeld.2.2.2.2.2.2.2.1)))))))))))))))), ((cell_far (p := ⟨gb143, _, none⟩) (by exact zadd zw0 _) _).trans (((cell_far (p := ⟨gb143, _, none⟩) (by exact zadd zw0 _) _).trans (((cell_far (p := ⟨gb143, _, none⟩) (by exact zadd zw0 _) _).trans (((cell_far (p := ⟨gb143, _, none⟩) (by exact zadd zw0 _) _).trans (((cell_far (p := ⟨gb143, _, none⟩) (by exact zadd zw0 _) _).trans (((cell_far (p := ⟨gb143, _, none⟩) (by exact zadd zw0 _) _).trans (((cell_far (p := ⟨gb143, _, none⟩) (by exact zadd zw0 _) _).trans (((cell_far (p := ⟨gb143, _, none⟩) (by exact zadd zw0 _) _).trans (hHeld.2.2.2.2.2.2.2.2.1)))))))))))))))), ((cell_far (p := ⟨gb143, _, none⟩) (by exact zadd zw0 _) _).trans (((cell_far (p := ⟨gb143, _, none⟩) (by exact zadd zw0 _) _).trans (((cell_far (p := ⟨gb143, _, none⟩) (by exact zadd zw0 _) _).trans (((cell_far (p := ⟨gb143, _, none⟩) (by exact zadd zw0 _) _).trans (((cell_far (p := ⟨gb143, _, none⟩) (by exact zadd zw0 _) _).trans (((cell_far (p := ⟨gb143, _, none⟩) (by exact zadd zw0 _) _).trans (((cell_far (p := ⟨gb143, _, none⟩) (by exact zadd zw0 _) _).trans (((cell_far (p := ⟨gb143, _, none⟩) (by exact zadd zw0 _) _).trans (hHeld.2.2.2.2.2.2.2.2.2.1)))))))))))))))), ((cell_far (p := ⟨gb143, _, none⟩) (by exact zadd zw0 _) _).trans (((cell_far (p := ⟨gb143, _, none⟩) (by exact zadd zw0 _) _).trans (((cell_far (p := ⟨gb143, _, none⟩) (by exact zadd zw0 _) _).trans (((cell_far (p := ⟨gb143, _, none⟩) (by exact zadd zw0 _) _).trans (((cell_far (p := ⟨gb143, _, none⟩) (by exact zadd zw0 _) _).trans (((cell_far (p := ⟨gb143, _, none⟩) (by exact zadd zw0 _) _).trans (((cell_far (p := ⟨gb143, _, none⟩) (by exact zadd zw0 _) _).trans (((cell_far (p := ⟨gb143, _, none⟩) (by exact zadd zw0 _) _).trans (hHeld.2.2.2.2.2.2.2.2.2.2.1)))))))))))))))), ((cell_far (p := ⟨gb143, _, none⟩) (by exact zadd zw0 _) _).trans (((cell_far (p := ⟨gb143, _, none⟩) (by exact zadd zw0 _) _).trans (((cell_far (p := ⟨gb143, _, none⟩) (by exact zadd zw0 _) _).trans (((cell_far (p := ⟨gb143, _, none⟩) (by exact zadd zw0 _) _).trans (((cell_far (p := ⟨gb143, _, none⟩) (by exact zadd zw0 _) _).trans (((cell_far (p := ⟨gb143, _, none⟩) (by exact zadd zw0 _) _).trans (((cell_far (p := ⟨gb143, _, none⟩) (by exact zadd zw0 _) _).trans (((cell_far (p := ⟨gb143, _, none⟩) (by exact zadd zw0 _) _).trans (hHeld.2.2.2.2.2.2.2.2.2.2.2.1)))))))))))))))), ((cell_far (p := ⟨gb143, _, none⟩) (by exact zadd zw0 _) _).trans (((cell_far (p := ⟨gb143, _, none⟩) (by exact zadd zw0 _) _).trans (((cell_far (p := ⟨gb143, _, none⟩) (by exact zadd zw0 _) _).trans (((cell_far (p := ⟨gb143, _, none⟩) (by exact zadd zw0 _) _).trans (((cell_far (p := ⟨gb143, _, none⟩) (by exact zadd zw0 _) _).trans (((cell_far (p := ⟨gb143, _, none⟩) (by exact zadd zw0 _) _).trans (((cell_far (p := ⟨gb143, _, none⟩) (by exact zadd zw0 _) _).trans (((cell_far (p := ⟨gb143, _, none⟩) (by exact zadd zw0 _) _).trans (hHeld.2.2.2.2.2.2.2.2.2.2.2.2.1)))))))))))))))), ((cell_far (p := ⟨gb143, _, none⟩) (by exact zadd zw0 _) _).trans (((cell_far (p := ⟨gb143, _, none⟩) (by exact zadd zw0 _) _).trans (((cell_far (p := ⟨gb143, _, none⟩) (by exact zadd zw0 _) _).trans (((cell_far (p := ⟨gb143, _, none⟩) (by exact zadd zw0 _) _).trans (((cell_far (p := ⟨gb143, _, none⟩) (by exact zadd zw0 _) _).trans (((cell_far (p := ⟨gb143, _, none⟩) (by exact zadd zw0 _) _).trans (((cell_far (p := ⟨gb143, _, none⟩) (by exact zadd zw0 _) _).trans (((cell_far (p := ⟨gb143, _, none⟩) (by exact zadd zw0 _) _).trans (hHeld.2.2.2.2.2.2.2.2.2.2.2.2.2.1)))))))))))))))), ((cell_far (p := ⟨gb143, _, none⟩) (by exact zadd zw0 _) _).trans (((cell_far (p := ⟨gb143, _, none⟩) (by exact zadd zw0 _) _).trans (((cell_far (p := ⟨gb143, _, none⟩) (by exact zadd zw0 _) _).trans (((cell_far (p := ⟨gb143, _, none⟩) (by exact zadd zw0 _) _).trans (((cell_far (p := ⟨gb143, _, none⟩) (by exact zadd zw0 _) _).trans (((cell_far (p := ⟨gb143, _, none⟩) (by exact zadd zw0 _) _).trans (((cell_far (p := ⟨gb143, _, none⟩) (by exact zadd zw0 _) _).trans (((cell_far (p := ⟨gb143, _, none⟩) (by exact zadd zw0 _) _).trans (hHeld.2.2.2.2.2.2.2.2.2.2.2.2.2.2.1)))))))))))))))), ((cell_far (p := ⟨gb143, _, none⟩) (by exact zadd zw0 _) _).trans (((cell_far (p := ⟨gb143, _, none⟩) (by exact zadd zw0 _) _).trans (((cell_far (p := ⟨gb143, _, none⟩) (by exact zadd zw0 _) _).trans (((cell_far (p := ⟨gb143, _, none⟩) (by exact zadd zw0 _) _).trans (((cell_far (p := ⟨gb143, _, none⟩) (by exact zadd zw0 _) _).trans (((cell_far (p := ⟨gb143, _, none⟩) (by exact zadd zw0 _) _).trans (((cell_far (p := ⟨gb143, _, none⟩) (by exact zadd zw0 _) _).trans (((cell_far (p := ⟨gb143, _, none⟩) (by exact zadd zw0 _) _).trans (hHeld.2.2.2.2.2.2.2.2.2.2.2.2.2.2.2))))))))))))))))⟩ (fun hHeld => ?_)
     clear hK K
     refine one_ (i := 10) (N := none) #[true, true, true, true, true, true, true, true, true, true, true] rfl rfl (one_of HT_.out (by kernel_rfl)) (by decide) (fun K hK => ?_)
     generalize hqs1 : World.setCell _ _ _ = wqs1
     have q1_ : wqs1.heap[gb144]? = some (.cells #[.string (⟨#[]⟩ : ByteArray), .int .u64 0, .int .u32 0, .int .u8 0, .int .u8 0, .int .u32 0, .int .u64 0, .string (⟨#[]⟩ : ByteArray)] 27 (0, 0)) := by rw [← hqs1]; repeat (first | (with_reducible exact BK144.out) | refine blk_far ?_ NB143_144.out _ | refine blk_far ?_ NB144_143.out _)
     have hs50 : wqs1.cell? ⟨gb144, 0, none⟩ = some (.string (⟨#[]⟩ : ByteArray)) := (blk_cell q1_ 0).trans rfl
     have hfs50 := blk_frozen q1_ 0
     have hns50_0 := NB143_144.out
     have hms50_0 := NB144_143.out
     have hs51 : wqs1.cell? ⟨gb144, 1, none⟩ = some (.int .u64 0) := (blk_cell q1_ 1).trans rfl
     have hfs51 := blk_frozen q1_ 1
     have hns51_0 := NB143_144.out
     have hms51_0 := NB144_143.out
     have hs52 : wqs1.cell? ⟨gb144, 2, none⟩ = some (.int .u32 0) := (blk_cell q1_ 2).trans rfl
     have hfs52 := blk_frozen q1_ 2
     have hns52_0 := NB143_144.out
     have hms52_0 := NB144_143.out
     have hs53 : wqs1.cell? ⟨gb144, 3, none⟩ = some (.int .u8 0) := (blk_cell q1_ 3).trans rfl
     have hfs53 := blk_frozen q1_ 3
     have hns53_0 := NB143_144.out
     have hms53_0 := NB144_143.out
     have hs54 : wqs1.cell? ⟨gb144, 4, none⟩ = some (.int .u8 0) := (blk_cell q1_ 4).trans rfl
     have hfs54 := blk_frozen q1_ 4
     have hns54_0 := NB143_144.out
     have hms54_0 := NB144_143.out
     have hs55 : wqs1.cell? ⟨gb144, 5, none⟩ = some (.int .u32 0) := (blk_cell q1_ 5).trans rfl
     have hfs55 := blk_frozen q1_ 5
     have hns55_0 := NB143_144.out
     have hms55_0 := NB144_143.out
     have hs56 : wqs1.cell? ⟨gb144, 6, none⟩ = some (.int .u64 0) := (blk_cell q1_ 6).trans rfl
     have hfs56 := blk_frozen q1_ 6
     have hns56_0 := NB143_144.out
     have hms56_0 := NB144_143.out
     have hs57 : wqs1.cell? ⟨gb144, 7, none⟩ = some (.string (⟨#[]⟩ : ByteArray)) := (blk_cell q1_ 7).trans rfl
     have hfs57 := blk_frozen q1_ 7
     have hns57_0 := NB143_144.out
     have hms57_0 := NB144_143.out
     refine skip_ (w1 := ?_) (by rfl) rfl ?_ ?_
     rotate_left
     ·
      go_simp
      rfl
     subst hqs1
     have zw0 := Kd.own_blk (Kd.R_away HO_7.out (fun _ hk => hk.2))
     refine hK.out _ _ ⟨((cell_far (p := ⟨gb144, _, none⟩) (by exact zw0) _).trans (((cell_far (p := ⟨gb144, _, none⟩) (by exact zw0) _).trans (((cell_far (p := ⟨gb144, _, none⟩) (by exact zw0) _).trans (((cell_far (p := ⟨gb144, _, none⟩) (by exact zw0) _).trans (((cell_far (p := ⟨gb144, _, none⟩) (by exact zw0) _).trans (((cell_far (p := ⟨gb144, _, none⟩) (by exact zw0) _).trans (((cell_far (p := ⟨gb144, _, none⟩) (by exact zw0) _).trans (((cell_far (p := ⟨gb144, _, none⟩) (by exact zw0) _).trans (hHeld.1)))))))))))))))), ((cell_far (p := ⟨gb144, _, none⟩) (by exact zw0) _).trans (((cell_far (p := ⟨gb144, _, none⟩) (by exact zw0) _).trans (((cell_far (p := ⟨gb144, _, none⟩) (by exact zw0) _).trans (((cell_far (p := ⟨gb144, _, none⟩) (by exact zw0) _).trans (((cell_far (p := ⟨gb144, _, none⟩) (by exact zw0) _).trans (((cell_far (p := ⟨gb144, _, none⟩) (by exact zw0) _).trans (((cell_far (p := ⟨gb144, _, none⟩) (by exact zw0) _).trans (((cell_far (p := ⟨gb144, _, none⟩) (by exact zw0) _).trans (hHeld.2.1)))))))))))))))), ((cell_far (p := ⟨gb144, _, none⟩) (by exact zw0) _).trans (((cell_far (p := ⟨gb144, _, none⟩) (by exact zw0) _).trans (((cell_far (p := ⟨gb144, _, none⟩) (by exact zw0) _).trans (((cell_far (p := ⟨gb144, _, none⟩) (by exact zw0) _).trans (((cell_far (p := ⟨gb144, _, none⟩) (by exact zw0) _).trans (((cell_far (p := ⟨gb144, _, none⟩) (by exact zw0) _).trans (((cell_far (p := ⟨gb144, _, none⟩) (by exact zw0) _).trans (((cell_far (p := ⟨gb144, _, none⟩) (by exact zw0) _).trans (hHeld.2.2.1)))))))))))))))), ((cell_far (p := ⟨gb144, _, none⟩) (by exact zw0) _).trans (((cell_far (p := ⟨gb144, _, none⟩) (by exact zw0) _).trans (((cell_far (p := ⟨gb144, _, none⟩) (by exact zw0) _).trans (((cell_far (p := ⟨gb144, _, none⟩) (by exact zw0) _).trans (((cell_far (p := ⟨gb144, _, none⟩) (by exact zw0) _).trans (((cell_far (p := ⟨gb144, _, none⟩) (by exact zw0) _).trans (((cell_far (p := ⟨gb144, _, none⟩) (by exact zw0) _).trans (((cell_far (p := ⟨gb144, _, none⟩) (by exact zw0) _).trans (hHeld.2.2.2.1)))))))))))))))), ((cell_far (p := ⟨gb144, _, none⟩) (by exact zw0) _).trans (((cell_far (p := ⟨gb144, _, none⟩) (by exact zw0) _).trans (((cell_far (p := ⟨gb144, _, none⟩) (by exact zw0) _).trans (((cell_far (p := ⟨gb144, _, none⟩) (by exact zw0) _).trans (((cell_far (p := ⟨gb144, _, none⟩) (by exact zw0) _).trans (((cell_far (p := ⟨gb144, _, none⟩) (by exact zw0) _).trans (((cell_far (p := ⟨gb144, _, none⟩) (by exact zw0) _).trans (((cell_far (p := ⟨gb144, _, none⟩) (by exact zw0) _).trans (hHeld.2.2.2.2.1)))))))))))))))), ((cell_far (p := ⟨gb144, _, none⟩) (by exact zw0) _).trans (((cell_far (p := ⟨gb144, _, none⟩) (by exact zw0) _).trans (((cell_far (p := ⟨gb144, _, none⟩) (by exact zw0) _).trans (((cell_far (p := ⟨gb144, _, none⟩) (by exact zw0) _).trans (((cell_far (p := ⟨gb144, _, none⟩) (by exact zw0) _).trans (((cell_far (p := ⟨gb144, _, none⟩) (by exact zw0) _).trans (((cell_far (p := ⟨gb144, _, none⟩) (by exact zw0) _).trans (((cell_far (p := ⟨gb144, _, none⟩) (by exact zw0) _).trans (hHeld.2.2.2.2.2.1)))))))))))))))), ((cell_far (p := ⟨gb144, _, none⟩) (by exact zw0) _).trans (((cell_far (p := ⟨gb144, _, none⟩) (by exact zw0) _).trans (((cell_far (p := ⟨gb144, _, none⟩) (by exact zw0) _).trans (((cell_far (p := ⟨gb144, _, none⟩) (by exact zw0) _).trans (((cell_far (p := ⟨gb144, _, none⟩) (by exact zw0) _).trans (((cell_far (p := ⟨gb144, _, none⟩) (by exact zw0) _).trans (((cell_far (p := ⟨gb144, _, none⟩) (by exact zw0) _).trans (((cell_far (p := ⟨gb144, _, none⟩) (by exact zw0) _).trans (hHeld.2.2.2.2.2.2.1)))))))))))))))), ((cell_far (p := ⟨gb144, _, none⟩) (by exact zw0) _).trans (((cell_far (p := ⟨gb144, _, none⟩) (by exact zw0) _).trans (((cell_far (p := ⟨gb144, _, none⟩) (by exact zw0) _).trans (((cell_far (p := ⟨gb144, _, none⟩) (by exact zw0) _).trans (((cell_far (p := ⟨gb144, _, none⟩) (by exact zw0) _).trans (((cell_far (p := ⟨gb144, _, none⟩) (by exact zw0) _).trans (((cell_far (p := ⟨gb144, _, none⟩) (by exact zw0) _).trans (((cell_far (p := ⟨gb144, _, none⟩) (by exact zw0) _).trans (hHeld.2.2.2.2.2.2.2.1)))))))))))))))), ((cell_far (p := ⟨gb144, _, none⟩) (by exact zadd zw0 _) _).trans (((cell_far (p := ⟨gb144, _, none⟩) (by exact zadd zw0 _) _).trans (((cell_far (p := ⟨gb144, _, none⟩) (by exact zadd zw0 _) _).trans (((cell_far (p := ⟨gb144, _, none⟩) (by exact zadd zw0 _) _).trans (((cell_far (p := ⟨gb144, _, none⟩) (by exact zadd zw0 _) _).trans (((cell_far (p := ⟨gb144, _, none⟩) (by exact zadd zw0 _) _).trans (((cell_far (p := ⟨gb144, _, none⟩) (by exact zadd zw0 _) _).trans (((cell_far (p := ⟨gb144, _, none⟩) (by exact zadd zw0 _) _).trans (hHeld.2.2.2.2.2.2.2.2.1)))))))))))))))), ((cell_far (p := ⟨gb144, _, none⟩) (by exact zadd zw0 _) _).trans (((cell_far (p := ⟨gb144, _, none⟩) (by exact zadd zw0 _) _).trans (((cell_far (p := ⟨gb144, _, none⟩) (by exact zadd zw0 _) _).trans (((cell_far (p := ⟨gb144, _, none⟩) (by exact zadd zw0 _) _).trans (((cell_far (p := ⟨gb144, _, none⟩) (by exact zadd zw0 _) _).trans (((cell_far (p := ⟨gb144, _, none⟩) (by exact zadd zw0 _) _).trans (((cell_far (p := ⟨gb144, _, none⟩) (by exact zadd zw0 _) _).trans (((cell_far (p := ⟨gb144, _, none⟩) (by exact zadd zw0 _) _).trans (hHeld.2.2.2.2.2.2.2.2.2.1)))))))))))))))), ((cell_far (p := ⟨gb144, _, none⟩) (by exact zadd zw0 _) _).trans (((cell_far (p := ⟨gb144, _, none⟩) (by exact zadd zw0 _) _).trans (((cell_far (p := ⟨gb144, _, none⟩) (by exact zadd zw0 _) _).trans (((cell_far (p := ⟨gb144, _, none⟩) (by exact zadd zw0 _) _).trans (((cell_far (p := ⟨gb144, _, none⟩) (by exact zadd zw0 _) _).trans (((cell_far (p := ⟨gb144, _, none⟩) (by exact zadd zw0 _) _).trans (((cell_far (p := ⟨gb144, _, none⟩) (by exact zadd zw0 _) _).trans (((cell_far (p := ⟨gb144, _, none⟩) (by exact zadd zw0 _) _).trans (hHeld.2.2.2.2.2.2.2.2.2.2.1)))))))))))))))), ((cell_far (p := ⟨gb144, _, none⟩) (by exact zadd zw0 _) _).trans (((cell_far (p := ⟨gb144, _, none⟩) (by exact zadd zw0 _) _).trans (((cell_far (p := ⟨gb144, _, none⟩) (by exact zadd zw0 _) _).trans (((cell_far (p := ⟨gb144, _, none⟩) (by exact zadd zw0 _) _).trans (((cell_far (p := ⟨gb144, _, none⟩) (by exact zadd zw0 _) _).trans (((cell_far (p := ⟨gb144, _, none⟩) (by exact zadd zw0 _) _).trans (((cell_far (p := ⟨gb144, _, none⟩) (by exact zadd zw0 _) _).trans (((cell_far (p := ⟨gb144, _, none⟩) (by exact zadd zw0 _) _).trans (hHeld.2.2.2.2.2.2.2.2.2.2.2.1)))))))))))))))), ((cell_far (p := ⟨gb144, _, none⟩) (by exact zadd zw0 _) _).trans (((cell_far (p := ⟨gb144, _, none⟩) (by exact zadd zw0 _) _).trans (((cell_far (p := ⟨gb144, _, none⟩) (by exact zadd zw0 _) _).trans (((cell_far (p := ⟨gb144, _, none⟩) (by exact zadd zw0 _) _).trans (((cell_far (p := ⟨gb144, _, none⟩) (by exact zadd zw0 _) _).trans (((cell_far (p := ⟨gb144, _, none⟩) (by exact zadd zw0 _) _).trans (((cell_far (p := ⟨gb144, _, none⟩) (by exact zadd zw0 _) _).trans (((cell_far (p := ⟨gb144, _, none⟩) (by exact zadd zw0 _) _).trans (hHeld.2.2.2.2.2.2.2.2.2.2.2.2.1)))))))))))))))), ((cell_far (p := ⟨gb144, _, none⟩) (by exact zadd zw0 _) _).trans (((cell_far (p := ⟨gb144, _, none⟩) (by exact zadd zw0 _) _).trans (((cell_far (p := ⟨gb144, _, none⟩) (by exact zadd zw0 _) _).trans (((cell_far (p := ⟨gb144, _, none⟩) (by exact zadd zw0 _) _).trans (((cell_far (p := ⟨gb144, _, none⟩) (by exact zadd zw0 _) _).trans (((cell_far (p := ⟨gb144, _, none⟩) (by exact zadd zw0 _) _).trans (((cell_far (p := ⟨gb144, _, none⟩) (by exact zadd zw0 _) _).trans (((cell_far (p := ⟨gb144, _, none⟩) (by exact zadd zw0 _) _).trans (hHeld.2.2.2.2.2.2.2.2.2.2.2.2.2.1)))))))))))))))), ((cell_far (p := ⟨gb144, _, none⟩) (by exact zadd zw0 _) _).trans (((cell_far (p := ⟨gb144, _, none⟩) (by exact zadd zw0 _) _).trans (((cell_far (p := ⟨gb144, _, none⟩) (by exact zadd zw0 _) _).trans (((cell_far (p := ⟨gb144, _, none⟩) (by exact zadd zw0 _) _).trans (((cell_far (p := ⟨gb144, _, none⟩) (by exact zadd zw0 _) _).trans (((cell_far (p := ⟨gb144, _, none⟩) (by exact zadd zw0 _) _).trans (((cell_far (p := ⟨gb144, _, none⟩) (by exact zadd zw0 _) _).trans (((cell_far (p := ⟨gb144, _, none⟩) (by exact zadd zw0 _) _).trans (hHeld.2.2.2.2.2.2.2.2.2.2.2.2.2.2.1)))))))))))))))), ((cell_far (p := ⟨gb144, _, none⟩) (by exact zadd zw0 _) _).trans (((cell_far (p := ⟨gb144, _, none⟩) (by exact zadd zw0 _) _).trans (((cell_far (p := ⟨gb144, _, none⟩) (by exact zadd zw0 _) _).trans (((cell_far (p := ⟨gb144, _, none⟩) (by exact zadd zw0 _) _).trans (((cell_far (p := ⟨gb144, _, none⟩) (by exact zadd zw0 _) _).trans (((cell_far (p := ⟨gb144, _, none⟩) (by exact zadd zw0 _) _).trans (((cell_far (p := ⟨gb144, _, none⟩) (by exact zadd zw0 _) _).trans (((cell_far (p := ⟨gb144, _, none⟩) (by exact zadd zw0 _) _).trans (hHeld.2.2.2.2.2.2.2.2.2.2.2.2.2.2.2))))))))))))))))⟩ (fun hHeld => ?_)
     clear hK K
     refine done_ (done_of HT_.out (by kernel_rfl)) ?_
     try go_wp2
     go_loopg [61] k2 (fun kq v61 w' => ∃ (x61_3 : Int) (x144000_3 : ByteArray) (x144001_3 : Int) (x144002_3 : Int) (x144003_3 : Int) (x144004_3 : Int) (x144005_3 : Int) (x144006_3 : Int) (x144007_3 : ByteArray) (x145000_3 : ByteArray) (x145001_3 : Int) (x145002_3 : Int) (x145003_3 : Int) (x145004_3 : Int) (x145005_3 : Int) (x145006_3 : Int) (x145007_3 : ByteArray), v61 = .int .i64 x61_3 ∧ Aside0 (tattlerlaw06_RecJoins.l1 kq x7_2 ji34 (x7_2.length : Int) x61_3 x144000_3 x144001_3 x144002_3 x144003_3 x144004_3 x144005_3 x144006_3 x144007_3 x145000_3 x145001_3 x145002_3 x145003_3 x145004_3 x145005_3 x145006_3 x145007_3 = some r) ∧ Aside0 (kq ≤ k2) ∧ Aside0 (Kd.R k27 27 w' w.heap.size (fun k_ => k_ ≠ gb143 ∧ k_ ≠ gb144) (.slice (some ad141) x7_2.length co37) x7_2) ∧ Aside0 (w'.heap[gb143]? = some (.cells #[.string x144000_3, .int .u64 x144001_3, .int .u32 x144002_3, .int .u8 x144003_3, .int .u8 x144004_3, .int .u32 x144005_3, .int .u64 x144006_3, .string x144007_3] 27 (0, 0))) ∧ Aside0 (w'.heap[gb144]? = some (.cells #[.string x145000_3, .int .u64 x145001_3, .int .u32 x145002_3, .int .u8 x145003_3, .int .u8 x145004_3, .int .u32 x145005_3, .int .u64 x145006_3, .string x145007_3] 27 (0, 0))) ∧ Aside0 (Below w.heap.size w w'))
     case atStart => exact ⟨(0), ((rd_T27 x7_2 0).f0), ((rd_T27 x7_2 0).f1.f0), ((rd_T27 x7_2 0).f1.f1), ((rd_T27 x7_2 0).f1.f2), ((rd_T27 x7_2 0).f2), ((rd_T27 x7_2 0).f3), ((rd_T27 x7_2 0).f4), ((rd_T27 x7_2 0).f5), ((rd_T27 x7_2 (ji34)).f0), ((rd_T27 x7_2 (ji34)).f1.f0), ((rd_T27 x7_2 (ji34)).f1.f1), ((rd_T27 x7_2 (ji34)).f1.f2), ((rd_T27 x7_2 (ji34)).f2), ((rd_T27 x7_2 (ji34)).f3), ((rd_T27 x7_2 (ji34)).f4), ((rd_T27 x7_2 (ji34)).f5), (by first | rfl | (simp; done) | (simp [*]; done)), H', ⟨Nat.le_refl _⟩, ⟨by (with_reducible repeat (first | apply rA | apply rN | apply rD)); exact Kd.R_mono (Kd.R_far (p := ⟨gb144, 7, none⟩) (Kd.R_far (p := ⟨gb144, 6, none⟩) (Kd.R_far (p := ⟨gb144, 5, none⟩) (Kd.R_far (p := ⟨gb144, 4, none⟩) (Kd.R_far (p := ⟨gb144, 3, none⟩) (Kd.R_far (p := ⟨gb144, 2, none⟩) (Kd.R_far (p := ⟨gb144, 1, none⟩) (Kd.R_far (p := ⟨gb144, 0, none⟩) (Kd.R_far (p := ⟨gb143, 7, none⟩) (Kd.R_far (p := ⟨gb143, 6, none⟩) (Kd.R_far (p := ⟨gb143, 5, none⟩) (Kd.R_far (p := ⟨gb143, 4, none⟩) (Kd.R_far (p := ⟨gb143, 3, none⟩) (Kd.R_far (p := ⟨gb143, 2, none⟩) (Kd.R_far (p := ⟨gb143, 1, none⟩) (Kd.R_far (p := ⟨gb143, 0, none⟩) (Kd.R_mono (Kd.R_mono HO_7.out (fun k_ hk => (⟨hk, hk.1⟩ : _ ∧ k_ ≠ gb143))) (fun k_ hk => (⟨hk, hk.1.2⟩ : _ ∧ k_ ≠ gb144))) (fun _ hk => hk.1.2) (.string ((rd_T27 x7_2 0).f0))) (fun _ hk => hk.1.2) (.int .u64 ((rd_T27 x7_2 0).f1.f0))) (fun _ hk => hk.1.2) (.int .u32 ((rd_T27 x7_2 0).f1.f1))) (fun _ hk => hk.1.2) (.int .u8 ((rd_T27 x7_2 0).f1.f2))) (fun _ hk => hk.1.2) (.int .u8 ((rd_T27 x7_2 0).f2))) (fun _ hk => hk.1.2) (.int .u32 ((rd_T27 x7_2 0).f3))) (fun _ hk => hk.1.2) (.int .u64 ((rd_T27 x7_2 0).f4))) (fun _ hk => hk.1.2) (.string ((rd_T27 x7_2 0).f5))) (fun _ hk => hk.2) (.string ((rd_T27 x7_2 (ji34)).f0))) (fun _ hk => hk.2) (.int .u64 ((rd_T27 x7_2 (ji34)).f1.f0))) (fun _ hk => hk.2) (.int .u32 ((rd_T27 x7_2 (ji34)).f1.f1))) (fun _ hk => hk.2) (.int .u8 ((rd_T27 x7_2 (ji34)).f1.f2))) (fun _ hk => hk.2) (.int .u8 ((rd_T27 x7_2 (ji34)).f2))) (fun _ hk => hk.2) (.int .u32 ((rd_T27 x7_2 (ji34)).f3))) (fun _ hk => hk.2) (.int .u64 ((rd_T27 x7_2 (ji34)).f4))) (fun _ hk => hk.2) (.string ((rd_T27 x7_2 (ji34)).f5))) (fun _ hk => ⟨hk.1.1.1, hk.1.1.2⟩)⟩, ⟨by (with_reducible repeat (first | refine bN ?_ _ | refine bD ?_ | refine bA ?_ _)); refine blk_far ?_ NB143_144.out _; (with_reducible repeat (first | refine bN ?_ _ | refine bD ?_ | refine bA ?_ _)); refine blk_far ?_ NB143_144.out _; (with_reducible repeat (first | refine bN ?_ _ | refine bD ?_ | refine bA ?_ _)); refine blk_far ?_ NB143_144.out _; (with_reducible repeat (first | refine bN ?_ _ | refine bD ?_ | refine bA ?_ _)); refine blk_far ?_ NB143_144.out _; (with_reducible repeat (first | refine bN ?_ _ | refine bD ?_ | refine bA ?_ _)); refine blk_far ?_ NB143_144.out _; (with_reducible repeat (first | refine bN ?_ _ | refine bD ?_ | refine bA ?_ _)); refine blk_far ?_ NB143_144.out _; (with_reducible repeat (first | refine bN ?_ _ | refine bD ?_ | refine bA ?_ _)); refine blk_far ?_ NB143_144.out _; (with_reducible repeat (first | refine bN ?_ _ | refine bD ?_ | refine bA ?_ _)); refine blk_far ?_ NB143_144.out _; (with_reducible repeat (first | refine bN ?_ _ | refine bD ?_ | refine bA ?_ _)); refine blk_put (cs := #[.string ((rd_T27 x7_2 0).f0), .int .u64 ((rd_T27 x7_2 0).f1.f0), .int .u32 ((rd_T27 x7_2 0).f1.f1), .int .u8 ((rd_T27 x7_2 0).f1.f2), .int .u8 ((rd_T27 x7_2 0).f2), .int .u32 ((rd_T27 x7_2 0).f3), .int .u64 ((rd_T27 x7_2 0).f4), .string (⟨#[]⟩ : ByteArray)]) ?_ 7 _ rfl; (with_reducible repeat (first | refine bN ?_ _ | refine bD ?_ | refine bA ?_ _)); refine blk_put (cs := #[.string ((rd_T27 x7_2 0).f0), .int .u64 ((rd_T27 x7_2 0).f1.f0), .int .u32 ((rd_T27 x7_2 0).f1.f1), .int .u8 ((rd_T27 x7_2 0).f1.f2), .int .u8 ((rd_T27 x7_2 0).f2), .int .u32 ((rd_T27 x7_2 0).f3), .int .u64 0, .string (⟨#[]⟩ : ByteArray)]) ?_ 6 _ rfl; (with_reducible repeat (first | refine bN ?_ _ | refine bD ?_ | refine bA ?_ _)); refine blk_put (cs := #[.string ((rd_T27 x7_2 0).f0), .int .u64 ((rd_T27 x7_2 0).f1.f0), .int .u32 ((rd_T27 x7_2 0).f1.f1), .int .u8 ((rd_T27 x7_2 0).f1.f2), .int .u8 ((rd_T27 x7_2 0).f2), .int .u32 0, .int .u64 0, .string (⟨#[]⟩ : ByteArray)]) ?_ 5 _ rfl; (with_reducible repeat (first | refine bN ?_ _ | refine bD ?_ | refine bA ?_ _)); refine blk_put (cs := #[.string ((rd_T27 x7_2 0).f0), .int .u64 ((rd_T27 x7_2 0).f1.f0), .int .u32 ((rd_T27 x7_2 0).f1.f1), .int .u8 ((rd_T27 x7_2 0).f1.f2), .int .u8 0, .int .u32 0, .int .u64 0, .string (⟨#[]⟩ : ByteArray)]) ?_ 4 _ rfl; (with_reducible repeat (first | refine bN ?_ _ | refine bD ?_ | refine bA ?_ _)); refine blk_put (cs := #[.string ((rd_T27 x7_2 0).f0), .int .u64 ((rd_T27 x7_2 0).f1.f0), .int .u32 ((rd_T27 x7_2 0).f1.f1), .int .u8 0, .int .u8 0, .int .u32 0, .int .u64 0, .string (⟨#[]⟩ : ByteArray)]) ?_ 3 _ rfl; (with_reducible repeat (first | refine bN ?_ _ | refine bD ?_ | refine bA ?_ _)); refine blk_put (cs := #[.string ((rd_T27 x7_2 0).f0), .int .u64 ((rd_T27 x7_2 0).f1.f0), .int .u32 0, .int .u8 0, .int .u8 0, .int .u32 0, .int .u64 0, .string (⟨#[]⟩ : ByteArray)]) ?_ 2 _ rfl; (with_reducible repeat (first | refine bN ?_ _ | refine bD ?_ | refine bA ?_ _)); refine blk_put (cs := #[.string ((rd_T27 x7_2 0).f0), .int .u64 0, .int .u32 0, .int .u8 0, .int .u8 0, .int .u32 0, .int .u64 0, .string (⟨#[]⟩ : ByteArray)]) ?_ 1 _ rfl; (with_reducible repeat (first | refine bN ?_ _ | refine bD ?_ | refine bA ?_ _)); refine blk_put (cs := #[.string (⟨#[]⟩ : ByteArray), .int .u64 0, .int .u32 0, .int .u8 0, .int .u8 0, .int .u32 0, .int .u64 0, .string (⟨#[]⟩ : ByteArray)]) ?_ 0 _ rfl; (with_reducible repeat (first | refine bN ?_ _ | refine bD ?_ | refine bA ?_ _)); exact BK143.out⟩, ⟨by (with_reducible repeat (first | refine bN ?_ _ | refine bD ?_ | refine bA ?_ _)); refine blk_put (cs := #[.string ((rd_T27 x7_2 (ji34)).f0), .int .u64 ((rd_T27 x7_2 (ji34)).f1.f0), .int .u32 ((rd_T27 x7_2 (ji34)).f1.f1), .int .u8 ((rd_T27 x7_2 (ji34)).f1.f2), .int .u8 ((rd_T27 x7_2 (ji34)).f2), .int .u32 ((rd_T27 x7_2 (ji34)).f3), .int .u64 ((rd_T27 x7_2 (ji34)).f4), .string (⟨#[]⟩ : ByteArray)]) ?_ 7 _ rfl; (with_reducible repeat (first | refine bN ?_ _ | refine bD ?_ | refine bA ?_ _)); refine blk_put (cs := #[.string ((rd_T27 x7_2 (ji34)).f0), .int .u64 ((rd_T27 x7_2 (ji34)).f1.f0), .int .u32 ((rd_T27 x7_2 (ji34)).f1.f1), .int .u8 ((rd_T27 x7_2 (ji34)).f1.f2), .int .u8 ((rd_T27 x7_2 (ji34)).f2), .int .u32 ((rd_T27 x7_2 (ji34)).f3), .int .u64 0, .string (⟨#[]⟩ : ByteArray)]) ?_ 6 _ rfl; (with_reducible repeat (first | refine bN ?_ _ | refine bD ?_ | refine bA ?_ _)); refine blk_put (cs := #[.string ((rd_T27 x7_2 (ji34)).f0), .int .u64 ((rd_T27 x7_2 (ji34)).f1.f0), .int .u32 ((rd_T27 x7_2 (ji34)).f1.f1), .int .u8 ((rd_T27 x7_2 (ji34)).f1.f2), .int .u8 ((rd_T27 x7_2 (ji34)).f2), .int .u32 0, .int .u64 0, .string (⟨#[]⟩ : ByteArray)]) ?_ 5 _ rfl; (with_reducible repeat (first | refine bN ?_ _ | refine bD ?_ | refine bA ?_ _)); refine blk_put (cs := #[.string ((rd_T27 x7_2 (ji34)).f0), .int .u64 ((rd_T27 x7_2 (ji34)).f1.f0), .int .u32 ((rd_T27 x7_2 (ji34)).f1.f1), .int .u8 ((rd_T27 x7_2 (ji34)).f1.f2), .int .u8 0, .int .u32 0, .int .u64 0, .string (⟨#[]⟩ : ByteArray)]) ?_ 4 _ rfl; (with_reducible repeat (first | refine bN ?_ _ | refine bD ?_ | refine bA ?_ _)); refine blk_put (cs := #[.string ((rd_T27 x7_2 (ji34)).f0), .int .u64 ((rd_T27 x7_2 (ji34)).f1.f0), .int .u32 ((rd_T27 x7_2 (ji34)).f1.f1), .int .u8 0, .int .u8 0, .int .u32 0, .int .u64 0, .string (⟨#[]⟩ : ByteArray)]) ?_ 3 _ rfl; (with_reducible repeat (first | refine bN ?_ _ | refine bD ?_ | refine bA ?_ _)); refine blk_put (cs := #[.string ((rd_T27 x7_2 (ji34)).f0), .int .u64 ((rd_T27 x7_2 (ji34)).f1.f0), .int .u32 0, .int .u8 0, .int .u8 0, .int .u32 0, .int .u64 0, .string (⟨#[]⟩ : ByteArray)]) ?_ 2 _ rfl; (with_reducible repeat (first | refine bN ?_ _ | refine bD ?_ | refine bA ?_ _)); refine blk_put (cs := #[.string ((rd_T27 x7_2 (ji34)).f0), .int .u64 0, .int .u32 0, .int .u8 0, .int .u8 0, .int .u32 0, .int .u64 0, .string (⟨#[]⟩ : ByteArray)]) ?_ 1 _ rfl; (with_reducible repeat (first | refine bN ?_ _ | refine bD ?_ | refine bA ?_ _)); refine blk_put (cs := #[.string (⟨#[]⟩ : ByteArray), .int .u64 0, .int .u32 0, .int .u8 0, .int .u8 0, .int .u32 0, .int .u64 0, .string (⟨#[]⟩ : ByteArray)]) ?_ 0 _ rfl; (with_reducible repeat (first | refine bN ?_ _ | refine bD ?_ | refine bA ?_ _)); refine blk_far ?_ NB144_143.out _; (with_reducible repeat (first | refine bN ?_ _ | refine bD ?_ | refine bA ?_ _)); refine blk_far ?_ NB144_143.out _; (with_reducible repeat (first | refine bN ?_ _ | refine bD ?_ | refine bA ?_ _)); refine blk_far ?_ NB144_143.out _; (with_reducible repeat (first | refine bN ?_ _ | refine bD ?_ | refine bA ?_ _)); refine blk_far ?_ NB144_143.out _; (with_reducible repeat (first | refine bN ?_ _ | refine bD ?_ | refine bA ?_ _)); refine blk_far ?_ NB144_143.out _; (with_reducible repeat (first | refine bN ?_ _ | refine bD ?_ | refine bA ?_ _)); refine blk_far ?_ NB144_143.out _; (with_reducible repeat (first | refine bN ?_ _ | refine bD ?_ | refine bA ?_ _)); refine blk_far ?_ NB144_143.out _; (with_reducible repeat (first | refine bN ?_ _ | refine bD ?_ | refine bA ?_ _)); refine blk_far ?_ NB144_143.out _; (with_reducible repeat (first | refine bN ?_ _ | refine bD ?_ | refine bA ?_ _)); exact BK144.out⟩, ⟨by repeat (first | (with_reducible first | exact HB.out | apply qA | apply qN | apply qD | refine below_set ?_ GE143.out | refine below_set ?_ GE144.out) | exact HB.out)⟩⟩
     case round =>
      clear H'
      try clear c1
      try clear p1
      try clear q1
      try clear hx1
      try clear qi1
      try clear c2
      try clear p2
      try clear c3
      try clear c5
      try clear c5b0
      try clear c5b1
      try clear c6
      try clear c6b0
      try clear c6b1
      try clear p6
      try clear c7
      try clear c8
      try clear c10
      try clear c10b0
      try clear c11
      try clear c11b0
      try clear c12
      try clear c12b0
      try clear p13
      try clear q13
      try clear hx13
      try clear c14
      try clear p14
      try clear q14
      try clear hx14
      try clear qi14
      try clear c23
      try clear c32
      try clear c32b0
      try clear c32b1
      try clear c32b2
      try clear c33
      try clear c33b0
      try clear c33b1
      try clear c35
      try clear c35b0
      try clear c36
      try clear c36b0
      try clear hcz17_0
      try clear hcz17_1
      try clear hcz17_2
      try clear hcz17_3
      try clear hcz17_4
      try clear hcz17_5
      try clear hcz17_6
      try clear hcz17_7
      try clear hcz25_0
      try clear hcz25_1
      try clear hcz25_2
      try clear hcz25_3
      try clear hcz25_4
      try clear hcz25_5
      try clear hcz25_6
      try clear hcz25_7
      try clear hcz30_0
      try clear hcz30_1
      try clear hcz30_2
      try clear hcz30_3
      try clear hcz30_4
      try clear hcz30_5
      try clear hcz30_6
      try clear hcz30_7
      try clear hfz17_0
      try clear hfz17_1
      try clear hfz17_2
      try clear hfz17_3
      try clear hfz17_4
      try clear hfz17_5
      try clear hfz17_6
      try clear hfz17_7
      try clear hfz25_0
      try clear hfz25_1
      try clear hfz25_2
      try clear hfz25_3
      try clear hfz25_4
      try clear hfz25_5
      try clear hfz25_6
      try clear hfz25_7
      try clear hfz30_0
      try clear hfz30_1
      try clear hfz30_2
      try clear hfz30_3
      try clear hfz30_4
      try clear hfz30_5
      try clear hfz30_6
      try clear hfz30_7
      try clear hx131_0
      try clear hx131_1
      try clear hx131_2
      try clear hx131_3
      try clear hx131_4
      try clear hx131_5
      try clear hx131_6
      try clear hx131_7
      try clear hx141_0
      try clear hx141_1
      try clear hx141_2
      try clear hx141_3
      try clear hx141_4
      try clear hx141_5
      try clear hx141_6
      try clear hx141_7
      try clear hx142_0
      try clear hx142_1
      try clear hx142_2
      try clear hx142_3
      try clear hx142_4
      try clear hx142_5
      try clear hx142_6
      try clear hx142_7
      try clear p131
      try clear p141
      try clear p142
      try clear p2
      try clear q131
      try clear q141
      try clear q142
      obtain ⟨x61_3, x144000_3, x144001_3, x144002_3, x144003_3, x144004_3, x144005_3, x144006_3, x144007_3, x145000_3, x145001_3, x145002_3, x145003_3, x145004_3, x145005_3, x145006_3, x145007_3, rfl, HA, HK3, HO_7, BK143, BK144, HB⟩ := hrel
      cases gk with
      | zero => exact absurd HA.out (by simp [tattlerlaw06_RecJoins.l1])
      | succ k3 =>
       have H := HA.out
       clear HA
       simp only [tattlerlaw06_RecJoins.l1] at H
       by_cases c58 : x61_3 < (x7_2.length : Int)
       ·
        rw [if_pos c58] at H
        have c58b0 : decide (x61_3 < (x7_2.length : Int)) = true := decide_eq_true c58
        clear c58
        by_cases c59 : 0 ≤ x61_3
        rotate_left
        ·
         rw [if_neg c59] at H
         exact absurd H (by simp)
        rw [if_pos c59] at H
        have c59b0 : decide (0 ≤ x61_3) = true := decide_eq_true c59
        clear c59
        by_cases c60 : x61_3 < (x7_2.length : Int)
        rotate_left
        ·
         rw [if_neg c60] at H
         exact absurd H (by simp)
        rw [if_pos c60] at H
        have c60b0 : decide (x61_3 < (x7_2.length : Int)) = true := decide_eq_true c60
        clear c60
        replace H := Option.bind_eq_some_iff.mp H
        obtain ⟨⟨t146, t147, t148, t149, t150, t151, t152, t153⟩, A610, H⟩ := H
        replace H : (if (x7_2.length : Int) = 0 then (none) else (if 0 ≤ (Int.tmod (wrap64 ((wrap64 (ji34 + (x7_2.length : Int))) - x61_3)) (x7_2.length : Int)) then (if (Int.tmod (wrap64 ((wrap64 (ji34 + (x7_2.length : Int))) - x61_3)) (x7_2.length : Int)) < (x7_2.length : Int) then ((rec_Join.f ((rd_T27 x7_2 (Int.tmod (wrap64 ((wrap64 (ji34 + (x7_2.length : Int))) - x61_3)) (x7_2.length : Int))).f0) ((rd_T27 x7_2 (Int.tmod (wrap64 ((wrap64 (ji34 + (x7_2.length : Int))) - x61_3)) (x7_2.length : Int))).f1.f0) ((rd_T27 x7_2 (Int.tmod (wrap64 ((wrap64 (ji34 + (x7_2.length : Int))) - x61_3)) (x7_2.length : Int))).f1.f1) ((rd_T27 x7_2 (Int.tmod (wrap64 ((wrap64 (ji34 + (x7_2.length : Int))) - x61_3)) (x7_2.length : Int))).f1.f2) ((rd_T27 x7_2 (Int.tmod (wrap64 ((wrap64 (ji34 + (x7_2.length : Int))) - x61_3)) (x7_2.length : Int))).f2) ((rd_T27 x7_2 (Int.tmod (wrap64 ((wrap64 (ji34 + (x7_2.length : Int))) - x61_3)) (x7_2.length : Int))).f3) ((rd_T27 x7_2 (Int.tmod (wrap64 ((wrap64 (ji34 + (x7_2.length : Int))) - x61_3)) (x7_2.length : Int))).f4) ((rd_T27 x7_2 (Int.tmod (wrap64 ((wrap64 (ji34 + (x7_2.length : Int))) - x61_3)) (x7_2.length : Int))).f5) x145000_3 x145001_3 x145002_3 x145003_3 x145004_3 x145005_3 x145006_3 x145007_3).bind fun bt155 => (tattlerlaw06_RecJoins.l1 k3 x7_2 ji34 (x7_2.length : Int) (wrap64 (x61_3 + 1)) t146 t147 t148 t149 t150 t151 t152 t153 bt155.1 bt155.2.1 bt155.2.2.1 bt155.2.2.2.1 bt155.2.2.2.2.1 bt155.2.2.2.2.2.1 bt155.2.2.2.2.2.2.1 bt155.2.2.2.2.2.2.2)) else (none)) else (none))) = some r := H
        have A61 := Aside0.mk A610
        clear A610
        by_cases c62 : (x7_2.length : Int) = 0
        ·
         rw [if_pos c62] at H
         exact absurd H (by simp)
        rw [if_neg c62] at H
        have c62b0 : ((x7_2.length : Int) == 0) = false := beq_eq_false_iff_ne.mpr c62
        have c62b1 : ((x7_2.length : Int) != 0) = true := bne_iff_ne.mpr c62
        have c62b2 : ¬ (x7_2 = []) := fun h_ => c62 (by rw [h_]; rfl)
        obtain ⟨ji63, hji63⟩ : ∃ j_ : Int, (Int.tmod (wrap64 ((wrap64 (ji34 + (x7_2.length : Int))) - x61_3)) (x7_2.length : Int)) = j_ := ⟨_, rfl⟩
        replace H : (if 0 ≤ (ji63) then (if (ji63) < (x7_2.length : Int) then ((rec_Join.f ((rd_T27 x7_2 (ji63)).f0) ((rd_T27 x7_2 (ji63)).f1.f0) ((rd_T27 x7_2 (ji63)).f1.f1) ((rd_T27 x7_2 (ji63)).f1.f2) ((rd_T27 x7_2 (ji63)).f2) ((rd_T27 x7_2 (ji63)).f3) ((rd_T27 x7_2 (ji63)).f4) ((rd_T27 x7_2 (ji63)).f5) x145000_3 x145001_3 x145002_3 x145003_3 x145004_3 x145005_3 x145006_3 x145007_3).bind fun bt155 => (tattlerlaw06_RecJoins.l1 k3 x7_2 ji34 (x7_2.length : Int) (wrap64 (x61_3 + 1)) t146 t147 t148 t149 t150 t151 t152 t153 bt155.1 bt155.2.1 bt155.2.2.1 bt155.2.2.2.1 bt155.2.2.2.2.1 bt155.2.2.2.2.2.1 bt155.2.2.2.2.2.2.1 bt155.2.2.2.2.2.2.2)) else (none)) else (none)) = some r := by first | (rw [hji63] at H; exact H) | (simp only [hji63] at H ⊢; exact H)
        (try rw [hji63] at A61)
        by_cases c64 : 0 ≤ (ji63)
        rotate_left
        ·
         rw [if_neg c64] at H
         exact absurd H (by simp)
        rw [if_pos c64] at H
        have c64b0 : decide (0 ≤ (ji63)) = true := decide_eq_true c64
        clear c64
        by_cases c65 : (ji63) < (x7_2.length : Int)
        rotate_left
        ·
         rw [if_neg c65] at H
         exact absurd H (by simp)
        rw [if_pos c65] at H
        have c65b0 : decide ((ji63) < (x7_2.length : Int)) = true := decide_eq_true c65
        clear c65
        replace H := Option.bind_eq_some_iff.mp H
        obtain ⟨⟨t155, t156, t157, t158, t159, t160, t161, t162⟩, A660, H⟩ := H
        replace H : (tattlerlaw06_RecJoins.l1 k3 x7_2 ji34 (x7_2.length : Int) (wrap64 (x61_3 + 1)) t146 t147 t148 t149 t150 t151 t152 t153 t155 t156 t157 t158 t159 t160 t161 t162) = some r := H
        have A66 := Aside0.mk A660
        clear A660
        have H' := Aside0.mk H
        clear H
        try go_wp2
        have n0_ := Aside0.mk (Kd.R_drew HO_7.out)
        have n1_ := Aside0.mk (blk_drew BK143.out)
        have n2_ := Aside0.mk (blk_drew BK144.out)
        have n3_ := Aside0.mk (below_drew1 HB.out)
        clear HO_7
        clear BK143
        clear BK144
        clear HB
        have HO_7 := n0_
        have BK143 := n1_
        have BK144 := n2_
        have HB := n3_
        clear n0_ n1_ n2_ n3_
        have p145 : 0 ≤ (x61_3 : Int) := of_decide_eq_true (by first | (with_reducible assumption) | assumption)
        have q145 : x61_3 < (x7_2.length : Int) := of_decide_eq_true (by first | (with_reducible assumption) | assumption)
        obtain ⟨ad145, e145, hx145_0, hx145_1, hx145_2, hx145_3, hx145_4, hx145_5, hx145_6, hx145_7⟩ := at_T27 (Kd.R_reads' HO_7.out).2.2 x61_3 p145 q145
        obtain rfl : ad141 = ad145 := (by injection e145)
        replace p145 := eq_true p145
        replace q145 := eq_true q145
        refine start_ (n := 7) (S := fun w' => w'.cell? ⟨gb143, 0, none⟩ = some (.string x144000_3) ∧ w'.cell? ⟨gb143, 1, none⟩ = some (.int .u64 x144001_3) ∧ w'.cell? ⟨gb143, 2, none⟩ = some (.int .u32 x144002_3) ∧ w'.cell? ⟨gb143, 3, none⟩ = some (.int .u8 x144003_3) ∧ w'.cell? ⟨gb143, 4, none⟩ = some (.int .u8 x144004_3) ∧ w'.cell? ⟨gb143, 5, none⟩ = some (.int .u32 x144005_3) ∧ w'.cell? ⟨gb143, 6, none⟩ = some (.int .u64 x144006_3) ∧ w'.cell? ⟨gb143, 7, none⟩ = some (.string x144007_3) ∧ w'.cell? (ad141.add ((x61_3).toNat * 8)) = some (.string ((rd_T27 x7_2 x61_3).f0)) ∧ w'.cell? ⟨(ad141.add ((x61_3).toNat * 8)).block, (ad141.add ((x61_3).toNat * 8)).off + 1, none⟩ = some (.int .u64 ((rd_T27 x7_2 x61_3).f1.f0)) ∧ w'.cell? ⟨(ad141.add ((x61_3).toNat * 8)).block, (ad141.add ((x61_3).toNat * 8)).off + 2, none⟩ = some (.int .u32 ((rd_T27 x7_2 x61_3).f1.f1)) ∧ w'.cell? ⟨(ad141.add ((x61_3).toNat * 8)).block, (ad141.add ((x61_3).toNat * 8)).off + 3, none⟩ = some (.int .u8 ((rd_T27 x7_2 x61_3).f1.f2)) ∧ w'.cell? ⟨(ad141.add ((x61_3).toNat * 8)).block, (ad141.add ((x61_3).toNat * 8)).off + 4, none⟩ = some (.int .u8 ((rd_T27 x7_2 x61_3).f2)) ∧ w'.cell? ⟨(ad141.add ((x61_3).toNat * 8)).block, (ad141.add ((x61_3).toNat * 8)).off + 5, none⟩ = some (.int .u32 ((rd_T27 x7_2 x61_3).f3)) ∧ w'.cell? ⟨(ad141.add ((x61_3).toNat * 8)).block, (ad141.add ((x61_3).toNat * 8)).off + 6, none⟩ = some (.int .u64 ((rd_T27 x7_2 x61_3).f4)) ∧ w'.cell? ⟨(ad141.add ((x61_3).toNat * 8)).block, (ad141.add ((x61_3).toNat * 8)).off + 7, none⟩ = some (.string ((rd_T27 x7_2 x61_3).f5))) (ds := [6]) #[false, false, false, false, false, false, false] (by kernel_rfl) rfl rfl ⟨(blk_cell BK143.out 0).trans rfl, (blk_cell BK143.out 1).trans rfl, (blk_cell BK143.out 2).trans rfl, (blk_cell BK143.out 3).trans rfl, (blk_cell BK143.out 4).trans rfl, (blk_cell BK143.out 5).trans rfl, (blk_cell BK143.out 6).trans rfl, (blk_cell BK143.out 7).trans rfl, hx145_0, hx145_1, hx145_2, hx145_3, hx145_4, hx145_5, hx145_6, hx145_7⟩ (fun hHeld => ?_)
        generalize wr.drew = w67 at HO_7 BK143 BK144 HB hx145_0 hx145_1 hx145_2 hx145_3 hx145_4 hx145_5 hx145_6 hx145_7 hHeld ⊢
        refine pure_ (i := 1) (N := some 65) (v := ?_) (a' := ?_) #[false, true, false, false, false, false, false] rfl rfl (by kernel_rfl) (fun _ _ _ h => h) (Or.inl ⟨by rfl, ?_⟩) ?_ ?_
        rotate_left
        ·
         intro w'
         go_simp
         with_reducible rfl
        rotate_left
        ·
         simp only [Act.put, List.setIfInBounds_toArray, List.set_cons_zero, List.set_cons_succ, i64_w, i32_w]
         rfl
        refine pure_ (i := 2) (N := some 66) (v := ?_) (a' := ?_) #[false, true, true, false, false, false, false] rfl rfl (by kernel_rfl) (fun _ _ _ h => h) (Or.inl ⟨by rfl, ?_⟩) ?_ ?_
        rotate_left
        ·
         intro w'
         go_simp
         with_reducible rfl
        rotate_left
        ·
         simp only [Act.put, List.setIfInBounds_toArray, List.set_cons_zero, List.set_cons_succ, i64_w, i32_w]
         rfl
        refine pure_ (i := 3) (N := some 67) (v := ?_) (a' := ?_) #[false, true, true, true, false, false, false] rfl rfl (by kernel_rfl) (fun _ _ _ h => h) (Or.inl ⟨by rfl, ?_⟩) ?_ ?_
        rotate_left
        ·
         intro w'
         go_simp
         with_reducible rfl
        rotate_left
        ·
         simp only [Act.put, List.setIfInBounds_toArray, List.set_cons_zero, List.set_cons_succ, i64_w, i32_w]
         rfl
        refine take_ (i := 0) (N := some 64) (v := ?_) (a' := ?_) #[true, true, true, true, false, false, false] rfl rfl (by kernel_rfl) (fun _ _ _ h => h) (Or.inl ⟨by rfl, ?_⟩) hHeld ?_ ?_
        rotate_left
        ·
         rintro w' ⟨s0, s1, s2, s3, s4, s5, s6, s7, s8, s9, s10, s11, s12, s13, s14, s15⟩
         go_simp
         with_reducible rfl
        rotate_left
        ·
         simp only [Act.put, List.setIfInBounds_toArray, List.set_cons_zero, List.set_cons_succ, i64_w, i32_w]
         rfl
        refine take_ (i := 4) (N := some 68) (v := ?_) (a' := ?_) #[true, true, true, true, true, false, false] rfl rfl (by kernel_rfl) (fun _ _ _ h => h) (Or.inl ⟨by rfl, ?_⟩) hHeld ?_ ?_
        rotate_left
        ·
         rintro w' ⟨s0, s1, s2, s3, s4, s5, s6, s7, s8, s9, s10, s11, s12, s13, s14, s15⟩
         go_simp
         with_reducible rfl
        rotate_left
        ·
         simp only [Act.put, List.setIfInBounds_toArray, List.set_cons_zero, List.set_cons_succ, i64_w, i32_w]
         rfl
        refine one_ (i := 5) (N := some 69) #[true, true, true, true, true, true, false] rfl rfl (by kernel_rfl) (by decide) (fun K hK => ?_)
        refine goes_ Try.func15 (by kernel_rfl) rfl #[.agg #[.string x144000_3, .int .u64 x144001_3, .int .u32 x144002_3, .int .u8 x144003_3, .int .u8 x144004_3, .int .u32 x144005_3, .int .u64 x144006_3, .string x144007_3], .agg #[.string ((rd_T27 x7_2 x61_3).f0), .int .u64 ((rd_T27 x7_2 x61_3).f1.f0), .int .u32 ((rd_T27 x7_2 x61_3).f1.f1), .int .u8 ((rd_T27 x7_2 x61_3).f1.f2), .int .u8 ((rd_T27 x7_2 x61_3).f2), .int .u32 ((rd_T27 x7_2 x61_3).f3), .int .u64 ((rd_T27 x7_2 x61_3).f4), .string ((rd_T27 x7_2 x61_3).f5)]] (by rfl) rfl rfl (by (try simp only [List.map_toArray, List.map_cons, List.map_nil]); first | done | rfl | (simp only [List.length_drop, List.length_take]; rfl)) ?_
        with_reducible refine (rec_Join.calls x144000_3 x144001_3 x144002_3 x144003_3 x144004_3 x144005_3 x144006_3 x144007_3 ((rd_T27 x7_2 x61_3).f0) ((rd_T27 x7_2 x61_3).f1.f0) ((rd_T27 x7_2 x61_3).f1.f1) ((rd_T27 x7_2 x61_3).f1.f2) ((rd_T27 x7_2 x61_3).f2) ((rd_T27 x7_2 x61_3).f3) ((rd_T27 x7_2 x61_3).f4) ((rd_T27 x7_2 x61_3).f5) t146 t147 t148 t149 t150 t151 t152 t153 _ A61.out).mono ?_
        rintro e w68 ⟨rfl, hb⟩
        have HS8_ := (hb.cell (World.block_lt_of_cell? _ _ (hHeld.2.2.2.2.2.2.2.2.1))).trans (hHeld.2.2.2.2.2.2.2.2.1)
        have HS9_ := (hb.cell (World.block_lt_of_cell? _ _ (hHeld.2.2.2.2.2.2.2.2.2.1))).trans (hHeld.2.2.2.2.2.2.2.2.2.1)
        have HS10_ := (hb.cell (World.block_lt_of_cell? _ _ (hHeld.2.2.2.2.2.2.2.2.2.2.1))).trans (hHeld.2.2.2.2.2.2.2.2.2.2.1)
        have HS11_ := (hb.cell (World.block_lt_of_cell? _ _ (hHeld.2.2.2.2.2.2.2.2.2.2.2.1))).trans (hHeld.2.2.2.2.2.2.2.2.2.2.2.1)
        have HS12_ := (hb.cell (World.block_lt_of_cell? _ _ (hHeld.2.2.2.2.2.2.2.2.2.2.2.2.1))).trans (hHeld.2.2.2.2.2.2.2.2.2.2.2.2.1)
        have HS13_ := (hb.cell (World.block_lt_of_cell? _ _ (hHeld.2.2.2.2.2.2.2.2.2.2.2.2.2.1))).trans (hHeld.2.2.2.2.2.2.2.2.2.2.2.2.2.1)
        have HS14_ := (hb.cell (World.block_lt_of_cell? _ _ (hHeld.2.2.2.2.2.2.2.2.2.2.2.2.2.2.1))).trans (hHeld.2.2.2.2.2.2.2.2.2.2.2.2.2.2.1)
        have HS15_ := (hb.cell (World.block_lt_of_cell? _ _ (hHeld.2.2.2.2.2.2.2.2.2.2.2.2.2.2.2))).trans (hHeld.2.2.2.2.2.2.2.2.2.2.2.2.2.2.2)
        refine ⟨_, rfl, ?_⟩
        have n0_ := Aside0.mk (Kd.R_below (by (with_reducible repeat (first | apply rA | apply rN | apply rD)); exact HO_7.out) hb)
        have n1_ := Aside0.mk (blk_below (g := gb143) (o := .cells #[.string x144000_3, .int .u64 x144001_3, .int .u32 x144002_3, .int .u8 x144003_3, .int .u8 x144004_3, .int .u32 x144005_3, .int .u64 x144006_3, .string x144007_3] 27 (0, 0)) (by (with_reducible repeat (first | refine bN ?_ _ | refine bD ?_ | refine bA ?_ _)); exact BK143.out) hb)
        have n2_ := Aside0.mk (blk_below (g := gb144) (o := .cells #[.string x145000_3, .int .u64 x145001_3, .int .u32 x145002_3, .int .u8 x145003_3, .int .u8 x145004_3, .int .u32 x145005_3, .int .u64 x145006_3, .string x145007_3] 27 (0, 0)) (by (with_reducible repeat (first | refine bN ?_ _ | refine bD ?_ | refine bA ?_ _)); exact BK144.out) hb)
        have n3_ := Aside0.mk (below_step (by repeat (first | (with_reducible first | exact HB.out | apply qA | apply qN | apply qD | refine below_set ?_ GE143.out | refine below_set ?_ GE144.out) | exact HB.out)) hb)
        clear HO_7
        clear BK143
        clear BK144
        clear HB
        have HO_7 := n0_
        have BK143 := n1_
        have BK144 := n2_
        have HB := n3_
        clear n0_ n1_ n2_ n3_
        (try clear hb)
        (try clear hb2)
        (try clear hk)
        (try clear hi)
        refine hK.out _ _ ⟨(blk_cell BK143.out 0).trans rfl, (blk_cell BK143.out 1).trans rfl, (blk_cell BK143.out 2).trans rfl, (blk_cell BK143.out 3).trans rfl, (blk_cell BK143.out 4).trans rfl, (blk_cell BK143.out 5).trans rfl, (blk_cell BK143.out 6).trans rfl, (blk_cell BK143.out 7).trans rfl, HS8_, HS9_, HS10_, HS11_, HS12_, HS13_, HS14_, HS15_⟩ (fun hHeld => ?_)
        clear hK K
        refine norm_ (a' := ?_) ?_ ?_
        rotate_left
        ·
         show Act.put _ (some 69) _ = _
         simp only [Act.put, List.setIfInBounds_toArray, List.set_cons_zero, List.set_cons_succ, i64_w, i32_w]
         rfl
        refine last_ (i := 6) (N := none) #[true, true, true, true, true, true, true] rfl rfl (by kernel_rfl) (by decide) (fun K hK => ?_)
        have hs69 : w68.cell? ⟨gb143, 0, none⟩ = some (.string x144000_3) := (blk_cell BK143.out 0).trans rfl
        have hfs69 := blk_frozen BK143.out 0
        have hns69_1 := NB144_143.out
        have hms69_1 := NB143_144.out
        have hs70 : w68.cell? ⟨gb143, 1, none⟩ = some (.int .u64 x144001_3) := (blk_cell BK143.out 1).trans rfl
        have hfs70 := blk_frozen BK143.out 1
        have hns70_1 := NB144_143.out
        have hms70_1 := NB143_144.out
        have hs71 : w68.cell? ⟨gb143, 2, none⟩ = some (.int .u32 x144002_3) := (blk_cell BK143.out 2).trans rfl
        have hfs71 := blk_frozen BK143.out 2
        have hns71_1 := NB144_143.out
        have hms71_1 := NB143_144.out
        have hs72 : w68.cell? ⟨gb143, 3, none⟩ = some (.int .u8 x144003_3) := (blk_cell BK143.out 3).trans rfl
        have hfs72 := blk_frozen BK143.out 3
        have hns72_1 := NB144_143.out
        have hms72_1 := NB143_144.out
        have hs73 : w68.cell? ⟨gb143, 4, none⟩ = some (.int .u8 x144004_3) := (blk_cell BK143.out 4).trans rfl
        have hfs73 := blk_frozen BK143.out 4
        have hns73_1 := NB144_143.out
        have hms73_1 := NB143_144.out
        have hs74 : w68.cell? ⟨gb143, 5, none⟩ = some (.int .u32 x144005_3) := (blk_cell BK143.out 5).trans rfl
        have hfs74 := blk_frozen BK143.out 5
        have hns74_1 := NB144_143.out
        have hms74_1 := NB143_144.out
        have hs75 : w68.cell? ⟨gb143, 6, none⟩ = some (.int .u64 x144006_3) := (blk_cell BK143.out 6).trans rfl
        have hfs75 := blk_frozen BK143.out 6
        have hns75_1 := NB144_143.out
        have hms75_1 := NB143_144.out
        have hs76 : w68.cell? ⟨gb143, 7, none⟩ = some (.string x144007_3) := (blk_cell BK143.out 7).trans rfl
        have hfs76 := blk_frozen BK143.out 7
        have hns76_1 := NB144_143.out
        have hms76_1 := NB143_144.out
        refine skip_ (w1 := ?_) (by rfl) rfl ?_ ?_
        rotate_left
        ·
         go_simp
         rfl
        refine hK.out _ _ ?_
        clear hK K
        refine done_ (by kernel_rfl) ?_
        try go_wp2
        have n0_ : Aside0 (Kd.R k27 27 ((((((((w68.setCell ⟨gb143, 0, none⟩ (.string t146)).setCell ⟨gb143, 1, none⟩ (.int .u64 t147)).setCell ⟨gb143, 2, none⟩ (.int .u32 t148)).setCell ⟨gb143, 3, none⟩ (.int .u8 t149)).setCell ⟨gb143, 4, none⟩ (.int .u8 t150)).setCell ⟨gb143, 5, none⟩ (.int .u32 t151)).setCell ⟨gb143, 6, none⟩ (.int .u64 t152)).setCell ⟨gb143, 7, none⟩ (.string t153)) w.heap.size (fun k_ => k_ ≠ gb143 ∧ k_ ≠ gb144) (.slice (some ad141) x7_2.length co37) x7_2) := ⟨by (with_reducible repeat (first | apply rA | apply rN | apply rD)); exact Kd.R_mono (Kd.R_far (p := ⟨gb143, 7, none⟩) (Kd.R_far (p := ⟨gb143, 6, none⟩) (Kd.R_far (p := ⟨gb143, 5, none⟩) (Kd.R_far (p := ⟨gb143, 4, none⟩) (Kd.R_far (p := ⟨gb143, 3, none⟩) (Kd.R_far (p := ⟨gb143, 2, none⟩) (Kd.R_far (p := ⟨gb143, 1, none⟩) (Kd.R_far (p := ⟨gb143, 0, none⟩) (Kd.R_mono HO_7.out (fun k_ hk => (⟨hk, hk.1⟩ : _ ∧ k_ ≠ gb143))) (fun _ hk => hk.2) (.string t146)) (fun _ hk => hk.2) (.int .u64 t147)) (fun _ hk => hk.2) (.int .u32 t148)) (fun _ hk => hk.2) (.int .u8 t149)) (fun _ hk => hk.2) (.int .u8 t150)) (fun _ hk => hk.2) (.int .u32 t151)) (fun _ hk => hk.2) (.int .u64 t152)) (fun _ hk => hk.2) (.string t153)) (fun _ hk => ⟨hk.1.1, hk.1.2⟩)⟩
        have n1_ : Aside0 (((((((((w68.setCell ⟨gb143, 0, none⟩ (.string t146)).setCell ⟨gb143, 1, none⟩ (.int .u64 t147)).setCell ⟨gb143, 2, none⟩ (.int .u32 t148)).setCell ⟨gb143, 3, none⟩ (.int .u8 t149)).setCell ⟨gb143, 4, none⟩ (.int .u8 t150)).setCell ⟨gb143, 5, none⟩ (.int .u32 t151)).setCell ⟨gb143, 6, none⟩ (.int .u64 t152)).setCell ⟨gb143, 7, none⟩ (.string t153)).heap[gb143]? = some (.cells #[.string t146, .int .u64 t147, .int .u32 t148, .int .u8 t149, .int .u8 t150, .int .u32 t151, .int .u64 t152, .string t153] 27 (0, 0))) := ⟨by (with_reducible repeat (first | refine bN ?_ _ | refine bD ?_ | refine bA ?_ _)); refine blk_put (cs := #[.string t146, .int .u64 t147, .int .u32 t148, .int .u8 t149, .int .u8 t150, .int .u32 t151, .int .u64 t152, .string x144007_3]) ?_ 7 _ rfl; (with_reducible repeat (first | refine bN ?_ _ | refine bD ?_ | refine bA ?_ _)); refine blk_put (cs := #[.string t146, .int .u64 t147, .int .u32 t148, .int .u8 t149, .int .u8 t150, .int .u32 t151, .int .u64 x144006_3, .string x144007_3]) ?_ 6 _ rfl; (with_reducible repeat (first | refine bN ?_ _ | refine bD ?_ | refine bA ?_ _)); refine blk_put (cs := #[.string t146, .int .u64 t147, .int .u32 t148, .int .u8 t149, .int .u8 t150, .int .u32 x144005_3, .int .u64 x144006_3, .string x144007_3]) ?_ 5 _ rfl; (with_reducible repeat (first | refine bN ?_ _ | refine bD ?_ | refine bA ?_ _)); refine blk_put (cs := #[.string t146, .int .u64 t147, .int .u32 t148, .int .u8 t149, .int .u8 x144004_3, .int .u32 x144005_3, .int .u64 x144006_3, .string x144007_3]) ?_ 4 _ rfl; (with_reducible repeat (first | refine bN ?_ _ | refine bD ?_ | refine bA ?_ _)); refine blk_put (cs := #[.string t146, .int .u64 t147, .int .u32 t148, .int .u8 x144003_3, .int .u8 x144004_3, .int .u32 x144005_3, .int .u64 x144006_3, .string x144007_3]) ?_ 3 _ rfl; (with_reducible repeat (first | refine bN ?_ _ | refine bD ?_ | refine bA ?_ _)); refine blk_put (cs := #[.string t146, .int .u64 t147, .int .u32 x144002_3, .int .u8 x144003_3, .int .u8 x144004_3, .int .u32 x144005_3, .int .u64 x144006_3, .string x144007_3]) ?_ 2 _ rfl; (with_reducible repeat (first | refine bN ?_ _ | refine bD ?_ | refine bA ?_ _)); refine blk_put (cs := #[.string t146, .int .u64 x144001_3, .int .u32 x144002_3, .int .u8 x144003_3, .int .u8 x144004_3, .int .u32 x144005_3, .int .u64 x144006_3, .string x144007_3]) ?_ 1 _ rfl; (with_reducible repeat (first | refine bN ?_ _ | refine bD ?_ | refine bA ?_ _)); refine blk_put (cs := #[.string x144000_3, .int .u64 x144001_3, .int .u32 x144002_3, .int .u8 x144003_3, .int .u8 x144004_3, .int .u32 x144005_3, .int .u64 x144006_3, .string x144007_3]) ?_ 0 _ rfl; (with_reducible repeat (first | refine bN ?_ _ | refine bD ?_ | refine bA ?_ _)); exact BK143.out⟩
        have n2_ : Aside0 (((((((((w68.setCell ⟨gb143, 0, none⟩ (.string t146)).setCell ⟨gb143, 1, none⟩ (.int .u64 t147)).setCell ⟨gb143, 2, none⟩ (.int .u32 t148)).setCell ⟨gb143, 3, none⟩ (.int .u8 t149)).setCell ⟨gb143, 4, none⟩ (.int .u8 t150)).setCell ⟨gb143, 5, none⟩ (.int .u32 t151)).setCell ⟨gb143, 6, none⟩ (.int .u64 t152)).setCell ⟨gb143, 7, none⟩ (.string t153)).heap[gb144]? = some (.cells #[.string x145000_3, .int .u64 x145001_3, .int .u32 x145002_3, .int .u8 x145003_3, .int .u8 x145004_3, .int .u32 x145005_3, .int .u64 x145006_3, .string x145007_3] 27 (0, 0))) := ⟨by (with_reducible repeat (first | refine bN ?_ _ | refine bD ?_ | refine bA ?_ _)); refine blk_far ?_ NB144_143.out _; (with_reducible repeat (first | refine bN ?_ _ | refine bD ?_ | refine bA ?_ _)); refine blk_far ?_ NB144_143.out _; (with_reducible repeat (first | refine bN ?_ _ | refine bD ?_ | refine bA ?_ _)); refine blk_far ?_ NB144_143.out _; (with_reducible repeat (first | refine bN ?_ _ | refine bD ?_ | refine bA ?_ _)); refine blk_far ?_ NB144_143.out _; (with_reducible repeat (first | refine bN ?_ _ | refine bD ?_ | refine bA ?_ _)); refine blk_far ?_ NB144_143.out _; (with_reducible repeat (first | refine bN ?_ _ | refine bD ?_ | refine bA ?_ _)); refine blk_far ?_ NB144_143.out _; (with_reducible repeat (first | refine bN ?_ _ | refine bD ?_ | refine bA ?_ _)); refine blk_far ?_ NB144_143.out _; (with_reducible repeat (first | refine bN ?_ _ | refine bD ?_ | refine bA ?_ _)); refine blk_far ?_ NB144_143.out _; (with_reducible repeat (first | refine bN ?_ _ | refine bD ?_ | refine bA ?_ _)); exact BK144.out⟩
        have n3_ : Aside0 (Below w.heap.size w ((((((((w68.setCell ⟨gb143, 0, none⟩ (.string t146)).setCell ⟨gb143, 1, none⟩ (.int .u64 t147)).setCell ⟨gb143, 2, none⟩ (.int .u32 t148)).setCell ⟨gb143, 3, none⟩ (.int .u8 t149)).setCell ⟨gb143, 4, none⟩ (.int .u8 t150)).setCell ⟨gb143, 5, none⟩ (.int .u32 t151)).setCell ⟨gb143, 6, none⟩ (.int .u64 t152)).setCell ⟨gb143, 7, none⟩ (.string t153))) := ⟨by repeat (first | (with_reducible first | exact HB.out | apply qA | apply qN | apply qD | refine below_set ?_ GE143.out | refine below_set ?_ GE144.out) | exact HB.out)⟩
        (try clear HO_7)
        (try clear BK143)
        (try clear BK144)
        (try clear HB)
        generalize ((((((((w68.setCell ⟨gb143, 0, none⟩ (.string t146)).setCell ⟨gb143, 1, none⟩ (.int .u64 t147)).setCell ⟨gb143, 2, none⟩ (.int .u32 t148)).setCell ⟨gb143, 3, none⟩ (.int .u8 t149)).setCell ⟨gb143, 4, none⟩ (.int .u8 t150)).setCell ⟨gb143, 5, none⟩ (.int .u32 t151)).setCell ⟨gb143, 6, none⟩ (.int .u64 t152)).setCell ⟨gb143, 7, none⟩ (.string t153)) = w77 at n0_ n1_ n2_ n3_ ⊢
        have HO_7 := n0_
        have BK143 := n1_
        have BK144 := n2_
        have HB := n3_
        clear n0_ n1_ n2_ n3_
        have n0_ := Aside0.mk (Kd.R_drew HO_7.out)
        have n1_ := Aside0.mk (blk_drew BK143.out)
        have n2_ := Aside0.mk (blk_drew BK144.out)
        have n3_ := Aside0.mk (below_drew1 HB.out)
        clear HO_7
        clear BK143
        clear BK144
        clear HB
        have HO_7 := n0_
        have BK143 := n1_
        have BK144 := n2_
        have HB := n3_
        clear n0_ n1_ n2_ n3_
        have p154 : 0 ≤ ((ji63) : Int) := of_decide_eq_true (by first | (with_reducible assumption) | assumption)
        have q154 : (ji63) < (x7_2.length : Int) := of_decide_eq_true (by first | (with_reducible assumption) | assumption)
        obtain ⟨ad154, e154, hx154_0, hx154_1, hx154_2, hx154_3, hx154_4, hx154_5, hx154_6, hx154_7⟩ := at_T27 (Kd.R_reads' HO_7.out).2.2 (ji63) p154 q154
        obtain rfl : ad141 = ad154 := (by injection e154)
        replace p154 := eq_true p154
        replace q154 := eq_true q154
        refine start_ (n := 15) (S := fun w' => w'.cell? ⟨gb144, 0, none⟩ = some (.string x145000_3) ∧ w'.cell? ⟨gb144, 1, none⟩ = some (.int .u64 x145001_3) ∧ w'.cell? ⟨gb144, 2, none⟩ = some (.int .u32 x145002_3) ∧ w'.cell? ⟨gb144, 3, none⟩ = some (.int .u8 x145003_3) ∧ w'.cell? ⟨gb144, 4, none⟩ = some (.int .u8 x145004_3) ∧ w'.cell? ⟨gb144, 5, none⟩ = some (.int .u32 x145005_3) ∧ w'.cell? ⟨gb144, 6, none⟩ = some (.int .u64 x145006_3) ∧ w'.cell? ⟨gb144, 7, none⟩ = some (.string x145007_3) ∧ w'.cell? (ad141.add (((ji63)).toNat * 8)) = some (.string ((rd_T27 x7_2 (ji63)).f0)) ∧ w'.cell? ⟨(ad141.add (((ji63)).toNat * 8)).block, (ad141.add (((ji63)).toNat * 8)).off + 1, none⟩ = some (.int .u64 ((rd_T27 x7_2 (ji63)).f1.f0)) ∧ w'.cell? ⟨(ad141.add (((ji63)).toNat * 8)).block, (ad141.add (((ji63)).toNat * 8)).off + 2, none⟩ = some (.int .u32 ((rd_T27 x7_2 (ji63)).f1.f1)) ∧ w'.cell? ⟨(ad141.add (((ji63)).toNat * 8)).block, (ad141.add (((ji63)).toNat * 8)).off + 3, none⟩ = some (.int .u8 ((rd_T27 x7_2 (ji63)).f1.f2)) ∧ w'.cell? ⟨(ad141.add (((ji63)).toNat * 8)).block, (ad141.add (((ji63)).toNat * 8)).off + 4, none⟩ = some (.int .u8 ((rd_T27 x7_2 (ji63)).f2)) ∧ w'.cell? ⟨(ad141.add (((ji63)).toNat * 8)).block, (ad141.add (((ji63)).toNat * 8)).off + 5, none⟩ = some (.int .u32 ((rd_T27 x7_2 (ji63)).f3)) ∧ w'.cell? ⟨(ad141.add (((ji63)).toNat * 8)).block, (ad141.add (((ji63)).toNat * 8)).off + 6, none⟩ = some (.int .u64 ((rd_T27 x7_2 (ji63)).f4)) ∧ w'.cell? ⟨(ad141.add (((ji63)).toNat * 8)).block, (ad141.add (((ji63)).toNat * 8)).off + 7, none⟩ = some (.string ((rd_T27 x7_2 (ji63)).f5))) (ds := [14]) #[false, false, false, false, false, false, false, false, false, false, false, false, false, false, false] (by kernel_rfl) rfl rfl ⟨(blk_cell BK144.out 0).trans rfl, (blk_cell BK144.out 1).trans rfl, (blk_cell BK144.out 2).trans rfl, (blk_cell BK144.out 3).trans rfl, (blk_cell BK144.out 4).trans rfl, (blk_cell BK144.out 5).trans rfl, (blk_cell BK144.out 6).trans rfl, (blk_cell BK144.out 7).trans rfl, hx154_0, hx154_1, hx154_2, hx154_3, hx154_4, hx154_5, hx154_6, hx154_7⟩ (fun hHeld => ?_); refine with_tabW tattlerlaw06_RecJoins.tab18 tattlerlaw06_RecJoins.bits18 (fun HT_ HW_ => ?_)
        generalize w77.drew = w78 at HO_7 BK143 BK144 HB hx154_0 hx154_1 hx154_2 hx154_3 hx154_4 hx154_5 hx154_6 hx154_7 hHeld ⊢
        refine pure_ (i := 0) (N := some 70) (v := ?_) (a' := ?_) #[true, false, false, false, false, false, false, false, false, false, false, false, false, false, false] rfl rfl (any_of HT_.out (by kernel_rfl)) (fun _ _ _ h => h) (Or.inl ⟨by rfl, ?_⟩) ?_ ?_
        rotate_left
        ·
         intro w'
         go_simp
         with_reducible rfl
        rotate_left
        ·
         simp only [Act.put, List.setIfInBounds_toArray, List.set_cons_zero, List.set_cons_succ, i64_w, i32_w]
         rfl
        refine pure_ (i := 1) (N := some 71) (v := ?_) (a' := ?_) #[true, true, false, false, false, false, false, false, false, false, false, false, false, false, false] rfl rfl (any_of HT_.out (by kernel_rfl)) (fun _ _ _ h => h) (Or.inl ⟨by rfl, ?_⟩) ?_ ?_
        rotate_left
        ·
         intro w'
         go_simp
         with_reducible rfl
        rotate_left
        ·
         simp only [Act.put, List.setIfInBounds_toArray, List.set_cons_zero, List.set_cons_succ, i64_w, i32_w]
         rfl
        refine pure_ (i := 2) (N := some 72) (v := ?_) (a' := ?_) #[true, true, true, false, false, false, false, false, false, false, false, false, false, false, false] rfl rfl (any_of HT_.out (by kernel_rfl)) (fun _ _ _ h => h) (Or.inl ⟨by rfl, ?_⟩) ?_ ?_
        rotate_left
        ·
         intro w'
         go_simp
         with_reducible rfl
        rotate_left
        ·
         simp only [Act.put, List.setIfInBounds_toArray, List.set_cons_zero, List.set_cons_succ, i64_w, i32_w]
         rfl
        refine pure_ (i := 3) (N := some 73) (v := ?_) (a' := ?_) #[true, true, true, true, false, false, false, false, false, false, false, false, false, false, false] rfl rfl (any_of HT_.out (by kernel_rfl)) (fun _ _ _ h => h) (Or.inl ⟨by rfl, ?_⟩) ?_ ?_
        rotate_left
        ·
         intro w'
         go_simp
         with_reducible rfl
        rotate_left
        ·
         simp only [Act.put, List.setIfInBounds_toArray, List.set_cons_zero, List.set_cons_succ, i64_w, i32_w]
         rfl
        refine pure_ (i := 4) (N := some 74) (v := ?_) (a' := ?_) #[true, true, true, true, true, false, false, false, false, false, false, false, false, false, false] rfl rfl (any_of HT_.out (by kernel_rfl)) (fun _ _ _ h => h) (Or.inl ⟨by rfl, ?_⟩) ?_ ?_
        rotate_left
        ·
         intro w'
         go_simp
         with_reducible rfl
        rotate_left
        ·
         simp only [Act.put, List.setIfInBounds_toArray, List.set_cons_zero, List.set_cons_succ, i64_w, i32_w]
         rfl
        refine pure_ (i := 5) (N := some 75) (v := ?_) (a' := ?_) #[true, true, true, true, true, true, false, false, false, false, false, false, false, false, false] rfl rfl (any_of HT_.out (by kernel_rfl)) (fun _ _ _ h => h) (Or.inl ⟨by rfl, ?_⟩) ?_ ?_
        rotate_left
        ·
         intro w'
         go_simp
         with_reducible rfl
        rotate_left
        ·
         simp only [Act.put, List.setIfInBounds_toArray, List.set_cons_zero, List.set_cons_succ, i64_w, i32_w]
         rfl
        refine pure_ (i := 6) (N := some 76) (v := ?_) (a' := ?_) #[true, true, true, true, true, true, true, false, false, false, false, false, false, false, false] rfl rfl (any_of HT_.out (by kernel_rfl)) (fun _ _ _ h => h) (Or.inl ⟨by rfl, ?_⟩) ?_ ?_
        rotate_left
        ·
         intro w'
         go_simp
         with_reducible rfl
        rotate_left
        ·
         simp only [Act.put, List.setIfInBounds_toArray, List.set_cons_zero, List.set_cons_succ, i64_w, i32_w]
         rfl
        refine pure_ (i := 7) (N := some 77) (v := ?_) (a' := ?_) #[true, true, true, true, true, true, true, true, false, false, false, false, false, false, false] rfl rfl (any_of HT_.out (by kernel_rfl)) (fun _ _ _ h => h) (Or.inl ⟨by rfl, ?_⟩) ?_ ?_
        rotate_left
        ·
         intro w'
         go_simp
         with_reducible rfl
        rotate_left
        ·
         simp only [Act.put, List.setIfInBounds_toArray, List.set_cons_zero, List.set_cons_succ, i64_w, i32_w]
         rfl
        refine pure_ (i := 8) (N := some 78) (v := ?_) (a' := ?_) #[true, true, true, true, true, true, true, true, true, false, false, false, false, false, false] rfl rfl (any_of HT_.out (by kernel_rfl)) (fun _ _ _ h => h) (Or.inl ⟨by rfl, ?_⟩) ?_ ?_
        rotate_left
        ·
         intro w'
         go_simp
         with_reducible rfl
        rotate_left
        ·
         simp only [Act.put, List.setIfInBounds_toArray, List.set_cons_zero, List.set_cons_succ, i64_w, i32_w]
         rfl
        refine pure_ (i := 9) (N := some 79) (v := ?_) (a' := ?_) #[true, true, true, true, true, true, true, true, true, true, false, false, false, false, false] rfl rfl (any_of HT_.out (by kernel_rfl)) (fun _ _ _ h => h) (Or.inl ⟨by rfl, ?_⟩) ?_ ?_
        rotate_left
        ·
         intro w'
         go_simp
         with_reducible rfl
        rotate_left
        ·
         simp only [Act.put, List.setIfInBounds_toArray, List.set_cons_zero, List.set_cons_succ, i64_w, i32_w]
         rfl
        refine pure_ (i := 10) (N := some 80) (v := ?_) (a' := ?_) #[true, true, true, true, true, true, true, true, true, true, true, false, false, false, false] rfl rfl (any_of HT_.out (by kernel_rfl)) (fun _ _ _ h => h) (Or.inl ⟨by rfl, ?_⟩) ?_ ?_
        rotate_left
        ·
         intro w'
         go_simp
         with_reducible rfl
        rotate_left
        ·
         simp only [Act.put, List.setIfInBounds_toArray, List.set_cons_zero, List.set_cons_succ, i64_w, i32_w]
         rfl
        refine take_ (i := 11) (N := some 81) (v := ?_) (a' := ?_) #[true, true, true, true, true, true, true, true, true, true, true, true, false, false, false] rfl rfl (take_ofW HT_.out HW_.out (by kernel_rfl)) (fun _ _ _ h => h) (Or.inl ⟨by rfl, ?_⟩) hHeld ?_ ?_
        rotate_left
        ·
         rintro w' ⟨s0, s1, s2, s3, s4, s5, s6, s7, s8, s9, s10, s11, s12, s13, s14, s15⟩
         go_simp
         with_reducible rfl
        rotate_left
        ·
         simp only [Act.put, List.setIfInBounds_toArray, List.set_cons_zero, List.set_cons_succ, i64_w, i32_w]
         rfl
        refine take_ (i := 12) (N := some 82) (v := ?_) (a' := ?_) #[true, true, true, true, true, true, true, true, true, true, true, true, true, false, false] rfl rfl (take_ofW HT_.out HW_.out (by kernel_rfl)) (fun _ _ _ h => h) (Or.inl ⟨by rfl, ?_⟩) hHeld ?_ ?_
        rotate_left
        ·
         rintro w' ⟨s0, s1, s2, s3, s4, s5, s6, s7, s8, s9, s10, s11, s12, s13, s14, s15⟩
         go_simp
         with_reducible rfl
        rotate_left
        ·
         simp only [Act.put, List.setIfInBounds_toArray, List.set_cons_zero, List.set_cons_succ, i64_w, i32_w]
         rfl
        refine one_ (i := 13) (N := some 83) #[true, true, true, true, true, true, true, true, true, true, true, true, true, true, false] rfl rfl (one_of HT_.out (by kernel_rfl)) (by decide) (fun K hK => ?_)
        refine goes_ Try.func15 (by kernel_rfl) rfl #[.agg #[.string ((rd_T27 x7_2 (ji63)).f0), .int .u64 ((rd_T27 x7_2 (ji63)).f1.f0), .int .u32 ((rd_T27 x7_2 (ji63)).f1.f1), .int .u8 ((rd_T27 x7_2 (ji63)).f1.f2), .int .u8 ((rd_T27 x7_2 (ji63)).f2), .int .u32 ((rd_T27 x7_2 (ji63)).f3), .int .u64 ((rd_T27 x7_2 (ji63)).f4), .string ((rd_T27 x7_2 (ji63)).f5)], .agg #[.string x145000_3, .int .u64 x145001_3, .int .u32 x145002_3, .int .u8 x145003_3, .int .u8 x145004_3, .int .u32 x145005_3, .int .u64 x145006_3, .string x145007_3]] (by rfl) rfl rfl (by (try simp only [List.map_toArray, List.map_cons, List.map_nil]); first | done | (simp only [hji63]; rfl) | rfl | (simp only [List.length_drop, List.length_take]; rfl)) ?_
        with_reducible refine (rec_Join.calls ((rd_T27 x7_2 (ji63)).f0) ((rd_T27 x7_2 (ji63)).f1.f0) ((rd_T27 x7_2 (ji63)).f1.f1) ((rd_T27 x7_2 (ji63)).f1.f2) ((rd_T27 x7_2 (ji63)).f2) ((rd_T27 x7_2 (ji63)).f3) ((rd_T27 x7_2 (ji63)).f4) ((rd_T27 x7_2 (ji63)).f5) x145000_3 x145001_3 x145002_3 x145003_3 x145004_3 x145005_3 x145006_3 x145007_3 t155 t156 t157 t158 t159 t160 t161 t162 _ A66.out).mono ?_
        rintro e w79 ⟨rfl, hb⟩
        have HS8_ := (hb.cell (World.block_lt_of_cell? _ _ (hHeld.2.2.2.2.2.2.2.2.1))).trans (hHeld.2.2.2.2.2.2.2.2.1)
        have HS9_ := (hb.cell (World.block_lt_of_cell? _ _ (hHeld.2.2.2.2.2.2.2.2.2.1))).trans (hHeld.2.2.2.2.2.2.2.2.2.1)
        have HS10_ := (hb.cell (World.block_lt_of_cell? _ _ (hHeld.2.2.2.2.2.2.2.2.2.2.1))).trans (hHeld.2.2.2.2.2.2.2.2.2.2.1)
        have HS11_ := (hb.cell (World.block_lt_of_cell? _ _ (hHeld.2.2.2.2.2.2.2.2.2.2.2.1))).trans (hHeld.2.2.2.2.2.2.2.2.2.2.2.1)
        have HS12_ := (hb.cell (World.block_lt_of_cell? _ _ (hHeld.2.2.2.2.2.2.2.2.2.2.2.2.1))).trans (hHeld.2.2.2.2.2.2.2.2.2.2.2.2.1)
        have HS13_ := (hb.cell (World.block_lt_of_cell? _ _ (hHeld.2.2.2.2.2.2.2.2.2.2.2.2.2.1))).trans (hHeld.2.2.2.2.2.2.2.2.2.2.2.2.2.1)
        have HS14_ := (hb.cell (World.block_lt_of_cell? _ _ (hHeld.2.2.2.2.2.2.2.2.2.2.2.2.2.2.1))).trans (hHeld.2.2.2.2.2.2.2.2.2.2.2.2.2.2.1)
        have HS15_ := (hb.cell (World.block_lt_of_cell? _ _ (hHeld.2.2.2.2.2.2.2.2.2.2.2.2.2.2.2))).trans (hHeld.2.2.2.2.2.2.2.2.2.2.2.2.2.2.2)
        refine ⟨_, rfl, ?_⟩
        have n0_ := Aside0.mk (Kd.R_below (by (with_reducible repeat (first | apply rA | apply rN | apply rD)); exact HO_7.out) hb)
        have n1_ := Aside0.mk (blk_below (g := gb143) (o := .cells #[.string t146, .int .u64 t147, .int .u32 t148, .int .u8 t149, .int .u8 t150, .int .u32 t151, .int .u64 t152, .string t153] 27 (0, 0)) (by (with_reducible repeat (first | refine bN ?_ _ | refine bD ?_ | refine bA ?_ _)); exact BK143.out) hb)
        have n2_ := Aside0.mk (blk_below (g := gb144) (o := .cells #[.string x145000_3, .int .u64 x145001_3, .int .u32 x145002_3, .int .u8 x145003_3, .int .u8 x145004_3, .int .u32 x145005_3, .int .u64 x145006_3, .string x145007_3] 27 (0, 0)) (by (with_reducible repeat (first | refine bN ?_ _ | refine bD ?_ | refine bA ?_ _)); exact BK144.out) hb)
        have n3_ := Aside0.mk (below_step (by repeat (first | (with_reducible first | exact HB.out | apply qA | apply qN | apply qD | refine below_set ?_ GE143.out | refine below_set ?_ GE144.out) | exact HB.out)) hb)
        clear HO_7
        clear BK143
        clear BK144
        clear HB
        have HO_7 := n0_
        have BK143 := n1_
        have BK144 := n2_
        have HB := n3_
        clear n0_ n1_ n2_ n3_
        (try clear hb)
        (try clear hb2)
        (try clear hk)
        (try clear hi)
        refine hK.out _ _ ⟨(blk_cell BK144.out 0).trans rfl, (blk_cell BK144.out 1).trans rfl, (blk_cell BK144.out 2).trans rfl, (blk_cell BK144.out 3).trans rfl, (blk_cell BK144.out 4).trans rfl, (blk_cell BK144.out 5).trans rfl, (blk_cell BK144.out 6).trans rfl, (blk_cell BK144.out 7).trans rfl, HS8_, HS9_, HS10_, HS11_, HS12_, HS13_, HS14_, HS15_⟩ (fun hHeld => ?_)
        clear hK K
        refine norm_ (a' := ?_) ?_ ?_
        rotate_left
        ·
         show Act.put _ (some 83) _ = _
         simp only [Act.put, List.setIfInBounds_toArray, List.set_cons_zero, List.set_cons_succ, i64_w, i32_w]
         rfl
        refine last_ (i := 14) (N := none) #[true, true, true, true, true, true, true, true, true, true, true, true, true, true, true] rfl rfl (one_of HT_.out (by kernel_rfl)) (by decide) (fun K hK => ?_)
        have hs80 : w79.cell? ⟨gb144, 0, none⟩ = some (.string x145000_3) := (blk_cell BK144.out 0).trans rfl
        have hfs80 := blk_frozen BK144.out 0
        have hns80_0 := NB143_144.out
        have hms80_0 := NB144_143.out
        have hs81 : w79.cell? ⟨gb144, 1, none⟩ = some (.int .u64 x145001_3) := (blk_cell BK144.out 1).trans rfl
        have hfs81 := blk_frozen BK144.out 1
        have hns81_0 := NB143_144.out
        have hms81_0 := NB144_143.out
        have hs82 : w79.cell? ⟨gb144, 2, none⟩ = some (.int .u32 x145002_3) := (blk_cell BK144.out 2).trans rfl
        have hfs82 := blk_frozen BK144.out 2
        have hns82_0 := NB143_144.out
        have hms82_0 := NB144_143.out
        have hs83 : w79.cell? ⟨gb144, 3, none⟩ = some (.int .u8 x145003_3) := (blk_cell BK144.out 3).trans rfl
        have hfs83 := blk_frozen BK144.out 3
        have hns83_0 := NB143_144.out
        have hms83_0 := NB144_143.out
        have hs84 : w79.cell? ⟨gb144, 4, none⟩ = some (.int .u8 x145004_3) := (blk_cell BK144.out 4).trans rfl
        have hfs84 := blk_frozen BK144.out 4
        have hns84_0 := NB143_144.out
        have hms84_0 := NB144_143.out
        have hs85 : w79.cell? ⟨gb144, 5, none⟩ = some (.int .u32 x145005_3) := (blk_cell BK144.out 5).trans rfl
        have hfs85 := blk_frozen BK144.out 5
        have hns85_0 := NB143_144.out
        have hms85_0 := NB144_143.out
        have hs86 : w79.cell? ⟨gb144, 6, none⟩ = some (.int .u64 x145006_3) := (blk_cell BK144.out 6).trans rfl
        have hfs86 := blk_frozen BK144.out 6
        have hns86_0 := NB143_144.out
        have hms86_0 := NB144_143.out
        have hs87 : w79.cell? ⟨gb144, 7, none⟩ = some (.string x145007_3) := (blk_cell BK144.out 7).trans rfl
        have hfs87 := blk_frozen BK144.out 7
        have hns87_0 := NB143_144.out
        have hms87_0 := NB144_143.out
        refine skip_ (w1 := ?_) (by rfl) rfl ?_ ?_
        rotate_left
        ·
         go_simp
         rfl
        refine hK.out _ _ ?_
        clear hK K
        refine done_ (done_of HT_.out (by kernel_rfl)) ?_
        try go_wp2
        go_roundg k3
        case measure => have := HJ3.out; have := HK2.out; have := HK3.out; omega
        case rel => exact ⟨(wrap64 (x61_3 + 1)), (t146), (t147), (t148), (t149), (t150), (t151), (t152), (t153), (t155), (t156), (t157), (t158), (t159), (t160), (t161), (t162), (by first | rfl | (simp; done) | (simp [*]; done)), H', ⟨by have := HJ3.out; have := HK2.out; have := HK3.out; omega⟩, ⟨by (with_reducible repeat (first | apply rA | apply rN | apply rD)); exact Kd.R_mono (Kd.R_far (p := ⟨gb144, 7, none⟩) (Kd.R_far (p := ⟨gb144, 6, none⟩) (Kd.R_far (p := ⟨gb144, 5, none⟩) (Kd.R_far (p := ⟨gb144, 4, none⟩) (Kd.R_far (p := ⟨gb144, 3, none⟩) (Kd.R_far (p := ⟨gb144, 2, none⟩) (Kd.R_far (p := ⟨gb144, 1, none⟩) (Kd.R_far (p := ⟨gb144, 0, none⟩) (Kd.R_mono HO_7.out (fun k_ hk => (⟨hk, hk.2⟩ : _ ∧ k_ ≠ gb144))) (fun _ hk => hk.2) (.string t155)) (fun _ hk => hk.2) (.int .u64 t156)) (fun _ hk => hk.2) (.int .u32 t157)) (fun _ hk => hk.2) (.int .u8 t158)) (fun _ hk => hk.2) (.int .u8 t159)) (fun _ hk => hk.2) (.int .u32 t160)) (fun _ hk => hk.2) (.int .u64 t161)) (fun _ hk => hk.2) (.string t162)) (fun _ hk => ⟨hk.1.1, hk.1.2⟩)⟩, ⟨by (with_reducible repeat (first | refine bN ?_ _ | refine bD ?_ | refine bA ?_ _)); refine blk_far ?_ NB143_144.out _; (with_reducible repeat (first | refine bN ?_ _ | refine bD ?_ | refine bA ?_ _)); refine blk_far ?_ NB143_144.out _; (with_reducible repeat (first | refine bN ?_ _ | refine bD ?_ | refine bA ?_ _)); refine blk_far ?_ NB143_144.out _; (with_reducible repeat (first | refine bN ?_ _ | refine bD ?_ | refine bA ?_ _)); refine blk_far ?_ NB143_144.out _; (with_reducible repeat (first | refine bN ?_ _ | refine bD ?_ | refine bA ?_ _)); refine blk_far ?_ NB143_144.out _; (with_reducible repeat (first | refine bN ?_ _ | refine bD ?_ | refine bA ?_ _)); refine blk_far ?_ NB143_144.out _; (with_reducible repeat (first | refine bN ?_ _ | refine bD ?_ | refine bA ?_ _)); refine blk_far ?_ NB143_144.out _; (with_reducible repeat (first | refine bN ?_ _ | refine bD ?_ | refine bA ?_ _)); refine blk_far ?_ NB143_144.out _; (with_reducible repeat (first | refine bN ?_ _ | refine bD ?_ | refine bA ?_ _)); exact BK143.out⟩, ⟨by (with_reducible repeat (first | refine bN ?_ _ | refine bD ?_ | refine bA ?_ _)); refine blk_put (cs := #[.string t155, .int .u64 t156, .int .u32 t157, .int .u8 t158, .int .u8 t159, .int .u32 t160, .int .u64 t161, .string x145007_3]) ?_ 7 _ rfl; (with_reducible repeat (first | refine bN ?_ _ | refine bD ?_ | refine bA ?_ _)); refine blk_put (cs := #[.string t155, .int .u64 t156, .int .u32 t157, .int .u8 t158, .int .u8 t159, .int .u32 t160, .int .u64 x145006_3, .string x145007_3]) ?_ 6 _ rfl; (with_reducible repeat (first | refine bN ?_ _ | refine bD ?_ | refine bA ?_ _)); refine blk_put (cs := #[.string t155, .int .u64 t156, .int .u32 t157, .int .u8 t158, .int .u8 t159, .int .u32 x145005_3, .int .u64 x145006_3, .string x145007_3]) ?_ 5 _ rfl; (with_reducible repeat (first | refine bN ?_ _ | refine bD ?_ | refine bA ?_ _)); refine blk_put (cs := #[.string t155, .int .u64 t156, .int .u32 t157, .int .u8 t158, .int .u8 x145004_3, .int .u32 x145005_3, .int .u64 x145006_3, .string x145007_3]) ?_ 4 _ rfl; (with_reducible repeat (first | refine bN ?_ _ | refine bD ?_ | refine bA ?_ _)); refine blk_put (cs := #[.string t155, .int .u64 t156, .int .u32 t157, .int .u8 x145003_3, .int .u8 x145004_3, .int .u32 x145005_3, .int .u64 x145006_3, .string x145007_3]) ?_ 3 _ rfl; (with_reducible repeat (first | refine bN ?_ _ | refine bD ?_ | refine bA ?_ _)); refine blk_put (cs := #[.string t155, .int .u64 t156, .int .u32 x145002_3, .int .u8 x145003_3, .int .u8 x145004_3, .int .u32 x145005_3, .int .u64 x145006_3, .string x145007_3]) ?_ 2 _ rfl; (with_reducible repeat (first | refine bN ?_ _ | refine bD ?_ | refine bA ?_ _)); refine blk_put (cs := #[.string t155, .int .u64 x145001_3, .int .u32 x145002_3, .int .u8 x145003_3, .int .u8 x145004_3, .int .u32 x145005_3, .int .u64 x145006_3, .string x145007_3]) ?_ 1 _ rfl; (with_reducible repeat (first | refine bN ?_ _ | refine bD ?_ | refine bA ?_ _)); refine blk_put (cs := #[.string x145000_3, .int .u64 x145001_3, .int .u32 x145002_3, .int .u8 x145003_3, .int .u8 x145004_3, .int .u32 x145005_3, .int .u64 x145006_3, .string x145007_3]) ?_ 0 _ rfl; (with_reducible repeat (first | refine bN ?_ _ | refine bD ?_ | refine bA ?_ _)); exact BK144.out⟩, ⟨by repeat (first | (with_reducible first | exact HB.out | apply qA | apply qN | apply qD | refine below_set ?_ GE143.out | refine below_set ?_ GE144.out) | exact HB.out)⟩⟩
       rw [if_neg c58] at H
       have c58b0 : decide (x61_3 < (x7_2.length : Int)) = false := decide_eq_false c58
       clear c58
       have H' := Aside0.mk H
       clear H
       go_wp2
       go_loopg [87] k3 (fun kq v87 w' => ∃ (x87_4 : Int), v87 = .int .i64 x87_4 ∧ Aside0 (tattlerlaw06_RecJoins.l2 kq x7_2 (x7_2.length : Int) x87_4 x144000_3 x144001_3 x144002_3 x144003_3 x144004_3 x144005_3 x144006_3 x144007_3 x145000_3 x145001_3 x145002_3 x145003_3 x145004_3 x145005_3 x145006_3 x145007_3 = some r) ∧ Aside0 (kq ≤ k3) ∧ Aside0 (Kd.R k27 27 w' w.heap.size (fun k_ => k_ ≠ gb143 ∧ k_ ≠ gb144) (.slice (some ad141) x7_2.length co37) x7_2) ∧ Aside0 (w'.heap[gb143]? = some (.cells #[.string x144000_3, .int .u64 x144001_3, .int .u32 x144002_3, .int .u8 x144003_3, .int .u8 x144004_3, .int .u32 x144005_3, .int .u64 x144006_3, .string x144007_3] 27 (0, 0))) ∧ Aside0 (w'.heap[gb144]? = some (.cells #[.string x145000_3, .int .u64 x145001_3, .int .u32 x145002_3, .int .u8 x145003_3, .int .u8 x145004_3, .int .u32 x145005_3, .int .u64 x145006_3, .string x145007_3] 27 (0, 0))) ∧ Aside0 (Below w.heap.size w w'))
       case atStart => exact ⟨(0), (by first | rfl | (simp; done) | (simp [*]; done)), H', ⟨Nat.le_refl _⟩, ⟨by (with_reducible repeat (first | apply rA | apply rN | apply rD)); exact HO_7.out⟩, ⟨by (with_reducible repeat (first | refine bN ?_ _ | refine bD ?_ | refine bA ?_ _)); exact BK143.out⟩, ⟨by (with_reducible repeat (first | refine bN ?_ _ | refine bD ?_ | refine bA ?_ _)); exact BK144.out⟩, ⟨by repeat (first | (with_reducible first | exact HB.out | apply qA | apply qN | apply qD | refine below_set ?_ GE143.out | refine below_set ?_ GE144.out) | exact HB.out)⟩⟩
       case round =>
        clear H'
        try clear c1
        try clear p1
        try clear q1
        try clear hx1
        try clear qi1
        try clear c2
        try clear p2
        try clear c3
        try clear c5
        try clear c5b0
        try clear c5b1
        try clear c6
        try clear c6b0
        try clear c6b1
        try clear p6
        try clear c7
        try clear c8
        try clear c10
        try clear c10b0
        try clear c11
        try clear c11b0
        try clear c12
        try clear c12b0
        try clear p13
        try clear q13
        try clear hx13
        try clear c14
        try clear p14
        try clear q14
        try clear hx14
        try clear qi14
        try clear c15
        try clear p15
        try clear q15
        try clear hx15
        try clear c23
        try clear c32
        try clear c32b0
        try clear c32b1
        try clear c32b2
        try clear c33
        try clear c33b0
        try clear c33b1
        try clear c35
        try clear c35b0
        try clear c36
        try clear c36b0
        try clear c58
        try clear c58b0
        try clear c59
        try clear c59b0
        try clear c60
        try clear c60b0
        try clear c62
        try clear c62b0
        try clear c62b1
        try clear c62b2
        try clear c64
        try clear c64b0
        try clear p64
        try clear c65
        try clear c65b0
        try clear hcz17_0
        try clear hcz17_1
        try clear hcz17_2
        try clear hcz17_3
        try clear hcz17_4
        try clear hcz17_5
        try clear hcz17_6
        try clear hcz17_7
        try clear hcz25_0
        try clear hcz25_1
        try clear hcz25_2
        try clear hcz25_3
        try clear hcz25_4
        try clear hcz25_5
        try clear hcz25_6
        try clear hcz25_7
        try clear hcz30_0
        try clear hcz30_1
        try clear hcz30_2
        try clear hcz30_3
        try clear hcz30_4
        try clear hcz30_5
        try clear hcz30_6
        try clear hcz30_7
        try clear hfz17_0
        try clear hfz17_1
        try clear hfz17_2
        try clear hfz17_3
        try clear hfz17_4
        try clear hfz17_5
        try clear hfz17_6
        try clear hfz17_7
        try clear hfz25_0
        try clear hfz25_1
        try clear hfz25_2
        try clear hfz25_3
        try clear hfz25_4
        try clear hfz25_5
        try clear hfz25_6
        try clear hfz25_7
        try clear hfz30_0
        try clear hfz30_1
        try clear hfz30_2
        try clear hfz30_3
        try clear hfz30_4
        try clear hfz30_5
        try clear hfz30_6
        try clear hfz30_7
        try clear hx131_0
        try clear hx131_1
        try clear hx131_2
        try clear hx131_3
        try clear hx131_4
        try clear hx131_5
        try clear hx131_6
        try clear hx131_7
        try clear hx141_0
        try clear hx141_1
        try clear hx141_2
        try clear hx141_3
        try clear hx141_4
        try clear hx141_5
        try clear hx141_6
        try clear hx141_7
        try clear hx142_0
        try clear hx142_1
        try clear hx142_2
        try clear hx142_3
        try clear hx142_4
        try clear hx142_5
        try clear hx142_6
        try clear hx142_7
        try clear hx145_0
        try clear hx145_1
        try clear hx145_2
        try clear hx145_3
        try clear hx145_4
        try clear hx145_5
        try clear hx145_6
        try clear hx145_7
        try clear hx154_0
        try clear hx154_1
        try clear hx154_2
        try clear hx154_3
        try clear hx154_4
        try clear hx154_5
        try clear hx154_6
        try clear hx154_7
        try clear p1
        try clear p13
        try clear p131
        try clear p14
        try clear p141
        try clear p142
        try clear p145
        try clear p154
        try clear p2
        try clear p6
        try clear q1
        try clear q13
        try clear q131
        try clear q14
        try clear q141
        try clear q142
        try clear q145
        try clear q154
        obtain ⟨x87_4, rfl, HA, HK4, HO_85, BK143, BK144, HB⟩ := hrel
        cases gk with
        | zero => exact absurd HA.out (by simp [tattlerlaw06_RecJoins.l2])
        | succ k4 =>
         have H := HA.out
         clear HA
         simp only [tattlerlaw06_RecJoins.l2] at H
         by_cases c88 : x87_4 < (x7_2.length : Int)
         rotate_left
         ·
          rw [if_neg c88] at H
          have c88b0 : decide (x87_4 < (x7_2.length : Int)) = false := decide_eq_false c88
          clear c88
          replace H := Option.bind_eq_some_iff.mp H
          obtain ⟨t163, A1180, H⟩ := H
          replace H : (if t163 = true then (some (x144000_3.toList == x145000_3.toList && ((x144001_3 == x145001_3 && (x144002_3 == x145002_3 && (x144003_3 == x145003_3))) && (x144004_3 == x145004_3 && (x144005_3 == x145005_3 && (x144006_3 == x145006_3 && (x144007_3.toList == x145007_3.toList))))))) else (some false)) = some r := H
          have A118 := Aside0.mk A1180
          clear A1180
          by_cases c119 : t163 = true
          rotate_left
          ·
           replace c119 := Bool.eq_false_iff.mpr c119
           subst c119
           have H1 : (some false) = some r := by rw [if_neg (show ¬ (false = true) by decide)] at H; exact H
           clear H
           have H := H1
           clear H1
           obtain rfl := Option.some.inj H
           go_wp2_with (first | ((with_reducible refine gate_callee (f := 11) rfl ?_); refine goesL_ (some 103) rfl rfl Try.func11 (by kernel_rfl) rfl #[] rfl (by (try simp only [List.map_toArray, List.map_cons, List.map_nil]); first | done | rfl | (simp only [List.length_drop, List.length_take]; rfl)) ?_; (with_reducible refine (tattlerlaw06_fixed.calls  false _ A118.out).mono ?_); rintro e w124 ⟨rfl, hb⟩; refine ⟨_, rfl, ?_⟩; have n0_ := Aside0.mk (Kd.R_below (by (with_reducible repeat (first | apply rA | apply rN | apply rD)); exact HO_85.out) hb); have n1_ := Aside0.mk (blk_below (g := gb143) (o := .cells #[.string x144000_3, .int .u64 x144001_3, .int .u32 x144002_3, .int .u8 x144003_3, .int .u8 x144004_3, .int .u32 x144005_3, .int .u64 x144006_3, .string x144007_3] 27 (0, 0)) (by (with_reducible repeat (first | refine bN ?_ _ | refine bD ?_ | refine bA ?_ _)); exact BK143.out) hb); have n2_ := Aside0.mk (blk_below (g := gb144) (o := .cells #[.string x145000_3, .int .u64 x145001_3, .int .u32 x145002_3, .int .u8 x145003_3, .int .u8 x145004_3, .int .u32 x145005_3, .int .u64 x145006_3, .string x145007_3] 27 (0, 0)) (by (with_reducible repeat (first | refine bN ?_ _ | refine bD ?_ | refine bA ?_ _)); exact BK144.out) hb); have n3_ := Aside0.mk (below_step (by repeat (first | (with_reducible first | exact HB.out | apply qA | apply qN | apply qD | refine below_set ?_ GE143.out | refine below_set ?_ GE144.out) | exact HB.out)) hb); clear HO_85; clear BK143; clear BK144; clear HB; have HO_85 := n0_; have BK143 := n1_; have BK144 := n2_; have HB := n3_; clear n0_ n1_ n2_ n3_; (try clear hb); (try clear hb2); (try clear hk); (try clear hi)))
           go_ret
           exact ⟨by first | rfl | (simp [errW_none, errW_some] <;> rfl) | (simp only [← hji34]; first | rfl | (simp [errW_none, errW_some] <;> rfl)) | (simp [*, errW_none, errW_some] <;> rfl), by repeat (first | (with_reducible first | exact HB.out | apply qA | apply qN | apply qD | refine below_set ?_ GE143.out | refine below_set ?_ GE144.out) | exact HB.out)⟩
          subst c119
          have H1 : (some (x144000_3.toList == x145000_3.toList && ((x144001_3 == x145001_3 && (x144002_3 == x145002_3 && (x144003_3 == x145003_3))) && (x144004_3 == x145004_3 && (x144005_3 == x145005_3 && (x144006_3 == x145006_3 && (x144007_3.toList == x145007_3.toList))))))) = some r := by rw [if_pos rfl] at H; exact H
          clear H
          have H := H1
          clear H1
          obtain rfl := Option.some.inj H
          go_wp2_with (first | ((with_reducible refine gate_callee (f := 11) rfl ?_); refine goesL_ (some 103) rfl rfl Try.func11 (by kernel_rfl) rfl #[] rfl (by (try simp only [List.map_toArray, List.map_cons, List.map_nil]); first | done | rfl | (simp only [List.length_drop, List.length_take]; rfl)) ?_; (with_reducible refine (tattlerlaw06_fixed.calls  true _ A118.out).mono ?_); rintro e w120 ⟨rfl, hb⟩; refine ⟨_, rfl, ?_⟩; have n0_ := Aside0.mk (Kd.R_below (by (with_reducible repeat (first | apply rA | apply rN | apply rD)); exact HO_85.out) hb); have n1_ := Aside0.mk (blk_below (g := gb143) (o := .cells #[.string x144000_3, .int .u64 x144001_3, .int .u32 x144002_3, .int .u8 x144003_3, .int .u8 x144004_3, .int .u32 x144005_3, .int .u64 x144006_3, .string x144007_3] 27 (0, 0)) (by (with_reducible repeat (first | refine bN ?_ _ | refine bD ?_ | refine bA ?_ _)); exact BK143.out) hb); have n2_ := Aside0.mk (blk_below (g := gb144) (o := .cells #[.string x145000_3, .int .u64 x145001_3, .int .u32 x145002_3, .int .u8 x145003_3, .int .u8 x145004_3, .int .u32 x145005_3, .int .u64 x145006_3, .string x145007_3] 27 (0, 0)) (by (with_reducible repeat (first | refine bN ?_ _ | refine bD ?_ | refine bA ?_ _)); exact BK144.out) hb); have n3_ := Aside0.mk (below_step (by repeat (first | (with_reducible first | exact HB.out | apply qA | apply qN | apply qD | refine below_set ?_ GE143.out | refine below_set ?_ GE144.out) | exact HB.out)) hb); clear HO_85; clear BK143; clear BK144; clear HB; have HO_85 := n0_; have BK143 := n1_; have BK144 := n2_; have HB := n3_; clear n0_ n1_ n2_ n3_; (try clear hb); (try clear hb2); (try clear hk); (try clear hi); have hnb121 := NB143_144.out; have hnc121 := NB144_143.out; have hcz122_0 : w120.cell? ⟨gb143, 0, none⟩ = some (.string x144000_3) := (blk_cell BK143.out 0).trans rfl; have hcz122_1 : w120.cell? ⟨gb143, 1, none⟩ = some (.int .u64 x144001_3) := (blk_cell BK143.out 1).trans rfl; have hcz122_2 : w120.cell? ⟨gb143, 2, none⟩ = some (.int .u32 x144002_3) := (blk_cell BK143.out 2).trans rfl; have hcz122_3 : w120.cell? ⟨gb143, 3, none⟩ = some (.int .u8 x144003_3) := (blk_cell BK143.out 3).trans rfl; have hcz122_4 : w120.cell? ⟨gb143, 4, none⟩ = some (.int .u8 x144004_3) := (blk_cell BK143.out 4).trans rfl; have hcz122_5 : w120.cell? ⟨gb143, 5, none⟩ = some (.int .u32 x144005_3) := (blk_cell BK143.out 5).trans rfl; have hcz122_6 : w120.cell? ⟨gb143, 6, none⟩ = some (.int .u64 x144006_3) := (blk_cell BK143.out 6).trans rfl; have hcz122_7 : w120.cell? ⟨gb143, 7, none⟩ = some (.string x144007_3) := (blk_cell BK143.out 7).trans rfl; have hfz122_0 := blk_frozen BK143.out 0; have hfz122_1 := blk_frozen BK143.out 1; have hfz122_2 := blk_frozen BK143.out 2; have hfz122_3 := blk_frozen BK143.out 3; have hfz122_4 := blk_frozen BK143.out 4; have hfz122_5 := blk_frozen BK143.out 5; have hfz122_6 := blk_frozen BK143.out 6; have hfz122_7 := blk_frozen BK143.out 7; have hcz123_0 : w120.cell? ⟨gb144, 0, none⟩ = some (.string x145000_3) := (blk_cell BK144.out 0).trans rfl; have hcz123_1 : w120.cell? ⟨gb144, 1, none⟩ = some (.int .u64 x145001_3) := (blk_cell BK144.out 1).trans rfl; have hcz123_2 : w120.cell? ⟨gb144, 2, none⟩ = some (.int .u32 x145002_3) := (blk_cell BK144.out 2).trans rfl; have hcz123_3 : w120.cell? ⟨gb144, 3, none⟩ = some (.int .u8 x145003_3) := (blk_cell BK144.out 3).trans rfl; have hcz123_4 : w120.cell? ⟨gb144, 4, none⟩ = some (.int .u8 x145004_3) := (blk_cell BK144.out 4).trans rfl; have hcz123_5 : w120.cell? ⟨gb144, 5, none⟩ = some (.int .u32 x145005_3) := (blk_cell BK144.out 5).trans rfl; have hcz123_6 : w120.cell? ⟨gb144, 6, none⟩ = some (.int .u64 x145006_3) := (blk_cell BK144.out 6).trans rfl; have hcz123_7 : w120.cell? ⟨gb144, 7, none⟩ = some (.string x145007_3) := (blk_cell BK144.out 7).trans rfl; have hfz123_0 := blk_frozen BK144.out 0; have hfz123_1 := blk_frozen BK144.out 1; have hfz123_2 := blk_frozen BK144.out 2; have hfz123_3 := blk_frozen BK144.out 3; have hfz123_4 := blk_frozen BK144.out 4; have hfz123_5 := blk_frozen BK144.out 5; have hfz123_6 := blk_frozen BK144.out 6; have hfz123_7 := blk_frozen BK144.out 7))
          go_ret
          exact ⟨by first | rfl | (simp [errW_none, errW_some] <;> rfl) | (simp only [← hji34]; first | rfl | (simp [errW_none, errW_some] <;> rfl)) | (simp [*, errW_none, errW_some] <;> rfl), by repeat (first | (with_reducible first | exact HB.out | apply qA | apply qN | apply qD | refine below_set ?_ GE143.out | refine below_set ?_ GE144.out) | exact HB.out)⟩
         rw [if_pos c88] at H
         have c88b0 : decide (x87_4 < (x7_2.length : Int)) = true := decide_eq_true c88
         clear c88
         by_cases c89 : 0 ≤ x87_4
         rotate_left
         ·
          rw [if_neg c89] at H
          exact absurd H (by simp)
         rw [if_pos c89] at H
         have c89b0 : decide (0 ≤ x87_4) = true := decide_eq_true c89
         clear c89
         by_cases c90 : x87_4 < (x7_2.length : Int)
         rotate_left
         ·
          rw [if_neg c90] at H
          exact absurd H (by simp)
         rw [if_pos c90] at H
         have c90b0 : decide (x87_4 < (x7_2.length : Int)) = true := decide_eq_true c90
         clear c90
         replace H := Option.bind_eq_some_iff.mp H
         obtain ⟨t166, A910, H⟩ := H
         replace H : (if t166 > 0 then (some false) else ((rec_Join.f ((rd_T27 x7_2 x87_4).f0) ((rd_T27 x7_2 x87_4).f1.f0) ((rd_T27 x7_2 x87_4).f1.f1) ((rd_T27 x7_2 x87_4).f1.f2) ((rd_T27 x7_2 x87_4).f2) ((rd_T27 x7_2 x87_4).f3) ((rd_T27 x7_2 x87_4).f4) ((rd_T27 x7_2 x87_4).f5) ((rd_T27 x7_2 x87_4).f0) ((rd_T27 x7_2 x87_4).f1.f0) ((rd_T27 x7_2 x87_4).f1.f1) ((rd_T27 x7_2 x87_4).f1.f2) ((rd_T27 x7_2 x87_4).f2) ((rd_T27 x7_2 x87_4).f3) ((rd_T27 x7_2 x87_4).f4) ((rd_T27 x7_2 x87_4).f5)).bind fun bt167 => (if (!(bt167.1.toList == (((rd_T27 x7_2 x87_4).f0).toList)) || ((!(bt167.2.1 == ((rd_T27 x7_2 x87_4).f1.f0)) || (!(bt167.2.2.1 == ((rd_T27 x7_2 x87_4).f1.f1)) || (!(bt167.2.2.2.1 == ((rd_T27 x7_2 x87_4).f1.f2))))) || (!(bt167.2.2.2.2.1 == ((rd_T27 x7_2 x87_4).f2)) || (!(bt167.2.2.2.2.2.1 == ((rd_T27 x7_2 x87_4).f3)) || (!(bt167.2.2.2.2.2.2.1 == ((rd_T27 x7_2 x87_4).f4)) || (!(bt167.2.2.2.2.2.2.2.toList == (((rd_T27 x7_2 x87_4).f5).toList)))))))) = true then (some false) else (tattlerlaw06_RecJoins.l2 k4 x7_2 (x7_2.length : Int) (wrap64 (x87_4 + 1)) x144000_3 x144001_3 x144002_3 x144003_3 x144004_3 x144005_3 x144006_3 x144007_3 x145000_3 x145001_3 x145002_3 x145003_3 x145004_3 x145005_3 x145006_3 x145007_3)))) = some r := H
         have A91 := Aside0.mk A910
         clear A910
         by_cases c92 : t166 > 0
         ·
          rw [if_pos c92] at H
          have c92b0 : decide (0 < t166) = true := decide_eq_true c92
          clear c92
          obtain rfl := Option.some.inj H
          have p164 : 0 ≤ (x87_4 : Int) := of_decide_eq_true (by first | (with_reducible assumption) | assumption)
          have q164 : x87_4 < (x7_2.length : Int) := of_decide_eq_true (by first | (with_reducible assumption) | assumption)
          obtain ⟨ad164, e164, hx164_0, hx164_1, hx164_2, hx164_3, hx164_4, hx164_5, hx164_6, hx164_7⟩ := at_T27 (Kd.R_reads' HO_85.out).2.2 x87_4 p164 q164
          obtain rfl : ad141 = ad164 := (by injection e164)
          replace p164 := eq_true p164
          replace q164 := eq_true q164
          try go_wp2_with (first | ((with_reducible refine gate_dst (N := 15) rfl ?_); (try (refine gate_guard (by rfl) ?_; dsimp only)); refine box_event ?hg (N := 15) ?hd (cs := #[.string (⟨#[]⟩ : ByteArray), .int .u64 0, .int .u32 0, .int .u8 0, .int .u8 0, .int .u32 0, .int .u64 0, .string (⟨#[]⟩ : ByteArray)]) (t := 27) ?hr ?_; (case hd => rfl); (case hg => rfl); (case hr => first | (go_simp; done) | (go_simp; rfl)); intro gb165 hg w93 hbox hb; have n0_ := Aside0.mk (Kd.R_below (Kd.R_elderB (by (with_reducible repeat (first | apply rA | apply rN | apply rD)); exact HO_85.out) gb165 (Nat.le_of_eq hg.symm)) hb); have n1_ := Aside0.mk (blk_below (g := gb143) (o := .cells #[.string x144000_3, .int .u64 x144001_3, .int .u32 x144002_3, .int .u8 x144003_3, .int .u8 x144004_3, .int .u32 x144005_3, .int .u64 x144006_3, .string x144007_3] 27 (0, 0)) (by (with_reducible repeat (first | refine bN ?_ _ | refine bD ?_ | refine bA ?_ _)); exact BK143.out) hb); have n2_ := Aside0.mk (blk_below (g := gb144) (o := .cells #[.string x145000_3, .int .u64 x145001_3, .int .u32 x145002_3, .int .u8 x145003_3, .int .u8 x145004_3, .int .u32 x145005_3, .int .u64 x145006_3, .string x145007_3] 27 (0, 0)) (by (with_reducible repeat (first | refine bN ?_ _ | refine bD ?_ | refine bA ?_ _)); exact BK144.out) hb); have n3_ := Aside0.mk (below_step (by repeat (first | (with_reducible first | exact HB.out | apply qA | apply qN | apply qD | refine below_set ?_ GE143.out | refine below_set ?_ GE144.out) | exact HB.out)) hb); have n4_ := Aside0.mk (hbox); have n5_ := Aside0.mk ((by rw [hg]; exact (below_size (by repeat (first | (with_reducible first | exact HB.out | apply qA | apply qN | apply qD | refine below_set ?_ GE143.out | refine below_set ?_ GE144.out) | exact HB.out))) : w.heap.size ≤ gb165)); have n6_ := Aside0.mk ((by rw [hg]; exact (below_size (by repeat (first | (with_reducible first | exact HB.out | apply qA | apply qN | apply qD | refine below_set ?_ GE143.out | refine below_set ?_ GE144.out) | exact HB.out))) : w.heap.size ≤ gb165)); have n7_ := Aside0.mk ((by rw [hg]; exact Nat.ne_of_lt (blk_lt (g := gb143) (o := .cells #[.string x144000_3, .int .u64 x144001_3, .int .u32 x144002_3, .int .u8 x144003_3, .int .u8 x144004_3, .int .u32 x144005_3, .int .u64 x144006_3, .string x144007_3] 27 (0, 0)) (by (with_reducible repeat (first | refine bN ?_ _ | refine bD ?_ | refine bA ?_ _)); exact BK143.out)) : gb143 ≠ gb165)); have n8_ := Aside0.mk ((by rw [hg]; exact Nat.ne_of_gt (blk_lt (g := gb143) (o := .cells #[.string x144000_3, .int .u64 x144001_3, .int .u32 x144002_3, .int .u8 x144003_3, .int .u8 x144004_3, .int .u32 x144005_3, .int .u64 x144006_3, .string x144007_3] 27 (0, 0)) (by (with_reducible repeat (first | refine bN ?_ _ | refine bD ?_ | refine bA ?_ _)); exact BK143.out)) : gb165 ≠ gb143)); have n9_ := Aside0.mk ((by rw [hg]; exact Nat.ne_of_lt (blk_lt (g := gb144) (o := .cells #[.string x145000_3, .int .u64 x145001_3, .int .u32 x145002_3, .int .u8 x145003_3, .int .u8 x145004_3, .int .u32 x145005_3, .int .u64 x145006_3, .string x145007_3] 27 (0, 0)) (by (with_reducible repeat (first | refine bN ?_ _ | refine bD ?_ | refine bA ?_ _)); exact BK144.out)) : gb144 ≠ gb165)); have n10_ := Aside0.mk ((by rw [hg]; exact Nat.ne_of_gt (blk_lt (g := gb144) (o := .cells #[.string x145000_3, .int .u64 x145001_3, .int .u32 x145002_3, .int .u8 x145003_3, .int .u8 x145004_3, .int .u32 x145005_3, .int .u64 x145006_3, .string x145007_3] 27 (0, 0)) (by (with_reducible repeat (first | refine bN ?_ _ | refine bD ?_ | refine bA ?_ _)); exact BK144.out)) : gb165 ≠ gb144)); clear HO_85; clear BK143; clear BK144; clear HB; have HO_85 := n0_; have BK143 := n1_; have BK144 := n2_; have HB := n3_; have BK165 := n4_; have GW165 := n5_; have GE165 := n6_; have NB143_165 := n7_; have NB165_143 := n8_; have NB144_165 := n9_; have NB165_144 := n10_; clear n0_ n1_ n2_ n3_ n4_ n5_ n6_ n7_ n8_ n9_ n10_; clear hb hbox hg; have hnb94 := NB165_143.out; have hnc94 := NB143_165.out; have hnb95 := NB165_144.out; have hnc95 := NB144_165.out; have hcz96_0 : w93.cell? ⟨gb165, 0, none⟩ = some (.string (⟨#[]⟩ : ByteArray)) := (blk_cell BK165.out 0).trans rfl; have hcz96_1 : w93.cell? ⟨gb165, 1, none⟩ = some (.int .u64 0) := (blk_cell BK165.out 1).trans rfl; have hcz96_2 : w93.cell? ⟨gb165, 2, none⟩ = some (.int .u32 0) := (blk_cell BK165.out 2).trans rfl; have hcz96_3 : w93.cell? ⟨gb165, 3, none⟩ = some (.int .u8 0) := (blk_cell BK165.out 3).trans rfl; have hcz96_4 : w93.cell? ⟨gb165, 4, none⟩ = some (.int .u8 0) := (blk_cell BK165.out 4).trans rfl; have hcz96_5 : w93.cell? ⟨gb165, 5, none⟩ = some (.int .u32 0) := (blk_cell BK165.out 5).trans rfl; have hcz96_6 : w93.cell? ⟨gb165, 6, none⟩ = some (.int .u64 0) := (blk_cell BK165.out 6).trans rfl; have hcz96_7 : w93.cell? ⟨gb165, 7, none⟩ = some (.string (⟨#[]⟩ : ByteArray)) := (blk_cell BK165.out 7).trans rfl; have hfz96_0 := blk_frozen BK165.out 0; have hfz96_1 := blk_frozen BK165.out 1; have hfz96_2 := blk_frozen BK165.out 2; have hfz96_3 := blk_frozen BK165.out 3; have hfz96_4 := blk_frozen BK165.out 4; have hfz96_5 := blk_frozen BK165.out 5; have hfz96_6 := blk_frozen BK165.out 6; have hfz96_7 := blk_frozen BK165.out 7))
          have n0_ : Aside0 (Kd.R k27 27 ((((((((w93.setCell ⟨gb165, 0, none⟩ (.string ((rd_T27 x7_2 x87_4).f0))).setCell ⟨gb165, 1, none⟩ (.int .u64 ((rd_T27 x7_2 x87_4).f1.f0))).setCell ⟨gb165, 2, none⟩ (.int .u32 ((rd_T27 x7_2 x87_4).f1.f1))).setCell ⟨gb165, 3, none⟩ (.int .u8 ((rd_T27 x7_2 x87_4).f1.f2))).setCell ⟨gb165, 4, none⟩ (.int .u8 ((rd_T27 x7_2 x87_4).f2))).setCell ⟨gb165, 5, none⟩ (.int .u32 ((rd_T27 x7_2 x87_4).f3))).setCell ⟨gb165, 6, none⟩ (.int .u64 ((rd_T27 x7_2 x87_4).f4))).setCell ⟨gb165, 7, none⟩ (.string ((rd_T27 x7_2 x87_4).f5))) w.heap.size (fun k_ => k_ ≠ gb143 ∧ k_ ≠ gb144 ∧ k_ ≠ gb165) (.slice (some ad141) x7_2.length co37) x7_2) := ⟨by (with_reducible repeat (first | apply rA | apply rN | apply rD)); exact Kd.R_mono (Kd.R_far (p := ⟨gb165, 7, none⟩) (Kd.R_far (p := ⟨gb165, 6, none⟩) (Kd.R_far (p := ⟨gb165, 5, none⟩) (Kd.R_far (p := ⟨gb165, 4, none⟩) (Kd.R_far (p := ⟨gb165, 3, none⟩) (Kd.R_far (p := ⟨gb165, 2, none⟩) (Kd.R_far (p := ⟨gb165, 1, none⟩) (Kd.R_far (p := ⟨gb165, 0, none⟩) (Kd.R_mono HO_85.out (fun k_ hk => (⟨hk, hk.2⟩ : _ ∧ k_ ≠ gb165))) (fun _ hk => hk.2) (.string ((rd_T27 x7_2 x87_4).f0))) (fun _ hk => hk.2) (.int .u64 ((rd_T27 x7_2 x87_4).f1.f0))) (fun _ hk => hk.2) (.int .u32 ((rd_T27 x7_2 x87_4).f1.f1))) (fun _ hk => hk.2) (.int .u8 ((rd_T27 x7_2 x87_4).f1.f2))) (fun _ hk => hk.2) (.int .u8 ((rd_T27 x7_2 x87_4).f2))) (fun _ hk => hk.2) (.int .u32 ((rd_T27 x7_2 x87_4).f3))) (fun _ hk => hk.2) (.int .u64 ((rd_T27 x7_2 x87_4).f4))) (fun _ hk => hk.2) (.string ((rd_T27 x7_2 x87_4).f5))) (fun _ hk => ⟨hk.1.1.1, ⟨hk.1.1.2, hk.1.2⟩⟩)⟩
          have n1_ : Aside0 (((((((((w93.setCell ⟨gb165, 0, none⟩ (.string ((rd_T27 x7_2 x87_4).f0))).setCell ⟨gb165, 1, none⟩ (.int .u64 ((rd_T27 x7_2 x87_4).f1.f0))).setCell ⟨gb165, 2, none⟩ (.int .u32 ((rd_T27 x7_2 x87_4).f1.f1))).setCell ⟨gb165, 3, none⟩ (.int .u8 ((rd_T27 x7_2 x87_4).f1.f2))).setCell ⟨gb165, 4, none⟩ (.int .u8 ((rd_T27 x7_2 x87_4).f2))).setCell ⟨gb165, 5, none⟩ (.int .u32 ((rd_T27 x7_2 x87_4).f3))).setCell ⟨gb165, 6, none⟩ (.int .u64 ((rd_T27 x7_2 x87_4).f4))).setCell ⟨gb165, 7, none⟩ (.string ((rd_T27 x7_2 x87_4).f5))).heap[gb143]? = some (.cells #[.string x144000_3, .int .u64 x144001_3, .int .u32 x144002_3, .int .u8 x144003_3, .int .u8 x144004_3, .int .u32 x144005_3, .int .u64 x144006_3, .string x144007_3] 27 (0, 0))) := ⟨by (with_reducible repeat (first | refine bN ?_ _ | refine bD ?_ | refine bA ?_ _)); refine blk_far ?_ NB143_165.out _; (with_reducible repeat (first | refine bN ?_ _ | refine bD ?_ | refine bA ?_ _)); refine blk_far ?_ NB143_165.out _; (with_reducible repeat (first | refine bN ?_ _ | refine bD ?_ | refine bA ?_ _)); refine blk_far ?_ NB143_165.out _; (with_reducible repeat (first | refine bN ?_ _ | refine bD ?_ | refine bA ?_ _)); refine blk_far ?_ NB143_165.out _; (with_reducible repeat (first | refine bN ?_ _ | refine bD ?_ | refine bA ?_ _)); refine blk_far ?_ NB143_165.out _; (with_reducible repeat (first | refine bN ?_ _ | refine bD ?_ | refine bA ?_ _)); refine blk_far ?_ NB143_165.out _; (with_reducible repeat (first | refine bN ?_ _ | refine bD ?_ | refine bA ?_ _)); refine blk_far ?_ NB143_165.out _; (with_reducible repeat (first | refine bN ?_ _ | refine bD ?_ | refine bA ?_ _)); refine blk_far ?_ NB143_165.out _; (with_reducible repeat (first | refine bN ?_ _ | refine bD ?_ | refine bA ?_ _)); exact BK143.out⟩
          have n2_ : Aside0 (((((((((w93.setCell ⟨gb165, 0, none⟩ (.string ((rd_T27 x7_2 x87_4).f0))).setCell ⟨gb165, 1, none⟩ (.int .u64 ((rd_T27 x7_2 x87_4).f1.f0))).setCell ⟨gb165, 2, none⟩ (.int .u32 ((rd_T27 x7_2 x87_4).f1.f1))).setCell ⟨gb165, 3, none⟩ (.int .u8 ((rd_T27 x7_2 x87_4).f1.f2))).setCell ⟨gb165, 4, none⟩ (.int .u8 ((rd_T27 x7_2 x87_4).f2))).setCell ⟨gb165, 5, none⟩ (.int .u32 ((rd_T27 x7_2 x87_4).f3))).setCell ⟨gb165, 6, none⟩ (.int .u64 ((rd_T27 x7_2 x87_4).f4))).setCell ⟨gb165, 7, none⟩ (.string ((rd_T27 x7_2 x87_4).f5))).heap[gb144]? = some (.cells #[.string x145000_3, .int .u64 x145001_3, .int .u32 x145002_3, .int .u8 x145003_3, .int .u8 x145004_3, .int .u32 x145005_3, .int .u64 x145006_3, .string x145007_3] 27 (0, 0))) := ⟨by (with_reducible repeat (first | refine bN ?_ _ | refine bD ?_ | refine bA ?_ _)); refine blk_far ?_ NB144_165.out _; (with_reducible repeat (first | refine bN ?_ _ | refine bD ?_ | refine bA ?_ _)); refine blk_far ?_ NB144_165.out _; (with_reducible repeat (first | refine bN ?_ _ | refine bD ?_ | refine bA ?_ _)); refine blk_far ?_ NB144_165.out _; (with_reducible repeat (first | refine bN ?_ _ | refine bD ?_ | refine bA ?_ _)); refine blk_far ?_ NB144_165.out _; (with_reducible repeat (first | refine bN ?_ _ | refine bD ?_ | refine bA ?_ _)); refine blk_far ?_ NB144_165.out _; (with_reducible repeat (first | refine bN ?_ _ | refine bD ?_ | refine bA ?_ _)); refine blk_far ?_ NB144_165.out _; (with_reducible repeat (first | refine bN ?_ _ | refine bD ?_ | refine bA ?_ _)); refine blk_far ?_ NB144_165.out _; (with_reducible repeat (first | refine bN ?_ _ | refine bD ?_ | refine bA ?_ _)); refine blk_far ?_ NB144_165.out _; (with_reducible repeat (first | refine bN ?_ _ | refine bD ?_ | refine bA ?_ _)); exact BK144.out⟩
          have n3_ : Aside0 (((((((((w93.setCell ⟨gb165, 0, none⟩ (.string ((rd_T27 x7_2 x87_4).f0))).setCell ⟨gb165, 1, none⟩ (.int .u64 ((rd_T27 x7_2 x87_4).f1.f0))).setCell ⟨gb165, 2, none⟩ (.int .u32 ((rd_T27 x7_2 x87_4).f1.f1))).setCell ⟨gb165, 3, none⟩ (.int .u8 ((rd_T27 x7_2 x87_4).f1.f2))).setCell ⟨gb165, 4, none⟩ (.int .u8 ((rd_T27 x7_2 x87_4).f2))).setCell ⟨gb165, 5, none⟩ (.int .u32 ((rd_T27 x7_2 x87_4).f3))).setCell ⟨gb165, 6, none⟩ (.int .u64 ((rd_T27 x7_2 x87_4).f4))).setCell ⟨gb165, 7, none⟩ (.string ((rd_T27 x7_2 x87_4).f5))).heap[gb165]? = some (.cells #[.string ((rd_T27 x7_2 x87_4).f0), .int .u64 ((rd_T27 x7_2 x87_4).f1.f0), .int .u32 ((rd_T27 x7_2 x87_4).f1.f1), .int .u8 ((rd_T27 x7_2 x87_4).f1.f2), .int .u8 ((rd_T27 x7_2 x87_4).f2), .int .u32 ((rd_T27 x7_2 x87_4).f3), .int .u64 ((rd_T27 x7_2 x87_4).f4), .string ((rd_T27 x7_2 x87_4).f5)] 27 (0, 0))) := ⟨by (with_reducible repeat (first | refine bN ?_ _ | refine bD ?_ | refine bA ?_ _)); refine blk_put (cs := #[.string ((rd_T27 x7_2 x87_4).f0), .int .u64 ((rd_T27 x7_2 x87_4).f1.f0), .int .u32 ((rd_T27 x7_2 x87_4).f1.f1), .int .u8 ((rd_T27 x7_2 x87_4).f1.f2), .int .u8 ((rd_T27 x7_2 x87_4).f2), .int .u32 ((rd_T27 x7_2 x87_4).f3), .int .u64 ((rd_T27 x7_2 x87_4).f4), .string (⟨#[]⟩ : ByteArray)]) ?_ 7 _ rfl; (with_reducible repeat (first | refine bN ?_ _ | refine bD ?_ | refine bA ?_ _)); refine blk_put (cs := #[.string ((rd_T27 x7_2 x87_4).f0), .int .u64 ((rd_T27 x7_2 x87_4).f1.f0), .int .u32 ((rd_T27 x7_2 x87_4).f1.f1), .int .u8 ((rd_T27 x7_2 x87_4).f1.f2), .int .u8 ((rd_T27 x7_2 x87_4).f2), .int .u32 ((rd_T27 x7_2 x87_4).f3), .int .u64 0, .string (⟨#[]⟩ : ByteArray)]) ?_ 6 _ rfl; (with_reducible repeat (first | refine bN ?_ _ | refine bD ?_ | refine bA ?_ _)); refine blk_put (cs := #[.string ((rd_T27 x7_2 x87_4).f0), .int .u64 ((rd_T27 x7_2 x87_4).f1.f0), .int .u32 ((rd_T27 x7_2 x87_4).f1.f1), .int .u8 ((rd_T27 x7_2 x87_4).f1.f2), .int .u8 ((rd_T27 x7_2 x87_4).f2), .int .u32 0, .int .u64 0, .string (⟨#[]⟩ : ByteArray)]) ?_ 5 _ rfl; (with_reducible repeat (first | refine bN ?_ _ | refine bD ?_ | refine bA ?_ _)); refine blk_put (cs := #[.string ((rd_T27 x7_2 x87_4).f0), .int .u64 ((rd_T27 x7_2 x87_4).f1.f0), .int .u32 ((rd_T27 x7_2 x87_4).f1.f1), .int .u8 ((rd_T27 x7_2 x87_4).f1.f2), .int .u8 0, .int .u32 0, .int .u64 0, .string (⟨#[]⟩ : ByteArray)]) ?_ 4 _ rfl; (with_reducible repeat (first | refine bN ?_ _ | refine bD ?_ | refine bA ?_ _)); refine blk_put (cs := #[.string ((rd_T27 x7_2 x87_4).f0), .int .u64 ((rd_T27 x7_2 x87_4).f1.f0), .int .u32 ((rd_T27 x7_2 x87_4).f1.f1), .int .u8 0, .int .u8 0, .int .u32 0, .int .u64 0, .string (⟨#[]⟩ : ByteArray)]) ?_ 3 _ rfl; (with_reducible repeat (first | refine bN ?_ _ | refine bD ?_ | refine bA ?_ _)); refine blk_put (cs := #[.string ((rd_T27 x7_2 x87_4).f0), .int .u64 ((rd_T27 x7_2 x87_4).f1.f0), .int .u32 0, .int .u8 0, .int .u8 0, .int .u32 0, .int .u64 0, .string (⟨#[]⟩ : ByteArray)]) ?_ 2 _ rfl; (with_reducible repeat (first | refine bN ?_ _ | refine bD ?_ | refine bA ?_ _)); refine blk_put (cs := #[.string ((rd_T27 x7_2 x87_4).f0), .int .u64 0, .int .u32 0, .int .u8 0, .int .u8 0, .int .u32 0, .int .u64 0, .string (⟨#[]⟩ : ByteArray)]) ?_ 1 _ rfl; (with_reducible repeat (first | refine bN ?_ _ | refine bD ?_ | refine bA ?_ _)); refine blk_put (cs := #[.string (⟨#[]⟩ : ByteArray), .int .u64 0, .int .u32 0, .int .u8 0, .int .u8 0, .int .u32 0, .int .u64 0, .string (⟨#[]⟩ : ByteArray)]) ?_ 0 _ rfl; (with_reducible repeat (first | refine bN ?_ _ | refine bD ?_ | refine bA ?_ _)); exact BK165.out⟩
          have n4_ : Aside0 (Below w.heap.size w ((((((((w93.setCell ⟨gb165, 0, none⟩ (.string ((rd_T27 x7_2 x87_4).f0))).setCell ⟨gb165, 1, none⟩ (.int .u64 ((rd_T27 x7_2 x87_4).f1.f0))).setCell ⟨gb165, 2, none⟩ (.int .u32 ((rd_T27 x7_2 x87_4).f1.f1))).setCell ⟨gb165, 3, none⟩ (.int .u8 ((rd_T27 x7_2 x87_4).f1.f2))).setCell ⟨gb165, 4, none⟩ (.int .u8 ((rd_T27 x7_2 x87_4).f2))).setCell ⟨gb165, 5, none⟩ (.int .u32 ((rd_T27 x7_2 x87_4).f3))).setCell ⟨gb165, 6, none⟩ (.int .u64 ((rd_T27 x7_2 x87_4).f4))).setCell ⟨gb165, 7, none⟩ (.string ((rd_T27 x7_2 x87_4).f5)))) := ⟨by repeat (first | (with_reducible first | exact HB.out | apply qA | apply qN | apply qD | refine below_set ?_ GE143.out | refine below_set ?_ GE144.out | refine below_set ?_ GE165.out) | exact HB.out)⟩
          (try clear HO_85)
          (try clear BK143)
          (try clear BK144)
          (try clear BK165)
          (try clear HB)
          generalize ((((((((w93.setCell ⟨gb165, 0, none⟩ (.string ((rd_T27 x7_2 x87_4).f0))).setCell ⟨gb165, 1, none⟩ (.int .u64 ((rd_T27 x7_2 x87_4).f1.f0))).setCell ⟨gb165, 2, none⟩ (.int .u32 ((rd_T27 x7_2 x87_4).f1.f1))).setCell ⟨gb165, 3, none⟩ (.int .u8 ((rd_T27 x7_2 x87_4).f1.f2))).setCell ⟨gb165, 4, none⟩ (.int .u8 ((rd_T27 x7_2 x87_4).f2))).setCell ⟨gb165, 5, none⟩ (.int .u32 ((rd_T27 x7_2 x87_4).f3))).setCell ⟨gb165, 6, none⟩ (.int .u64 ((rd_T27 x7_2 x87_4).f4))).setCell ⟨gb165, 7, none⟩ (.string ((rd_T27 x7_2 x87_4).f5))) = w97 at n0_ n1_ n2_ n3_ n4_ ⊢
          have HO_85 := n0_
          have BK143 := n1_
          have BK144 := n2_
          have BK165 := n3_
          have HB := n4_
          clear n0_ n1_ n2_ n3_ n4_
          have n0_ := Aside0.mk (Kd.R_drew HO_85.out)
          have n1_ := Aside0.mk (blk_drew BK143.out)
          have n2_ := Aside0.mk (blk_drew BK144.out)
          have n3_ := Aside0.mk (blk_drew BK165.out)
          have n4_ := Aside0.mk (below_drew1 HB.out)
          clear HO_85
          clear BK143
          clear BK144
          clear BK165
          clear HB
          have HO_85 := n0_
          have BK143 := n1_
          have BK144 := n2_
          have BK165 := n3_
          have HB := n4_
          clear n0_ n1_ n2_ n3_ n4_
          refine start_ (n := 11) (S := fun w' => w'.cell? ⟨gb165, 0, none⟩ = some (.string ((rd_T27 x7_2 x87_4).f0)) ∧ w'.cell? ⟨gb165, 1, none⟩ = some (.int .u64 ((rd_T27 x7_2 x87_4).f1.f0)) ∧ w'.cell? ⟨gb165, 2, none⟩ = some (.int .u32 ((rd_T27 x7_2 x87_4).f1.f1)) ∧ w'.cell? ⟨gb165, 3, none⟩ = some (.int .u8 ((rd_T27 x7_2 x87_4).f1.f2)) ∧ w'.cell? ⟨gb165, 4, none⟩ = some (.int .u8 ((rd_T27 x7_2 x87_4).f2)) ∧ w'.cell? ⟨gb165, 5, none⟩ = some (.int .u32 ((rd_T27 x7_2 x87_4).f3)) ∧ w'.cell? ⟨gb165, 6, none⟩ = some (.int .u64 ((rd_T27 x7_2 x87_4).f4)) ∧ w'.cell? ⟨gb165, 7, none⟩ = some (.string ((rd_T27 x7_2 x87_4).f5)) ∧ w'.cell? ⟨gb143, 0, none⟩ = some (.string x144000_3) ∧ w'.cell? ⟨gb143, 1, none⟩ = some (.int .u64 x144001_3) ∧ w'.cell? ⟨gb143, 2, none⟩ = some (.int .u32 x144002_3) ∧ w'.cell? ⟨gb143, 3, none⟩ = some (.int .u8 x144003_3) ∧ w'.cell? ⟨gb143, 4, none⟩ = some (.int .u8 x144004_3) ∧ w'.cell? ⟨gb143, 5, none⟩ = some (.int .u32 x144005_3) ∧ w'.cell? ⟨gb143, 6, none⟩ = some (.int .u64 x144006_3) ∧ w'.cell? ⟨gb143, 7, none⟩ = some (.string x144007_3)) (ds := []) #[false, false, false, false, false, false, false, false, false, false, false] (by kernel_rfl) rfl rfl ⟨(blk_cell BK165.out 0).trans rfl, (blk_cell BK165.out 1).trans rfl, (blk_cell BK165.out 2).trans rfl, (blk_cell BK165.out 3).trans rfl, (blk_cell BK165.out 4).trans rfl, (blk_cell BK165.out 5).trans rfl, (blk_cell BK165.out 6).trans rfl, (blk_cell BK165.out 7).trans rfl, (blk_cell BK143.out 0).trans rfl, (blk_cell BK143.out 1).trans rfl, (blk_cell BK143.out 2).trans rfl, (blk_cell BK143.out 3).trans rfl, (blk_cell BK143.out 4).trans rfl, (blk_cell BK143.out 5).trans rfl, (blk_cell BK143.out 6).trans rfl, (blk_cell BK143.out 7).trans rfl⟩ (fun hHeld => ?_); refine with_tabW tattlerlaw06_RecJoins.tab23 tattlerlaw06_RecJoins.bits23 (fun HT_ HW_ => ?_)
          generalize w97.drew = w98 at HO_85 BK143 BK144 BK165 HB hHeld ⊢
          refine take_ (i := 0) (N := some 91) (v := ?_) (a' := ?_) #[true, false, false, false, false, false, false, false, false, false, false] rfl rfl (take_ofW HT_.out HW_.out (by kernel_rfl)) (fun _ _ _ h => h) (Or.inl ⟨by rfl, ?_⟩) hHeld ?_ ?_
          rotate_left
          ·
           rintro w' ⟨s0, s1, s2, s3, s4, s5, s6, s7, s8, s9, s10, s11, s12, s13, s14, s15⟩
           go_simp
           with_reducible rfl
          rotate_left
          ·
           simp only [Act.put, List.setIfInBounds_toArray, List.set_cons_zero, List.set_cons_succ, i64_w, i32_w]
           rfl
          refine take_ (i := 1) (N := some 92) (v := ?_) (a' := ?_) #[true, true, false, false, false, false, false, false, false, false, false] rfl rfl (take_ofW HT_.out HW_.out (by kernel_rfl)) (fun _ _ _ h => h) (Or.inl ⟨by rfl, ?_⟩) hHeld ?_ ?_
          rotate_left
          ·
           rintro w' ⟨s0, s1, s2, s3, s4, s5, s6, s7, s8, s9, s10, s11, s12, s13, s14, s15⟩
           go_simp
           with_reducible rfl
          rotate_left
          ·
           simp only [Act.put, List.setIfInBounds_toArray, List.set_cons_zero, List.set_cons_succ, i64_w, i32_w]
           rfl
          refine one_ (i := 2) (N := some 93) #[true, true, true, false, false, false, false, false, false, false, false] rfl rfl (one_of HT_.out (by kernel_rfl)) (by decide) (fun K hK => ?_)
          refine goes_ Try.func12 (by kernel_rfl) rfl #[.agg #[.string ((rd_T27 x7_2 x87_4).f0), .int .u64 ((rd_T27 x7_2 x87_4).f1.f0), .int .u32 ((rd_T27 x7_2 x87_4).f1.f1), .int .u8 ((rd_T27 x7_2 x87_4).f1.f2), .int .u8 ((rd_T27 x7_2 x87_4).f2), .int .u32 ((rd_T27 x7_2 x87_4).f3), .int .u64 ((rd_T27 x7_2 x87_4).f4), .string ((rd_T27 x7_2 x87_4).f5)], .agg #[.string x144000_3, .int .u64 x144001_3, .int .u32 x144002_3, .int .u8 x144003_3, .int .u8 x144004_3, .int .u32 x144005_3, .int .u64 x144006_3, .string x144007_3]] (by rfl) rfl rfl (by (try simp only [List.map_toArray, List.map_cons, List.map_nil]); first | done | rfl | (simp only [List.length_drop, List.length_take]; rfl)) ?_
          with_reducible refine (rec_Compare.calls ((rd_T27 x7_2 x87_4).f0) ((rd_T27 x7_2 x87_4).f1.f0) ((rd_T27 x7_2 x87_4).f1.f1) ((rd_T27 x7_2 x87_4).f1.f2) ((rd_T27 x7_2 x87_4).f2) ((rd_T27 x7_2 x87_4).f3) ((rd_T27 x7_2 x87_4).f4) ((rd_T27 x7_2 x87_4).f5) x144000_3 x144001_3 x144002_3 x144003_3 x144004_3 x144005_3 x144006_3 x144007_3 t166 _ A91.out).mono ?_
          rintro e w99 ⟨rfl, hb⟩
          refine ⟨_, rfl, ?_⟩
          have n0_ := Aside0.mk (Kd.R_below (by (with_reducible repeat (first | apply rA | apply rN | apply rD)); exact HO_85.out) hb)
          have n1_ := Aside0.mk (blk_below (g := gb143) (o := .cells #[.string x144000_3, .int .u64 x144001_3, .int .u32 x144002_3, .int .u8 x144003_3, .int .u8 x144004_3, .int .u32 x144005_3, .int .u64 x144006_3, .string x144007_3] 27 (0, 0)) (by (with_reducible repeat (first | refine bN ?_ _ | refine bD ?_ | refine bA ?_ _)); exact BK143.out) hb)
          have n2_ := Aside0.mk (blk_below (g := gb144) (o := .cells #[.string x145000_3, .int .u64 x145001_3, .int .u32 x145002_3, .int .u8 x145003_3, .int .u8 x145004_3, .int .u32 x145005_3, .int .u64 x145006_3, .string x145007_3] 27 (0, 0)) (by (with_reducible repeat (first | refine bN ?_ _ | refine bD ?_ | refine bA ?_ _)); exact BK144.out) hb)
          have n3_ := Aside0.mk (blk_below (g := gb165) (o := .cells #[.string ((rd_T27 x7_2 x87_4).f0), .int .u64 ((rd_T27 x7_2 x87_4).f1.f0), .int .u32 ((rd_T27 x7_2 x87_4).f1.f1), .int .u8 ((rd_T27 x7_2 x87_4).f1.f2), .int .u8 ((rd_T27 x7_2 x87_4).f2), .int .u32 ((rd_T27 x7_2 x87_4).f3), .int .u64 ((rd_T27 x7_2 x87_4).f4), .string ((rd_T27 x7_2 x87_4).f5)] 27 (0, 0)) (by (with_reducible repeat (first | refine bN ?_ _ | refine bD ?_ | refine bA ?_ _)); exact BK165.out) hb)
          have n4_ := Aside0.mk (below_step (by repeat (first | (with_reducible first | exact HB.out | apply qA | apply qN | apply qD | refine below_set ?_ GE143.out | refine below_set ?_ GE144.out | refine below_set ?_ GE165.out) | exact HB.out)) hb)
          clear HO_85
          clear BK143
          clear BK144
          clear BK165
          clear HB
          have HO_85 := n0_
          have BK143 := n1_
          have BK144 := n2_
          have BK165 := n3_
          have HB := n4_
          clear n0_ n1_ n2_ n3_ n4_
          (try clear hb)
          (try clear hb2)
          (try clear hk)
          (try clear hi)
          refine hK.out _ _ ⟨(blk_cell BK165.out 0).trans rfl, (blk_cell BK165.out 1).trans rfl, (blk_cell BK165.out 2).trans rfl, (blk_cell BK165.out 3).trans rfl, (blk_cell BK165.out 4).trans rfl, (blk_cell BK165.out 5).trans rfl, (blk_cell BK165.out 6).trans rfl, (blk_cell BK165.out 7).trans rfl, (blk_cell BK143.out 0).trans rfl, (blk_cell BK143.out 1).trans rfl, (blk_cell BK143.out 2).trans rfl, (blk_cell BK143.out 3).trans rfl, (blk_cell BK143.out 4).trans rfl, (blk_cell BK143.out 5).trans rfl, (blk_cell BK143.out 6).trans rfl, (blk_cell BK143.out 7).trans rfl⟩ (fun hHeld => ?_)
          clear hK K
          refine norm_ (a' := ?_) ?_ ?_
          rotate_left
          ·
           show Act.put _ (some 93) _ = _
           simp only [Act.put, List.setIfInBounds_toArray, List.set_cons_zero, List.set_cons_succ, i64_w, i32_w]
           rfl
          refine pure_ (i := 3) (N := some 94) (v := ?_) (a' := ?_) #[true, true, true, true, false, false, false, false, false, false, false] rfl rfl (any_of HT_.out (by kernel_rfl)) (fun _ _ _ h => h) (Or.inl ⟨by rfl, ?_⟩) ?_ ?_
          rotate_left
          ·
           intro w'
           go_simp
           with_reducible rfl
          rotate_left
          ·
           simp only [Act.put, List.setIfInBounds_toArray, List.set_cons_zero, List.set_cons_succ, i64_w, i32_w]
           rfl
          refine pure_ (i := 4) (N := some 95) (v := ?_) (a' := ?_) #[true, true, true, true, true, false, false, false, false, false, false] rfl rfl (any_of HT_.out (by kernel_rfl)) (fun _ _ _ h => h) (Or.inl ⟨by rfl, ?_⟩) ?_ ?_
          rotate_left
          ·
           intro w'
           go_simp
           with_reducible rfl
          rotate_left
          ·
           simp only [Act.put, List.setIfInBounds_toArray, List.set_cons_zero, List.set_cons_succ, i64_w, i32_w]
           rfl
          refine pure_ (i := 5) (N := some 96) (v := undef) (a' := ?_) #[true, true, true, true, true, true, false, false, false, false, false] rfl rfl (any_of HT_.out (by kernel_rfl)) (fun _ _ _ h => h) (Or.inr ⟨by rfl, rfl⟩) ?_ ?_
          rotate_left
          ·
           simp only [Act.put, List.setIfInBounds_toArray, List.set_cons_zero, List.set_cons_succ, i64_w, i32_w]
           rfl
          refine pure_ (i := 6) (N := some 97) (v := undef) (a' := ?_) #[true, true, true, true, true, true, true, false, false, false, false] rfl rfl (any_of HT_.out (by kernel_rfl)) (fun _ _ _ h => h) (Or.inr ⟨by rfl, rfl⟩) ?_ ?_
          rotate_left
          ·
           simp only [Act.put, List.setIfInBounds_toArray, List.set_cons_zero, List.set_cons_succ, i64_w, i32_w]
           rfl
          refine pure_ (i := 7) (N := some 98) (v := undef) (a' := ?_) #[true, true, true, true, true, true, true, true, false, false, false] rfl rfl (any_of HT_.out (by kernel_rfl)) (fun _ _ _ h => h) (Or.inr ⟨by rfl, rfl⟩) ?_ ?_
          rotate_left
          ·
           simp only [Act.put, List.setIfInBounds_toArray, List.set_cons_zero, List.set_cons_succ, i64_w, i32_w]
           rfl
          refine pure_ (i := 8) (N := some 99) (v := undef) (a' := ?_) #[true, true, true, true, true, true, true, true, true, false, false] rfl rfl (any_of HT_.out (by kernel_rfl)) (fun _ _ _ h => h) (Or.inr ⟨by rfl, rfl⟩) ?_ ?_
          rotate_left
          ·
           simp only [Act.put, List.setIfInBounds_toArray, List.set_cons_zero, List.set_cons_succ, i64_w, i32_w]
           rfl
          refine pure_ (i := 9) (N := some 100) (v := undef) (a' := ?_) #[true, true, true, true, true, true, true, true, true, true, false] rfl rfl (any_of HT_.out (by kernel_rfl)) (fun _ _ _ h => h) (Or.inr ⟨by rfl, rfl⟩) ?_ ?_
          rotate_left
          ·
           simp only [Act.put, List.setIfInBounds_toArray, List.set_cons_zero, List.set_cons_succ, i64_w, i32_w]
           rfl
          refine pure_ (i := 10) (N := some 101) (v := ?_) (a' := ?_) #[true, true, true, true, true, true, true, true, true, true, true] rfl rfl (any_of HT_.out (by kernel_rfl)) (fun _ _ _ h => h) (Or.inl ⟨by rfl, ?_⟩) ?_ ?_
          rotate_left
          ·
           intro w'
           go_simp
           with_reducible rfl
          rotate_left
          ·
           simp only [Act.put, List.setIfInBounds_toArray, List.set_cons_zero, List.set_cons_succ, i64_w, i32_w]
           rfl
          refine done_ (done_of HT_.out (by kernel_rfl)) ?_
          try go_wp2
          go_ret
          exact ⟨by first | rfl | (simp [errW_none, errW_some] <;> rfl) | (simp only [← hji34]; first | rfl | (simp [errW_none, errW_some] <;> rfl)) | (simp [*, errW_none, errW_some] <;> rfl), by repeat (first | (with_reducible first | exact HB.out | apply qA | apply qN | apply qD | refine below_set ?_ GE143.out | refine below_set ?_ GE144.out | refine below_set ?_ GE165.out) | exact HB.out)⟩
         rw [if_neg c92] at H
         have c92b0 : decide (0 < t166) = false := decide_eq_false c92
         clear c92
         replace H := Option.bind_eq_some_iff.mp H
         obtain ⟨⟨t167, t168, t169, t170, t171, t172, t173, t174⟩, A1000, H⟩ := H
         replace H : (if (!(t167.toList == (((rd_T27 x7_2 x87_4).f0).toList)) || ((!(t168 == ((rd_T27 x7_2 x87_4).f1.f0)) || (!(t169 == ((rd_T27 x7_2 x87_4).f1.f1)) || (!(t170 == ((rd_T27 x7_2 x87_4).f1.f2))))) || (!(t171 == ((rd_T27 x7_2 x87_4).f2)) || (!(t172 == ((rd_T27 x7_2 x87_4).f3)) || (!(t173 == ((rd_T27 x7_2 x87_4).f4)) || (!(t174.toList == (((rd_T27 x7_2 x87_4).f5).toList)))))))) = true then (some false) else (tattlerlaw06_RecJoins.l2 k4 x7_2 (x7_2.length : Int) (wrap64 (x87_4 + 1)) x144000_3 x144001_3 x144002_3 x144003_3 x144004_3 x144005_3 x144006_3 x144007_3 x145000_3 x145001_3 x145002_3 x145003_3 x145004_3 x145005_3 x145006_3 x145007_3)) = some r := H
         have A100 := Aside0.mk A1000
         clear A1000
         by_cases c101 : (!(t167.toList == (((rd_T27 x7_2 x87_4).f0).toList)) || ((!(t168 == ((rd_T27 x7_2 x87_4).f1.f0)) || (!(t169 == ((rd_T27 x7_2 x87_4).f1.f1)) || (!(t170 == ((rd_T27 x7_2 x87_4).f1.f2))))) || (!(t171 == ((rd_T27 x7_2 x87_4).f2)) || (!(t172 == ((rd_T27 x7_2 x87_4).f3)) || (!(t173 == ((rd_T27 x7_2 x87_4).f4)) || (!(t174.toList == (((rd_T27 x7_2 x87_4).f5).toList)))))))) = true
         ·
          rw [if_pos c101] at H
          have c101b0 : (!(t167.toList == (((rd_T27 x7_2 x87_4).f0).toList)) || ((!(t168 == ((rd_T27 x7_2 x87_4).f1.f0)) || (!(t169 == ((rd_T27 x7_2 x87_4).f1.f1)) || (!(t170 == ((rd_T27 x7_2 x87_4).f1.f2))))) || (!(t171 == ((rd_T27 x7_2 x87_4).f2)) || (!(t172 == ((rd_T27 x7_2 x87_4).f3)) || (!(t173 == ((rd_T27 x7_2 x87_4).f4)) || (!(t174.toList == (((rd_T27 x7_2 x87_4).f5).toList)))))))) = true := c101
          clear c101
          obtain rfl := Option.some.inj H
          have p164 : 0 ≤ (x87_4 : Int) := of_decide_eq_true (by first | (with_reducible assumption) | assumption)
          have q164 : x87_4 < (x7_2.length : Int) := of_decide_eq_true (by first | (with_reducible assumption) | assumption)
          obtain ⟨ad164, e164, hx164_0, hx164_1, hx164_2, hx164_3, hx164_4, hx164_5, hx164_6, hx164_7⟩ := at_T27 (Kd.R_reads' HO_85.out).2.2 x87_4 p164 q164
          obtain rfl : ad141 = ad164 := (by injection e164)
          replace p164 := eq_true p164
          replace q164 := eq_true q164
          try go_wp2_with (first | ((with_reducible refine gate_dst (N := 15) rfl ?_); (try (refine gate_guard (by rfl) ?_; dsimp only)); refine box_event ?hg (N := 15) ?hd (cs := #[.string (⟨#[]⟩ : ByteArray), .int .u64 0, .int .u32 0, .int .u8 0, .int .u8 0, .int .u32 0, .int .u64 0, .string (⟨#[]⟩ : ByteArray)]) (t := 27) ?hr ?_; (case hd => rfl); (case hg => rfl); (case hr => first | (go_simp; done) | (go_simp; rfl)); intro gb165 hg w102 hbox hb; have n0_ := Aside0.mk (Kd.R_below (Kd.R_elderB (by (with_reducible repeat (first | apply rA | apply rN | apply rD)); exact HO_85.out) gb165 (Nat.le_of_eq hg.symm)) hb); have n1_ := Aside0.mk (blk_below (g := gb143) (o := .cells #[.string x144000_3, .int .u64 x144001_3, .int .u32 x144002_3, .int .u8 x144003_3, .int .u8 x144004_3, .int .u32 x144005_3, .int .u64 x144006_3, .string x144007_3] 27 (0, 0)) (by (with_reducible repeat (first | refine bN ?_ _ | refine bD ?_ | refine bA ?_ _)); exact BK143.out) hb); have n2_ := Aside0.mk (blk_below (g := gb144) (o := .cells #[.string x145000_3, .int .u64 x145001_3, .int .u32 x145002_3, .int .u8 x145003_3, .int .u8 x145004_3, .int .u32 x145005_3, .int .u64 x145006_3, .string x145007_3] 27 (0, 0)) (by (with_reducible repeat (first | refine bN ?_ _ | refine bD ?_ | refine bA ?_ _)); exact BK144.out) hb); have n3_ := Aside0.mk (below_step (by repeat (first | (with_reducible first | exact HB.out | apply qA | apply qN | apply qD | refine below_set ?_ GE143.out | refine below_set ?_ GE144.out) | exact HB.out)) hb); have n4_ := Aside0.mk (hbox); have n5_ := Aside0.mk ((by rw [hg]; exact (below_size (by repeat (first | (with_reducible first | exact HB.out | apply qA | apply qN | apply qD | refine below_set ?_ GE143.out | refine below_set ?_ GE144.out) | exact HB.out))) : w.heap.size ≤ gb165)); have n6_ := Aside0.mk ((by rw [hg]; exact (below_size (by repeat (first | (with_reducible first | exact HB.out | apply qA | apply qN | apply qD | refine below_set ?_ GE143.out | refine below_set ?_ GE144.out) | exact HB.out))) : w.heap.size ≤ gb165)); have n7_ := Aside0.mk ((by rw [hg]; exact Nat.ne_of_lt (blk_lt (g := gb143) (o := .cells #[.string x144000_3, .int .u64 x144001_3, .int .u32 x144002_3, .int .u8 x144003_3, .int .u8 x144004_3, .int .u32 x144005_3, .int .u64 x144006_3, .string x144007_3] 27 (0, 0)) (by (with_reducible repeat (first | refine bN ?_ _ | refine bD ?_ | refine bA ?_ _)); exact BK143.out)) : gb143 ≠ gb165)); have n8_ := Aside0.mk ((by rw [hg]; exact Nat.ne_of_gt (blk_lt (g := gb143) (o := .cells #[.string x144000_3, .int .u64 x144001_3, .int .u32 x144002_3, .int .u8 x144003_3, .int .u8 x144004_3, .int .u32 x144005_3, .int .u64 x144006_3, .string x144007_3] 27 (0, 0)) (by (with_reducible repeat (first | refine bN ?_ _ | refine bD ?_ | refine bA ?_ _)); exact BK143.out)) : gb165 ≠ gb143)); have n9_ := Aside0.mk ((by rw [hg]; exact Nat.ne_of_lt (blk_lt (g := gb144) (o := .cells #[.string x145000_3, .int .u64 x145001_3, .int .u32 x145002_3, .int .u8 x145003_3, .int .u8 x145004_3, .int .u32 x145005_3, .int .u64 x145006_3, .string x145007_3] 27 (0, 0)) (by (with_reducible repeat (first | refine bN ?_ _ | refine bD ?_ | refine bA ?_ _)); exact BK144.out)) : gb144 ≠ gb165)); have n10_ := Aside0.mk ((by rw [hg]; exact Nat.ne_of_gt (blk_lt (g := gb144) (o := .cells #[.string x145000_3, .int .u64 x145001_3, .int .u32 x145002_3, .int .u8 x145003_3, .int .u8 x145004_3, .int .u32 x145005_3, .int .u64 x145006_3, .string x145007_3] 27 (0, 0)) (by (with_reducible repeat (first | refine bN ?_ _ | refine bD ?_ | refine bA ?_ _)); exact BK144.out)) : gb165 ≠ gb144)); clear HO_85; clear BK143; clear BK144; clear HB; have HO_85 := n0_; have BK143 := n1_; have BK144 := n2_; have HB := n3_; have BK165 := n4_; have GW165 := n5_; have GE165 := n6_; have NB143_165 := n7_; have NB165_143 := n8_; have NB144_165 := n9_; have NB165_144 := n10_; clear n0_ n1_ n2_ n3_ n4_ n5_ n6_ n7_ n8_ n9_ n10_; clear hb hbox hg; have hnb103 := NB165_143.out; have hnc103 := NB143_165.out; have hnb104 := NB165_144.out; have hnc104 := NB144_165.out; have hcz105_0 : w102.cell? ⟨gb165, 0, none⟩ = some (.string (⟨#[]⟩ : ByteArray)) := (blk_cell BK165.out 0).trans rfl; have hcz105_1 : w102.cell? ⟨gb165, 1, none⟩ = some (.int .u64 0) := (blk_cell BK165.out 1).trans rfl; have hcz105_2 : w102.cell? ⟨gb165, 2, none⟩ = some (.int .u32 0) := (blk_cell BK165.out 2).trans rfl; have hcz105_3 : w102.cell? ⟨gb165, 3, none⟩ = some (.int .u8 0) := (blk_cell BK165.out 3).trans rfl; have hcz105_4 : w102.cell? ⟨gb165, 4, none⟩ = some (.int .u8 0) := (blk_cell BK165.out 4).trans rfl; have hcz105_5 : w102.cell? ⟨gb165, 5, none⟩ = some (.int .u32 0) := (blk_cell BK165.out 5).trans rfl; have hcz105_6 : w102.cell? ⟨gb165, 6, none⟩ = some (.int .u64 0) := (blk_cell BK165.out 6).trans rfl; have hcz105_7 : w102.cell? ⟨gb165, 7, none⟩ = some (.string (⟨#[]⟩ : ByteArray)) := (blk_cell BK165.out 7).trans rfl; have hfz105_0 := blk_frozen BK165.out 0; have hfz105_1 := blk_frozen BK165.out 1; have hfz105_2 := blk_frozen BK165.out 2; have hfz105_3 := blk_frozen BK165.out 3; have hfz105_4 := blk_frozen BK165.out 4; have hfz105_5 := blk_frozen BK165.out 5; have hfz105_6 := blk_frozen BK165.out 6; have hfz105_7 := blk_frozen BK165.out 7))
          have n0_ : Aside0 (Kd.R k27 27 ((((((((w102.setCell ⟨gb165, 0, none⟩ (.string ((rd_T27 x7_2 x87_4).f0))).setCell ⟨gb165, 1, none⟩ (.int .u64 ((rd_T27 x7_2 x87_4).f1.f0))).setCell ⟨gb165, 2, none⟩ (.int .u32 ((rd_T27 x7_2 x87_4).f1.f1))).setCell ⟨gb165, 3, none⟩ (.int .u8 ((rd_T27 x7_2 x87_4).f1.f2))).setCell ⟨gb165, 4, none⟩ (.int .u8 ((rd_T27 x7_2 x87_4).f2))).setCell ⟨gb165, 5, none⟩ (.int .u32 ((rd_T27 x7_2 x87_4).f3))).setCell ⟨gb165, 6, none⟩ (.int .u64 ((rd_T27 x7_2 x87_4).f4))).setCell ⟨gb165, 7, none⟩ (.string ((rd_T27 x7_2 x87_4).f5))) w.heap.size (fun k_ => k_ ≠ gb143 ∧ k_ ≠ gb144 ∧ k_ ≠ gb165) (.slice (some ad141) x7_2.length co37) x7_2) := ⟨by (with_reducible repeat (first | apply rA | apply rN | apply rD)); exact Kd.R_mono (Kd.R_far (p := ⟨gb165, 7, none⟩) (Kd.R_far (p := ⟨gb165, 6, none⟩) (Kd.R_far (p := ⟨gb165, 5, none⟩) (Kd.R_far (p := ⟨gb165, 4, none⟩) (Kd.R_far (p := ⟨gb165, 3, none⟩) (Kd.R_far (p := ⟨gb165, 2, none⟩) (Kd.R_far (p := ⟨gb165, 1, none⟩) (Kd.R_far (p := ⟨gb165, 0, none⟩) (Kd.R_mono HO_85.out (fun k_ hk => (⟨hk, hk.2⟩ : _ ∧ k_ ≠ gb165))) (fun _ hk => hk.2) (.string ((rd_T27 x7_2 x87_4).f0))) (fun _ hk => hk.2) (.int .u64 ((rd_T27 x7_2 x87_4).f1.f0))) (fun _ hk => hk.2) (.int .u32 ((rd_T27 x7_2 x87_4).f1.f1))) (fun _ hk => hk.2) (.int .u8 ((rd_T27 x7_2 x87_4).f1.f2))) (fun _ hk => hk.2) (.int .u8 ((rd_T27 x7_2 x87_4).f2))) (fun _ hk => hk.2) (.int .u32 ((rd_T27 x7_2 x87_4).f3))) (fun _ hk => hk.2) (.int .u64 ((rd_T27 x7_2 x87_4).f4))) (fun _ hk => hk.2) (.string ((rd_T27 x7_2 x87_4).f5))) (fun _ hk => ⟨hk.1.1.1, ⟨hk.1.1.2, hk.1.2⟩⟩)⟩
          have n1_ : Aside0 (((((((((w102.setCell ⟨gb165, 0, none⟩ (.string ((rd_T27 x7_2 x87_4).f0))).setCell ⟨gb165, 1, none⟩ (.int .u64 ((rd_T27 x7_2 x87_4).f1.f0))).setCell ⟨gb165, 2, none⟩ (.int .u32 ((rd_T27 x7_2 x87_4).f1.f1))).setCell ⟨gb165, 3, none⟩ (.int .u8 ((rd_T27 x7_2 x87_4).f1.f2))).setCell ⟨gb165, 4, none⟩ (.int .u8 ((rd_T27 x7_2 x87_4).f2))).setCell ⟨gb165, 5, none⟩ (.int .u32 ((rd_T27 x7_2 x87_4).f3))).setCell ⟨gb165, 6, none⟩ (.int .u64 ((rd_T27 x7_2 x87_4).f4))).setCell ⟨gb165, 7, none⟩ (.string ((rd_T27 x7_2 x87_4).f5))).heap[gb143]? = some (.cells #[.string x144000_3, .int .u64 x144001_3, .int .u32 x144002_3, .int .u8 x144003_3, .int .u8 x144004_3, .int .u32 x144005_3, .int .u64 x144006_3, .string x144007_3] 27 (0, 0))) := ⟨by (with_reducible repeat (first | refine bN ?_ _ | refine bD ?_ | refine bA ?_ _)); refine blk_far ?_ NB143_165.out _; (with_reducible repeat (first | refine bN ?_ _ | refine bD ?_ | refine bA ?_ _)); refine blk_far ?_ NB143_165.out _; (with_reducible repeat (first | refine bN ?_ _ | refine bD ?_ | refine bA ?_ _)); refine blk_far ?_ NB143_165.out _; (with_reducible repeat (first | refine bN ?_ _ | refine bD ?_ | refine bA ?_ _)); refine blk_far ?_ NB143_165.out _; (with_reducible repeat (first | refine bN ?_ _ | refine bD ?_ | refine bA ?_ _)); refine blk_far ?_ NB143_165.out _; (with_reducible repeat (first | refine bN ?_ _ | refine bD ?_ | refine bA ?_ _)); refine blk_far ?_ NB143_165.out _; (with_reducible repeat (first | refine bN ?_ _ | refine bD ?_ | refine bA ?_ _)); refine blk_far ?_ NB143_165.out _; (with_reducible repeat (first | refine bN ?_ _ | refine bD ?_ | refine bA ?_ _)); refine blk_far ?_ NB143_165.out _; (with_reducible repeat (first | refine bN ?_ _ | refine bD ?_ | refine bA ?_ _)); exact BK143.out⟩
          have n2_ : Aside0 (((((((((w102.setCell ⟨gb165, 0, none⟩ (.string ((rd_T27 x7_2 x87_4).f0))).setCell ⟨gb165, 1, none⟩ (.int .u64 ((rd_T27 x7_2 x87_4).f1.f0))).setCell ⟨gb165, 2, none⟩ (.int .u32 ((rd_T27 x7_2 x87_4).f1.f1))).setCell ⟨gb165, 3, none⟩ (.int .u8 ((rd_T27 x7_2 x87_4).f1.f2))).setCell ⟨gb165, 4, none⟩ (.int .u8 ((rd_T27 x7_2 x87_4).f2))).setCell ⟨gb165, 5, none⟩ (.int .u32 ((rd_T27 x7_2 x87_4).f3))).setCell ⟨gb165, 6, none⟩ (.int .u64 ((rd_T27 x7_2 x87_4).f4))).setCell ⟨gb165, 7, none⟩ (.string ((rd_T27 x7_2 x87_4).f5))).heap[gb144]? = some (.cells #[.string x145000_3, .int .u64 x145001_3, .int .u32 x145002_3, .int .u8 x145003_3, .int .u8 x145004_3, .int .u32 x145005_3, .int .u64 x145006_3, .string x145007_3] 27 (0, 0))) := ⟨by (with_reducible repeat (first | refine bN ?_ _ | refine bD ?_ | refine bA ?_ _)); refine blk_far ?_ NB144_165.out _; (with_reducible repeat (first | refine bN ?_ _ | refine bD ?_ | refine bA ?_ _)); refine blk_far ?_ NB144_165.out _; (with_reducible repeat (first | refine bN ?_ _ | refine bD ?_ | refine bA ?_ _)); refine blk_far ?_ NB144_165.out _; (with_reducible repeat (first | refine bN ?_ _ | refine bD ?_ | refine bA ?_ _)); refine blk_far ?_ NB144_165.out _; (with_reducible repeat (first | refine bN ?_ _ | refine bD ?_ | refine bA ?_ _)); refine blk_far ?_ NB144_165.out _; (with_reducible repeat (first | refine bN ?_ _ | refine bD ?_ | refine bA ?_ _)); refine blk_far ?_ NB144_165.out _; (with_reducible repeat (first | refine bN ?_ _ | refine bD ?_ | refine bA ?_ _)); refine blk_far ?_ NB144_165.out _; (with_reducible repeat (first | refine bN ?_ _ | refine bD ?_ | refine bA ?_ _)); refine blk_far ?_ NB144_165.out _; (with_reducible repeat (first | refine bN ?_ _ | refine bD ?_ | refine bA ?_ _)); exact BK144.out⟩
          have n3_ : Aside0 (((((((((w102.setCell ⟨gb165, 0, none⟩ (.string ((rd_T27 x7_2 x87_4).f0))).setCell ⟨gb165, 1, none⟩ (.int .u64 ((rd_T27 x7_2 x87_4).f1.f0))).setCell ⟨gb165, 2, none⟩ (.int .u32 ((rd_T27 x7_2 x87_4).f1.f1))).setCell ⟨gb165, 3, none⟩ (.int .u8 ((rd_T27 x7_2 x87_4).f1.f2))).setCell ⟨gb165, 4, none⟩ (.int .u8 ((rd_T27 x7_2 x87_4).f2))).setCell ⟨gb165, 5, none⟩ (.int .u32 ((rd_T27 x7_2 x87_4).f3))).setCell ⟨gb165, 6, none⟩ (.int .u64 ((rd_T27 x7_2 x87_4).f4))).setCell ⟨gb165, 7, none⟩ (.string ((rd_T27 x7_2 x87_4).f5))).heap[gb165]? = some (.cells #[.string ((rd_T27 x7_2 x87_4).f0), .int .u64 ((rd_T27 x7_2 x87_4).f1.f0), .int .u32 ((rd_T27 x7_2 x87_4).f1.f1), .int .u8 ((rd_T27 x7_2 x87_4).f1.f2), .int .u8 ((rd_T27 x7_2 x87_4).f2), .int .u32 ((rd_T27 x7_2 x87_4).f3), .int .u64 ((rd_T27 x7_2 x87_4).f4), .string ((rd_T27 x7_2 x87_4).f5)] 27 (0, 0))) := ⟨by (with_reducible repeat (first | refine bN ?_ _ | refine bD ?_ | refine bA ?_ _)); refine blk_put (cs := #[.string ((rd_T27 x7_2 x87_4).f0), .int .u64 ((rd_T27 x7_2 x87_4).f1.f0), .int .u32 ((rd_T27 x7_2 x87_4).f1.f1), .int .u8 ((rd_T27 x7_2 x87_4).f1.f2), .int .u8 ((rd_T27 x7_2 x87_4).f2), .int .u32 ((rd_T27 x7_2 x87_4).f3), .int .u64 ((rd_T27 x7_2 x87_4).f4), .string (⟨#[]⟩ : ByteArray)]) ?_ 7 _ rfl; (with_reducible repeat (first | refine bN ?_ _ | refine bD ?_ | refine bA ?_ _)); refine blk_put (cs := #[.string ((rd_T27 x7_2 x87_4).f0), .int .u64 ((rd_T27 x7_2 x87_4).f1.f0), .int .u32 ((rd_T27 x7_2 x87_4).f1.f1), .int .u8 ((rd_T27 x7_2 x87_4).f1.f2), .int .u8 ((rd_T27 x7_2 x87_4).f2), .int .u32 ((rd_T27 x7_2 x87_4).f3), .int .u64 0, .string (⟨#[]⟩ : ByteArray)]) ?_ 6 _ rfl; (with_reducible repeat (first | refine bN ?_ _ | refine bD ?_ | refine bA ?_ _)); refine blk_put (cs := #[.string ((rd_T27 x7_2 x87_4).f0), .int .u64 ((rd_T27 x7_2 x87_4).f1.f0), .int .u32 ((rd_T27 x7_2 x87_4).f1.f1), .int .u8 ((rd_T27 x7_2 x87_4).f1.f2), .int .u8 ((rd_T27 x7_2 x87_4).f2), .int .u32 0, .int .u64 0, .string (⟨#[]⟩ : ByteArray)]) ?_ 5 _ rfl; (with_reducible repeat (first | refine bN ?_ _ | refine bD ?_ | refine bA ?_ _)); refine blk_put (cs := #[.string ((rd_T27 x7_2 x87_4).f0), .int .u64 ((rd_T27 x7_2 x87_4).f1.f0), .int .u32 ((rd_T27 x7_2 x87_4).f1.f1), .int .u8 ((rd_T27 x7_2 x87_4).f1.f2), .int .u8 0, .int .u32 0, .int .u64 0, .string (⟨#[]⟩ : ByteArray)]) ?_ 4 _ rfl; (with_reducible repeat (first | refine bN ?_ _ | refine bD ?_ | refine bA ?_ _)); refine blk_put (cs := #[.string ((rd_T27 x7_2 x87_4).f0), .int .u64 ((rd_T27 x7_2 x87_4).f1.f0), .int .u32 ((rd_T27 x7_2 x87_4).f1.f1), .int .u8 0, .int .u8 0, .int .u32 0, .int .u64 0, .string (⟨#[]⟩ : ByteArray)]) ?_ 3 _ rfl; (with_reducible repeat (first | refine bN ?_ _ | refine bD ?_ | refine bA ?_ _)); refine blk_put (cs := #[.string ((rd_T27 x7_2 x87_4).f0), .int .u64 ((rd_T27 x7_2 x87_4).f1.f0), .int .u32 0, .int .u8 0, .int .u8 0, .int .u32 0, .int .u64 0, .string (⟨#[]⟩ : ByteArray)]) ?_ 2 _ rfl; (with_reducible repeat (first | refine bN ?_ _ | refine bD ?_ | refine bA ?_ _)); refine blk_put (cs := #[.string ((rd_T27 x7_2 x87_4).f0), .int .u64 0, .int .u32 0, .int .u8 0, .int .u8 0, .int .u32 0, .int .u64 0, .string (⟨#[]⟩ : ByteArray)]) ?_ 1 _ rfl; (with_reducible repeat (first | refine bN ?_ _ | refine bD ?_ | refine bA ?_ _)); refine blk_put (cs := #[.string (⟨#[]⟩ : ByteArray), .int .u64 0, .int .u32 0, .int .u8 0, .int .u8 0, .int .u32 0, .int .u64 0, .string (⟨#[]⟩ : ByteArray)]) ?_ 0 _ rfl; (with_reducible repeat (first | refine bN ?_ _ | refine bD ?_ | refine bA ?_ _)); exact BK165.out⟩
          have n4_ : Aside0 (Below w.heap.size w ((((((((w102.setCell ⟨gb165, 0, none⟩ (.string ((rd_T27 x7_2 x87_4).f0))).setCell ⟨gb165, 1, none⟩ (.int .u64 ((rd_T27 x7_2 x87_4).f1.f0))).setCell ⟨gb165, 2, none⟩ (.int .u32 ((rd_T27 x7_2 x87_4).f1.f1))).setCell ⟨gb165, 3, none⟩ (.int .u8 ((rd_T27 x7_2 x87_4).f1.f2))).setCell ⟨gb165, 4, none⟩ (.int .u8 ((rd_T27 x7_2 x87_4).f2))).setCell ⟨gb165, 5, none⟩ (.int .u32 ((rd_T27 x7_2 x87_4).f3))).setCell ⟨gb165, 6, none⟩ (.int .u64 ((rd_T27 x7_2 x87_4).f4))).setCell ⟨gb165, 7, none⟩ (.string ((rd_T27 x7_2 x87_4).f5)))) := ⟨by repeat (first | (with_reducible first | exact HB.out | apply qA | apply qN | apply qD | refine below_set ?_ GE143.out | refine below_set ?_ GE144.out | refine below_set ?_ GE165.out) | exact HB.out)⟩
          (try clear HO_85)
          (try clear BK143)
          (try clear BK144)
          (try clear BK165)
          (try clear HB)
          generalize ((((((((w102.setCell ⟨gb165, 0, none⟩ (.string ((rd_T27 x7_2 x87_4).f0))).setCell ⟨gb165, 1, none⟩ (.int .u64 ((rd_T27 x7_2 x87_4).f1.f0))).setCell ⟨gb165, 2, none⟩ (.int .u32 ((rd_T27 x7_2 x87_4).f1.f1))).setCell ⟨gb165, 3, none⟩ (.int .u8 ((rd_T27 x7_2 x87_4).f1.f2))).setCell ⟨gb165, 4, none⟩ (.int .u8 ((rd_T27 x7_2 x87_4).f2))).setCell ⟨gb165, 5, none⟩ (.int .u32 ((rd_T27 x7_2 x87_4).f3))).setCell ⟨gb165, 6, none⟩ (.int .u64 ((rd_T27 x7_2 x87_4).f4))).setCell ⟨gb165, 7, none⟩ (.string ((rd_T27 x7_2 x87_4).f5))) = w106 at n0_ n1_ n2_ n3_ n4_ ⊢
          have HO_85 := n0_
          have BK143 := n1_
          have BK144 := n2_
          have BK165 := n3_
          have HB := n4_
          clear n0_ n1_ n2_ n3_ n4_
          have n0_ := Aside0.mk (Kd.R_drew HO_85.out)
          have n1_ := Aside0.mk (blk_drew BK143.out)
          have n2_ := Aside0.mk (blk_drew BK144.out)
          have n3_ := Aside0.mk (blk_drew BK165.out)
          have n4_ := Aside0.mk (below_drew1 HB.out)
          clear HO_85
          clear BK143
          clear BK144
          clear BK165
          clear HB
          have HO_85 := n0_
          have BK143 := n1_
          have BK144 := n2_
          have BK165 := n3_
          have HB := n4_
          clear n0_ n1_ n2_ n3_ n4_
          refine start_ (n := 11) (S := fun w' => w'.cell? ⟨gb165, 0, none⟩ = some (.string ((rd_T27 x7_2 x87_4).f0)) ∧ w'.cell? ⟨gb165, 1, none⟩ = some (.int .u64 ((rd_T27 x7_2 x87_4).f1.f0)) ∧ w'.cell? ⟨gb165, 2, none⟩ = some (.int .u32 ((rd_T27 x7_2 x87_4).f1.f1)) ∧ w'.cell? ⟨gb165, 3, none⟩ = some (.int .u8 ((rd_T27 x7_2 x87_4).f1.f2)) ∧ w'.cell? ⟨gb165, 4, none⟩ = some (.int .u8 ((rd_T27 x7_2 x87_4).f2)) ∧ w'.cell? ⟨gb165, 5, none⟩ = some (.int .u32 ((rd_T27 x7_2 x87_4).f3)) ∧ w'.cell? ⟨gb165, 6, none⟩ = some (.int .u64 ((rd_T27 x7_2 x87_4).f4)) ∧ w'.cell? ⟨gb165, 7, none⟩ = some (.string ((rd_T27 x7_2 x87_4).f5)) ∧ w'.cell? ⟨gb143, 0, none⟩ = some (.string x144000_3) ∧ w'.cell? ⟨gb143, 1, none⟩ = some (.int .u64 x144001_3) ∧ w'.cell? ⟨gb143, 2, none⟩ = some (.int .u32 x144002_3) ∧ w'.cell? ⟨gb143, 3, none⟩ = some (.int .u8 x144003_3) ∧ w'.cell? ⟨gb143, 4, none⟩ = some (.int .u8 x144004_3) ∧ w'.cell? ⟨gb143, 5, none⟩ = some (.int .u32 x144005_3) ∧ w'.cell? ⟨gb143, 6, none⟩ = some (.int .u64 x144006_3) ∧ w'.cell? ⟨gb143, 7, none⟩ = some (.string x144007_3)) (ds := []) #[false, false, false, false, false, false, false, false, false, false, false] (by kernel_rfl) rfl rfl ⟨(blk_cell BK165.out 0).trans rfl, (blk_cell BK165.out 1).trans rfl, (blk_cell BK165.out 2).trans rfl, (blk_cell BK165.out 3).trans rfl, (blk_cell BK165.out 4).trans rfl, (blk_cell BK165.out 5).trans rfl, (blk_cell BK165.out 6).trans rfl, (blk_cell BK165.out 7).trans rfl, (blk_cell BK143.out 0).trans rfl, (blk_cell BK143.out 1).trans rfl, (blk_cell BK143.out 2).trans rfl, (blk_cell BK143.out 3).trans rfl, (blk_cell BK143.out 4).trans rfl, (blk_cell BK143.out 5).trans rfl, (blk_cell BK143.out 6).trans rfl, (blk_cell BK143.out 7).trans rfl⟩ (fun hHeld => ?_); refine with_tabW tattlerlaw06_RecJoins.tab23 tattlerlaw06_RecJoins.bits23 (fun HT_ HW_ => ?_)
          generalize w106.drew = w107 at HO_85 BK143 BK144 BK165 HB hHeld ⊢
          refine take_ (i := 0) (N := some 91) (v := ?_) (a' := ?_) #[true, false, false, false, false, false, false, false, false, false, false] rfl rfl (take_ofW HT_.out HW_.out (by kernel_rfl)) (fun _ _ _ h => h) (Or.inl ⟨by rfl, ?_⟩) hHeld ?_ ?_
          rotate_left
          ·
           rintro w' ⟨s0, s1, s2, s3, s4, s5, s6, s7, s8, s9, s10, s11, s12, s13, s14, s15⟩
           go_simp
           with_reducible rfl
          rotate_left
          ·
           simp only [Act.put, List.setIfInBounds_toArray, List.set_cons_zero, List.set_cons_succ, i64_w, i32_w]
           rfl
          refine take_ (i := 1) (N := some 92) (v := ?_) (a' := ?_) #[true, true, false, false, false, false, false, false, false, false, false] rfl rfl (take_ofW HT_.out HW_.out (by kernel_rfl)) (fun _ _ _ h => h) (Or.inl ⟨by rfl, ?_⟩) hHeld ?_ ?_
          rotate_left
          ·
           rintro w' ⟨s0, s1, s2, s3, s4, s5, s6, s7, s8, s9, s10, s11, s12, s13, s14, s15⟩
           go_simp
           with_reducible rfl
          rotate_left
          ·
           simp only [Act.put, List.setIfInBounds_toArray, List.set_cons_zero, List.set_cons_succ, i64_w, i32_w]
           rfl
          refine one_ (i := 2) (N := some 93) #[true, true, true, false, false, false, false, false, false, false, false] rfl rfl (one_of HT_.out (by kernel_rfl)) (by decide) (fun K hK => ?_)
          refine goes_ Try.func12 (by kernel_rfl) rfl #[.agg #[.string ((rd_T27 x7_2 x87_4).f0), .int .u64 ((rd_T27 x7_2 x87_4).f1.f0), .int .u32 ((rd_T27 x7_2 x87_4).f1.f1), .int .u8 ((rd_T27 x7_2 x87_4).f1.f2), .int .u8 ((rd_T27 x7_2 x87_4).f2), .int .u32 ((rd_T27 x7_2 x87_4).f3), .int .u64 ((rd_T27 x7_2 x87_4).f4), .string ((rd_T27 x7_2 x87_4).f5)], .agg #[.string x144000_3, .int .u64 x144001_3, .int .u32 x144002_3, .int .u8 x144003_3, .int .u8 x144004_3, .int .u32 x144005_3, .int .u64 x144006_3, .string x144007_3]] (by rfl) rfl rfl (by (try simp only [List.map_toArray, List.map_cons, List.map_nil]); first | done | rfl | (simp only [List.length_drop, List.length_take]; rfl)) ?_
          with_reducible refine (rec_Compare.calls ((rd_T27 x7_2 x87_4).f0) ((rd_T27 x7_2 x87_4).f1.f0) ((rd_T27 x7_2 x87_4).f1.f1) ((rd_T27 x7_2 x87_4).f1.f2) ((rd_T27 x7_2 x87_4).f2) ((rd_T27 x7_2 x87_4).f3) ((rd_T27 x7_2 x87_4).f4) ((rd_T27 x7_2 x87_4).f5) x144000_3 x144001_3 x144002_3 x144003_3 x144004_3 x144005_3 x144006_3 x144007_3 t166 _ A91.out).mono ?_
          rintro e w108 ⟨rfl, hb⟩
          refine ⟨_, rfl, ?_⟩
          have n0_ := Aside0.mk (Kd.R_below (by (with_reducible repeat (first | apply rA | apply rN | apply rD)); exact HO_85.out) hb)
          have n1_ := Aside0.mk (blk_below (g := gb143) (o := .cells #[.string x144000_3, .int .u64 x144001_3, .int .u32 x144002_3, .int .u8 x144003_3, .int .u8 x144004_3, .int .u32 x144005_3, .int .u64 x144006_3, .string x144007_3] 27 (0, 0)) (by (with_reducible repeat (first | refine bN ?_ _ | refine bD ?_ | refine bA ?_ _)); exact BK143.out) hb)
          have n2_ := Aside0.mk (blk_below (g := gb144) (o := .cells #[.string x145000_3, .int .u64 x145001_3, .int .u32 x145002_3, .int .u8 x145003_3, .int .u8 x145004_3, .int .u32 x145005_3, .int .u64 x145006_3, .string x145007_3] 27 (0, 0)) (by (with_reducible repeat (first | refine bN ?_ _ | refine bD ?_ | refine bA ?_ _)); exact BK144.out) hb)
          have n3_ := Aside0.mk (blk_below (g := gb165) (o := .cells #[.string ((rd_T27 x7_2 x87_4).f0), .int .u64 ((rd_T27 x7_2 x87_4).f1.f0), .int .u32 ((rd_T27 x7_2 x87_4).f1.f1), .int .u8 ((rd_T27 x7_2 x87_4).f1.f2), .int .u8 ((rd_T27 x7_2 x87_4).f2), .int .u32 ((rd_T27 x7_2 x87_4).f3), .int .u64 ((rd_T27 x7_2 x87_4).f4), .string ((rd_T27 x7_2 x87_4).f5)] 27 (0, 0)) (by (with_reducible repeat (first | refine bN ?_ _ | refine bD ?_ | refine bA ?_ _)); exact BK165.out) hb)
          have n4_ := Aside0.mk (below_step (by repeat (first | (with_reducible first | exact HB.out | apply qA | apply qN | apply qD | refine below_set ?_ GE143.out | refine below_set ?_ GE144.out | refine below_set ?_ GE165.out) | exact HB.out)) hb)
          clear HO_85
          clear BK143
          clear BK144
          clear BK165
          clear HB
          have HO_85 := n0_
          have BK143 := n1_
          have BK144 := n2_
          have BK165 := n3_
          have HB := n4_
          clear n0_ n1_ n2_ n3_ n4_
          (try clear hb)
          (try clear hb2)
          (try clear hk)
          (try clear hi)
          refine hK.out _ _ ⟨(blk_cell BK165.out 0).trans rfl, (blk_cell BK165.out 1).trans rfl, (blk_cell BK165.out 2).trans rfl, (blk_cell BK165.out 3).trans rfl, (blk_cell BK165.out 4).trans rfl, (blk_cell BK165.out 5).trans rfl, (blk_cell BK165.out 6).trans rfl, (blk_cell BK165.out 7).trans rfl, (blk_cell BK143.out 0).trans rfl, (blk_cell BK143.out 1).trans rfl, (blk_cell BK143.out 2).trans rfl, (blk_cell BK143.out 3).trans rfl, (blk_cell BK143.out 4).trans rfl, (blk_cell BK143.out 5).trans rfl, (blk_cell BK143.out 6).trans rfl, (blk_cell BK143.out 7).trans rfl⟩ (fun hHeld => ?_)
          clear hK K
          refine norm_ (a' := ?_) ?_ ?_
          rotate_left
          ·
           show Act.put _ (some 93) _ = _
           simp only [Act.put, List.setIfInBounds_toArray, List.set_cons_zero, List.set_cons_succ, i64_w, i32_w]
           rfl
          refine pure_ (i := 3) (N := some 94) (v := ?_) (a' := ?_) #[true, true, true, true, false, false, false, false, false, false, false] rfl rfl (any_of HT_.out (by kernel_rfl)) (fun _ _ _ h => h) (Or.inl ⟨by rfl, ?_⟩) ?_ ?_
          rotate_left
          ·
           intro w'
           go_simp
           with_reducible rfl
          rotate_left
          ·
           simp only [Act.put, List.setIfInBounds_toArray, List.set_cons_zero, List.set_cons_succ, i64_w, i32_w]
           rfl
          refine pure_ (i := 4) (N := some 95) (v := ?_) (a' := ?_) #[true, true, true, true, true, false, false, false, false, false, false] rfl rfl (any_of HT_.out (by kernel_rfl)) (fun _ _ _ h => h) (Or.inl ⟨by rfl, ?_⟩) ?_ ?_
          rotate_left
          ·
           intro w'
           go_simp
           with_reducible rfl
          rotate_left
          ·
           simp only [Act.put, List.setIfInBounds_toArray, List.set_cons_zero, List.set_cons_succ, i64_w, i32_w]
           rfl
          refine take_ (i := 5) (N := some 96) (v := ?_) (a' := ?_) #[true, true, true, true, true, true, false, false, false, false, false] rfl rfl (take_ofW HT_.out HW_.out (by kernel_rfl)) (fun _ _ _ h => h) (Or.inl ⟨by rfl, ?_⟩) hHeld ?_ ?_
          rotate_left
          ·
           rintro w' ⟨s0, s1, s2, s3, s4, s5, s6, s7, s8, s9, s10, s11, s12, s13, s14, s15⟩
           go_simp
           with_reducible rfl
          rotate_left
          ·
           simp only [Act.put, List.setIfInBounds_toArray, List.set_cons_zero, List.set_cons_succ, i64_w, i32_w]
           rfl
          refine take_ (i := 6) (N := some 97) (v := ?_) (a' := ?_) #[true, true, true, true, true, true, true, false, false, false, false] rfl rfl (take_ofW HT_.out HW_.out (by kernel_rfl)) (fun _ _ _ h => h) (Or.inl ⟨by rfl, ?_⟩) hHeld ?_ ?_
          rotate_left
          ·
           rintro w' ⟨s0, s1, s2, s3, s4, s5, s6, s7, s8, s9, s10, s11, s12, s13, s14, s15⟩
           go_simp
           with_reducible rfl
          rotate_left
          ·
           simp only [Act.put, List.setIfInBounds_toArray, List.set_cons_zero, List.set_cons_succ, i64_w, i32_w]
           rfl
          refine take_ (i := 8) (N := some 99) (v := ?_) (a' := ?_) #[true, true, true, true, true, true, true, false, true, false, false] rfl rfl (take_ofW HT_.out HW_.out (by kernel_rfl)) (fun _ _ _ h => h) (Or.inl ⟨by rfl, ?_⟩) hHeld ?_ ?_
          rotate_left
          ·
           rintro w' ⟨s0, s1, s2, s3, s4, s5, s6, s7, s8, s9, s10, s11, s12, s13, s14, s15⟩
           go_simp
           with_reducible rfl
          rotate_left
          ·
           simp only [Act.put, List.setIfInBounds_toArray, List.set_cons_zero, List.set_cons_succ, i64_w, i32_w]
           rfl
          refine one_ (i := 7) (N := some 98) #[true, true, true, true, true, true, true, true, true, false, false] rfl rfl (one_of HT_.out (by kernel_rfl)) (by decide) (fun K hK => ?_)
          refine goes_ Try.func15 (by kernel_rfl) rfl #[.agg #[.string ((rd_T27 x7_2 x87_4).f0), .int .u64 ((rd_T27 x7_2 x87_4).f1.f0), .int .u32 ((rd_T27 x7_2 x87_4).f1.f1), .int .u8 ((rd_T27 x7_2 x87_4).f1.f2), .int .u8 ((rd_T27 x7_2 x87_4).f2), .int .u32 ((rd_T27 x7_2 x87_4).f3), .int .u64 ((rd_T27 x7_2 x87_4).f4), .string ((rd_T27 x7_2 x87_4).f5)], .agg #[.string ((rd_T27 x7_2 x87_4).f0), .int .u64 ((rd_T27 x7_2 x87_4).f1.f0), .int .u32 ((rd_T27 x7_2 x87_4).f1.f1), .int .u8 ((rd_T27 x7_2 x87_4).f1.f2), .int .u8 ((rd_T27 x7_2 x87_4).f2), .int .u32 ((rd_T27 x7_2 x87_4).f3), .int .u64 ((rd_T27 x7_2 x87_4).f4), .string ((rd_T27 x7_2 x87_4).f5)]] (by rfl) rfl rfl (by (try simp only [List.map_toArray, List.map_cons, List.map_nil]); first | done | rfl | (simp only [List.length_drop, List.length_take]; rfl)) ?_
          with_reducible refine (rec_Join.calls ((rd_T27 x7_2 x87_4).f0) ((rd_T27 x7_2 x87_4).f1.f0) ((rd_T27 x7_2 x87_4).f1.f1) ((rd_T27 x7_2 x87_4).f1.f2) ((rd_T27 x7_2 x87_4).f2) ((rd_T27 x7_2 x87_4).f3) ((rd_T27 x7_2 x87_4).f4) ((rd_T27 x7_2 x87_4).f5) ((rd_T27 x7_2 x87_4).f0) ((rd_T27 x7_2 x87_4).f1.f0) ((rd_T27 x7_2 x87_4).f1.f1) ((rd_T27 x7_2 x87_4).f1.f2) ((rd_T27 x7_2 x87_4).f2) ((rd_T27 x7_2 x87_4).f3) ((rd_T27 x7_2 x87_4).f4) ((rd_T27 x7_2 x87_4).f5) t167 t168 t169 t170 t171 t172 t173 t174 _ A100.out).mono ?_
          rintro e w109 ⟨rfl, hb⟩
          refine ⟨_, rfl, ?_⟩
          have n0_ := Aside0.mk (Kd.R_below (by (with_reducible repeat (first | apply rA | apply rN | apply rD)); exact HO_85.out) hb)
          have n1_ := Aside0.mk (blk_below (g := gb143) (o := .cells #[.string x144000_3, .int .u64 x144001_3, .int .u32 x144002_3, .int .u8 x144003_3, .int .u8 x144004_3, .int .u32 x144005_3, .int .u64 x144006_3, .string x144007_3] 27 (0, 0)) (by (with_reducible repeat (first | refine bN ?_ _ | refine bD ?_ | refine bA ?_ _)); exact BK143.out) hb)
          have n2_ := Aside0.mk (blk_below (g := gb144) (o := .cells #[.string x145000_3, .int .u64 x145001_3, .int .u32 x145002_3, .int .u8 x145003_3, .int .u8 x145004_3, .int .u32 x145005_3, .int .u64 x145006_3, .string x145007_3] 27 (0, 0)) (by (with_reducible repeat (first | refine bN ?_ _ | refine bD ?_ | refine bA ?_ _)); exact BK144.out) hb)
          have n3_ := Aside0.mk (blk_below (g := gb165) (o := .cells #[.string ((rd_T27 x7_2 x87_4).f0), .int .u64 ((rd_T27 x7_2 x87_4).f1.f0), .int .u32 ((rd_T27 x7_2 x87_4).f1.f1), .int .u8 ((rd_T27 x7_2 x87_4).f1.f2), .int .u8 ((rd_T27 x7_2 x87_4).f2), .int .u32 ((rd_T27 x7_2 x87_4).f3), .int .u64 ((rd_T27 x7_2 x87_4).f4), .string ((rd_T27 x7_2 x87_4).f5)] 27 (0, 0)) (by (with_reducible repeat (first | refine bN ?_ _ | refine bD ?_ | refine bA ?_ _)); exact BK165.out) hb)
          have n4_ := Aside0.mk (below_step (by repeat (first | (with_reducible first | exact HB.out | apply qA | apply qN | apply qD | refine below_set ?_ GE143.out | refine below_set ?_ GE144.out | refine below_set ?_ GE165.out) | exact HB.out)) hb)
          clear HO_85
          clear BK143
          clear BK144
          clear BK165
          clear HB
          have HO_85 := n0_
          have BK143 := n1_
          have BK144 := n2_
          have BK165 := n3_
          have HB := n4_
          clear n0_ n1_ n2_ n3_ n4_
          (try clear hb)
          (try clear hb2)
          (try clear hk)
          (try clear hi)
          refine hK.out _ _ ⟨(blk_cell BK165.out 0).trans rfl, (blk_cell BK165.out 1).trans rfl, (blk_cell BK165.out 2).trans rfl, (blk_cell BK165.out 3).trans rfl, (blk_cell BK165.out 4).trans rfl, (blk_cell BK165.out 5).trans rfl, (blk_cell BK165.out 6).trans rfl, (blk_cell BK165.out 7).trans rfl, (blk_cell BK143.out 0).trans rfl, (blk_cell BK143.out 1).trans rfl, (blk_cell BK143.out 2).trans rfl, (blk_cell BK143.out 3).trans rfl, (blk_cell BK143.out 4).trans rfl, (blk_cell BK143.out 5).trans rfl, (blk_cell BK143.out 6).trans rfl, (blk_cell BK143.out 7).trans rfl⟩ (fun hHeld => ?_)
          clear hK K
          refine norm_ (a' := ?_) ?_ ?_
          rotate_left
          ·
           show Act.put _ (some 98) _ = _
           simp only [Act.put, List.setIfInBounds_toArray, List.set_cons_zero, List.set_cons_succ, i64_w, i32_w]
           rfl
          refine pure_ (i := 9) (N := some 100) (v := ?_) (a' := ?_) #[true, true, true, true, true, true, true, true, true, true, false] rfl rfl (any_of HT_.out (by kernel_rfl)) (fun _ _ _ h => h) (Or.inl ⟨by rfl, ?_⟩) ?_ ?_
          rotate_left
          ·
           intro w'
           go_simp
           with_reducible rfl
          rotate_left
          ·
           simp only [Act.put, List.setIfInBounds_toArray, List.set_cons_zero, List.set_cons_succ, i64_w, i32_w]
           rfl
          refine pure_ (i := 10) (N := some 101) (v := ?_) (a' := ?_) #[true, true, true, true, true, true, true, true, true, true, true] rfl rfl (any_of HT_.out (by kernel_rfl)) (fun _ _ _ h => h) (Or.inl ⟨by rfl, ?_⟩) ?_ ?_
          rotate_left
          ·
           intro w'
           go_simp
           with_reducible rfl
          rotate_left
          ·
           simp only [Act.put, List.setIfInBounds_toArray, List.set_cons_zero, List.set_cons_succ, i64_w, i32_w]
           rfl
          refine done_ (done_of HT_.out (by kernel_rfl)) ?_
          try go_wp2
          go_ret
          exact ⟨by first | rfl | (simp [errW_none, errW_some] <;> rfl) | (simp only [← hji34]; first | rfl | (simp [errW_none, errW_some] <;> rfl)) | (simp [*, errW_none, errW_some] <;> rfl), by repeat (first | (with_reducible first | exact HB.out | apply qA | apply qN | apply qD | refine below_set ?_ GE143.out | refine below_set ?_ GE144.out | refine below_set ?_ GE165.out) | exact HB.out)⟩
         rw [if_neg c101] at H
         have c101b0 : (!(t167.toList == (((rd_T27 x7_2 x87_4).f0).toList)) || ((!(t168 == ((rd_T27 x7_2 x87_4).f1.f0)) || (!(t169 == ((rd_T27 x7_2 x87_4).f1.f1)) || (!(t170 == ((rd_T27 x7_2 x87_4).f1.f2))))) || (!(t171 == ((rd_T27 x7_2 x87_4).f2)) || (!(t172 == ((rd_T27 x7_2 x87_4).f3)) || (!(t173 == ((rd_T27 x7_2 x87_4).f4)) || (!(t174.toList == (((rd_T27 x7_2 x87_4).f5).toList)))))))) = false := by simpa using c101
         clear c101
         have H' := Aside0.mk H
         clear H
         have p164 : 0 ≤ (x87_4 : Int) := of_decide_eq_true (by first | (with_reducible assumption) | assumption)
         have q164 : x87_4 < (x7_2.length : Int) := of_decide_eq_true (by first | (with_reducible assumption) | assumption)
         obtain ⟨ad164, e164, hx164_0, hx164_1, hx164_2, hx164_3, hx164_4, hx164_5, hx164_6, hx164_7⟩ := at_T27 (Kd.R_reads' HO_85.out).2.2 x87_4 p164 q164
         obtain rfl : ad141 = ad164 := (by injection e164)
         replace p164 := eq_true p164
         replace q164 := eq_true q164
         try go_wp2_with (first | ((with_reducible refine gate_dst (N := 15) rfl ?_); (try (refine gate_guard (by rfl) ?_; dsimp only)); refine box_event ?hg (N := 15) ?hd (cs := #[.string (⟨#[]⟩ : ByteArray), .int .u64 0, .int .u32 0, .int .u8 0, .int .u8 0, .int .u32 0, .int .u64 0, .string (⟨#[]⟩ : ByteArray)]) (t := 27) ?hr ?_; (case hd => rfl); (case hg => rfl); (case hr => first | (go_simp; done) | (go_simp; rfl)); intro gb165 hg w110 hbox hb; have n0_ := Aside0.mk (Kd.R_below (Kd.R_elderB (by (with_reducible repeat (first | apply rA | apply rN | apply rD)); exact HO_85.out) gb165 (Nat.le_of_eq hg.symm)) hb); have n1_ := Aside0.mk (blk_below (g := gb143) (o := .cells #[.string x144000_3, .int .u64 x144001_3, .int .u32 x144002_3, .int .u8 x144003_3, .int .u8 x144004_3, .int .u32 x144005_3, .int .u64 x144006_3, .string x144007_3] 27 (0, 0)) (by (with_reducible repeat (first | refine bN ?_ _ | refine bD ?_ | refine bA ?_ _)); exact BK143.out) hb); have n2_ := Aside0.mk (blk_below (g := gb144) (o := .cells #[.string x145000_3, .int .u64 x145001_3, .int .u32 x145002_3, .int .u8 x145003_3, .int .u8 x145004_3, .int .u32 x145005_3, .int .u64 x145006_3, .string x145007_3] 27 (0, 0)) (by (with_reducible repeat (first | refine bN ?_ _ | refine bD ?_ | refine bA ?_ _)); exact BK144.out) hb); have n3_ := Aside0.mk (below_step (by repeat (first | (with_reducible first | exact HB.out | apply qA | apply qN | apply qD | refine below_set ?_ GE143.out | refine below_set ?_ GE144.out) | exact HB.out)) hb); have n4_ := Aside0.mk (hbox); have n5_ := Aside0.mk ((by rw [hg]; exact (below_size (by repeat (first | (with_reducible first | exact HB.out | apply qA | apply qN | apply qD | refine below_set ?_ GE143.out | refine below_set ?_ GE144.out) | exact HB.out))) : w.heap.size ≤ gb165)); have n6_ := Aside0.mk ((by rw [hg]; exact (below_size (by repeat (first | (with_reducible first | exact HB.out | apply qA | apply qN | apply qD | refine below_set ?_ GE143.out | refine below_set ?_ GE144.out) | exact HB.out))) : w.heap.size ≤ gb165)); have n7_ := Aside0.mk ((by rw [hg]; exact Nat.ne_of_lt (blk_lt (g := gb143) (o := .cells #[.string x144000_3, .int .u64 x144001_3, .int .u32 x144002_3, .int .u8 x144003_3, .int .u8 x144004_3, .int .u32 x144005_3, .int .u64 x144006_3, .string x144007_3] 27 (0, 0)) (by (with_reducible repeat (first | refine bN ?_ _ | refine bD ?_ | refine bA ?_ _)); exact BK143.out)) : gb143 ≠ gb165)); have n8_ := Aside0.mk ((by rw [hg]; exact Nat.ne_of_gt (blk_lt (g := gb143) (o := .cells #[.string x144000_3, .int .u64 x144001_3, .int .u32 x144002_3, .int .u8 x144003_3, .int .u8 x144004_3, .int .u32 x144005_3, .int .u64 x144006_3, .string x144007_3] 27 (0, 0)) (by (with_reducible repeat (first | refine bN ?_ _ | refine bD ?_ | refine bA ?_ _)); exact BK143.out)) : gb165 ≠ gb143)); have n9_ := Aside0.mk ((by rw [hg]; exact Nat.ne_of_lt (blk_lt (g := gb144) (o := .cells #[.string x145000_3, .int .u64 x145001_3, .int .u32 x145002_3, .int .u8 x145003_3, .int .u8 x145004_3, .int .u32 x145005_3, .int .u64 x145006_3, .string x145007_3] 27 (0, 0)) (by (with_reducible repeat (first | refine bN ?_ _ | refine bD ?_ | refine bA ?_ _)); exact BK144.out)) : gb144 ≠ gb165)); have n10_ := Aside0.mk ((by rw [hg]; exact Nat.ne_of_gt (blk_lt (g := gb144) (o := .cells #[.string x145000_3, .int .u64 x145001_3, .int .u32 x145002_3, .int .u8 x145003_3, .int .u8 x145004_3, .int .u32 x145005_3, .int .u64 x145006_3, .string x145007_3] 27 (0, 0)) (by (with_reducible repeat (first | refine bN ?_ _ | refine bD ?_ | refine bA ?_ _)); exact BK144.out)) : gb165 ≠ gb144)); clear HO_85; clear BK143; clear BK144; clear HB; have HO_85 := n0_; have BK143 := n1_; have BK144 := n2_; have HB := n3_; have BK165 := n4_; have GW165 := n5_; have GE165 := n6_; have NB143_165 := n7_; have NB165_143 := n8_; have NB144_165 := n9_; have NB165_144 := n10_; clear n0_ n1_ n2_ n3_ n4_ n5_ n6_ n7_ n8_ n9_ n10_; clear hb hbox hg; have hnb111 := NB165_143.out; have hnc111 := NB143_165.out; have hnb112 := NB165_144.out; have hnc112 := NB144_165.out; have hcz113_0 : w110.cell? ⟨gb165, 0, none⟩ = some (.string (⟨#[]⟩ : ByteArray)) := (blk_cell BK165.out 0).trans rfl; have hcz113_1 : w110.cell? ⟨gb165, 1, none⟩ = some (.int .u64 0) := (blk_cell BK165.out 1).trans rfl; have hcz113_2 : w110.cell? ⟨gb165, 2, none⟩ = some (.int .u32 0) := (blk_cell BK165.out 2).trans rfl; have hcz113_3 : w110.cell? ⟨gb165, 3, none⟩ = some (.int .u8 0) := (blk_cell BK165.out 3).trans rfl; have hcz113_4 : w110.cell? ⟨gb165, 4, none⟩ = some (.int .u8 0) := (blk_cell BK165.out 4).trans rfl; have hcz113_5 : w110.cell? ⟨gb165, 5, none⟩ = some (.int .u32 0) := (blk_cell BK165.out 5).trans rfl; have hcz113_6 : w110.cell? ⟨gb165, 6, none⟩ = some (.int .u64 0) := (blk_cell BK165.out 6).trans rfl; have hcz113_7 : w110.cell? ⟨gb165, 7, none⟩ = some (.string (⟨#[]⟩ : ByteArray)) := (blk_cell BK165.out 7).trans rfl; have hfz113_0 := blk_frozen BK165.out 0; have hfz113_1 := blk_frozen BK165.out 1; have hfz113_2 := blk_frozen BK165.out 2; have hfz113_3 := blk_frozen BK165.out 3; have hfz113_4 := blk_frozen BK165.out 4; have hfz113_5 := blk_frozen BK165.out 5; have hfz113_6 := blk_frozen BK165.out 6; have hfz113_7 := blk_frozen BK165.out 7))
         have n0_ : Aside0 (Kd.R k27 27 ((((((((w110.setCell ⟨gb165, 0, none⟩ (.string ((rd_T27 x7_2 x87_4).f0))).setCell ⟨gb165, 1, none⟩ (.int .u64 ((rd_T27 x7_2 x87_4).f1.f0))).setCell ⟨gb165, 2, none⟩ (.int .u32 ((rd_T27 x7_2 x87_4).f1.f1))).setCell ⟨gb165, 3, none⟩ (.int .u8 ((rd_T27 x7_2 x87_4).f1.f2))).setCell ⟨gb165, 4, none⟩ (.int .u8 ((rd_T27 x7_2 x87_4).f2))).setCell ⟨gb165, 5, none⟩ (.int .u32 ((rd_T27 x7_2 x87_4).f3))).setCell ⟨gb165, 6, none⟩ (.int .u64 ((rd_T27 x7_2 x87_4).f4))).setCell ⟨gb165, 7, none⟩ (.string ((rd_T27 x7_2 x87_4).f5))) w.heap.size (fun k_ => k_ ≠ gb143 ∧ k_ ≠ gb144 ∧ k_ ≠ gb165) (.slice (some ad141) x7_2.length co37) x7_2) := ⟨by (with_reducible repeat (first | apply rA | apply rN | apply rD)); exact Kd.R_mono (Kd.R_far (p := ⟨gb165, 7, none⟩) (Kd.R_far (p := ⟨gb165, 6, none⟩) (Kd.R_far (p := ⟨gb165, 5, none⟩) (Kd.R_far (p := ⟨gb165, 4, none⟩) (Kd.R_far (p := ⟨gb165, 3, none⟩) (Kd.R_far (p := ⟨gb165, 2, none⟩) (Kd.R_far (p := ⟨gb165, 1, none⟩) (Kd.R_far (p := ⟨gb165, 0, none⟩) (Kd.R_mono HO_85.out (fun k_ hk => (⟨hk, hk.2⟩ : _ ∧ k_ ≠ gb165))) (fun _ hk => hk.2) (.string ((rd_T27 x7_2 x87_4).f0))) (fun _ hk => hk.2) (.int .u64 ((rd_T27 x7_2 x87_4).f1.f0))) (fun _ hk => hk.2) (.int .u32 ((rd_T27 x7_2 x87_4).f1.f1))) (fun _ hk => hk.2) (.int .u8 ((rd_T27 x7_2 x87_4).f1.f2))) (fun _ hk => hk.2) (.int .u8 ((rd_T27 x7_2 x87_4).f2))) (fun _ hk => hk.2) (.int .u32 ((rd_T27 x7_2 x87_4).f3))) (fun _ hk => hk.2) (.int .u64 ((rd_T27 x7_2 x87_4).f4))) (fun _ hk => hk.2) (.string ((rd_T27 x7_2 x87_4).f5))) (fun _ hk => ⟨hk.1.1.1, ⟨hk.1.1.2, hk.1.2⟩⟩)⟩
         have n1_ : Aside0 (((((((((w110.setCell ⟨gb165, 0, none⟩ (.string ((rd_T27 x7_2 x87_4).f0))).setCell ⟨gb165, 1, none⟩ (.int .u64 ((rd_T27 x7_2 x87_4).f1.f0))).setCell ⟨gb165, 2, none⟩ (.int .u32 ((rd_T27 x7_2 x87_4).f1.f1))).setCell ⟨gb165, 3, none⟩ (.int .u8 ((rd_T27 x7_2 x87_4).f1.f2))).setCell ⟨gb165, 4, none⟩ (.int .u8 ((rd_T27 x7_2 x87_4).f2))).setCell ⟨gb165, 5, none⟩ (.int .u32 ((rd_T27 x7_2 x87_4).f3))).setCell ⟨gb165, 6, none⟩ (.int .u64 ((rd_T27 x7_2 x87_4).f4))).setCell ⟨gb165, 7, none⟩ (.string ((rd_T27 x7_2 x87_4).f5))).heap[gb143]? = some (.cells #[.string x144000_3, .int .u64 x144001_3, .int .u32 x144002_3, .int .u8 x144003_3, .int .u8 x144004_3, .int .u32 x144005_3, .int .u64 x144006_3, .string x144007_3] 27 (0, 0))) := ⟨by (with_reducible repeat (first | refine bN ?_ _ | refine bD ?_ | refine bA ?_ _)); refine blk_far ?_ NB143_165.out _; (with_reducible repeat (first | refine bN ?_ _ | refine bD ?_ | refine bA ?_ _)); refine blk_far ?_ NB143_165.out _; (with_reducible repeat (first | refine bN ?_ _ | refine bD ?_ | refine bA ?_ _)); refine blk_far ?_ NB143_165.out _; (with_reducible repeat (first | refine bN ?_ _ | refine bD ?_ | refine bA ?_ _)); refine blk_far ?_ NB143_165.out _; (with_reducible repeat (first | refine bN ?_ _ | refine bD ?_ | refine bA ?_ _)); refine blk_far ?_ NB143_165.out _; (with_reducible repeat (first | refine bN ?_ _ | refine bD ?_ | refine bA ?_ _)); refine blk_far ?_ NB143_165.out _; (with_reducible repeat (first | refine bN ?_ _ | refine bD ?_ | refine bA ?_ _)); refine blk_far ?_ NB143_165.out _; (with_reducible repeat (first | refine bN ?_ _ | refine bD ?_ | refine bA ?_ _)); refine blk_far ?_ NB143_165.out _; (with_reducible repeat (first | refine bN ?_ _ | refine bD ?_ | refine bA ?_ _)); exact BK143.out⟩
         have n2_ : Aside0 (((((((((w110.setCell ⟨gb165, 0, none⟩ (.string ((rd_T27 x7_2 x87_4).f0))).setCell ⟨gb165, 1, none⟩ (.int .u64 ((rd_T27 x7_2 x87_4).f1.f0))).setCell ⟨gb165, 2, none⟩ (.int .u32 ((rd_T27 x7_2 x87_4).f1.f1))).setCell ⟨gb165, 3, none⟩ (.int .u8 ((rd_T27 x7_2 x87_4).f1.f2))).setCell ⟨gb165, 4, none⟩ (.int .u8 ((rd_T27 x7_2 x87_4).f2))).setCell ⟨gb165, 5, none⟩ (.int .u32 ((rd_T27 x7_2 x87_4).f3))).setCell ⟨gb165, 6, none⟩ (.int .u64 ((rd_T27 x7_2 x87_4).f4))).setCell ⟨gb165, 7, none⟩ (.string ((rd_T27 x7_2 x87_4).f5))).heap[gb144]? = some (.cells #[.string x145000_3, .int .u64 x145001_3, .int .u32 x145002_3, .int .u8 x145003_3, .int .u8 x145004_3, .int .u32 x145005_3, .int .u64 x145006_3, .string x145007_3] 27 (0, 0))) := ⟨by (with_reducible repeat (first | refine bN ?_ _ | refine bD ?_ | refine bA ?_ _)); refine blk_far ?_ NB144_165.out _; (with_reducible repeat (first | refine bN ?_ _ | refine bD ?_ | refine bA ?_ _)); refine blk_far ?_ NB144_165.out _; (with_reducible repeat (first | refine bN ?_ _ | refine bD ?_ | refine bA ?_ _)); refine blk_far ?_ NB144_165.out _; (with_reducible repeat (first | refine bN ?_ _ | refine bD ?_ | refine bA ?_ _)); refine blk_far ?_ NB144_165.out _; (with_reducible repeat (first | refine bN ?_ _ | refine bD ?_ | refine bA ?_ _)); refine blk_far ?_ NB144_165.out _; (with_reducible repeat (first | refine bN ?_ _ | refine bD ?_ | refine bA ?_ _)); refine blk_far ?_ NB144_165.out _; (with_reducible repeat (first | refine bN ?_ _ | refine bD ?_ | refine bA ?_ _)); refine blk_far ?_ NB144_165.out _; (with_reducible repeat (first | refine bN ?_ _ | refine bD ?_ | refine bA ?_ _)); refine blk_far ?_ NB144_165.out _; (with_reducible repeat (first | refine bN ?_ _ | refine bD ?_ | refine bA ?_ _)); exact BK144.out⟩
         have n3_ : Aside0 (((((((((w110.setCell ⟨gb165, 0, none⟩ (.string ((rd_T27 x7_2 x87_4).f0))).setCell ⟨gb165, 1, none⟩ (.int .u64 ((rd_T27 x7_2 x87_4).f1.f0))).setCell ⟨gb165, 2, none⟩ (.int .u32 ((rd_T27 x7_2 x87_4).f1.f1))).setCell ⟨gb165, 3, none⟩ (.int .u8 ((rd_T27 x7_2 x87_4).f1.f2))).setCell ⟨gb165, 4, none⟩ (.int .u8 ((rd_T27 x7_2 x87_4).f2))).setCell ⟨gb165, 5, none⟩ (.int .u32 ((rd_T27 x7_2 x87_4).f3))).setCell ⟨gb165, 6, none⟩ (.int .u64 ((rd_T27 x7_2 x87_4).f4))).setCell ⟨gb165, 7, none⟩ (.string ((rd_T27 x7_2 x87_4).f5))).heap[gb165]? = some (.cells #[.string ((rd_T27 x7_2 x87_4).f0), .int .u64 ((rd_T27 x7_2 x87_4).f1.f0), .int .u32 ((rd_T27 x7_2 x87_4).f1.f1), .int .u8 ((rd_T27 x7_2 x87_4).f1.f2), .int .u8 ((rd_T27 x7_2 x87_4).f2), .int .u32 ((rd_T27 x7_2 x87_4).f3), .int .u64 ((rd_T27 x7_2 x87_4).f4), .string ((rd_T27 x7_2 x87_4).f5)] 27 (0, 0))) := ⟨by (with_reducible repeat (first | refine bN ?_ _ | refine bD ?_ | refine bA ?_ _)); refine blk_put (cs := #[.string ((rd_T27 x7_2 x87_4).f0), .int .u64 ((rd_T27 x7_2 x87_4).f1.f0), .int .u32 ((rd_T27 x7_2 x87_4).f1.f1), .int .u8 ((rd_T27 x7_2 x87_4).f1.f2), .int .u8 ((rd_T27 x7_2 x87_4).f2), .int .u32 ((rd_T27 x7_2 x87_4).f3), .int .u64 ((rd_T27 x7_2 x87_4).f4), .string (⟨#[]⟩ : ByteArray)]) ?_ 7 _ rfl; (with_reducible repeat (first | refine bN ?_ _ | refine bD ?_ | refine bA ?_ _)); refine blk_put (cs := #[.string ((rd_T27 x7_2 x87_4).f0), .int .u64 ((rd_T27 x7_2 x87_4).f1.f0), .int .u32 ((rd_T27 x7_2 x87_4).f1.f1), .int .u8 ((rd_T27 x7_2 x87_4).f1.f2), .int .u8 ((rd_T27 x7_2 x87_4).f2), .int .u32 ((rd_T27 x7_2 x87_4).f3), .int .u64 0, .string (⟨#[]⟩ : ByteArray)]) ?_ 6 _ rfl; (with_reducible repeat (first | refine bN ?_ _ | refine bD ?_ | refine bA ?_ _)); refine blk_put (cs := #[.string ((rd_T27 x7_2 x87_4).f0), .int .u64 ((rd_T27 x7_2 x87_4).f1.f0), .int .u32 ((rd_T27 x7_2 x87_4).f1.f1), .int .u8 ((rd_T27 x7_2 x87_4).f1.f2), .int .u8 ((rd_T27 x7_2 x87_4).f2), .int .u32 0, .int .u64 0, .string (⟨#[]⟩ : ByteArray)]) ?_ 5 _ rfl; (with_reducible repeat (first | refine bN ?_ _ | refine bD ?_ | refine bA ?_ _)); refine blk_put (cs := #[.string ((rd_T27 x7_2 x87_4).f0), .int .u64 ((rd_T27 x7_2 x87_4).f1.f0), .int .u32 ((rd_T27 x7_2 x87_4).f1.f1), .int .u8 ((rd_T27 x7_2 x87_4).f1.f2), .int .u8 0, .int .u32 0, .int .u64 0, .string (⟨#[]⟩ : ByteArray)]) ?_ 4 _ rfl; (with_reducible repeat (first | refine bN ?_ _ | refine bD ?_ | refine bA ?_ _)); refine blk_put (cs := #[.string ((rd_T27 x7_2 x87_4).f0), .int .u64 ((rd_T27 x7_2 x87_4).f1.f0), .int .u32 ((rd_T27 x7_2 x87_4).f1.f1), .int .u8 0, .int .u8 0, .int .u32 0, .int .u64 0, .string (⟨#[]⟩ : ByteArray)]) ?_ 3 _ rfl; (with_reducible repeat (first | refine bN ?_ _ | refine bD ?_ | refine bA ?_ _)); refine blk_put (cs := #[.string ((rd_T27 x7_2 x87_4).f0), .int .u64 ((rd_T27 x7_2 x87_4).f1.f0), .int .u32 0, .int .u8 0, .int .u8 0, .int .u32 0, .int .u64 0, .string (⟨#[]⟩ : ByteArray)]) ?_ 2 _ rfl; (with_reducible repeat (first | refine bN ?_ _ | refine bD ?_ | refine bA ?_ _)); refine blk_put (cs := #[.string ((rd_T27 x7_2 x87_4).f0), .int .u64 0, .int .u32 0, .int .u8 0, .int .u8 0, .int .u32 0, .int .u64 0, .string (⟨#[]⟩ : ByteArray)]) ?_ 1 _ rfl; (with_reducible repeat (first | refine bN ?_ _ | refine bD ?_ | refine bA ?_ _)); refine blk_put (cs := #[.string (⟨#[]⟩ : ByteArray), .int .u64 0, .int .u32 0, .int .u8 0, .int .u8 0, .int .u32 0, .int .u64 0, .string (⟨#[]⟩ : ByteArray)]) ?_ 0 _ rfl; (with_reducible repeat (first | refine bN ?_ _ | refine bD ?_ | refine bA ?_ _)); exact BK165.out⟩
         have n4_ : Aside0 (Below w.heap.size w ((((((((w110.setCell ⟨gb165, 0, none⟩ (.string ((rd_T27 x7_2 x87_4).f0))).setCell ⟨gb165, 1, none⟩ (.int .u64 ((rd_T27 x7_2 x87_4).f1.f0))).setCell ⟨gb165, 2, none⟩ (.int .u32 ((rd_T27 x7_2 x87_4).f1.f1))).setCell ⟨gb165, 3, none⟩ (.int .u8 ((rd_T27 x7_2 x87_4).f1.f2))).setCell ⟨gb165, 4, none⟩ (.int .u8 ((rd_T27 x7_2 x87_4).f2))).setCell ⟨gb165, 5, none⟩ (.int .u32 ((rd_T27 x7_2 x87_4).f3))).setCell ⟨gb165, 6, none⟩ (.int .u64 ((rd_T27 x7_2 x87_4).f4))).setCell ⟨gb165, 7, none⟩ (.string ((rd_T27 x7_2 x87_4).f5)))) := ⟨by repeat (first | (with_reducible first | exact HB.out | apply qA | apply qN | apply qD | refine below_set ?_ GE143.out | refine below_set ?_ GE144.out | refine below_set ?_ GE165.out) | exact HB.out)⟩
         (try clear HO_85)
         (try clear BK143)
         (try clear BK144)
         (try clear BK165)
         (try clear HB)
         generalize ((((((((w110.setCell ⟨gb165, 0, none⟩ (.string ((rd_T27 x7_2 x87_4).f0))).setCell ⟨gb165, 1, none⟩ (.int .u64 ((rd_T27 x7_2 x87_4).f1.f0))).setCell ⟨gb165, 2, none⟩ (.int .u32 ((rd_T27 x7_2 x87_4).f1.f1))).setCell ⟨gb165, 3, none⟩ (.int .u8 ((rd_T27 x7_2 x87_4).f1.f2))).setCell ⟨gb165, 4, none⟩ (.int .u8 ((rd_T27 x7_2 x87_4).f2))).setCell ⟨gb165, 5, none⟩ (.int .u32 ((rd_T27 x7_2 x87_4).f3))).setCell ⟨gb165, 6, none⟩ (.int .u64 ((rd_T27 x7_2 x87_4).f4))).setCell ⟨gb165, 7, none⟩ (.string ((rd_T27 x7_2 x87_4).f5))) = w114 at n0_ n1_ n2_ n3_ n4_ ⊢
         have HO_85 := n0_
         have BK143 := n1_
         have BK144 := n2_
         have BK165 := n3_
         have HB := n4_
         clear n0_ n1_ n2_ n3_ n4_
         have n0_ := Aside0.mk (Kd.R_drew HO_85.out)
         have n1_ := Aside0.mk (blk_drew BK143.out)
         have n2_ := Aside0.mk (blk_drew BK144.out)
         have n3_ := Aside0.mk (blk_drew BK165.out)
         have n4_ := Aside0.mk (below_drew1 HB.out)
         clear HO_85
         clear BK143
         clear BK144
         clear BK165
         clear HB
         have HO_85 := n0_
         have BK143 := n1_
         have BK144 := n2_
         have BK165 := n3_
         have HB := n4_
         clear n0_ n1_ n2_ n3_ n4_
         refine start_ (n := 11) (S := fun w' => w'.cell? ⟨gb165, 0, none⟩ = some (.string ((rd_T27 x7_2 x87_4).f0)) ∧ w'.cell? ⟨gb165, 1, none⟩ = some (.int .u64 ((rd_T27 x7_2 x87_4).f1.f0)) ∧ w'.cell? ⟨gb165, 2, none⟩ = some (.int .u32 ((rd_T27 x7_2 x87_4).f1.f1)) ∧ w'.cell? ⟨gb165, 3, none⟩ = some (.int .u8 ((rd_T27 x7_2 x87_4).f1.f2)) ∧ w'.cell? ⟨gb165, 4, none⟩ = some (.int .u8 ((rd_T27 x7_2 x87_4).f2)) ∧ w'.cell? ⟨gb165, 5, none⟩ = some (.int .u32 ((rd_T27 x7_2 x87_4).f3)) ∧ w'.cell? ⟨gb165, 6, none⟩ = some (.int .u64 ((rd_T27 x7_2 x87_4).f4)) ∧ w'.cell? ⟨gb165, 7, none⟩ = some (.string ((rd_T27 x7_2 x87_4).f5)) ∧ w'.cell? ⟨gb143, 0, none⟩ = some (.string x144000_3) ∧ w'.cell? ⟨gb143, 1, none⟩ = some (.int .u64 x144001_3) ∧ w'.cell? ⟨gb143, 2, none⟩ = some (.int .u32 x144002_3) ∧ w'.cell? ⟨gb143, 3, none⟩ = some (.int .u8 x144003_3) ∧ w'.cell? ⟨gb143, 4, none⟩ = some (.int .u8 x144004_3) ∧ w'.cell? ⟨gb143, 5, none⟩ = some (.int .u32 x144005_3) ∧ w'.cell? ⟨gb143, 6, none⟩ = some (.int .u64 x144006_3) ∧ w'.cell? ⟨gb143, 7, none⟩ = some (.string x144007_3)) (ds := []) #[false, false, false, false, false, false, false, false, false, false, false] (by kernel_rfl) rfl rfl ⟨(blk_cell BK165.out 0).trans rfl, (blk_cell BK165.out 1).trans rfl, (blk_cell BK165.out 2).trans rfl, (blk_cell BK165.out 3).trans rfl, (blk_cell BK165.out 4).trans rfl, (blk_cell BK165.out 5).trans rfl, (blk_cell BK165.out 6).trans rfl, (blk_cell BK165.out 7).trans rfl, (blk_cell BK143.out 0).trans rfl, (blk_cell BK143.out 1).trans rfl, (blk_cell BK143.out 2).trans rfl, (blk_cell BK143.out 3).trans rfl, (blk_cell BK143.out 4).trans rfl, (blk_cell BK143.out 5).trans rfl, (blk_cell BK143.out 6).trans rfl, (blk_cell BK143.out 7).trans rfl⟩ (fun hHeld => ?_); refine with_tabW tattlerlaw06_RecJoins.tab23 tattlerlaw06_RecJoins.bits23 (fun HT_ HW_ => ?_)
         generalize w114.drew = w115 at HO_85 BK143 BK144 BK165 HB hHeld ⊢
         refine take_ (i := 0) (N := some 91) (v := ?_) (a' := ?_) #[true, false, false, false, false, false, false, false, false, false, false] rfl rfl (take_ofW HT_.out HW_.out (by kernel_rfl)) (fun _ _ _ h => h) (Or.inl ⟨by rfl, ?_⟩) hHeld ?_ ?_
         rotate_left
         ·
          rintro w' ⟨s0, s1, s2, s3, s4, s5, s6, s7, s8, s9, s10, s11, s12, s13, s14, s15⟩
          go_simp
          with_reducible rfl
         rotate_left
         ·
          simp only [Act.put, List.setIfInBounds_toArray, List.set_cons_zero, List.set_cons_succ, i64_w, i32_w]
          rfl
         refine take_ (i := 1) (N := some 92) (v := ?_) (a' := ?_) #[true, true, false, false, false, false, false, false, false, false, false] rfl rfl (take_ofW HT_.out HW_.out (by kernel_rfl)) (fun _ _ _ h => h) (Or.inl ⟨by rfl, ?_⟩) hHeld ?_ ?_
         rotate_left
         ·
          rintro w' ⟨s0, s1, s2, s3, s4, s5, s6, s7, s8, s9, s10, s11, s12, s13, s14, s15⟩
          go_simp
          with_reducible rfl
         rotate_left
         ·
          simp only [Act.put, List.setIfInBounds_toArray, List.set_cons_zero, List.set_cons_succ, i64_w, i32_w]
          rfl
         refine one_ (i := 2) (N := some 93) #[true, true, true, false, false, false, false, false, false, false, false] rfl rfl (one_of HT_.out (by kernel_rfl)) (by decide) (fun K hK => ?_)
         refine goes_ Try.func12 (by kernel_rfl) rfl #[.agg #[.string ((rd_T27 x7_2 x87_4).f0), .int .u64 ((rd_T27 x7_2 x87_4).f1.f0), .int .u32 ((rd_T27 x7_2 x87_4).f1.f1), .int .u8 ((rd_T27 x7_2 x87_4).f1.f2), .int .u8 ((rd_T27 x7_2 x87_4).f2), .int .u32 ((rd_T27 x7_2 x87_4).f3), .int .u64 ((rd_T27 x7_2 x87_4).f4), .string ((rd_T27 x7_2 x87_4).f5)], .agg #[.string x144000_3, .int .u64 x144001_3, .int .u32 x144002_3, .int .u8 x144003_3, .int .u8 x144004_3, .int .u32 x144005_3, .int .u64 x144006_3, .string x144007_3]] (by rfl) rfl rfl (by (try simp only [List.map_toArray, List.map_cons, List.map_nil]); first | done | rfl | (simp only [List.length_drop, List.length_take]; rfl)) ?_
         with_reducible refine (rec_Compare.calls ((rd_T27 x7_2 x87_4).f0) ((rd_T27 x7_2 x87_4).f1.f0) ((rd_T27 x7_2 x87_4).f1.f1) ((rd_T27 x7_2 x87_4).f1.f2) ((rd_T27 x7_2 x87_4).f2) ((rd_T27 x7_2 x87_4).f3) ((rd_T27 x7_2 x87_4).f4) ((rd_T27 x7_2 x87_4).f5) x144000_3 x144001_3 x144002_3 x144003_3 x144004_3 x144005_3 x144006_3 x144007_3 t166 _ A91.out).mono ?_
         rintro e w116 ⟨rfl, hb⟩
         refine ⟨_, rfl, ?_⟩
         have n0_ := Aside0.mk (Kd.R_below (by (with_reducible repeat (first | apply rA | apply rN | apply rD)); exact HO_85.out) hb)
         have n1_ := Aside0.mk (blk_below (g := gb143) (o := .cells #[.string x144000_3, .int .u64 x144001_3, .int .u32 x144002_3, .int .u8 x144003_3, .int .u8 x144004_3, .int .u32 x144005_3, .int .u64 x144006_3, .string x144007_3] 27 (0, 0)) (by (with_reducible repeat (first | refine bN ?_ _ | refine bD ?_ | refine bA ?_ _)); exact BK143.out) hb)
         have n2_ := Aside0.mk (blk_below (g := gb144) (o := .cells #[.string x145000_3, .int .u64 x145001_3, .int .u32 x145002_3, .int .u8 x145003_3, .int .u8 x145004_3, .int .u32 x145005_3, .int .u64 x145006_3, .string x145007_3] 27 (0, 0)) (by (with_reducible repeat (first | refine bN ?_ _ | refine bD ?_ | refine bA ?_ _)); exact BK144.out) hb)
         have n3_ := Aside0.mk (blk_below (g := gb165) (o := .cells #[.string ((rd_T27 x7_2 x87_4).f0), .int .u64 ((rd_T27 x7_2 x87_4).f1.f0), .int .u32 ((rd_T27 x7_2 x87_4).f1.f1), .int .u8 ((rd_T27 x7_2 x87_4).f1.f2), .int .u8 ((rd_T27 x7_2 x87_4).f2), .int .u32 ((rd_T27 x7_2 x87_4).f3), .int .u64 ((rd_T27 x7_2 x87_4).f4), .string ((rd_T27 x7_2 x87_4).f5)] 27 (0, 0)) (by (with_reducible repeat (first | refine bN ?_ _ | refine bD ?_ | refine bA ?_ _)); exact BK165.out) hb)
         have n4_ := Aside0.mk (below_step (by repeat (first | (with_reducible first | exact HB.out | apply qA | apply qN | apply qD | refine below_set ?_ GE143.out | refine below_set ?_ GE144.out | refine below_set ?_ GE165.out) | exact HB.out)) hb)
         clear HO_85
         clear BK143
         clear BK144
         clear BK165
         clear HB
         have HO_85 := n0_
         have BK143 := n1_
         have BK144 := n2_
         have BK165 := n3_
         have HB := n4_
         clear n0_ n1_ n2_ n3_ n4_
         (try clear hb)
         (try clear hb2)
         (try clear hk)
         (try clear hi)
         refine hK.out _ _ ⟨(blk_cell BK165.out 0).trans rfl, (blk_cell BK165.out 1).trans rfl, (blk_cell BK165.out 2).trans rfl, (blk_cell BK165.out 3).trans rfl, (blk_cell BK165.out 4).trans rfl, (blk_cell BK165.out 5).trans rfl, (blk_cell BK165.out 6).trans rfl, (blk_cell BK165.out 7).trans rfl, (blk_cell BK143.out 0).trans rfl, (blk_cell BK143.out 1).trans rfl, (blk_cell BK143.out 2).trans rfl, (blk_cell BK143.out 3).trans rfl, (blk_cell BK143.out 4).trans rfl, (blk_cell BK143.out 5).trans rfl, (blk_cell BK143.out 6).trans rfl, (blk_cell BK143.out 7).trans rfl⟩ (fun hHeld => ?_)
         clear hK K
         refine norm_ (a' := ?_) ?_ ?_
         rotate_left
         ·
          show Act.put _ (some 93) _ = _
          simp only [Act.put, List.setIfInBounds_toArray, List.set_cons_zero, List.set_cons_succ, i64_w, i32_w]
          rfl
         refine pure_ (i := 3) (N := some 94) (v := ?_) (a' := ?_) #[true, true, true, true, false, false, false, false, false, false, false] rfl rfl (any_of HT_.out (by kernel_rfl)) (fun _ _ _ h => h) (Or.inl ⟨by rfl, ?_⟩) ?_ ?_
         rotate_left
         ·
          intro w'
          go_simp
          with_reducible rfl
         rotate_left
         ·
          simp only [Act.put, List.setIfInBounds_toArray, List.set_cons_zero, List.set_cons_succ, i64_w, i32_w]
          rfl
         refine pure_ (i := 4) (N := some 95) (v := ?_) (a' := ?_) #[true, true, true, true, true, false, false, false, false, false, false] rfl rfl (any_of HT_.out (by kernel_rfl)) (fun _ _ _ h => h) (Or.inl ⟨by rfl, ?_⟩) ?_ ?_
         rotate_left
         ·
          intro w'
          go_simp
          with_reducible rfl
         rotate_left
         ·
          simp only [Act.put, List.setIfInBounds_toArray, List.set_cons_zero, List.set_cons_succ, i64_w, i32_w]
          rfl
         refine take_ (i := 5) (N := some 96) (v := ?_) (a' := ?_) #[true, true, true, true, true, true, false, false, false, false, false] rfl rfl (take_ofW HT_.out HW_.out (by kernel_rfl)) (fun _ _ _ h => h) (Or.inl ⟨by rfl, ?_⟩) hHeld ?_ ?_
         rotate_left
         ·
          rintro w' ⟨s0, s1, s2, s3, s4, s5, s6, s7, s8, s9, s10, s11, s12, s13, s14, s15⟩
          go_simp
          with_reducible rfl
         rotate_left
         ·
          simp only [Act.put, List.setIfInBounds_toArray, List.set_cons_zero, List.set_cons_succ, i64_w, i32_w]
          rfl
         refine take_ (i := 6) (N := some 97) (v := ?_) (a' := ?_) #[true, true, true, true, true, true, true, false, false, false, false] rfl rfl (take_ofW HT_.out HW_.out (by kernel_rfl)) (fun _ _ _ h => h) (Or.inl ⟨by rfl, ?_⟩) hHeld ?_ ?_
         rotate_left
         ·
          rintro w' ⟨s0, s1, s2, s3, s4, s5, s6, s7, s8, s9, s10, s11, s12, s13, s14, s15⟩
          go_simp
          with_reducible rfl
         rotate_left
         ·
          simp only [Act.put, List.setIfInBounds_toArray, List.set_cons_zero, List.set_cons_succ, i64_w, i32_w]
          rfl
         refine take_ (i := 8) (N := some 99) (v := ?_) (a' := ?_) #[true, true, true, true, true, true, true, false, true, false, false] rfl rfl (take_ofW HT_.out HW_.out (by kernel_rfl)) (fun _ _ _ h => h) (Or.inl ⟨by rfl, ?_⟩) hHeld ?_ ?_
         rotate_left
         ·
          rintro w' ⟨s0, s1, s2, s3, s4, s5, s6, s7, s8, s9, s10, s11, s12, s13, s14, s15⟩
          go_simp
          with_reducible rfl
         rotate_left
         ·
          simp only [Act.put, List.setIfInBounds_toArray, List.set_cons_zero, List.set_cons_succ, i64_w, i32_w]
          rfl
         refine one_ (i := 7) (N := some 98) #[true, true, true, true, true, true, true, true, true, false, false] rfl rfl (one_of HT_.out (by kernel_rfl)) (by decide) (fun K hK => ?_)
         refine goes_ Try.func15 (by kernel_rfl) rfl #[.agg #[.string ((rd_T27 x7_2 x87_4).f0), .int .u64 ((rd_T27 x7_2 x87_4).f1.f0), .int .u32 ((rd_T27 x7_2 x87_4).f1.f1), .int .u8 ((rd_T27 x7_2 x87_4).f1.f2), .int .u8 ((rd_T27 x7_2 x87_4).f2), .int .u32 ((rd_T27 x7_2 x87_4).f3), .int .u64 ((rd_T27 x7_2 x87_4).f4), .string ((rd_T27 x7_2 x87_4).f5)], .agg #[.string ((rd_T27 x7_2 x87_4).f0), .int .u64 ((rd_T27 x7_2 x87_4).f1.f0), .int .u32 ((rd_T27 x7_2 x87_4).f1.f1), .int .u8 ((rd_T27 x7_2 x87_4).f1.f2), .int .u8 ((rd_T27 x7_2 x87_4).f2), .int .u32 ((rd_T27 x7_2 x87_4).f3), .int .u64 ((rd_T27 x7_2 x87_4).f4), .string ((rd_T27 x7_2 x87_4).f5)]] (by rfl) rfl rfl (by (try simp only [List.map_toArray, List.map_cons, List.map_nil]); first | done | rfl | (simp only [List.length_drop, List.length_take]; rfl)) ?_
         with_reducible refine (rec_Join.calls ((rd_T27 x7_2 x87_4).f0) ((rd_T27 x7_2 x87_4).f1.f0) ((rd_T27 x7_2 x87_4).f1.f1) ((rd_T27 x7_2 x87_4).f1.f2) ((rd_T27 x7_2 x87_4).f2) ((rd_T27 x7_2 x87_4).f3) ((rd_T27 x7_2 x87_4).f4) ((rd_T27 x7_2 x87_4).f5) ((rd_T27 x7_2 x87_4).f0) ((rd_T27 x7_2 x87_4).f1.f0) ((rd_T27 x7_2 x87_4).f1.f1) ((rd_T27 x7_2 x87_4).f1.f2) ((rd_T27 x7_2 x87_4).f2) ((rd_T27 x7_2 x87_4).f3) ((rd_T27 x7_2 x87_4).f4) ((rd_T27 x7_2 x87_4).f5) t167 t168 t169 t170 t171 t172 t173 t174 _ A100.out).mono ?_
         rintro e w117 ⟨rfl, hb⟩
         refine ⟨_, rfl, ?_⟩
         have n0_ := Aside0.mk (Kd.R_below (by (with_reducible repeat (first | apply rA | apply rN | apply rD)); exact HO_85.out) hb)
         have n1_ := Aside0.mk (blk_below (g := gb143) (o := .cells #[.string x144000_3, .int .u64 x144001_3, .int .u32 x144002_3, .int .u8 x144003_3, .int .u8 x144004_3, .int .u32 x144005_3, .int .u64 x144006_3, .string x144007_3] 27 (0, 0)) (by (with_reducible repeat (first | refine bN ?_ _ | refine bD ?_ | refine bA ?_ _)); exact BK143.out) hb)
         have n2_ := Aside0.mk (blk_below (g := gb144) (o := .cells #[.string x145000_3, .int .u64 x145001_3, .int .u32 x145002_3, .int .u8 x145003_3, .int .u8 x145004_3, .int .u32 x145005_3, .int .u64 x145006_3, .string x145007_3] 27 (0, 0)) (by (with_reducible repeat (first | refine bN ?_ _ | refine bD ?_ | refine bA ?_ _)); exact BK144.out) hb)
         have n3_ := Aside0.mk (blk_below (g := gb165) (o := .cells #[.string ((rd_T27 x7_2 x87_4).f0), .int .u64 ((rd_T27 x7_2 x87_4).f1.f0), .int .u32 ((rd_T27 x7_2 x87_4).f1.f1), .int .u8 ((rd_T27 x7_2 x87_4).f1.f2), .int .u8 ((rd_T27 x7_2 x87_4).f2), .int .u32 ((rd_T27 x7_2 x87_4).f3), .int .u64 ((rd_T27 x7_2 x87_4).f4), .string ((rd_T27 x7_2 x87_4).f5)] 27 (0, 0)) (by (with_reducible repeat (first | refine bN ?_ _ | refine bD ?_ | refine bA ?_ _)); exact BK165.out) hb)
         have n4_ := Aside0.mk (below_step (by repeat (first | (with_reducible first | exact HB.out | apply qA | apply qN | apply qD | refine below_set ?_ GE143.out | refine below_set ?_ GE144.out | refine below_set ?_ GE165.out) | exact HB.out)) hb)
         clear HO_85
         clear BK143
         clear BK144
         clear BK165
         clear HB
         have HO_85 := n0_
         have BK143 := n1_
         have BK144 := n2_
         have BK165 := n3_
         have HB := n4_
         clear n0_ n1_ n2_ n3_ n4_
         (try clear hb)
         (try clear hb2)
         (try clear hk)
         (try clear hi)
         refine hK.out _ _ ⟨(blk_cell BK165.out 0).trans rfl, (blk_cell BK165.out 1).trans rfl, (blk_cell BK165.out 2).trans rfl, (blk_cell BK165.out 3).trans rfl, (blk_cell BK165.out 4).trans rfl, (blk_cell BK165.out 5).trans rfl, (blk_cell BK165.out 6).trans rfl, (blk_cell BK165.out 7).trans rfl, (blk_cell BK143.out 0).trans rfl, (blk_cell BK143.out 1).trans rfl, (blk_cell BK143.out 2).trans rfl, (blk_cell BK143.out 3).trans rfl, (blk_cell BK143.out 4).trans rfl, (blk_cell BK143.out 5).trans rfl, (blk_cell BK143.out 6).trans rfl, (blk_cell BK143.out 7).trans rfl⟩ (fun hHeld => ?_)
         clear hK K
         refine norm_ (a' := ?_) ?_ ?_
         rotate_left
         ·
          show Act.put _ (some 98) _ = _
          simp only [Act.put, List.setIfInBounds_toArray, List.set_cons_zero, List.set_cons_succ, i64_w, i32_w]
          rfl
         refine pure_ (i := 9) (N := some 100) (v := ?_) (a' := ?_) #[true, true, true, true, true, true, true, true, true, true, false] rfl rfl (any_of HT_.out (by kernel_rfl)) (fun _ _ _ h => h) (Or.inl ⟨by rfl, ?_⟩) ?_ ?_
         rotate_left
         ·
          intro w'
          go_simp
          with_reducible rfl
         rotate_left
         ·
          simp only [Act.put, List.setIfInBounds_toArray, List.set_cons_zero, List.set_cons_succ, i64_w, i32_w]
          rfl
         refine pure_ (i := 10) (N := some 101) (v := ?_) (a' := ?_) #[true, true, true, true, true, true, true, true, true, true, true] rfl rfl (any_of HT_.out (by kernel_rfl)) (fun _ _ _ h => h) (Or.inl ⟨by rfl, ?_⟩) ?_ ?_
         rotate_left
         ·
          intro w'
          go_simp
          with_reducible rfl
         rotate_left
         ·
          simp only [Act.put, List.setIfInBounds_toArray, List.set_cons_zero, List.set_cons_succ, i64_w, i32_w]
          rfl
         refine done_ (done_of HT_.out (by kernel_rfl)) ?_
         try go_wp2
         go_roundg k4
         case measure => have := HJ3.out; have := HK2.out; have := HK3.out; have := HK4.out; omega
         case rel => exact ⟨(wrap64 (x87_4 + 1)), (by first | rfl | (simp; done) | (simp [*]; done)), H', ⟨by have := HJ3.out; have := HK2.out; have := HK3.out; have := HK4.out; omega⟩, ⟨by (with_reducible repeat (first | apply rA | apply rN | apply rD)); exact Kd.R_mono HO_85.out (fun _ hk => ⟨hk.1, hk.2.1⟩)⟩, ⟨by (with_reducible repeat (first | refine bN ?_ _ | refine bD ?_ | refine bA ?_ _)); exact BK143.out⟩, ⟨by (with_reducible repeat (first | refine bN ?_ _ | refine bD ?_ | refine bA ?_ _)); exact BK144.out⟩, ⟨by repeat (first | (with_reducible first | exact HB.out | apply qA | apply qN | apply qD | refine below_set ?_ GE143.out | refine below_set ?_ GE144.out | refine below_set ?_ GE165.out) | exact HB.out)⟩⟩

end Go.Proofs.Ytlohnhjfdmldnaa.PRecJoins
