-- Printed by a program of this session over its told contracts; Lean checks it.
import Derived.Test.YthinmioognadpaaDoorPCmdx0
namespace Go.Proofs.YthinmioognadpaaDoor.PCmd
open Go.RowKit Go.Proofs.YthinmioognadpaaDoorW.PrintWords Go.Proofs.YthinmioognadpaaDoorW.PrintLast Go.Proofs.YthinmioognadpaaDoorW.PrintMore
attribute [local go_sem] max2_int min2_int max_two min_two max_three min_three max_four min_four   -- for this text's walks alone
set_option linter.unusedVariables false
set_option linter.unusedSimpArgs false

/-! ### tattlerref07_Same: function 20 -/
mutual
def tattlerref07_Same.j0 : Nat → Bool → Int → List ByteArray → Int → Int → ByteArray → Bool → ByteArray → Int → List ByteArray → Int → Int → ByteArray → Bool → ByteArray → Option (Bool)
  | 0, _, _, _, _, _, _, _, _, _, _, _, _, _, _, _ => none
  | k + 1, x54, x320000, x320001, x320002, x320003, x320004, x320005, x320006, x321000, x321001, x321002, x321003, x321004, x321005, x321006 => if x54 = true then (some false) else (tattlerref07_Same.l0 k (x320001.length : Int) 0 x320000 x320001 x320002 x320003 x320004 x320005 x320006 x321000 x321001 x321002 x321003 x321004 x321005 x321006)
def tattlerref07_Same.l0 : Nat → Int → Int → Int → List ByteArray → Int → Int → ByteArray → Bool → ByteArray → Int → List ByteArray → Int → Int → ByteArray → Bool → ByteArray → Option (Bool)
  | 0, _, _, _, _, _, _, _, _, _, _, _, _, _, _, _, _ => none
  | k + 1, x57, x58, x320000, x320001, x320002, x320003, x320004, x320005, x320006, x321000, x321001, x321002, x321003, x321004, x321005, x321006 => if x58 < x57 then (if 0 ≤ x58 then (if x58 < (x320001.length : Int) then (if x58 < (x321001.length : Int) then (if (rdOf ByteArray.empty x320001 x58).toList = (rdOf ByteArray.empty x321001 x58).toList then (tattlerref07_Same.l0 k x57 (wrap64 (x58 + 1)) x320000 x320001 x320002 x320003 x320004 x320005 x320006 x321000 x321001 x321002 x321003 x321004 x321005 x321006) else (some false)) else (none)) else (none)) else (none)) else (some true)
end
def tattlerref07_Same.f (k : Nat) (a0_0 : Int) (l0_1 : List ByteArray) (a0_2 : Int) (a0_3 : Int) (a0_4 : ByteArray) (a0_5 : Bool) (a0_6 : ByteArray) (a1_0 : Int) (l1_1 : List ByteArray) (a1_2 : Int) (a1_3 : Int) (a1_4 : ByteArray) (a1_5 : Bool) (a1_6 : ByteArray) : Option (Bool) := if a0_0 = a1_0 then (if a0_2 = a1_2 then (if a0_3 = a1_3 then (if a0_4.toList = a1_4.toList then (if (a0_5 != a1_5) = true then (tattlerref07_Same.j0 k true a0_0 l0_1 a0_2 a0_3 a0_4 a0_5 a0_6 a1_0 l1_1 a1_2 a1_3 a1_4 a1_5 a1_6) else (if a0_6.toList = a1_6.toList then (tattlerref07_Same.j0 k ((l0_1.length : Int) != (l1_1.length : Int)) a0_0 l0_1 a0_2 a0_3 a0_4 a0_5 a0_6 a1_0 l1_1 a1_2 a1_3 a1_4 a1_5 a1_6) else (tattlerref07_Same.j0 k true a0_0 l0_1 a0_2 a0_3 a0_4 a0_5 a0_6 a1_0 l1_1 a1_2 a1_3 a1_4 a1_5 a1_6))) else (tattlerref07_Same.j0 k true a0_0 l0_1 a0_2 a0_3 a0_4 a0_5 a0_6 a1_0 l1_1 a1_2 a1_3 a1_4 a1_5 a1_6)) else (tattlerref07_Same.j0 k true a0_0 l0_1 a0_2 a0_3 a0_4 a0_5 a0_6 a1_0 l1_1 a1_2 a1_3 a1_4 a1_5 a1_6)) else (tattlerref07_Same.j0 k true a0_0 l0_1 a0_2 a0_3 a0_4 a0_5 a0_6 a1_0 l1_1 a1_2 a1_3 a1_4 a1_5 a1_6)) else (tattlerref07_Same.j0 k true a0_0 l0_1 a0_2 a0_3 a0_4 a0_5 a0_6 a1_0 l1_1 a1_2 a1_3 a1_4 a1_5 a1_6)
theorem tattlerref07_Same.mono_l : ∀ k, (∀ y0 y1 y2 y3 y4 y5 y6 y7 y8 y9 y10 y11 y12 y13 y14, LeO (tattlerref07_Same.j0 k y0 y1 y2 y3 y4 y5 y6 y7 y8 y9 y10 y11 y12 y13 y14) (tattlerref07_Same.j0 (k + 1) y0 y1 y2 y3 y4 y5 y6 y7 y8 y9 y10 y11 y12 y13 y14)) ∧ (∀ y0 y1 y2 y3 y4 y5 y6 y7 y8 y9 y10 y11 y12 y13 y14 y15, LeO (tattlerref07_Same.l0 k y0 y1 y2 y3 y4 y5 y6 y7 y8 y9 y10 y11 y12 y13 y14 y15) (tattlerref07_Same.l0 (k + 1) y0 y1 y2 y3 y4 y5 y6 y7 y8 y9 y10 y11 y12 y13 y14 y15))
  | 0 => ⟨fun _ _ _ _ _ _ _ _ _ _ _ _ _ _ _ r h => by simp [tattlerref07_Same.j0] at h, fun _ _ _ _ _ _ _ _ _ _ _ _ _ _ _ _ r h => by simp [tattlerref07_Same.l0] at h⟩
  | k + 1 => by
    obtain ⟨ih0, ih1⟩ := tattlerref07_Same.mono_l k
    refine ⟨?_, ?_⟩
    · intro y0 y1 y2 y3 y4 y5 y6 y7 y8 y9 y10 y11 y12 y13 y14
      unfold tattlerref07_Same.j0
      repeat' first
      | (with_reducible exact ih0 _ _ _ _ _ _ _ _ _ _ _ _ _ _ _)
      | (with_reducible exact ih1 _ _ _ _ _ _ _ _ _ _ _ _ _ _ _ _)
      | (with_reducible exact LeO.refl _)
      | (with_reducible exact LeO.none _)
      | (with_reducible refine LeO.ite ?_ ?_)
      | (with_reducible refine LeO.bind ?_ (fun _ => ?_))
      | exact ih0 _ _ _ _ _ _ _ _ _ _ _ _ _ _ _
      | exact ih1 _ _ _ _ _ _ _ _ _ _ _ _ _ _ _ _
      | exact LeO.none _
      | refine LeO.ite ?_ ?_
      | refine LeO.bind ?_ (fun _ => ?_)
    · intro y0 y1 y2 y3 y4 y5 y6 y7 y8 y9 y10 y11 y12 y13 y14 y15
      unfold tattlerref07_Same.l0
      repeat' first
      | (with_reducible exact ih0 _ _ _ _ _ _ _ _ _ _ _ _ _ _ _)
      | (with_reducible exact ih1 _ _ _ _ _ _ _ _ _ _ _ _ _ _ _ _)
      | (with_reducible exact LeO.refl _)
      | (with_reducible exact LeO.none _)
      | (with_reducible refine LeO.ite ?_ ?_)
      | (with_reducible refine LeO.bind ?_ (fun _ => ?_))
      | exact ih0 _ _ _ _ _ _ _ _ _ _ _ _ _ _ _
      | exact ih1 _ _ _ _ _ _ _ _ _ _ _ _ _ _ _ _
      | exact LeO.none _
      | refine LeO.ite ?_ ?_
      | refine LeO.bind ?_ (fun _ => ?_)
theorem tattlerref07_Same.mono : ∀ a0 a1 a2 a3 a4 a5 a6 a7 a8 a9 a10 a11 a12 a13 k, LeO (tattlerref07_Same.f k a0 a1 a2 a3 a4 a5 a6 a7 a8 a9 a10 a11 a12 a13) (tattlerref07_Same.f (k + 1) a0 a1 a2 a3 a4 a5 a6 a7 a8 a9 a10 a11 a12 a13) := by
  intro a0 a1 a2 a3 a4 a5 a6 a7 a8 a9 a10 a11 a12 a13 k
  obtain ⟨ih0, ih1⟩ := tattlerref07_Same.mono_l k
  unfold tattlerref07_Same.f
  repeat' first
      | (with_reducible exact ih0 _ _ _ _ _ _ _ _ _ _ _ _ _ _ _)
      | (with_reducible exact ih1 _ _ _ _ _ _ _ _ _ _ _ _ _ _ _ _)
      | (with_reducible exact LeO.refl _)
      | (with_reducible exact LeO.none _)
      | (with_reducible refine LeO.ite ?_ ?_)
      | (with_reducible refine LeO.bind ?_ (fun _ => ?_))
      | exact ih0 _ _ _ _ _ _ _ _ _ _ _ _ _ _ _
      | exact ih1 _ _ _ _ _ _ _ _ _ _ _ _ _ _ _ _
      | exact LeO.none _
      | refine LeO.ite ?_ ?_
      | refine LeO.bind ?_ (fun _ => ?_)
set_option maxHeartbeats 8000000 in
set_option maxRecDepth 100000 in
theorem tattlerref07_Same.calls (k : Nat) (a0_0 : Int) (A0_1 : Option Addr) (c0_1 : Nat) (l0_1 : List ByteArray) (a0_2 : Int) (a0_3 : Int) (a0_4 : ByteArray) (a0_5 : Bool) (a0_6 : ByteArray) (a1_0 : Int) (A1_1 : Option Addr) (c1_1 : Nat) (l1_1 : List ByteArray) (a1_2 : Int) (a1_3 : Int) (a1_4 : ByteArray) (a1_5 : Bool) (a1_6 : ByteArray) (r : Bool) (w : World) (hr0_1 : Kd.C Kd.string w A0_1 l0_1.length l0_1) (hc0_1 : l0_1.length ≤ c0_1) (hr1_1 : Kd.C Kd.string w A1_1 l1_1.length l1_1) (hc1_1 : l1_1.length ≤ c1_1) (h : tattlerref07_Same.f k a0_0 l0_1 a0_2 a0_3 a0_4 a0_5 a0_6 a1_0 l1_1 a1_2 a1_3 a1_4 a1_5 a1_6 = some r) :
    Calls Tryd.prog 20 #[.agg #[.int .i64 a0_0, .slice A0_1 l0_1.length c0_1, .int .u32 a0_2, .int .i64 a0_3, .string a0_4, .bool a0_5, .string a0_6], .agg #[.int .i64 a1_0, .slice A1_1 l1_1.length c1_1, .int .u32 a1_2, .int .i64 a1_3, .string a1_4, .bool a1_5, .string a1_6]] w fun e w' => e = .returned (.bool r) ∧ Below w.heap.size w w' := by
  have hu28 := Tryd.underlying28
  have HR0_1 := Aside0.mk hr0_1
  have HC0_1 := Aside0.mk hc0_1
  clear hr0_1 hc0_1
  have HR1_1 := Aside0.mk hr1_1
  have HC1_1 := Aside0.mk hc1_1
  clear hr1_1 hc1_1
  have HB := Aside0.mk (Below.refl w.heap.size w)
  have H : (if a0_0 = a1_0 then (if a0_2 = a1_2 then (if a0_3 = a1_3 then (if a0_4.toList = a1_4.toList then (if (a0_5 != a1_5) = true then (tattlerref07_Same.j0 k true a0_0 l0_1 a0_2 a0_3 a0_4 a0_5 a0_6 a1_0 l1_1 a1_2 a1_3 a1_4 a1_5 a1_6) else (if a0_6.toList = a1_6.toList then (tattlerref07_Same.j0 k ((l0_1.length : Int) != (l1_1.length : Int)) a0_0 l0_1 a0_2 a0_3 a0_4 a0_5 a0_6 a1_0 l1_1 a1_2 a1_3 a1_4 a1_5 a1_6) else (tattlerref07_Same.j0 k true a0_0 l0_1 a0_2 a0_3 a0_4 a0_5 a0_6 a1_0 l1_1 a1_2 a1_3 a1_4 a1_5 a1_6))) else (tattlerref07_Same.j0 k true a0_0 l0_1 a0_2 a0_3 a0_4 a0_5 a0_6 a1_0 l1_1 a1_2 a1_3 a1_4 a1_5 a1_6)) else (tattlerref07_Same.j0 k true a0_0 l0_1 a0_2 a0_3 a0_4 a0_5 a0_6 a1_0 l1_1 a1_2 a1_3 a1_4 a1_5 a1_6)) else (tattlerref07_Same.j0 k true a0_0 l0_1 a0_2 a0_3 a0_4 a0_5 a0_6 a1_0 l1_1 a1_2 a1_3 a1_4 a1_5 a1_6)) else (tattlerref07_Same.j0 k true a0_0 l0_1 a0_2 a0_3 a0_4 a0_5 a0_6 a1_0 l1_1 a1_2 a1_3 a1_4 a1_5 a1_6)) = some r := h
  clear h
  have HC3 := Aside0.mk H
  clear H
  go_enter Tryd.func20, Tryd.ntmps20
  go_upto_region 1 with (first | ((with_reducible refine gate_dst (N := 2) rfl ?_); (try (refine gate_guard (by rfl) ?_; dsimp only)); refine box_event ?hg (N := 2) ?hd (cs := #[.int .i64 a0_0, .slice A0_1 l0_1.length c0_1, .int .u32 a0_2, .int .i64 a0_3, .string a0_4, .bool a0_5, .string a0_6]) (t := 28) ?hr ?_; (case hd => rfl); (case hg => rfl); (case hr => first | (go_simp; done) | (go_simp; rfl)); intro gb319 hg w4 hbox hb; have n0_ := Aside0.mk (below_step (by repeat (first | (with_reducible first | exact HB.out | apply below_alloc | apply pw_below_drewN | apply below_drew1) | exact HB.out)) hb); have n1_ := Aside0.mk (hbox); have n2_ := Aside0.mk ((by rw [hg]; exact (below_size (by repeat (first | (with_reducible first | exact HB.out | apply below_alloc | apply pw_below_drewN | apply below_drew1) | exact HB.out))) : w.heap.size ≤ gb319)); have n3_ := Aside0.mk ((by rw [hg]; exact (below_size (by repeat (first | (with_reducible first | exact HB.out | apply below_alloc | apply pw_below_drewN | apply below_drew1) | exact HB.out))) : w.heap.size ≤ gb319)); clear HB; have HB := n0_; have BK319 := n1_; have GW319 := n2_; have GE319 := n3_; clear n0_ n1_ n2_ n3_; clear hb hbox hg) | ((with_reducible refine gate_dst (N := 3) rfl ?_); (try (refine gate_guard (by rfl) ?_; dsimp only)); refine box_event ?hg (N := 3) ?hd (cs := #[.int .i64 a1_0, .slice A1_1 l1_1.length c1_1, .int .u32 a1_2, .int .i64 a1_3, .string a1_4, .bool a1_5, .string a1_6]) (t := 28) ?hr ?_; (case hd => rfl); (case hg => rfl); (case hr => first | (go_simp; done) | (go_simp; rfl)); intro gb320 hg w5 hbox hb; have n0_ := Aside0.mk (blk_below (g := gb319) (o := .cells #[.int .i64 a0_0, .slice A0_1 l0_1.length c0_1, .int .u32 a0_2, .int .i64 a0_3, .string a0_4, .bool a0_5, .string a0_6] 28 (0, 0)) (by (with_reducible repeat (first | refine blk_drewN ?_ _ | refine blk_drew ?_ | refine blk_alloc ?_ _)); exact BK319.out) hb); have n1_ := Aside0.mk (below_step (by repeat (first | (with_reducible first | exact HB.out | apply below_alloc | apply pw_below_drewN | apply below_drew1 | refine below_set ?_ GE319.out) | exact HB.out)) hb); have n2_ := Aside0.mk (hbox); have n3_ := Aside0.mk ((by rw [hg]; exact (below_size (by repeat (first | (with_reducible first | exact HB.out | apply below_alloc | apply pw_below_drewN | apply below_drew1 | refine below_set ?_ GE319.out) | exact HB.out))) : w.heap.size ≤ gb320)); have n4_ := Aside0.mk ((by rw [hg]; exact (below_size (by repeat (first | (with_reducible first | exact HB.out | apply below_alloc | apply pw_below_drewN | apply below_drew1 | refine below_set ?_ GE319.out) | exact HB.out))) : w.heap.size ≤ gb320)); have n5_ := Aside0.mk ((by rw [hg]; exact Nat.ne_of_lt (blk_lt (g := gb319) (o := .cells #[.int .i64 a0_0, .slice A0_1 l0_1.length c0_1, .int .u32 a0_2, .int .i64 a0_3, .string a0_4, .bool a0_5, .string a0_6] 28 (0, 0)) (by (with_reducible repeat (first | refine blk_drewN ?_ _ | refine blk_drew ?_ | refine blk_alloc ?_ _)); exact BK319.out)) : gb319 ≠ gb320)); have n6_ := Aside0.mk ((by rw [hg]; exact Nat.ne_of_gt (blk_lt (g := gb319) (o := .cells #[.int .i64 a0_0, .slice A0_1 l0_1.length c0_1, .int .u32 a0_2, .int .i64 a0_3, .string a0_4, .bool a0_5, .string a0_6] 28 (0, 0)) (by (with_reducible repeat (first | refine blk_drewN ?_ _ | refine blk_drew ?_ | refine blk_alloc ?_ _)); exact BK319.out)) : gb320 ≠ gb319)); clear BK319; clear HB; have BK319 := n0_; have HB := n1_; have BK320 := n2_; have GW320 := n3_; have GE320 := n4_; have NB319_320 := n5_; have NB320_319 := n6_; clear n0_ n1_ n2_ n3_ n4_ n5_ n6_; clear hb hbox hg))
  repeat (go_quiet (first | ((with_reducible refine gate_dst (N := 2) rfl ?_); (try (refine gate_guard (by rfl) ?_; dsimp only)); refine box_event ?hg (N := 2) ?hd (cs := #[.int .i64 a0_0, .slice A0_1 l0_1.length c0_1, .int .u32 a0_2, .int .i64 a0_3, .string a0_4, .bool a0_5, .string a0_6]) (t := 28) ?hr ?_; (case hd => rfl); (case hg => rfl); (case hr => first | (go_simp; done) | (go_simp; rfl)); intro gb319 hg w4 hbox hb; have n0_ := Aside0.mk (below_step (by repeat (first | (with_reducible first | exact HB.out | apply below_alloc | apply pw_below_drewN | apply below_drew1) | exact HB.out)) hb); have n1_ := Aside0.mk (hbox); have n2_ := Aside0.mk ((by rw [hg]; exact (below_size (by repeat (first | (with_reducible first | exact HB.out | apply below_alloc | apply pw_below_drewN | apply below_drew1) | exact HB.out))) : w.heap.size ≤ gb319)); have n3_ := Aside0.mk ((by rw [hg]; exact (below_size (by repeat (first | (with_reducible first | exact HB.out | apply below_alloc | apply pw_below_drewN | apply below_drew1) | exact HB.out))) : w.heap.size ≤ gb319)); clear HB; have HB := n0_; have BK319 := n1_; have GW319 := n2_; have GE319 := n3_; clear n0_ n1_ n2_ n3_; clear hb hbox hg) | ((with_reducible refine gate_dst (N := 3) rfl ?_); (try (refine gate_guard (by rfl) ?_; dsimp only)); refine box_event ?hg (N := 3) ?hd (cs := #[.int .i64 a1_0, .slice A1_1 l1_1.length c1_1, .int .u32 a1_2, .int .i64 a1_3, .string a1_4, .bool a1_5, .string a1_6]) (t := 28) ?hr ?_; (case hd => rfl); (case hg => rfl); (case hr => first | (go_simp; done) | (go_simp; rfl)); intro gb320 hg w5 hbox hb; have n0_ := Aside0.mk (blk_below (g := gb319) (o := .cells #[.int .i64 a0_0, .slice A0_1 l0_1.length c0_1, .int .u32 a0_2, .int .i64 a0_3, .string a0_4, .bool a0_5, .string a0_6] 28 (0, 0)) (by (with_reducible repeat (first | refine blk_drewN ?_ _ | refine blk_drew ?_ | refine blk_alloc ?_ _)); exact BK319.out) hb); have n1_ := Aside0.mk (below_step (by repeat (first | (with_reducible first | exact HB.out | apply below_alloc | apply pw_below_drewN | apply below_drew1 | refine below_set ?_ GE319.out) | exact HB.out)) hb); have n2_ := Aside0.mk (hbox); have n3_ := Aside0.mk ((by rw [hg]; exact (below_size (by repeat (first | (with_reducible first | exact HB.out | apply below_alloc | apply pw_below_drewN | apply below_drew1 | refine below_set ?_ GE319.out) | exact HB.out))) : w.heap.size ≤ gb320)); have n4_ := Aside0.mk ((by rw [hg]; exact (below_size (by repeat (first | (with_reducible first | exact HB.out | apply below_alloc | apply pw_below_drewN | apply below_drew1 | refine below_set ?_ GE319.out) | exact HB.out))) : w.heap.size ≤ gb320)); have n5_ := Aside0.mk ((by rw [hg]; exact Nat.ne_of_lt (blk_lt (g := gb319) (o := .cells #[.int .i64 a0_0, .slice A0_1 l0_1.length c0_1, .int .u32 a0_2, .int .i64 a0_3, .string a0_4, .bool a0_5, .string a0_6] 28 (0, 0)) (by (with_reducible repeat (first | refine blk_drewN ?_ _ | refine blk_drew ?_ | refine blk_alloc ?_ _)); exact BK319.out)) : gb319 ≠ gb320)); have n6_ := Aside0.mk ((by rw [hg]; exact Nat.ne_of_gt (blk_lt (g := gb319) (o := .cells #[.int .i64 a0_0, .slice A0_1 l0_1.length c0_1, .int .u32 a0_2, .int .i64 a0_3, .string a0_4, .bool a0_5, .string a0_6] 28 (0, 0)) (by (with_reducible repeat (first | refine blk_drewN ?_ _ | refine blk_drew ?_ | refine blk_alloc ?_ _)); exact BK319.out)) : gb320 ≠ gb319)); clear BK319; clear HB; have BK319 := n0_; have HB := n1_; have BK320 := n2_; have GW320 := n3_; have GE320 := n4_; have NB319_320 := n5_; have NB320_319 := n6_; clear n0_ n1_ n2_ n3_ n4_ n5_ n6_; clear hb hbox hg)); go_upto_region 1 with (first | ((with_reducible refine gate_dst (N := 2) rfl ?_); (try (refine gate_guard (by rfl) ?_; dsimp only)); refine box_event ?hg (N := 2) ?hd (cs := #[.int .i64 a0_0, .slice A0_1 l0_1.length c0_1, .int .u32 a0_2, .int .i64 a0_3, .string a0_4, .bool a0_5, .string a0_6]) (t := 28) ?hr ?_; (case hd => rfl); (case hg => rfl); (case hr => first | (go_simp; done) | (go_simp; rfl)); intro gb319 hg w4 hbox hb; have n0_ := Aside0.mk (below_step (by repeat (first | (with_reducible first | exact HB.out | apply below_alloc | apply pw_below_drewN | apply below_drew1) | exact HB.out)) hb); have n1_ := Aside0.mk (hbox); have n2_ := Aside0.mk ((by rw [hg]; exact (below_size (by repeat (first | (with_reducible first | exact HB.out | apply below_alloc | apply pw_below_drewN | apply below_drew1) | exact HB.out))) : w.heap.size ≤ gb319)); have n3_ := Aside0.mk ((by rw [hg]; exact (below_size (by repeat (first | (with_reducible first | exact HB.out | apply below_alloc | apply pw_below_drewN | apply below_drew1) | exact HB.out))) : w.heap.size ≤ gb319)); clear HB; have HB := n0_; have BK319 := n1_; have GW319 := n2_; have GE319 := n3_; clear n0_ n1_ n2_ n3_; clear hb hbox hg) | ((with_reducible refine gate_dst (N := 3) rfl ?_); (try (refine gate_guard (by rfl) ?_; dsimp only)); refine box_event ?hg (N := 3) ?hd (cs := #[.int .i64 a1_0, .slice A1_1 l1_1.length c1_1, .int .u32 a1_2, .int .i64 a1_3, .string a1_4, .bool a1_5, .string a1_6]) (t := 28) ?hr ?_; (case hd => rfl); (case hg => rfl); (case hr => first | (go_simp; done) | (go_simp; rfl)); intro gb320 hg w5 hbox hb; have n0_ := Aside0.mk (blk_below (g := gb319) (o := .cells #[.int .i64 a0_0, .slice A0_1 l0_1.length c0_1, .int .u32 a0_2, .int .i64 a0_3, .string a0_4, .bool a0_5, .string a0_6] 28 (0, 0)) (by (with_reducible repeat (first | refine blk_drewN ?_ _ | refine blk_drew ?_ | refine blk_alloc ?_ _)); exact BK319.out) hb); have n1_ := Aside0.mk (below_step (by repeat (first | (with_reducible first | exact HB.out | apply below_alloc | apply pw_below_drewN | apply below_drew1 | refine below_set ?_ GE319.out) | exact HB.out)) hb); have n2_ := Aside0.mk (hbox); have n3_ := Aside0.mk ((by rw [hg]; exact (below_size (by repeat (first | (with_reducible first | exact HB.out | apply below_alloc | apply pw_below_drewN | apply below_drew1 | refine below_set ?_ GE319.out) | exact HB.out))) : w.heap.size ≤ gb320)); have n4_ := Aside0.mk ((by rw [hg]; exact (below_size (by repeat (first | (with_reducible first | exact HB.out | apply below_alloc | apply pw_below_drewN | apply below_drew1 | refine below_set ?_ GE319.out) | exact HB.out))) : w.heap.size ≤ gb320)); have n5_ := Aside0.mk ((by rw [hg]; exact Nat.ne_of_lt (blk_lt (g := gb319) (o := .cells #[.int .i64 a0_0, .slice A0_1 l0_1.length c0_1, .int .u32 a0_2, .int .i64 a0_3, .string a0_4, .bool a0_5, .string a0_6] 28 (0, 0)) (by (with_reducible repeat (first | refine blk_drewN ?_ _ | refine blk_drew ?_ | refine blk_alloc ?_ _)); exact BK319.out)) : gb319 ≠ gb320)); have n6_ := Aside0.mk ((by rw [hg]; exact Nat.ne_of_gt (blk_lt (g := gb319) (o := .cells #[.int .i64 a0_0, .slice A0_1 l0_1.length c0_1, .int .u32 a0_2, .int .i64 a0_3, .string a0_4, .bool a0_5, .string a0_6] 28 (0, 0)) (by (with_reducible repeat (first | refine blk_drewN ?_ _ | refine blk_drew ?_ | refine blk_alloc ?_ _)); exact BK319.out)) : gb320 ≠ gb319)); clear BK319; clear HB; have BK319 := n0_; have HB := n1_; have BK320 := n2_; have GW320 := n3_; have GE320 := n4_; have NB319_320 := n5_; have NB320_319 := n6_; clear n0_ n1_ n2_ n3_ n4_ n5_ n6_; clear hb hbox hg)))
  (try simp only [Act.put, List.setIfInBounds_toArray, List.set_cons_zero, List.set_cons_succ])
  go_cut [54] (fun v54 wc => ∃ (kq : Nat) (x54_2 : Bool), v54 = .bool x54_2 ∧ Aside0 (tattlerref07_Same.j0 kq x54_2 a0_0 l0_1 a0_2 a0_3 a0_4 a0_5 a0_6 a1_0 l1_1 a1_2 a1_3 a1_4 a1_5 a1_6 = some r) ∧ Aside0 (kq ≤ k) ∧ Aside0 (wc.heap[gb319]? = some (.cells #[.int .i64 a0_0, (.slice A0_1 l0_1.length c0_1), .int .u32 a0_2, .int .i64 a0_3, .string a0_4, .bool a0_5, .string a0_6] 28 (0, 0))) ∧ Aside0 (wc.heap[gb320]? = some (.cells #[.int .i64 a1_0, (.slice A1_1 l1_1.length c1_1), .int .u32 a1_2, .int .i64 a1_3, .string a1_4, .bool a1_5, .string a1_6] 28 (0, 0))) ∧ Aside0 (Below w.heap.size w wc))
  case first =>
    have H := HC3.out
    clear HC3
    by_cases c6 : a0_0 = a1_0
    · rw [if_pos c6] at H
      have c6b0 : (a0_0 == a1_0) = true := beq_iff_eq.mpr c6
      have c6b1 : (a0_0 != a1_0) = false := bne_eq_false_iff_eq.mpr c6
      clear c6
      (first | rw [c6b0] | (simp only [i64_w, i32_w]; rw [c6b0]) | skip)
      by_cases c7 : a0_2 = a1_2
      · rw [if_pos c7] at H
        have c7b0 : (a0_2 == a1_2) = true := beq_iff_eq.mpr c7
        have c7b1 : (a0_2 != a1_2) = false := bne_eq_false_iff_eq.mpr c7
        clear c7
        by_cases c8 : a0_3 = a1_3
        · rw [if_pos c8] at H
          have c8b0 : (a0_3 == a1_3) = true := beq_iff_eq.mpr c8
          have c8b1 : (a0_3 != a1_3) = false := bne_eq_false_iff_eq.mpr c8
          clear c8
          by_cases c9 : a0_4.toList = a1_4.toList
          · rw [if_pos c9] at H
            have c9b0 : (a0_4.toList == a1_4.toList) = true := beq_iff_eq.mpr c9
            have c9b1 : (a0_4.toList != a1_4.toList) = false := bne_eq_false_iff_eq.mpr c9
            clear c9
            by_cases c10 : (a0_5 != a1_5) = true
            · rw [if_pos c10] at H
              have c10b0 : (a0_5 != a1_5) = true := c10
              (try (have c10b1 : decide (a0_5 = a1_5) = false := by simpa using c10))
              (try (have c10b2 : (a0_5 == a1_5) = false := by simpa using c10))
              (try (have c10b3 : ¬ (a0_5 = a1_5) := by simpa using c10))
              clear c10
              have H' := Aside0.mk H
              clear H
              have hnb11 := NB319_320.out
              have hnc11 := NB320_319.out
              have hcz12_0 : w5.cell? ⟨gb319, 0, none⟩ = some (.int .i64 a0_0) := (blk_cell BK319.out 0).trans rfl
              have hcz12_1 : w5.cell? ⟨gb319, 1, none⟩ = some (.slice A0_1 l0_1.length c0_1) := (blk_cell BK319.out 1).trans rfl
              have hcz12_2 : w5.cell? ⟨gb319, 2, none⟩ = some (.int .u32 a0_2) := (blk_cell BK319.out 2).trans rfl
              have hcz12_3 : w5.cell? ⟨gb319, 3, none⟩ = some (.int .i64 a0_3) := (blk_cell BK319.out 3).trans rfl
              have hcz12_4 : w5.cell? ⟨gb319, 4, none⟩ = some (.string a0_4) := (blk_cell BK319.out 4).trans rfl
              have hcz12_5 : w5.cell? ⟨gb319, 5, none⟩ = some (.bool a0_5) := (blk_cell BK319.out 5).trans rfl
              have hcz12_6 : w5.cell? ⟨gb319, 6, none⟩ = some (.string a0_6) := (blk_cell BK319.out 6).trans rfl
              have hfz12_0 := blk_frozen BK319.out 0
              have hfz12_1 := blk_frozen BK319.out 1
              have hfz12_2 := blk_frozen BK319.out 2
              have hfz12_3 := blk_frozen BK319.out 3
              have hfz12_4 := blk_frozen BK319.out 4
              have hfz12_5 := blk_frozen BK319.out 5
              have hfz12_6 := blk_frozen BK319.out 6
              have hcz13_0 : w5.cell? ⟨gb320, 0, none⟩ = some (.int .i64 a1_0) := (blk_cell BK320.out 0).trans rfl
              have hcz13_1 : w5.cell? ⟨gb320, 1, none⟩ = some (.slice A1_1 l1_1.length c1_1) := (blk_cell BK320.out 1).trans rfl
              have hcz13_2 : w5.cell? ⟨gb320, 2, none⟩ = some (.int .u32 a1_2) := (blk_cell BK320.out 2).trans rfl
              have hcz13_3 : w5.cell? ⟨gb320, 3, none⟩ = some (.int .i64 a1_3) := (blk_cell BK320.out 3).trans rfl
              have hcz13_4 : w5.cell? ⟨gb320, 4, none⟩ = some (.string a1_4) := (blk_cell BK320.out 4).trans rfl
              have hcz13_5 : w5.cell? ⟨gb320, 5, none⟩ = some (.bool a1_5) := (blk_cell BK320.out 5).trans rfl
              have hcz13_6 : w5.cell? ⟨gb320, 6, none⟩ = some (.string a1_6) := (blk_cell BK320.out 6).trans rfl
              have hfz13_0 := blk_frozen BK320.out 0
              have hfz13_1 := blk_frozen BK320.out 1
              have hfz13_2 := blk_frozen BK320.out 2
              have hfz13_3 := blk_frozen BK320.out 3
              have hfz13_4 := blk_frozen BK320.out 4
              have hfz13_5 := blk_frozen BK320.out 5
              have hfz13_6 := blk_frozen BK320.out 6
              go_wp2
              repeat (go_quiet (fail); try go_wp2)
              go_meet
              case rel => exact ⟨_, (true), (by first | rfl | (simp; done) | (simp [*]; done)), H', ⟨by first | omega | exact Nat.le_refl _⟩, ⟨by (with_reducible repeat (first | refine blk_drewN ?_ _ | refine blk_drew ?_ | refine blk_alloc ?_ _)); exact BK319.out⟩, ⟨by (with_reducible repeat (first | refine blk_drewN ?_ _ | refine blk_drew ?_ | refine blk_alloc ?_ _)); exact BK320.out⟩, ⟨by repeat (first | (with_reducible first | exact HB.out | apply below_alloc | apply pw_below_drewN | apply below_drew1 | refine below_set ?_ GE319.out | refine below_set ?_ GE320.out) | exact HB.out)⟩⟩
            · rw [if_neg c10] at H
              have c10b0 : (a0_5 != a1_5) = false := by simpa using c10
              (try (have c10b1 : decide (a0_5 = a1_5) = true := by simpa using c10))
              (try (have c10b2 : (a0_5 == a1_5) = true := by simpa using c10))
              clear c10
              by_cases c14 : a0_6.toList = a1_6.toList
              · rw [if_pos c14] at H
                have c14b0 : (a0_6.toList == a1_6.toList) = true := beq_iff_eq.mpr c14
                have c14b1 : (a0_6.toList != a1_6.toList) = false := bne_eq_false_iff_eq.mpr c14
                clear c14
                have H' := Aside0.mk H
                clear H
                have hnb15 := NB319_320.out
                have hnc15 := NB320_319.out
                have hcz16_0 : w5.cell? ⟨gb319, 0, none⟩ = some (.int .i64 a0_0) := (blk_cell BK319.out 0).trans rfl
                have hcz16_1 : w5.cell? ⟨gb319, 1, none⟩ = some (.slice A0_1 l0_1.length c0_1) := (blk_cell BK319.out 1).trans rfl
                have hcz16_2 : w5.cell? ⟨gb319, 2, none⟩ = some (.int .u32 a0_2) := (blk_cell BK319.out 2).trans rfl
                have hcz16_3 : w5.cell? ⟨gb319, 3, none⟩ = some (.int .i64 a0_3) := (blk_cell BK319.out 3).trans rfl
                have hcz16_4 : w5.cell? ⟨gb319, 4, none⟩ = some (.string a0_4) := (blk_cell BK319.out 4).trans rfl
                have hcz16_5 : w5.cell? ⟨gb319, 5, none⟩ = some (.bool a0_5) := (blk_cell BK319.out 5).trans rfl
                have hcz16_6 : w5.cell? ⟨gb319, 6, none⟩ = some (.string a0_6) := (blk_cell BK319.out 6).trans rfl
                have hfz16_0 := blk_frozen BK319.out 0
                have hfz16_1 := blk_frozen BK319.out 1
                have hfz16_2 := blk_frozen BK319.out 2
                have hfz16_3 := blk_frozen BK319.out 3
                have hfz16_4 := blk_frozen BK319.out 4
                have hfz16_5 := blk_frozen BK319.out 5
                have hfz16_6 := blk_frozen BK319.out 6
                have hcz17_0 : w5.cell? ⟨gb320, 0, none⟩ = some (.int .i64 a1_0) := (blk_cell BK320.out 0).trans rfl
                have hcz17_1 : w5.cell? ⟨gb320, 1, none⟩ = some (.slice A1_1 l1_1.length c1_1) := (blk_cell BK320.out 1).trans rfl
                have hcz17_2 : w5.cell? ⟨gb320, 2, none⟩ = some (.int .u32 a1_2) := (blk_cell BK320.out 2).trans rfl
                have hcz17_3 : w5.cell? ⟨gb320, 3, none⟩ = some (.int .i64 a1_3) := (blk_cell BK320.out 3).trans rfl
                have hcz17_4 : w5.cell? ⟨gb320, 4, none⟩ = some (.string a1_4) := (blk_cell BK320.out 4).trans rfl
                have hcz17_5 : w5.cell? ⟨gb320, 5, none⟩ = some (.bool a1_5) := (blk_cell BK320.out 5).trans rfl
                have hcz17_6 : w5.cell? ⟨gb320, 6, none⟩ = some (.string a1_6) := (blk_cell BK320.out 6).trans rfl
                have hfz17_0 := blk_frozen BK320.out 0
                have hfz17_1 := blk_frozen BK320.out 1
                have hfz17_2 := blk_frozen BK320.out 2
                have hfz17_3 := blk_frozen BK320.out 3
                have hfz17_4 := blk_frozen BK320.out 4
                have hfz17_5 := blk_frozen BK320.out 5
                have hfz17_6 := blk_frozen BK320.out 6
                go_wp2
                repeat (go_quiet (fail); try go_wp2)
                go_meet
                case rel => exact ⟨_, (((l0_1.length : Int) != (l1_1.length : Int))), (by first | rfl | (simp; done) | (simp [*]; done)), H', ⟨by first | omega | exact Nat.le_refl _⟩, ⟨by (with_reducible repeat (first | refine blk_drewN ?_ _ | refine blk_drew ?_ | refine blk_alloc ?_ _)); exact BK319.out⟩, ⟨by (with_reducible repeat (first | refine blk_drewN ?_ _ | refine blk_drew ?_ | refine blk_alloc ?_ _)); exact BK320.out⟩, ⟨by repeat (first | (with_reducible first | exact HB.out | apply below_alloc | apply pw_below_drewN | apply below_drew1 | refine below_set ?_ GE319.out | refine below_set ?_ GE320.out) | exact HB.out)⟩⟩
              · rw [if_neg c14] at H
                have c14b0 : (a0_6.toList == a1_6.toList) = false := beq_eq_false_iff_ne.mpr c14
                have c14b1 : (a0_6.toList != a1_6.toList) = true := bne_iff_ne.mpr c14
                have H' := Aside0.mk H
                clear H
                have hnb18 := NB319_320.out
                have hnc18 := NB320_319.out
                have hcz19_0 : w5.cell? ⟨gb319, 0, none⟩ = some (.int .i64 a0_0) := (blk_cell BK319.out 0).trans rfl
                have hcz19_1 : w5.cell? ⟨gb319, 1, none⟩ = some (.slice A0_1 l0_1.length c0_1) := (blk_cell BK319.out 1).trans rfl
                have hcz19_2 : w5.cell? ⟨gb319, 2, none⟩ = some (.int .u32 a0_2) := (blk_cell BK319.out 2).trans rfl
                have hcz19_3 : w5.cell? ⟨gb319, 3, none⟩ = some (.int .i64 a0_3) := (blk_cell BK319.out 3).trans rfl
                have hcz19_4 : w5.cell? ⟨gb319, 4, none⟩ = some (.string a0_4) := (blk_cell BK319.out 4).trans rfl
                have hcz19_5 : w5.cell? ⟨gb319, 5, none⟩ = some (.bool a0_5) := (blk_cell BK319.out 5).trans rfl
                have hcz19_6 : w5.cell? ⟨gb319, 6, none⟩ = some (.string a0_6) := (blk_cell BK319.out 6).trans rfl
                have hfz19_0 := blk_frozen BK319.out 0
                have hfz19_1 := blk_frozen BK319.out 1
                have hfz19_2 := blk_frozen BK319.out 2
                have hfz19_3 := blk_frozen BK319.out 3
                have hfz19_4 := blk_frozen BK319.out 4
                have hfz19_5 := blk_frozen BK319.out 5
                have hfz19_6 := blk_frozen BK319.out 6
                have hcz20_0 : w5.cell? ⟨gb320, 0, none⟩ = some (.int .i64 a1_0) := (blk_cell BK320.out 0).trans rfl
                have hcz20_1 : w5.cell? ⟨gb320, 1, none⟩ = some (.slice A1_1 l1_1.length c1_1) := (blk_cell BK320.out 1).trans rfl
                have hcz20_2 : w5.cell? ⟨gb320, 2, none⟩ = some (.int .u32 a1_2) := (blk_cell BK320.out 2).trans rfl
                have hcz20_3 : w5.cell? ⟨gb320, 3, none⟩ = some (.int .i64 a1_3) := (blk_cell BK320.out 3).trans rfl
                have hcz20_4 : w5.cell? ⟨gb320, 4, none⟩ = some (.string a1_4) := (blk_cell BK320.out 4).trans rfl
                have hcz20_5 : w5.cell? ⟨gb320, 5, none⟩ = some (.bool a1_5) := (blk_cell BK320.out 5).trans rfl
                have hcz20_6 : w5.cell? ⟨gb320, 6, none⟩ = some (.string a1_6) := (blk_cell BK320.out 6).trans rfl
                have hfz20_0 := blk_frozen BK320.out 0
                have hfz20_1 := blk_frozen BK320.out 1
                have hfz20_2 := blk_frozen BK320.out 2
                have hfz20_3 := blk_frozen BK320.out 3
                have hfz20_4 := blk_frozen BK320.out 4
                have hfz20_5 := blk_frozen BK320.out 5
                have hfz20_6 := blk_frozen BK320.out 6
                go_wp2
                repeat (go_quiet (fail); try go_wp2)
                go_meet
                case rel => exact ⟨_, (true), (by first | rfl | (simp; done) | (simp [*]; done)), H', ⟨by first | omega | exact Nat.le_refl _⟩, ⟨by (with_reducible repeat (first | refine blk_drewN ?_ _ | refine blk_drew ?_ | refine blk_alloc ?_ _)); exact BK319.out⟩, ⟨by (with_reducible repeat (first | refine blk_drewN ?_ _ | refine blk_drew ?_ | refine blk_alloc ?_ _)); exact BK320.out⟩, ⟨by repeat (first | (with_reducible first | exact HB.out | apply below_alloc | apply pw_below_drewN | apply below_drew1 | refine below_set ?_ GE319.out | refine below_set ?_ GE320.out) | exact HB.out)⟩⟩
          · rw [if_neg c9] at H
            have c9b0 : (a0_4.toList == a1_4.toList) = false := beq_eq_false_iff_ne.mpr c9
            have c9b1 : (a0_4.toList != a1_4.toList) = true := bne_iff_ne.mpr c9
            have H' := Aside0.mk H
            clear H
            have hnb21 := NB319_320.out
            have hnc21 := NB320_319.out
            have hcz22_0 : w5.cell? ⟨gb319, 0, none⟩ = some (.int .i64 a0_0) := (blk_cell BK319.out 0).trans rfl
            have hcz22_1 : w5.cell? ⟨gb319, 1, none⟩ = some (.slice A0_1 l0_1.length c0_1) := (blk_cell BK319.out 1).trans rfl
            have hcz22_2 : w5.cell? ⟨gb319, 2, none⟩ = some (.int .u32 a0_2) := (blk_cell BK319.out 2).trans rfl
            have hcz22_3 : w5.cell? ⟨gb319, 3, none⟩ = some (.int .i64 a0_3) := (blk_cell BK319.out 3).trans rfl
            have hcz22_4 : w5.cell? ⟨gb319, 4, none⟩ = some (.string a0_4) := (blk_cell BK319.out 4).trans rfl
            have hcz22_5 : w5.cell? ⟨gb319, 5, none⟩ = some (.bool a0_5) := (blk_cell BK319.out 5).trans rfl
            have hcz22_6 : w5.cell? ⟨gb319, 6, none⟩ = some (.string a0_6) := (blk_cell BK319.out 6).trans rfl
            have hfz22_0 := blk_frozen BK319.out 0
            have hfz22_1 := blk_frozen BK319.out 1
            have hfz22_2 := blk_frozen BK319.out 2
            have hfz22_3 := blk_frozen BK319.out 3
            have hfz22_4 := blk_frozen BK319.out 4
            have hfz22_5 := blk_frozen BK319.out 5
            have hfz22_6 := blk_frozen BK319.out 6
            have hcz23_0 : w5.cell? ⟨gb320, 0, none⟩ = some (.int .i64 a1_0) := (blk_cell BK320.out 0).trans rfl
            have hcz23_1 : w5.cell? ⟨gb320, 1, none⟩ = some (.slice A1_1 l1_1.length c1_1) := (blk_cell BK320.out 1).trans rfl
            have hcz23_2 : w5.cell? ⟨gb320, 2, none⟩ = some (.int .u32 a1_2) := (blk_cell BK320.out 2).trans rfl
            have hcz23_3 : w5.cell? ⟨gb320, 3, none⟩ = some (.int .i64 a1_3) := (blk_cell BK320.out 3).trans rfl
            have hcz23_4 : w5.cell? ⟨gb320, 4, none⟩ = some (.string a1_4) := (blk_cell BK320.out 4).trans rfl
            have hcz23_5 : w5.cell? ⟨gb320, 5, none⟩ = some (.bool a1_5) := (blk_cell BK320.out 5).trans rfl
            have hcz23_6 : w5.cell? ⟨gb320, 6, none⟩ = some (.string a1_6) := (blk_cell BK320.out 6).trans rfl
            have hfz23_0 := blk_frozen BK320.out 0
            have hfz23_1 := blk_frozen BK320.out 1
            have hfz23_2 := blk_frozen BK320.out 2
            have hfz23_3 := blk_frozen BK320.out 3
            have hfz23_4 := blk_frozen BK320.out 4
            have hfz23_5 := blk_frozen BK320.out 5
            have hfz23_6 := blk_frozen BK320.out 6
            go_wp2
            repeat (go_quiet (fail); try go_wp2)
            go_meet
            case rel => exact ⟨_, (true), (by first | rfl | (simp; done) | (simp [*]; done)), H', ⟨by first | omega | exact Nat.le_refl _⟩, ⟨by (with_reducible repeat (first | refine blk_drewN ?_ _ | refine blk_drew ?_ | refine blk_alloc ?_ _)); exact BK319.out⟩, ⟨by (with_reducible repeat (first | refine blk_drewN ?_ _ | refine blk_drew ?_ | refine blk_alloc ?_ _)); exact BK320.out⟩, ⟨by repeat (first | (with_reducible first | exact HB.out | apply below_alloc | apply pw_below_drewN | apply below_drew1 | refine below_set ?_ GE319.out | refine below_set ?_ GE320.out) | exact HB.out)⟩⟩
        · rw [if_neg c8] at H
          have c8b0 : (a0_3 == a1_3) = false := beq_eq_false_iff_ne.mpr c8
          have c8b1 : (a0_3 != a1_3) = true := bne_iff_ne.mpr c8
          have H' := Aside0.mk H
          clear H
          have hnb24 := NB319_320.out
          have hnc24 := NB320_319.out
          have hcz25_0 : w5.cell? ⟨gb319, 0, none⟩ = some (.int .i64 a0_0) := (blk_cell BK319.out 0).trans rfl
          have hcz25_1 : w5.cell? ⟨gb319, 1, none⟩ = some (.slice A0_1 l0_1.length c0_1) := (blk_cell BK319.out 1).trans rfl
          have hcz25_2 : w5.cell? ⟨gb319, 2, none⟩ = some (.int .u32 a0_2) := (blk_cell BK319.out 2).trans rfl
          have hcz25_3 : w5.cell? ⟨gb319, 3, none⟩ = some (.int .i64 a0_3) := (blk_cell BK319.out 3).trans rfl
          have hcz25_4 : w5.cell? ⟨gb319, 4, none⟩ = some (.string a0_4) := (blk_cell BK319.out 4).trans rfl
          have hcz25_5 : w5.cell? ⟨gb319, 5, none⟩ = some (.bool a0_5) := (blk_cell BK319.out 5).trans rfl
          have hcz25_6 : w5.cell? ⟨gb319, 6, none⟩ = some (.string a0_6) := (blk_cell BK319.out 6).trans rfl
          have hfz25_0 := blk_frozen BK319.out 0
          have hfz25_1 := blk_frozen BK319.out 1
          have hfz25_2 := blk_frozen BK319.out 2
          have hfz25_3 := blk_frozen BK319.out 3
          have hfz25_4 := blk_frozen BK319.out 4
          have hfz25_5 := blk_frozen BK319.out 5
          have hfz25_6 := blk_frozen BK319.out 6
          have hcz26_0 : w5.cell? ⟨gb320, 0, none⟩ = some (.int .i64 a1_0) := (blk_cell BK320.out 0).trans rfl
          have hcz26_1 : w5.cell? ⟨gb320, 1, none⟩ = some (.slice A1_1 l1_1.length c1_1) := (blk_cell BK320.out 1).trans rfl
          have hcz26_2 : w5.cell? ⟨gb320, 2, none⟩ = some (.int .u32 a1_2) := (blk_cell BK320.out 2).trans rfl
          have hcz26_3 : w5.cell? ⟨gb320, 3, none⟩ = some (.int .i64 a1_3) := (blk_cell BK320.out 3).trans rfl
          have hcz26_4 : w5.cell? ⟨gb320, 4, none⟩ = some (.string a1_4) := (blk_cell BK320.out 4).trans rfl
          have hcz26_5 : w5.cell? ⟨gb320, 5, none⟩ = some (.bool a1_5) := (blk_cell BK320.out 5).trans rfl
          have hcz26_6 : w5.cell? ⟨gb320, 6, none⟩ = some (.string a1_6) := (blk_cell BK320.out 6).trans rfl
          have hfz26_0 := blk_frozen BK320.out 0
          have hfz26_1 := blk_frozen BK320.out 1
          have hfz26_2 := blk_frozen BK320.out 2
          have hfz26_3 := blk_frozen BK320.out 3
          have hfz26_4 := blk_frozen BK320.out 4
          have hfz26_5 := blk_frozen BK320.out 5
          have hfz26_6 := blk_frozen BK320.out 6
          go_wp2
          repeat (go_quiet (fail); try go_wp2)
          go_meet
          case rel => exact ⟨_, (true), (by first | rfl | (simp; done) | (simp [*]; done)), H', ⟨by first | omega | exact Nat.le_refl _⟩, ⟨by (with_reducible repeat (first | refine blk_drewN ?_ _ | refine blk_drew ?_ | refine blk_alloc ?_ _)); exact BK319.out⟩, ⟨by (with_reducible repeat (first | refine blk_drewN ?_ _ | refine blk_drew ?_ | refine blk_alloc ?_ _)); exact BK320.out⟩, ⟨by repeat (first | (with_reducible first | exact HB.out | apply below_alloc | apply pw_below_drewN | apply below_drew1 | refine below_set ?_ GE319.out | refine below_set ?_ GE320.out) | exact HB.out)⟩⟩
      · rw [if_neg c7] at H
        have c7b0 : (a0_2 == a1_2) = false := beq_eq_false_iff_ne.mpr c7
        have c7b1 : (a0_2 != a1_2) = true := bne_iff_ne.mpr c7
        have H' := Aside0.mk H
        clear H
        have hnb27 := NB319_320.out
        have hnc27 := NB320_319.out
        have hcz28_0 : w5.cell? ⟨gb319, 0, none⟩ = some (.int .i64 a0_0) := (blk_cell BK319.out 0).trans rfl
        have hcz28_1 : w5.cell? ⟨gb319, 1, none⟩ = some (.slice A0_1 l0_1.length c0_1) := (blk_cell BK319.out 1).trans rfl
        have hcz28_2 : w5.cell? ⟨gb319, 2, none⟩ = some (.int .u32 a0_2) := (blk_cell BK319.out 2).trans rfl
        have hcz28_3 : w5.cell? ⟨gb319, 3, none⟩ = some (.int .i64 a0_3) := (blk_cell BK319.out 3).trans rfl
        have hcz28_4 : w5.cell? ⟨gb319, 4, none⟩ = some (.string a0_4) := (blk_cell BK319.out 4).trans rfl
        have hcz28_5 : w5.cell? ⟨gb319, 5, none⟩ = some (.bool a0_5) := (blk_cell BK319.out 5).trans rfl
        have hcz28_6 : w5.cell? ⟨gb319, 6, none⟩ = some (.string a0_6) := (blk_cell BK319.out 6).trans rfl
        have hfz28_0 := blk_frozen BK319.out 0
        have hfz28_1 := blk_frozen BK319.out 1
        have hfz28_2 := blk_frozen BK319.out 2
        have hfz28_3 := blk_frozen BK319.out 3
        have hfz28_4 := blk_frozen BK319.out 4
        have hfz28_5 := blk_frozen BK319.out 5
        have hfz28_6 := blk_frozen BK319.out 6
        have hcz29_0 : w5.cell? ⟨gb320, 0, none⟩ = some (.int .i64 a1_0) := (blk_cell BK320.out 0).trans rfl
        have hcz29_1 : w5.cell? ⟨gb320, 1, none⟩ = some (.slice A1_1 l1_1.length c1_1) := (blk_cell BK320.out 1).trans rfl
        have hcz29_2 : w5.cell? ⟨gb320, 2, none⟩ = some (.int .u32 a1_2) := (blk_cell BK320.out 2).trans rfl
        have hcz29_3 : w5.cell? ⟨gb320, 3, none⟩ = some (.int .i64 a1_3) := (blk_cell BK320.out 3).trans rfl
        have hcz29_4 : w5.cell? ⟨gb320, 4, none⟩ = some (.string a1_4) := (blk_cell BK320.out 4).trans rfl
        have hcz29_5 : w5.cell? ⟨gb320, 5, none⟩ = some (.bool a1_5) := (blk_cell BK320.out 5).trans rfl
        have hcz29_6 : w5.cell? ⟨gb320, 6, none⟩ = some (.string a1_6) := (blk_cell BK320.out 6).trans rfl
        have hfz29_0 := blk_frozen BK320.out 0
        have hfz29_1 := blk_frozen BK320.out 1
        have hfz29_2 := blk_frozen BK320.out 2
        have hfz29_3 := blk_frozen BK320.out 3
        have hfz29_4 := blk_frozen BK320.out 4
        have hfz29_5 := blk_frozen BK320.out 5
        have hfz29_6 := blk_frozen BK320.out 6
        go_wp2
        repeat (go_quiet (fail); try go_wp2)
        go_meet
        case rel => exact ⟨_, (true), (by first | rfl | (simp; done) | (simp [*]; done)), H', ⟨by first | omega | exact Nat.le_refl _⟩, ⟨by (with_reducible repeat (first | refine blk_drewN ?_ _ | refine blk_drew ?_ | refine blk_alloc ?_ _)); exact BK319.out⟩, ⟨by (with_reducible repeat (first | refine blk_drewN ?_ _ | refine blk_drew ?_ | refine blk_alloc ?_ _)); exact BK320.out⟩, ⟨by repeat (first | (with_reducible first | exact HB.out | apply below_alloc | apply pw_below_drewN | apply below_drew1 | refine below_set ?_ GE319.out | refine below_set ?_ GE320.out) | exact HB.out)⟩⟩
    · rw [if_neg c6] at H
      have c6b0 : (a0_0 == a1_0) = false := beq_eq_false_iff_ne.mpr c6
      have c6b1 : (a0_0 != a1_0) = true := bne_iff_ne.mpr c6
      (first | rw [c6b0] | (simp only [i64_w, i32_w]; rw [c6b0]) | skip)
      have H' := Aside0.mk H
      clear H
      have hnb30 := NB319_320.out
      have hnc30 := NB320_319.out
      have hcz31_0 : w5.cell? ⟨gb319, 0, none⟩ = some (.int .i64 a0_0) := (blk_cell BK319.out 0).trans rfl
      have hcz31_1 : w5.cell? ⟨gb319, 1, none⟩ = some (.slice A0_1 l0_1.length c0_1) := (blk_cell BK319.out 1).trans rfl
      have hcz31_2 : w5.cell? ⟨gb319, 2, none⟩ = some (.int .u32 a0_2) := (blk_cell BK319.out 2).trans rfl
      have hcz31_3 : w5.cell? ⟨gb319, 3, none⟩ = some (.int .i64 a0_3) := (blk_cell BK319.out 3).trans rfl
      have hcz31_4 : w5.cell? ⟨gb319, 4, none⟩ = some (.string a0_4) := (blk_cell BK319.out 4).trans rfl
      have hcz31_5 : w5.cell? ⟨gb319, 5, none⟩ = some (.bool a0_5) := (blk_cell BK319.out 5).trans rfl
      have hcz31_6 : w5.cell? ⟨gb319, 6, none⟩ = some (.string a0_6) := (blk_cell BK319.out 6).trans rfl
      have hfz31_0 := blk_frozen BK319.out 0
      have hfz31_1 := blk_frozen BK319.out 1
      have hfz31_2 := blk_frozen BK319.out 2
      have hfz31_3 := blk_frozen BK319.out 3
      have hfz31_4 := blk_frozen BK319.out 4
      have hfz31_5 := blk_frozen BK319.out 5
      have hfz31_6 := blk_frozen BK319.out 6
      have hcz32_0 : w5.cell? ⟨gb320, 0, none⟩ = some (.int .i64 a1_0) := (blk_cell BK320.out 0).trans rfl
      have hcz32_1 : w5.cell? ⟨gb320, 1, none⟩ = some (.slice A1_1 l1_1.length c1_1) := (blk_cell BK320.out 1).trans rfl
      have hcz32_2 : w5.cell? ⟨gb320, 2, none⟩ = some (.int .u32 a1_2) := (blk_cell BK320.out 2).trans rfl
      have hcz32_3 : w5.cell? ⟨gb320, 3, none⟩ = some (.int .i64 a1_3) := (blk_cell BK320.out 3).trans rfl
      have hcz32_4 : w5.cell? ⟨gb320, 4, none⟩ = some (.string a1_4) := (blk_cell BK320.out 4).trans rfl
      have hcz32_5 : w5.cell? ⟨gb320, 5, none⟩ = some (.bool a1_5) := (blk_cell BK320.out 5).trans rfl
      have hcz32_6 : w5.cell? ⟨gb320, 6, none⟩ = some (.string a1_6) := (blk_cell BK320.out 6).trans rfl
      have hfz32_0 := blk_frozen BK320.out 0
      have hfz32_1 := blk_frozen BK320.out 1
      have hfz32_2 := blk_frozen BK320.out 2
      have hfz32_3 := blk_frozen BK320.out 3
      have hfz32_4 := blk_frozen BK320.out 4
      have hfz32_5 := blk_frozen BK320.out 5
      have hfz32_6 := blk_frozen BK320.out 6
      go_wp2
      repeat (go_quiet (fail); try go_wp2)
      go_meet
      case rel => exact ⟨_, (true), (by first | rfl | (simp; done) | (simp [*]; done)), H', ⟨by first | omega | exact Nat.le_refl _⟩, ⟨by (with_reducible repeat (first | refine blk_drewN ?_ _ | refine blk_drew ?_ | refine blk_alloc ?_ _)); exact BK319.out⟩, ⟨by (with_reducible repeat (first | refine blk_drewN ?_ _ | refine blk_drew ?_ | refine blk_alloc ?_ _)); exact BK320.out⟩, ⟨by repeat (first | (with_reducible first | exact HB.out | apply below_alloc | apply pw_below_drewN | apply below_drew1 | refine below_set ?_ GE319.out | refine below_set ?_ GE320.out) | exact HB.out)⟩⟩
  case rest =>
    clear HC3
    try clear c1
    try clear c2
    try clear p2
    try clear c3
    try clear c6
    try clear c6b0
    try clear c6b1
    try clear c7
    try clear c7b0
    try clear c7b1
    try clear c8
    try clear c8b0
    try clear c8b1
    try clear c9
    try clear c9b0
    try clear c9b1
    try clear c10
    try clear c10b0
    try clear c10b1
    try clear c10b2
    try clear c11
    try clear c14
    try clear c14b0
    try clear c14b1
    try clear c15
    try clear c18
    try clear c20
    try clear c21
    try clear c24
    try clear c27
    try clear c30
    try clear hcz12_0
    try clear hcz12_1
    try clear hcz12_2
    try clear hcz12_3
    try clear hcz12_4
    try clear hcz12_5
    try clear hcz12_6
    try clear hcz13_0
    try clear hcz13_1
    try clear hcz13_2
    try clear hcz13_3
    try clear hcz13_4
    try clear hcz13_5
    try clear hcz13_6
    try clear hcz16_0
    try clear hcz16_1
    try clear hcz16_2
    try clear hcz16_3
    try clear hcz16_4
    try clear hcz16_5
    try clear hcz16_6
    try clear hcz17_0
    try clear hcz17_1
    try clear hcz17_2
    try clear hcz17_3
    try clear hcz17_4
    try clear hcz17_5
    try clear hcz17_6
    try clear hcz19_0
    try clear hcz19_1
    try clear hcz19_2
    try clear hcz19_3
    try clear hcz19_4
    try clear hcz19_5
    try clear hcz19_6
    try clear hcz20_0
    try clear hcz20_1
    try clear hcz20_2
    try clear hcz20_3
    try clear hcz20_4
    try clear hcz20_5
    try clear hcz20_6
    try clear hcz22_0
    try clear hcz22_1
    try clear hcz22_2
    try clear hcz22_3
    try clear hcz22_4
    try clear hcz22_5
    try clear hcz22_6
    try clear hcz23_0
    try clear hcz23_1
    try clear hcz23_2
    try clear hcz23_3
    try clear hcz23_4
    try clear hcz23_5
    try clear hcz23_6
    try clear hcz25_0
    try clear hcz25_1
    try clear hcz25_2
    try clear hcz25_3
    try clear hcz25_4
    try clear hcz25_5
    try clear hcz25_6
    try clear hcz26_0
    try clear hcz26_1
    try clear hcz26_2
    try clear hcz26_3
    try clear hcz26_4
    try clear hcz26_5
    try clear hcz26_6
    try clear hcz28_0
    try clear hcz28_1
    try clear hcz28_2
    try clear hcz28_3
    try clear hcz28_4
    try clear hcz28_5
    try clear hcz28_6
    try clear hcz29_0
    try clear hcz29_1
    try clear hcz29_2
    try clear hcz29_3
    try clear hcz29_4
    try clear hcz29_5
    try clear hcz29_6
    try clear hcz31_0
    try clear hcz31_1
    try clear hcz31_2
    try clear hcz31_3
    try clear hcz31_4
    try clear hcz31_5
    try clear hcz31_6
    try clear hcz32_0
    try clear hcz32_1
    try clear hcz32_2
    try clear hcz32_3
    try clear hcz32_4
    try clear hcz32_5
    try clear hcz32_6
    try clear hfz12_0
    try clear hfz12_1
    try clear hfz12_2
    try clear hfz12_3
    try clear hfz12_4
    try clear hfz12_5
    try clear hfz12_6
    try clear hfz13_0
    try clear hfz13_1
    try clear hfz13_2
    try clear hfz13_3
    try clear hfz13_4
    try clear hfz13_5
    try clear hfz13_6
    try clear hfz16_0
    try clear hfz16_1
    try clear hfz16_2
    try clear hfz16_3
    try clear hfz16_4
    try clear hfz16_5
    try clear hfz16_6
    try clear hfz17_0
    try clear hfz17_1
    try clear hfz17_2
    try clear hfz17_3
    try clear hfz17_4
    try clear hfz17_5
    try clear hfz17_6
    try clear hfz19_0
    try clear hfz19_1
    try clear hfz19_2
    try clear hfz19_3
    try clear hfz19_4
    try clear hfz19_5
    try clear hfz19_6
    try clear hfz20_0
    try clear hfz20_1
    try clear hfz20_2
    try clear hfz20_3
    try clear hfz20_4
    try clear hfz20_5
    try clear hfz20_6
    try clear hfz22_0
    try clear hfz22_1
    try clear hfz22_2
    try clear hfz22_3
    try clear hfz22_4
    try clear hfz22_5
    try clear hfz22_6
    try clear hfz23_0
    try clear hfz23_1
    try clear hfz23_2
    try clear hfz23_3
    try clear hfz23_4
    try clear hfz23_5
    try clear hfz23_6
    try clear hfz25_0
    try clear hfz25_1
    try clear hfz25_2
    try clear hfz25_3
    try clear hfz25_4
    try clear hfz25_5
    try clear hfz25_6
    try clear hfz26_0
    try clear hfz26_1
    try clear hfz26_2
    try clear hfz26_3
    try clear hfz26_4
    try clear hfz26_5
    try clear hfz26_6
    try clear hfz28_0
    try clear hfz28_1
    try clear hfz28_2
    try clear hfz28_3
    try clear hfz28_4
    try clear hfz28_5
    try clear hfz28_6
    try clear hfz29_0
    try clear hfz29_1
    try clear hfz29_2
    try clear hfz29_3
    try clear hfz29_4
    try clear hfz29_5
    try clear hfz29_6
    try clear hfz31_0
    try clear hfz31_1
    try clear hfz31_2
    try clear hfz31_3
    try clear hfz31_4
    try clear hfz31_5
    try clear hfz31_6
    try clear hfz32_0
    try clear hfz32_1
    try clear hfz32_2
    try clear hfz32_3
    try clear hfz32_4
    try clear hfz32_5
    try clear hfz32_6
    obtain ⟨kq, x54_2, rfl, HA, HJ2, BK319, BK320, HB⟩ := hcut
    cases kq with
    | zero => exact absurd HA.out (by simp [tattlerref07_Same.j0])
    | succ kj2 =>
      have H := HA.out
      clear HA
      simp only [tattlerref07_Same.j0] at H
      by_cases c33 : x54_2 = true
      · subst c33
        have H1 : (some false) = some r := by rw [if_pos rfl] at H; exact H
        clear H
        have H := H1
        clear H1
        obtain rfl := Option.some.inj H
        go_wp2
        repeat (go_quiet (fail); try go_wp2)
        go_ret
        exact ⟨by first | rfl | (simp [errW_none, errW_some] <;> rfl) | (simp [*, errW_none, errW_some] <;> rfl), by repeat (first | (with_reducible first | exact HB.out | apply below_alloc | apply pw_below_drewN | apply below_drew1 | refine below_set ?_ GE319.out | refine below_set ?_ GE320.out) | exact HB.out)⟩
      · replace c33 := Bool.eq_false_iff.mpr c33
        subst c33
        have H1 : (tattlerref07_Same.l0 kj2 (l0_1.length : Int) 0 a0_0 l0_1 a0_2 a0_3 a0_4 a0_5 a0_6 a1_0 l1_1 a1_2 a1_3 a1_4 a1_5 a1_6) = some r := by rw [if_neg (show ¬ (false = true) by decide)] at H; exact H
        clear H
        have H := H1
        clear H1
        have H' := Aside0.mk H
        clear H
        have hnb34 := NB319_320.out
        have hnc34 := NB320_319.out
        have hcz35_0 : wc.cell? ⟨gb319, 0, none⟩ = some (.int .i64 a0_0) := (blk_cell BK319.out 0).trans rfl
        have hcz35_1 : wc.cell? ⟨gb319, 1, none⟩ = some (.slice A0_1 l0_1.length c0_1) := (blk_cell BK319.out 1).trans rfl
        have hcz35_2 : wc.cell? ⟨gb319, 2, none⟩ = some (.int .u32 a0_2) := (blk_cell BK319.out 2).trans rfl
        have hcz35_3 : wc.cell? ⟨gb319, 3, none⟩ = some (.int .i64 a0_3) := (blk_cell BK319.out 3).trans rfl
        have hcz35_4 : wc.cell? ⟨gb319, 4, none⟩ = some (.string a0_4) := (blk_cell BK319.out 4).trans rfl
        have hcz35_5 : wc.cell? ⟨gb319, 5, none⟩ = some (.bool a0_5) := (blk_cell BK319.out 5).trans rfl
        have hcz35_6 : wc.cell? ⟨gb319, 6, none⟩ = some (.string a0_6) := (blk_cell BK319.out 6).trans rfl
        have hfz35_0 := blk_frozen BK319.out 0
        have hfz35_1 := blk_frozen BK319.out 1
        have hfz35_2 := blk_frozen BK319.out 2
        have hfz35_3 := blk_frozen BK319.out 3
        have hfz35_4 := blk_frozen BK319.out 4
        have hfz35_5 := blk_frozen BK319.out 5
        have hfz35_6 := blk_frozen BK319.out 6
        go_wp2
        repeat (go_quiet (fail); try go_wp2)
        go_loopg [58] kj2 (fun kq v58 w' => ∃ (x58_2 : Int), v58 = .int .i64 x58_2 ∧ Aside0 (tattlerref07_Same.l0 kq (l0_1.length : Int) x58_2 a0_0 l0_1 a0_2 a0_3 a0_4 a0_5 a0_6 a1_0 l1_1 a1_2 a1_3 a1_4 a1_5 a1_6 = some r) ∧ Aside0 (kq ≤ kj2) ∧ Aside0 (w'.heap[gb319]? = some (.cells #[.int .i64 a0_0, (.slice A0_1 l0_1.length c0_1), .int .u32 a0_2, .int .i64 a0_3, .string a0_4, .bool a0_5, .string a0_6] 28 (0, 0))) ∧ Aside0 (w'.heap[gb320]? = some (.cells #[.int .i64 a1_0, (.slice A1_1 l1_1.length c1_1), .int .u32 a1_2, .int .i64 a1_3, .string a1_4, .bool a1_5, .string a1_6] 28 (0, 0))) ∧ Aside0 (Below w.heap.size w w'))
        case atStart => exact ⟨(0), (by first | rfl | (simp; done) | (simp [*]; done)), H', ⟨Nat.le_refl _⟩, ⟨by (with_reducible repeat (first | refine blk_drewN ?_ _ | refine blk_drew ?_ | refine blk_alloc ?_ _)); exact BK319.out⟩, ⟨by (with_reducible repeat (first | refine blk_drewN ?_ _ | refine blk_drew ?_ | refine blk_alloc ?_ _)); exact BK320.out⟩, ⟨by repeat (first | (with_reducible first | exact HB.out | apply below_alloc | apply pw_below_drewN | apply below_drew1 | refine below_set ?_ GE319.out | refine below_set ?_ GE320.out) | exact HB.out)⟩⟩
        case round =>
          clear H'
          try clear c1
          try clear c2
          try clear p2
          try clear c3
          try clear c6
          try clear c6b0
          try clear c6b1
          try clear c7
          try clear c7b0
          try clear c7b1
          try clear c8
          try clear c8b0
          try clear c8b1
          try clear c9
          try clear c9b0
          try clear c9b1
          try clear c10
          try clear c10b0
          try clear c10b1
          try clear c10b2
          try clear c11
          try clear c14
          try clear c14b0
          try clear c14b1
          try clear c15
          try clear c18
          try clear c20
          try clear c21
          try clear c24
          try clear c27
          try clear c30
          try clear c33
          try clear c34
          try clear hcz12_0
          try clear hcz12_1
          try clear hcz12_2
          try clear hcz12_3
          try clear hcz12_4
          try clear hcz12_5
          try clear hcz12_6
          try clear hcz13_0
          try clear hcz13_1
          try clear hcz13_2
          try clear hcz13_3
          try clear hcz13_4
          try clear hcz13_5
          try clear hcz13_6
          try clear hcz16_0
          try clear hcz16_1
          try clear hcz16_2
          try clear hcz16_3
          try clear hcz16_4
          try clear hcz16_5
          try clear hcz16_6
          try clear hcz17_0
          try clear hcz17_1
          try clear hcz17_2
          try clear hcz17_3
          try clear hcz17_4
          try clear hcz17_5
          try clear hcz17_6
          try clear hcz19_0
          try clear hcz19_1
          try clear hcz19_2
          try clear hcz19_3
          try clear hcz19_4
          try clear hcz19_5
          try clear hcz19_6
          try clear hcz20_0
          try clear hcz20_1
          try clear hcz20_2
          try clear hcz20_3
          try clear hcz20_4
          try clear hcz20_5
          try clear hcz20_6
          try clear hcz22_0
          try clear hcz22_1
          try clear hcz22_2
          try clear hcz22_3
          try clear hcz22_4
          try clear hcz22_5
          try clear hcz22_6
          try clear hcz23_0
          try clear hcz23_1
          try clear hcz23_2
          try clear hcz23_3
          try clear hcz23_4
          try clear hcz23_5
          try clear hcz23_6
          try clear hcz25_0
          try clear hcz25_1
          try clear hcz25_2
          try clear hcz25_3
          try clear hcz25_4
          try clear hcz25_5
          try clear hcz25_6
          try clear hcz26_0
          try clear hcz26_1
          try clear hcz26_2
          try clear hcz26_3
          try clear hcz26_4
          try clear hcz26_5
          try clear hcz26_6
          try clear hcz28_0
          try clear hcz28_1
          try clear hcz28_2
          try clear hcz28_3
          try clear hcz28_4
          try clear hcz28_5
          try clear hcz28_6
          try clear hcz29_0
          try clear hcz29_1
          try clear hcz29_2
          try clear hcz29_3
          try clear hcz29_4
          try clear hcz29_5
          try clear hcz29_6
          try clear hcz31_0
          try clear hcz31_1
          try clear hcz31_2
          try clear hcz31_3
          try clear hcz31_4
          try clear hcz31_5
          try clear hcz31_6
          try clear hcz32_0
          try clear hcz32_1
          try clear hcz32_2
          try clear hcz32_3
          try clear hcz32_4
          try clear hcz32_5
          try clear hcz32_6
          try clear hcz35_0
          try clear hcz35_1
          try clear hcz35_2
          try clear hcz35_3
          try clear hcz35_4
          try clear hcz35_5
          try clear hcz35_6
          try clear hfz12_0
          try clear hfz12_1
          try clear hfz12_2
          try clear hfz12_3
          try clear hfz12_4
          try clear hfz12_5
          try clear hfz12_6
          try clear hfz13_0
          try clear hfz13_1
          try clear hfz13_2
          try clear hfz13_3
          try clear hfz13_4
          try clear hfz13_5
          try clear hfz13_6
          try clear hfz16_0
          try clear hfz16_1
          try clear hfz16_2
          try clear hfz16_3
          try clear hfz16_4
          try clear hfz16_5
          try clear hfz16_6
          try clear hfz17_0
          try clear hfz17_1
          try clear hfz17_2
          try clear hfz17_3
          try clear hfz17_4
          try clear hfz17_5
          try clear hfz17_6
          try clear hfz19_0
          try clear hfz19_1
          try clear hfz19_2
          try clear hfz19_3
          try clear hfz19_4
          try clear hfz19_5
          try clear hfz19_6
          try clear hfz20_0
          try clear hfz20_1
          try clear hfz20_2
          try clear hfz20_3
          try clear hfz20_4
          try clear hfz20_5
          try clear hfz20_6
          try clear hfz22_0
          try clear hfz22_1
          try clear hfz22_2
          try clear hfz22_3
          try clear hfz22_4
          try clear hfz22_5
          try clear hfz22_6
          try clear hfz23_0
          try clear hfz23_1
          try clear hfz23_2
          try clear hfz23_3
          try clear hfz23_4
          try clear hfz23_5
          try clear hfz23_6
          try clear hfz25_0
          try clear hfz25_1
          try clear hfz25_2
          try clear hfz25_3
          try clear hfz25_4
          try clear hfz25_5
          try clear hfz25_6
          try clear hfz26_0
          try clear hfz26_1
          try clear hfz26_2
          try clear hfz26_3
          try clear hfz26_4
          try clear hfz26_5
          try clear hfz26_6
          try clear hfz28_0
          try clear hfz28_1
          try clear hfz28_2
          try clear hfz28_3
          try clear hfz28_4
          try clear hfz28_5
          try clear hfz28_6
          try clear hfz29_0
          try clear hfz29_1
          try clear hfz29_2
          try clear hfz29_3
          try clear hfz29_4
          try clear hfz29_5
          try clear hfz29_6
          try clear hfz31_0
          try clear hfz31_1
          try clear hfz31_2
          try clear hfz31_3
          try clear hfz31_4
          try clear hfz31_5
          try clear hfz31_6
          try clear hfz32_0
          try clear hfz32_1
          try clear hfz32_2
          try clear hfz32_3
          try clear hfz32_4
          try clear hfz32_5
          try clear hfz32_6
          try clear hfz35_0
          try clear hfz35_1
          try clear hfz35_2
          try clear hfz35_3
          try clear hfz35_4
          try clear hfz35_5
          try clear hfz35_6
          try clear p2
          obtain ⟨x58_2, rfl, HA, HK2, BK319, BK320, HB⟩ := hrel
          cases gk with
          | zero => exact absurd HA.out (by simp [tattlerref07_Same.l0])
          | succ k2 =>
            have H := HA.out
            clear HA
            simp only [tattlerref07_Same.l0] at H
            by_cases c36 : x58_2 < (l0_1.length : Int)
            · rw [if_pos c36] at H
              have c36b0 : decide (x58_2 < (l0_1.length : Int)) = true := decide_eq_true c36
              clear c36
              by_cases c37 : 0 ≤ x58_2
              · rw [if_pos c37] at H
                have c37b0 : decide (0 ≤ x58_2) = true := decide_eq_true c37
                clear c37
                by_cases c38 : x58_2 < (l0_1.length : Int)
                · rw [if_pos c38] at H
                  have c38b0 : decide (x58_2 < (l0_1.length : Int)) = true := decide_eq_true c38
                  clear c38
                  by_cases c39 : x58_2 < (l1_1.length : Int)
                  · rw [if_pos c39] at H
                    have c39b0 : decide (x58_2 < (l1_1.length : Int)) = true := decide_eq_true c39
                    clear c39
                    by_cases c40 : (rdOf ByteArray.empty l0_1 x58_2).toList = (rdOf ByteArray.empty l1_1 x58_2).toList
                    · rw [if_pos c40] at H
                      have c40b0 : ((rdOf ByteArray.empty l0_1 x58_2).toList == (rdOf ByteArray.empty l1_1 x58_2).toList) = true := beq_iff_eq.mpr c40
                      have c40b1 : ((rdOf ByteArray.empty l0_1 x58_2).toList != (rdOf ByteArray.empty l1_1 x58_2).toList) = false := bne_eq_false_iff_eq.mpr c40
                      clear c40
                      have H' := Aside0.mk H
                      clear H
                      have hnb41 := NB319_320.out
                      have hnc41 := NB320_319.out
                      have hcz42_0 : wr.cell? ⟨gb319, 0, none⟩ = some (.int .i64 a0_0) := (blk_cell BK319.out 0).trans rfl
                      have hcz42_1 : wr.cell? ⟨gb319, 1, none⟩ = some (.slice A0_1 l0_1.length c0_1) := (blk_cell BK319.out 1).trans rfl
                      have hcz42_2 : wr.cell? ⟨gb319, 2, none⟩ = some (.int .u32 a0_2) := (blk_cell BK319.out 2).trans rfl
                      have hcz42_3 : wr.cell? ⟨gb319, 3, none⟩ = some (.int .i64 a0_3) := (blk_cell BK319.out 3).trans rfl
                      have hcz42_4 : wr.cell? ⟨gb319, 4, none⟩ = some (.string a0_4) := (blk_cell BK319.out 4).trans rfl
                      have hcz42_5 : wr.cell? ⟨gb319, 5, none⟩ = some (.bool a0_5) := (blk_cell BK319.out 5).trans rfl
                      have hcz42_6 : wr.cell? ⟨gb319, 6, none⟩ = some (.string a0_6) := (blk_cell BK319.out 6).trans rfl
                      have hfz42_0 := blk_frozen BK319.out 0
                      have hfz42_1 := blk_frozen BK319.out 1
                      have hfz42_2 := blk_frozen BK319.out 2
                      have hfz42_3 := blk_frozen BK319.out 3
                      have hfz42_4 := blk_frozen BK319.out 4
                      have hfz42_5 := blk_frozen BK319.out 5
                      have hfz42_6 := blk_frozen BK319.out 6
                      have p321 : 0 ≤ (x58_2 : Int) := of_decide_eq_true (by first | (with_reducible assumption) | assumption)
                      have q321 : x58_2 < (l0_1.length : Int) := of_decide_eq_true (by first | (with_reducible assumption) | assumption)
                      obtain ⟨ad321, e321, hx321_0⟩ := Kd.at_string HR0_1.out x58_2 p321 q321
                      cases e321
                      replace hx321_0 := (HB.out.cell (World.block_lt_of_cell? w _ hx321_0)).trans hx321_0
                      replace p321 := eq_true p321
                      replace q321 := eq_true q321
                      have hcz43_0 : wr.cell? ⟨gb320, 0, none⟩ = some (.int .i64 a1_0) := (blk_cell BK320.out 0).trans rfl
                      have hcz43_1 : wr.cell? ⟨gb320, 1, none⟩ = some (.slice A1_1 l1_1.length c1_1) := (blk_cell BK320.out 1).trans rfl
                      have hcz43_2 : wr.cell? ⟨gb320, 2, none⟩ = some (.int .u32 a1_2) := (blk_cell BK320.out 2).trans rfl
                      have hcz43_3 : wr.cell? ⟨gb320, 3, none⟩ = some (.int .i64 a1_3) := (blk_cell BK320.out 3).trans rfl
                      have hcz43_4 : wr.cell? ⟨gb320, 4, none⟩ = some (.string a1_4) := (blk_cell BK320.out 4).trans rfl
                      have hcz43_5 : wr.cell? ⟨gb320, 5, none⟩ = some (.bool a1_5) := (blk_cell BK320.out 5).trans rfl
                      have hcz43_6 : wr.cell? ⟨gb320, 6, none⟩ = some (.string a1_6) := (blk_cell BK320.out 6).trans rfl
                      have hfz43_0 := blk_frozen BK320.out 0
                      have hfz43_1 := blk_frozen BK320.out 1
                      have hfz43_2 := blk_frozen BK320.out 2
                      have hfz43_3 := blk_frozen BK320.out 3
                      have hfz43_4 := blk_frozen BK320.out 4
                      have hfz43_5 := blk_frozen BK320.out 5
                      have hfz43_6 := blk_frozen BK320.out 6
                      have p322 : 0 ≤ (x58_2 : Int) := of_decide_eq_true (by first | (with_reducible assumption) | assumption)
                      have q322 : x58_2 < (l1_1.length : Int) := of_decide_eq_true (by first | (with_reducible assumption) | assumption)
                      obtain ⟨ad322, e322, hx322_0⟩ := Kd.at_string HR1_1.out x58_2 p322 q322
                      cases e322
                      replace hx322_0 := (HB.out.cell (World.block_lt_of_cell? w _ hx322_0)).trans hx322_0
                      replace p322 := eq_true p322
                      replace q322 := eq_true q322
                      go_wp2
                      repeat (go_quiet (fail); try go_wp2)
                      go_roundg k2
                      case measure => have := HJ2.out; have := HK2.out; omega
                      case rel => exact ⟨(wrap64 (x58_2 + 1)), (by first | rfl | (simp; done) | (simp [*]; done)), H', ⟨by have := HJ2.out; have := HK2.out; omega⟩, ⟨by (with_reducible repeat (first | refine blk_drewN ?_ _ | refine blk_drew ?_ | refine blk_alloc ?_ _)); exact BK319.out⟩, ⟨by (with_reducible repeat (first | refine blk_drewN ?_ _ | refine blk_drew ?_ | refine blk_alloc ?_ _)); exact BK320.out⟩, ⟨by repeat (first | (with_reducible first | exact HB.out | apply below_alloc | apply pw_below_drewN | apply below_drew1 | refine below_set ?_ GE319.out | refine below_set ?_ GE320.out) | exact HB.out)⟩⟩
                    · rw [if_neg c40] at H
                      have c40b0 : ((rdOf ByteArray.empty l0_1 x58_2).toList == (rdOf ByteArray.empty l1_1 x58_2).toList) = false := beq_eq_false_iff_ne.mpr c40
                      have c40b1 : ((rdOf ByteArray.empty l0_1 x58_2).toList != (rdOf ByteArray.empty l1_1 x58_2).toList) = true := bne_iff_ne.mpr c40
                      obtain rfl := Option.some.inj H
                      have hnb44 := NB319_320.out
                      have hnc44 := NB320_319.out
                      have hcz45_0 : wr.cell? ⟨gb319, 0, none⟩ = some (.int .i64 a0_0) := (blk_cell BK319.out 0).trans rfl
                      have hcz45_1 : wr.cell? ⟨gb319, 1, none⟩ = some (.slice A0_1 l0_1.length c0_1) := (blk_cell BK319.out 1).trans rfl
                      have hcz45_2 : wr.cell? ⟨gb319, 2, none⟩ = some (.int .u32 a0_2) := (blk_cell BK319.out 2).trans rfl
                      have hcz45_3 : wr.cell? ⟨gb319, 3, none⟩ = some (.int .i64 a0_3) := (blk_cell BK319.out 3).trans rfl
                      have hcz45_4 : wr.cell? ⟨gb319, 4, none⟩ = some (.string a0_4) := (blk_cell BK319.out 4).trans rfl
                      have hcz45_5 : wr.cell? ⟨gb319, 5, none⟩ = some (.bool a0_5) := (blk_cell BK319.out 5).trans rfl
                      have hcz45_6 : wr.cell? ⟨gb319, 6, none⟩ = some (.string a0_6) := (blk_cell BK319.out 6).trans rfl
                      have hfz45_0 := blk_frozen BK319.out 0
                      have hfz45_1 := blk_frozen BK319.out 1
                      have hfz45_2 := blk_frozen BK319.out 2
                      have hfz45_3 := blk_frozen BK319.out 3
                      have hfz45_4 := blk_frozen BK319.out 4
                      have hfz45_5 := blk_frozen BK319.out 5
                      have hfz45_6 := blk_frozen BK319.out 6
                      have p321 : 0 ≤ (x58_2 : Int) := of_decide_eq_true (by first | (with_reducible assumption) | assumption)
                      have q321 : x58_2 < (l0_1.length : Int) := of_decide_eq_true (by first | (with_reducible assumption) | assumption)
                      obtain ⟨ad321, e321, hx321_0⟩ := Kd.at_string HR0_1.out x58_2 p321 q321
                      cases e321
                      replace hx321_0 := (HB.out.cell (World.block_lt_of_cell? w _ hx321_0)).trans hx321_0
                      replace p321 := eq_true p321
                      replace q321 := eq_true q321
                      have hcz46_0 : wr.cell? ⟨gb320, 0, none⟩ = some (.int .i64 a1_0) := (blk_cell BK320.out 0).trans rfl
                      have hcz46_1 : wr.cell? ⟨gb320, 1, none⟩ = some (.slice A1_1 l1_1.length c1_1) := (blk_cell BK320.out 1).trans rfl
                      have hcz46_2 : wr.cell? ⟨gb320, 2, none⟩ = some (.int .u32 a1_2) := (blk_cell BK320.out 2).trans rfl
                      have hcz46_3 : wr.cell? ⟨gb320, 3, none⟩ = some (.int .i64 a1_3) := (blk_cell BK320.out 3).trans rfl
                      have hcz46_4 : wr.cell? ⟨gb320, 4, none⟩ = some (.string a1_4) := (blk_cell BK320.out 4).trans rfl
                      have hcz46_5 : wr.cell? ⟨gb320, 5, none⟩ = some (.bool a1_5) := (blk_cell BK320.out 5).trans rfl
                      have hcz46_6 : wr.cell? ⟨gb320, 6, none⟩ = some (.string a1_6) := (blk_cell BK320.out 6).trans rfl
                      have hfz46_0 := blk_frozen BK320.out 0
                      have hfz46_1 := blk_frozen BK320.out 1
                      have hfz46_2 := blk_frozen BK320.out 2
                      have hfz46_3 := blk_frozen BK320.out 3
                      have hfz46_4 := blk_frozen BK320.out 4
                      have hfz46_5 := blk_frozen BK320.out 5
                      have hfz46_6 := blk_frozen BK320.out 6
                      have p322 : 0 ≤ (x58_2 : Int) := of_decide_eq_true (by first | (with_reducible assumption) | assumption)
                      have q322 : x58_2 < (l1_1.length : Int) := of_decide_eq_true (by first | (with_reducible assumption) | assumption)
                      obtain ⟨ad322, e322, hx322_0⟩ := Kd.at_string HR1_1.out x58_2 p322 q322
                      cases e322
                      replace hx322_0 := (HB.out.cell (World.block_lt_of_cell? w _ hx322_0)).trans hx322_0
                      replace p322 := eq_true p322
                      replace q322 := eq_true q322
                      go_wp2
                      repeat (go_quiet (fail); try go_wp2)
                      go_ret
                      exact ⟨by first | rfl | (simp [errW_none, errW_some] <;> rfl) | (simp [*, errW_none, errW_some] <;> rfl), by repeat (first | (with_reducible first | exact HB.out | apply below_alloc | apply pw_below_drewN | apply below_drew1 | refine below_set ?_ GE319.out | refine below_set ?_ GE320.out) | exact HB.out)⟩
                  · rw [if_neg c39] at H
                    exact absurd H (by simp)
                · rw [if_neg c38] at H
                  exact absurd H (by simp)
              · rw [if_neg c37] at H
                exact absurd H (by simp)
            · rw [if_neg c36] at H
              have c36b0 : decide (x58_2 < (l0_1.length : Int)) = false := decide_eq_false c36
              clear c36
              obtain rfl := Option.some.inj H
              go_wp2
              repeat (go_quiet (fail); try go_wp2)
              go_ret
              exact ⟨by first | rfl | (simp [errW_none, errW_some] <;> rfl) | (simp [*, errW_none, errW_some] <;> rfl), by repeat (first | (with_reducible first | exact HB.out | apply below_alloc | apply pw_below_drewN | apply below_drew1 | refine below_set ?_ GE319.out | refine below_set ?_ GE320.out) | exact HB.out)⟩

end Go.Proofs.YthinmioognadpaaDoor.PCmd
