-- Printed by a program of this session over its told contracts; Lean checks it.
import Derived.Test.YthinmioognadpaaDoorPCmdx0
import Derived.Test.YthinmioognadpaaDoorPCmdx6
namespace Go.Proofs.YthinmioognadpaaDoor.PCmd
open Go.RowKit Go.Proofs.YthinmioognadpaaDoorW.PrintWords Go.Proofs.YthinmioognadpaaDoorW.PrintLast Go.Proofs.YthinmioognadpaaDoorW.PrintMore
attribute [local go_sem] max2_int min2_int max_two min_two max_three min_three max_four min_four   -- for this text's walks alone
set_option linter.unusedVariables false
set_option linter.unusedSimpArgs false

/-! ### tattlerref07_SameAll: function 11 -/
def tattlerref07_SameAll.l0 : Nat → List (S28) → List (S28) → Int → Int → Option (Bool)
  | 0, _, _, _, _ => none
  | k + 1, x0, x1, x12, x13 => if x13 < x12 then (if 0 ≤ x13 then (if x13 < (x0.length : Int) then (if x13 < (x1.length : Int) then ((tattlerref07_Same.f k ((rd_T28 x0 x13).f0) ((rd_T28 x0 x13).f1) ((rd_T28 x0 x13).f2) ((rd_T28 x0 x13).f3) ((rd_T28 x0 x13).f4) ((rd_T28 x0 x13).f5) ((rd_T28 x0 x13).f6) ((rd_T28 x1 x13).f0) ((rd_T28 x1 x13).f1) ((rd_T28 x1 x13).f2) ((rd_T28 x1 x13).f3) ((rd_T28 x1 x13).f4) ((rd_T28 x1 x13).f5) ((rd_T28 x1 x13).f6)).bind fun t325 => (if t325 = true then (tattlerref07_SameAll.l0 k x0 x1 x12 (wrap64 (x13 + 1))) else (some false))) else (none)) else (none)) else (none)) else (some true)
def tattlerref07_SameAll.f (k : Nat) (l0 : List (S28)) (l1 : List (S28)) : Option (Bool) := if (l0.length : Int) = (l1.length : Int) then (tattlerref07_SameAll.l0 k l0 l1 (l0.length : Int) 0) else (some false)
theorem tattlerref07_SameAll.mono_l : ∀ k, (∀ y0 y1 y2 y3, LeO (tattlerref07_SameAll.l0 k y0 y1 y2 y3) (tattlerref07_SameAll.l0 (k + 1) y0 y1 y2 y3))
  | 0 => fun _ _ _ _ r h => by simp [tattlerref07_SameAll.l0] at h
  | k + 1 => by
    have ih0 := tattlerref07_SameAll.mono_l k
    · intro y0 y1 y2 y3
      unfold tattlerref07_SameAll.l0
      repeat' first
      | (with_reducible exact ih0 _ _ _ _)
      | (with_reducible exact tattlerref07_Same.mono _ _ _ _ _ _ _ _ _ _ _ _ _ _ _)
      | (with_reducible exact LeO.refl _)
      | (with_reducible exact LeO.none _)
      | (with_reducible refine LeO.ite ?_ ?_)
      | (with_reducible refine LeO.bind ?_ (fun _ => ?_))
      | exact ih0 _ _ _ _
      | exact tattlerref07_Same.mono _ _ _ _ _ _ _ _ _ _ _ _ _ _ _
      | exact LeO.none _
      | refine LeO.ite ?_ ?_
      | refine LeO.bind ?_ (fun _ => ?_)
theorem tattlerref07_SameAll.mono : ∀ a0 a1 k, LeO (tattlerref07_SameAll.f k a0 a1) (tattlerref07_SameAll.f (k + 1) a0 a1) := by
  intro a0 a1 k
  have ih0 := tattlerref07_SameAll.mono_l k
  unfold tattlerref07_SameAll.f
  repeat' first
      | (with_reducible exact ih0 _ _ _ _)
      | (with_reducible exact tattlerref07_Same.mono _ _ _ _ _ _ _ _ _ _ _ _ _ _ _)
      | (with_reducible exact LeO.refl _)
      | (with_reducible exact LeO.none _)
      | (with_reducible refine LeO.ite ?_ ?_)
      | (with_reducible refine LeO.bind ?_ (fun _ => ?_))
      | exact ih0 _ _ _ _
      | exact tattlerref07_Same.mono _ _ _ _ _ _ _ _ _ _ _ _ _ _ _
      | exact LeO.none _
      | refine LeO.ite ?_ ?_
      | refine LeO.bind ?_ (fun _ => ?_)
def tattlerref07_SameAll.T6 : Bool × List (List Nat × List Nat) := (true, [([], []), ([], []), ([0, 1], [0, 1]), ([2], [2]), ([], []), ([], []), ([4, 5], [4, 5]), ([6], [6]), ([3, 7], [3, 7]), ([8], [8])])
def tattlerref07_SameAll.B6 : List Nat := [0, 0, 3, 7, 0, 0, 48, 112, 255, 511]
theorem tattlerref07_SameAll.tab6 : rtab .any (opsOf Tryd.f11 6) = tattlerref07_SameAll.T6 := by kernel_rfl
theorem tattlerref07_SameAll.bits6 : waitsOk tattlerref07_SameAll.T6.2 tattlerref07_SameAll.B6 = true := by kernel_rfl
set_option maxHeartbeats 8000000 in
set_option maxRecDepth 100000 in
theorem tattlerref07_SameAll.calls (k : Nat) (A0 : Option Addr) (c0 : Nat) (l0 : List (S28)) (A1 : Option Addr) (c1 : Nat) (l1 : List (S28)) (r : Bool) (w : World) (hr0 : Kd.C k28 w A0 l0.length l0) (hc0 : l0.length ≤ c0) (hr1 : Kd.C k28 w A1 l1.length l1) (hc1 : l1.length ≤ c1) (h : tattlerref07_SameAll.f k l0 l1 = some r) :
    Calls Tryd.prog 11 #[.slice A0 l0.length c0, .slice A1 l1.length c1] w fun e w' => e = .returned (.bool r) ∧ Below w.heap.size w w' := by
  have hu28 := Tryd.underlying28
  have HR0 := Aside0.mk hr0
  have HC0 := Aside0.mk hc0
  clear hr0 hc0
  have HR1 := Aside0.mk hr1
  have HC1 := Aside0.mk hc1
  clear hr1 hc1
  have HB := Aside0.mk (Below.refl w.heap.size w)
  have H : (if (l0.length : Int) = (l1.length : Int) then (tattlerref07_SameAll.l0 k l0 l1 (l0.length : Int) 0) else (some false)) = some r := h
  clear h
  by_cases c3 : (l0.length : Int) = (l1.length : Int)
  · rw [if_pos c3] at H
    have c3b0 : ((l0.length : Int) == (l1.length : Int)) = true := beq_iff_eq.mpr c3
    have c3b1 : ((l0.length : Int) != (l1.length : Int)) = false := bne_eq_false_iff_eq.mpr c3
    have c3b2 : (l0.length == l1.length) = true := by first | simpa using c3 | (simp at c3 ⊢; omega)
    clear c3
    have H' := Aside0.mk H
    clear H
    go_enter Tryd.func11, Tryd.ntmps11
    go_wp2
    go_loopg [13] k (fun kq v13 w' => ∃ (x13_1 : Int), v13 = .int .i64 x13_1 ∧ Aside0 (tattlerref07_SameAll.l0 kq l0 l1 (l0.length : Int) x13_1 = some r) ∧ Aside0 (kq ≤ k) ∧ Aside0 (Below w.heap.size w w'))
    case atStart => exact ⟨(0), (by first | rfl | (simp; done) | (simp [*]; done)), H', ⟨Nat.le_refl _⟩, ⟨by repeat (first | (with_reducible first | exact HB.out | apply below_alloc | apply pw_below_drewN | apply below_drew1) | exact HB.out)⟩⟩
    case round =>
      clear H'
      try clear c1
      try clear p2
      try clear c3
      try clear c3b0
      try clear c3b1
      try clear c3b2
      obtain ⟨x13_1, rfl, HA, HK1, HB⟩ := hrel
      cases gk with
      | zero => exact absurd HA.out (by simp [tattlerref07_SameAll.l0])
      | succ k1 =>
        have H := HA.out
        clear HA
        simp only [tattlerref07_SameAll.l0] at H
        by_cases c4 : x13_1 < (l0.length : Int)
        · rw [if_pos c4] at H
          have c4b0 : decide (x13_1 < (l0.length : Int)) = true := decide_eq_true c4
          clear c4
          by_cases c5 : 0 ≤ x13_1
          · rw [if_pos c5] at H
            have c5b0 : decide (0 ≤ x13_1) = true := decide_eq_true c5
            clear c5
            by_cases c6 : x13_1 < (l0.length : Int)
            · rw [if_pos c6] at H
              have c6b0 : decide (x13_1 < (l0.length : Int)) = true := decide_eq_true c6
              clear c6
              by_cases c7 : x13_1 < (l1.length : Int)
              · rw [if_pos c7] at H
                have c7b0 : decide (x13_1 < (l1.length : Int)) = true := decide_eq_true c7
                clear c7
                replace H := Option.bind_eq_some_iff.mp H
                obtain ⟨t325, A80, H⟩ := H
                replace H : (if t325 = true then (tattlerref07_SameAll.l0 k1 l0 l1 (l0.length : Int) (wrap64 (x13_1 + 1))) else (some false)) = some r := H
                have A8 := Aside0.mk A80
                clear A80
                by_cases c9 : t325 = true
                · subst c9
                  have H1 : (tattlerref07_SameAll.l0 k1 l0 l1 (l0.length : Int) (wrap64 (x13_1 + 1))) = some r := by rw [if_pos rfl] at H; exact H
                  clear H
                  have H := H1
                  clear H1
                  have H' := Aside0.mk H
                  clear H
                  try go_wp2
                  have n0_ := Aside0.mk (below_drew1 HB.out)
                  clear HB
                  have HB := n0_
                  clear n0_
                  have p323 : 0 ≤ (x13_1 : Int) := of_decide_eq_true (by first | (with_reducible assumption) | assumption)
                  have q323 : x13_1 < (l0.length : Int) := of_decide_eq_true (by first | (with_reducible assumption) | assumption)
                  obtain ⟨ad323, A323_1, c323_1, e323, hx323_0, hx323_1, hx323_2, hx323_3, hx323_4, hx323_5, hx323_6, hl323_1, hi323_1⟩ := at_T28 HR0.out x13_1 p323 q323
                  have hw323_6 := hx323_6
                  have hw323_5 := hx323_5
                  have hw323_4 := hx323_4
                  have hw323_3 := hx323_3
                  have hw323_2 := hx323_2
                  have hw323_1 := hx323_1
                  have hw323_0 := hx323_0
                  cases e323
                  replace hx323_0 := (HB.out.cell (World.block_lt_of_cell? w _ hx323_0)).trans hx323_0
                  replace hx323_1 := (HB.out.cell (World.block_lt_of_cell? w _ hx323_1)).trans hx323_1
                  replace hx323_2 := (HB.out.cell (World.block_lt_of_cell? w _ hx323_2)).trans hx323_2
                  replace hx323_3 := (HB.out.cell (World.block_lt_of_cell? w _ hx323_3)).trans hx323_3
                  replace hx323_4 := (HB.out.cell (World.block_lt_of_cell? w _ hx323_4)).trans hx323_4
                  replace hx323_5 := (HB.out.cell (World.block_lt_of_cell? w _ hx323_5)).trans hx323_5
                  replace hx323_6 := (HB.out.cell (World.block_lt_of_cell? w _ hx323_6)).trans hx323_6
                  have HR323_1 := Aside0.mk hi323_1
                  have HC323_1 := Aside0.mk hl323_1
                  clear hi323_1 hl323_1
                  replace p323 := eq_true p323
                  replace q323 := eq_true q323
                  have p324 : 0 ≤ (x13_1 : Int) := of_decide_eq_true (by first | (with_reducible assumption) | assumption)
                  have q324 : x13_1 < (l1.length : Int) := of_decide_eq_true (by first | (with_reducible assumption) | assumption)
                  obtain ⟨ad324, A324_1, c324_1, e324, hx324_0, hx324_1, hx324_2, hx324_3, hx324_4, hx324_5, hx324_6, hl324_1, hi324_1⟩ := at_T28 HR1.out x13_1 p324 q324
                  have hw324_6 := hx324_6
                  have hw324_5 := hx324_5
                  have hw324_4 := hx324_4
                  have hw324_3 := hx324_3
                  have hw324_2 := hx324_2
                  have hw324_1 := hx324_1
                  have hw324_0 := hx324_0
                  cases e324
                  replace hx324_0 := (HB.out.cell (World.block_lt_of_cell? w _ hx324_0)).trans hx324_0
                  replace hx324_1 := (HB.out.cell (World.block_lt_of_cell? w _ hx324_1)).trans hx324_1
                  replace hx324_2 := (HB.out.cell (World.block_lt_of_cell? w _ hx324_2)).trans hx324_2
                  replace hx324_3 := (HB.out.cell (World.block_lt_of_cell? w _ hx324_3)).trans hx324_3
                  replace hx324_4 := (HB.out.cell (World.block_lt_of_cell? w _ hx324_4)).trans hx324_4
                  replace hx324_5 := (HB.out.cell (World.block_lt_of_cell? w _ hx324_5)).trans hx324_5
                  replace hx324_6 := (HB.out.cell (World.block_lt_of_cell? w _ hx324_6)).trans hx324_6
                  have HR324_1 := Aside0.mk hi324_1
                  have HC324_1 := Aside0.mk hl324_1
                  clear hi324_1 hl324_1
                  replace p324 := eq_true p324
                  replace q324 := eq_true q324
                  refine start_ (n := 10) (S := fun w' => w'.cell? (ad323.add ((x13_1).toNat * 7)) = some (.int .i64 ((rd_T28 l0 x13_1).f0)) ∧ w'.cell? ⟨(ad323.add ((x13_1).toNat * 7)).block, (ad323.add ((x13_1).toNat * 7)).off + 1, none⟩ = some (.slice A323_1 ((rd_T28 l0 x13_1).f1).length c323_1) ∧ w'.cell? ⟨(ad323.add ((x13_1).toNat * 7)).block, (ad323.add ((x13_1).toNat * 7)).off + 2, none⟩ = some (.int .u32 ((rd_T28 l0 x13_1).f2)) ∧ w'.cell? ⟨(ad323.add ((x13_1).toNat * 7)).block, (ad323.add ((x13_1).toNat * 7)).off + 3, none⟩ = some (.int .i64 ((rd_T28 l0 x13_1).f3)) ∧ w'.cell? ⟨(ad323.add ((x13_1).toNat * 7)).block, (ad323.add ((x13_1).toNat * 7)).off + 4, none⟩ = some (.string ((rd_T28 l0 x13_1).f4)) ∧ w'.cell? ⟨(ad323.add ((x13_1).toNat * 7)).block, (ad323.add ((x13_1).toNat * 7)).off + 5, none⟩ = some (.bool ((rd_T28 l0 x13_1).f5)) ∧ w'.cell? ⟨(ad323.add ((x13_1).toNat * 7)).block, (ad323.add ((x13_1).toNat * 7)).off + 6, none⟩ = some (.string ((rd_T28 l0 x13_1).f6)) ∧ w'.cell? (ad324.add ((x13_1).toNat * 7)) = some (.int .i64 ((rd_T28 l1 x13_1).f0)) ∧ w'.cell? ⟨(ad324.add ((x13_1).toNat * 7)).block, (ad324.add ((x13_1).toNat * 7)).off + 1, none⟩ = some (.slice A324_1 ((rd_T28 l1 x13_1).f1).length c324_1) ∧ w'.cell? ⟨(ad324.add ((x13_1).toNat * 7)).block, (ad324.add ((x13_1).toNat * 7)).off + 2, none⟩ = some (.int .u32 ((rd_T28 l1 x13_1).f2)) ∧ w'.cell? ⟨(ad324.add ((x13_1).toNat * 7)).block, (ad324.add ((x13_1).toNat * 7)).off + 3, none⟩ = some (.int .i64 ((rd_T28 l1 x13_1).f3)) ∧ w'.cell? ⟨(ad324.add ((x13_1).toNat * 7)).block, (ad324.add ((x13_1).toNat * 7)).off + 4, none⟩ = some (.string ((rd_T28 l1 x13_1).f4)) ∧ w'.cell? ⟨(ad324.add ((x13_1).toNat * 7)).block, (ad324.add ((x13_1).toNat * 7)).off + 5, none⟩ = some (.bool ((rd_T28 l1 x13_1).f5)) ∧ w'.cell? ⟨(ad324.add ((x13_1).toNat * 7)).block, (ad324.add ((x13_1).toNat * 7)).off + 6, none⟩ = some (.string ((rd_T28 l1 x13_1).f6))) (ds := []) #[false, false, false, false, false, false, false, false, false, false] (by kernel_rfl) rfl rfl ⟨((HB.out.cell (World.block_lt_of_cell? w _ hw323_0)).trans hw323_0), ((HB.out.cell (World.block_lt_of_cell? w _ hw323_1)).trans hw323_1), ((HB.out.cell (World.block_lt_of_cell? w _ hw323_2)).trans hw323_2), ((HB.out.cell (World.block_lt_of_cell? w _ hw323_3)).trans hw323_3), ((HB.out.cell (World.block_lt_of_cell? w _ hw323_4)).trans hw323_4), ((HB.out.cell (World.block_lt_of_cell? w _ hw323_5)).trans hw323_5), ((HB.out.cell (World.block_lt_of_cell? w _ hw323_6)).trans hw323_6), ((HB.out.cell (World.block_lt_of_cell? w _ hw324_0)).trans hw324_0), ((HB.out.cell (World.block_lt_of_cell? w _ hw324_1)).trans hw324_1), ((HB.out.cell (World.block_lt_of_cell? w _ hw324_2)).trans hw324_2), ((HB.out.cell (World.block_lt_of_cell? w _ hw324_3)).trans hw324_3), ((HB.out.cell (World.block_lt_of_cell? w _ hw324_4)).trans hw324_4), ((HB.out.cell (World.block_lt_of_cell? w _ hw324_5)).trans hw324_5), ((HB.out.cell (World.block_lt_of_cell? w _ hw324_6)).trans hw324_6)⟩ (fun hHeld => ?_); refine with_tabW tattlerref07_SameAll.tab6 tattlerref07_SameAll.bits6 (fun HT_ HW_ => ?_)
                  generalize wr.drew = w10 at HB HR323_1 HR324_1 hx323_0 hx323_1 hx323_2 hx323_3 hx323_4 hx323_5 hx323_6 hx324_0 hx324_1 hx324_2 hx324_3 hx324_4 hx324_5 hx324_6 hHeld ⊢
                  refine pure_ (i := 0) (N := some 16) (v := ?_) (a' := ?_) #[true, false, false, false, false, false, false, false, false, false] rfl rfl (any_of HT_.out (by kernel_rfl)) (fun _ _ _ h => h) (Or.inl ⟨by rfl, ?_⟩) ?_ ?_
                  rotate_left
                  · intro w'
                    go_simp
                    with_reducible rfl
                  rotate_left
                  · simp only [Act.put, List.setIfInBounds_toArray, List.set_cons_zero, List.set_cons_succ, i64_w, i32_w]
                    rfl
                  refine pure_ (i := 1) (N := some 17) (v := ?_) (a' := ?_) #[true, true, false, false, false, false, false, false, false, false] rfl rfl (any_of HT_.out (by kernel_rfl)) (fun _ _ _ h => h) (Or.inl ⟨by rfl, ?_⟩) ?_ ?_
                  rotate_left
                  · intro w'
                    go_simp
                    with_reducible rfl
                  rotate_left
                  · simp only [Act.put, List.setIfInBounds_toArray, List.set_cons_zero, List.set_cons_succ, i64_w, i32_w]
                    rfl
                  refine pure_ (i := 2) (N := some 18) (v := ?_) (a' := ?_) #[true, true, true, false, false, false, false, false, false, false] rfl rfl (any_of HT_.out (by kernel_rfl)) (fun _ _ _ h => h) (Or.inl ⟨by rfl, ?_⟩) ?_ ?_
                  rotate_left
                  · intro w'
                    go_simp
                    with_reducible rfl
                  rotate_left
                  · simp only [Act.put, List.setIfInBounds_toArray, List.set_cons_zero, List.set_cons_succ, i64_w, i32_w]
                    rfl
                  refine pure_ (i := 4) (N := some 20) (v := ?_) (a' := ?_) #[true, true, true, false, true, false, false, false, false, false] rfl rfl (any_of HT_.out (by kernel_rfl)) (fun _ _ _ h => h) (Or.inl ⟨by rfl, ?_⟩) ?_ ?_
                  rotate_left
                  · intro w'
                    go_simp
                    with_reducible rfl
                  rotate_left
                  · simp only [Act.put, List.setIfInBounds_toArray, List.set_cons_zero, List.set_cons_succ, i64_w, i32_w]
                    rfl
                  refine pure_ (i := 5) (N := some 21) (v := ?_) (a' := ?_) #[true, true, true, false, true, true, false, false, false, false] rfl rfl (any_of HT_.out (by kernel_rfl)) (fun _ _ _ h => h) (Or.inl ⟨by rfl, ?_⟩) ?_ ?_
                  rotate_left
                  · intro w'
                    go_simp
                    with_reducible rfl
                  rotate_left
                  · simp only [Act.put, List.setIfInBounds_toArray, List.set_cons_zero, List.set_cons_succ, i64_w, i32_w]
                    rfl
                  refine pure_ (i := 6) (N := some 22) (v := ?_) (a' := ?_) #[true, true, true, false, true, true, true, false, false, false] rfl rfl (any_of HT_.out (by kernel_rfl)) (fun _ _ _ h => h) (Or.inl ⟨by rfl, ?_⟩) ?_ ?_
                  rotate_left
                  · intro w'
                    go_simp
                    with_reducible rfl
                  rotate_left
                  · simp only [Act.put, List.setIfInBounds_toArray, List.set_cons_zero, List.set_cons_succ, i64_w, i32_w]
                    rfl
                  refine take_ (i := 3) (N := some 19) (v := ?_) (a' := ?_) #[true, true, true, true, true, true, true, false, false, false] rfl rfl (take_ofW HT_.out HW_.out (by kernel_rfl)) (fun _ _ _ h => h) (Or.inl ⟨by rfl, ?_⟩) hHeld ?_ ?_
                  rotate_left
                  · rintro w' ⟨s0, s1, s2, s3, s4, s5, s6, s7, s8, s9, s10, s11, s12, s13⟩
                    go_simp
                    with_reducible rfl
                  rotate_left
                  · simp only [Act.put, List.setIfInBounds_toArray, List.set_cons_zero, List.set_cons_succ, i64_w, i32_w]
                    rfl
                  refine take_ (i := 7) (N := some 23) (v := ?_) (a' := ?_) #[true, true, true, true, true, true, true, true, false, false] rfl rfl (take_ofW HT_.out HW_.out (by kernel_rfl)) (fun _ _ _ h => h) (Or.inl ⟨by rfl, ?_⟩) hHeld ?_ ?_
                  rotate_left
                  · rintro w' ⟨s0, s1, s2, s3, s4, s5, s6, s7, s8, s9, s10, s11, s12, s13⟩
                    go_simp
                    with_reducible rfl
                  rotate_left
                  · simp only [Act.put, List.setIfInBounds_toArray, List.set_cons_zero, List.set_cons_succ, i64_w, i32_w]
                    rfl
                  refine one_ (i := 8) (N := some 24) #[true, true, true, true, true, true, true, true, true, false] rfl rfl (one_of HT_.out (by kernel_rfl)) (by decide) (fun K hK => ?_)
                  refine goes_ Tryd.func20 (by kernel_rfl) rfl #[.agg #[.int .i64 ((rd_T28 l0 x13_1).f0), .slice A323_1 ((rd_T28 l0 x13_1).f1).length c323_1, .int .u32 ((rd_T28 l0 x13_1).f2), .int .i64 ((rd_T28 l0 x13_1).f3), .string ((rd_T28 l0 x13_1).f4), .bool ((rd_T28 l0 x13_1).f5), .string ((rd_T28 l0 x13_1).f6)], .agg #[.int .i64 ((rd_T28 l1 x13_1).f0), .slice A324_1 ((rd_T28 l1 x13_1).f1).length c324_1, .int .u32 ((rd_T28 l1 x13_1).f2), .int .i64 ((rd_T28 l1 x13_1).f3), .string ((rd_T28 l1 x13_1).f4), .bool ((rd_T28 l1 x13_1).f5), .string ((rd_T28 l1 x13_1).f6)]] (by rfl) rfl rfl (by (try simp only [List.map_toArray, List.map_cons, List.map_nil]); first | done | rfl | (simp only [List.length_drop, List.length_take]; rfl)) ?_
                  with_reducible refine (tattlerref07_Same.calls k1 ((rd_T28 l0 x13_1).f0) _ _ ((rd_T28 l0 x13_1).f1) ((rd_T28 l0 x13_1).f2) ((rd_T28 l0 x13_1).f3) ((rd_T28 l0 x13_1).f4) ((rd_T28 l0 x13_1).f5) ((rd_T28 l0 x13_1).f6) ((rd_T28 l1 x13_1).f0) _ _ ((rd_T28 l1 x13_1).f1) ((rd_T28 l1 x13_1).f2) ((rd_T28 l1 x13_1).f3) ((rd_T28 l1 x13_1).f4) ((rd_T28 l1 x13_1).f5) ((rd_T28 l1 x13_1).f6) true _ ?side1 ?side2 ?side3 ?side4 A8.out).mono ?_
                  (case side1 => repeat (first | exact (Kd.C_below HR323_1.out HB.out) | (with_reducible refine Kd.C_alloc ?_ _) | (with_reducible refine Kd.C_drewN ?_ _) | (with_reducible refine Kd.C_drew ?_)))
                  (case side2 => exact HC323_1.out)
                  (case side3 => repeat (first | exact (Kd.C_below HR324_1.out HB.out) | (with_reducible refine Kd.C_alloc ?_ _) | (with_reducible refine Kd.C_drewN ?_ _) | (with_reducible refine Kd.C_drew ?_)))
                  (case side4 => exact HC324_1.out)
                  rintro e w11 ⟨rfl, hb⟩
                  refine ⟨_, rfl, ?_⟩
                  have n0_ := Aside0.mk (below_step (by repeat (first | (with_reducible first | exact HB.out | apply below_alloc | apply pw_below_drewN | apply below_drew1) | exact HB.out)) hb)
                  clear HB
                  have HB := n0_
                  clear n0_
                  (try clear hb)
                  (try clear hb2)
                  (try clear hk)
                  (try clear hi)
                  refine hK.out _ _ ⟨((HB.out.cell (World.block_lt_of_cell? w _ hw323_0)).trans hw323_0), ((HB.out.cell (World.block_lt_of_cell? w _ hw323_1)).trans hw323_1), ((HB.out.cell (World.block_lt_of_cell? w _ hw323_2)).trans hw323_2), ((HB.out.cell (World.block_lt_of_cell? w _ hw323_3)).trans hw323_3), ((HB.out.cell (World.block_lt_of_cell? w _ hw323_4)).trans hw323_4), ((HB.out.cell (World.block_lt_of_cell? w _ hw323_5)).trans hw323_5), ((HB.out.cell (World.block_lt_of_cell? w _ hw323_6)).trans hw323_6), ((HB.out.cell (World.block_lt_of_cell? w _ hw324_0)).trans hw324_0), ((HB.out.cell (World.block_lt_of_cell? w _ hw324_1)).trans hw324_1), ((HB.out.cell (World.block_lt_of_cell? w _ hw324_2)).trans hw324_2), ((HB.out.cell (World.block_lt_of_cell? w _ hw324_3)).trans hw324_3), ((HB.out.cell (World.block_lt_of_cell? w _ hw324_4)).trans hw324_4), ((HB.out.cell (World.block_lt_of_cell? w _ hw324_5)).trans hw324_5), ((HB.out.cell (World.block_lt_of_cell? w _ hw324_6)).trans hw324_6)⟩ (fun hHeld => ?_)
                  clear hK K
                  refine norm_ (a' := ?_) ?_ ?_
                  rotate_left
                  · show Act.put _ (some 24) _ = _
                    simp only [Act.put, List.setIfInBounds_toArray, List.set_cons_zero, List.set_cons_succ, i64_w, i32_w]
                    rfl
                  refine pure_ (i := 9) (N := some 25) (v := ?_) (a' := ?_) #[true, true, true, true, true, true, true, true, true, true] rfl rfl (any_of HT_.out (by kernel_rfl)) (fun _ _ _ h => h) (Or.inl ⟨by rfl, ?_⟩) ?_ ?_
                  rotate_left
                  · intro w'
                    go_simp
                    with_reducible rfl
                  rotate_left
                  · simp only [Act.put, List.setIfInBounds_toArray, List.set_cons_zero, List.set_cons_succ, i64_w, i32_w]
                    rfl
                  refine done_ (done_of HT_.out (by kernel_rfl)) ?_
                  try go_wp2
                  go_roundg k1
                  case measure => have := HK1.out; omega
                  case rel => exact ⟨(wrap64 (x13_1 + 1)), (by first | rfl | (simp; done) | (simp [*]; done)), H', ⟨by have := HK1.out; omega⟩, ⟨by repeat (first | (with_reducible first | exact HB.out | apply below_alloc | apply pw_below_drewN | apply below_drew1) | exact HB.out)⟩⟩
                · replace c9 := Bool.eq_false_iff.mpr c9
                  subst c9
                  have H1 : (some false) = some r := by rw [if_neg (show ¬ (false = true) by decide)] at H; exact H
                  clear H
                  have H := H1
                  clear H1
                  obtain rfl := Option.some.inj H
                  try go_wp2
                  have n0_ := Aside0.mk (below_drew1 HB.out)
                  clear HB
                  have HB := n0_
                  clear n0_
                  have p323 : 0 ≤ (x13_1 : Int) := of_decide_eq_true (by first | (with_reducible assumption) | assumption)
                  have q323 : x13_1 < (l0.length : Int) := of_decide_eq_true (by first | (with_reducible assumption) | assumption)
                  obtain ⟨ad323, A323_1, c323_1, e323, hx323_0, hx323_1, hx323_2, hx323_3, hx323_4, hx323_5, hx323_6, hl323_1, hi323_1⟩ := at_T28 HR0.out x13_1 p323 q323
                  have hw323_6 := hx323_6
                  have hw323_5 := hx323_5
                  have hw323_4 := hx323_4
                  have hw323_3 := hx323_3
                  have hw323_2 := hx323_2
                  have hw323_1 := hx323_1
                  have hw323_0 := hx323_0
                  cases e323
                  replace hx323_0 := (HB.out.cell (World.block_lt_of_cell? w _ hx323_0)).trans hx323_0
                  replace hx323_1 := (HB.out.cell (World.block_lt_of_cell? w _ hx323_1)).trans hx323_1
                  replace hx323_2 := (HB.out.cell (World.block_lt_of_cell? w _ hx323_2)).trans hx323_2
                  replace hx323_3 := (HB.out.cell (World.block_lt_of_cell? w _ hx323_3)).trans hx323_3
                  replace hx323_4 := (HB.out.cell (World.block_lt_of_cell? w _ hx323_4)).trans hx323_4
                  replace hx323_5 := (HB.out.cell (World.block_lt_of_cell? w _ hx323_5)).trans hx323_5
                  replace hx323_6 := (HB.out.cell (World.block_lt_of_cell? w _ hx323_6)).trans hx323_6
                  have HR323_1 := Aside0.mk hi323_1
                  have HC323_1 := Aside0.mk hl323_1
                  clear hi323_1 hl323_1
                  replace p323 := eq_true p323
                  replace q323 := eq_true q323
                  have p324 : 0 ≤ (x13_1 : Int) := of_decide_eq_true (by first | (with_reducible assumption) | assumption)
                  have q324 : x13_1 < (l1.length : Int) := of_decide_eq_true (by first | (with_reducible assumption) | assumption)
                  obtain ⟨ad324, A324_1, c324_1, e324, hx324_0, hx324_1, hx324_2, hx324_3, hx324_4, hx324_5, hx324_6, hl324_1, hi324_1⟩ := at_T28 HR1.out x13_1 p324 q324
                  have hw324_6 := hx324_6
                  have hw324_5 := hx324_5
                  have hw324_4 := hx324_4
                  have hw324_3 := hx324_3
                  have hw324_2 := hx324_2
                  have hw324_1 := hx324_1
                  have hw324_0 := hx324_0
                  cases e324
                  replace hx324_0 := (HB.out.cell (World.block_lt_of_cell? w _ hx324_0)).trans hx324_0
                  replace hx324_1 := (HB.out.cell (World.block_lt_of_cell? w _ hx324_1)).trans hx324_1
                  replace hx324_2 := (HB.out.cell (World.block_lt_of_cell? w _ hx324_2)).trans hx324_2
                  replace hx324_3 := (HB.out.cell (World.block_lt_of_cell? w _ hx324_3)).trans hx324_3
                  replace hx324_4 := (HB.out.cell (World.block_lt_of_cell? w _ hx324_4)).trans hx324_4
                  replace hx324_5 := (HB.out.cell (World.block_lt_of_cell? w _ hx324_5)).trans hx324_5
                  replace hx324_6 := (HB.out.cell (World.block_lt_of_cell? w _ hx324_6)).trans hx324_6
                  have HR324_1 := Aside0.mk hi324_1
                  have HC324_1 := Aside0.mk hl324_1
                  clear hi324_1 hl324_1
                  replace p324 := eq_true p324
                  replace q324 := eq_true q324
                  refine start_ (n := 10) (S := fun w' => w'.cell? (ad323.add ((x13_1).toNat * 7)) = some (.int .i64 ((rd_T28 l0 x13_1).f0)) ∧ w'.cell? ⟨(ad323.add ((x13_1).toNat * 7)).block, (ad323.add ((x13_1).toNat * 7)).off + 1, none⟩ = some (.slice A323_1 ((rd_T28 l0 x13_1).f1).length c323_1) ∧ w'.cell? ⟨(ad323.add ((x13_1).toNat * 7)).block, (ad323.add ((x13_1).toNat * 7)).off + 2, none⟩ = some (.int .u32 ((rd_T28 l0 x13_1).f2)) ∧ w'.cell? ⟨(ad323.add ((x13_1).toNat * 7)).block, (ad323.add ((x13_1).toNat * 7)).off + 3, none⟩ = some (.int .i64 ((rd_T28 l0 x13_1).f3)) ∧ w'.cell? ⟨(ad323.add ((x13_1).toNat * 7)).block, (ad323.add ((x13_1).toNat * 7)).off + 4, none⟩ = some (.string ((rd_T28 l0 x13_1).f4)) ∧ w'.cell? ⟨(ad323.add ((x13_1).toNat * 7)).block, (ad323.add ((x13_1).toNat * 7)).off + 5, none⟩ = some (.bool ((rd_T28 l0 x13_1).f5)) ∧ w'.cell? ⟨(ad323.add ((x13_1).toNat * 7)).block, (ad323.add ((x13_1).toNat * 7)).off + 6, none⟩ = some (.string ((rd_T28 l0 x13_1).f6)) ∧ w'.cell? (ad324.add ((x13_1).toNat * 7)) = some (.int .i64 ((rd_T28 l1 x13_1).f0)) ∧ w'.cell? ⟨(ad324.add ((x13_1).toNat * 7)).block, (ad324.add ((x13_1).toNat * 7)).off + 1, none⟩ = some (.slice A324_1 ((rd_T28 l1 x13_1).f1).length c324_1) ∧ w'.cell? ⟨(ad324.add ((x13_1).toNat * 7)).block, (ad324.add ((x13_1).toNat * 7)).off + 2, none⟩ = some (.int .u32 ((rd_T28 l1 x13_1).f2)) ∧ w'.cell? ⟨(ad324.add ((x13_1).toNat * 7)).block, (ad324.add ((x13_1).toNat * 7)).off + 3, none⟩ = some (.int .i64 ((rd_T28 l1 x13_1).f3)) ∧ w'.cell? ⟨(ad324.add ((x13_1).toNat * 7)).block, (ad324.add ((x13_1).toNat * 7)).off + 4, none⟩ = some (.string ((rd_T28 l1 x13_1).f4)) ∧ w'.cell? ⟨(ad324.add ((x13_1).toNat * 7)).block, (ad324.add ((x13_1).toNat * 7)).off + 5, none⟩ = some (.bool ((rd_T28 l1 x13_1).f5)) ∧ w'.cell? ⟨(ad324.add ((x13_1).toNat * 7)).block, (ad324.add ((x13_1).toNat * 7)).off + 6, none⟩ = some (.string ((rd_T28 l1 x13_1).f6))) (ds := []) #[false, false, false, false, false, false, false, false, false, false] (by kernel_rfl) rfl rfl ⟨((HB.out.cell (World.block_lt_of_cell? w _ hw323_0)).trans hw323_0), ((HB.out.cell (World.block_lt_of_cell? w _ hw323_1)).trans hw323_1), ((HB.out.cell (World.block_lt_of_cell? w _ hw323_2)).trans hw323_2), ((HB.out.cell (World.block_lt_of_cell? w _ hw323_3)).trans hw323_3), ((HB.out.cell (World.block_lt_of_cell? w _ hw323_4)).trans hw323_4), ((HB.out.cell (World.block_lt_of_cell? w _ hw323_5)).trans hw323_5), ((HB.out.cell (World.block_lt_of_cell? w _ hw323_6)).trans hw323_6), ((HB.out.cell (World.block_lt_of_cell? w _ hw324_0)).trans hw324_0), ((HB.out.cell (World.block_lt_of_cell? w _ hw324_1)).trans hw324_1), ((HB.out.cell (World.block_lt_of_cell? w _ hw324_2)).trans hw324_2), ((HB.out.cell (World.block_lt_of_cell? w _ hw324_3)).trans hw324_3), ((HB.out.cell (World.block_lt_of_cell? w _ hw324_4)).trans hw324_4), ((HB.out.cell (World.block_lt_of_cell? w _ hw324_5)).trans hw324_5), ((HB.out.cell (World.block_lt_of_cell? w _ hw324_6)).trans hw324_6)⟩ (fun hHeld => ?_); refine with_tabW tattlerref07_SameAll.tab6 tattlerref07_SameAll.bits6 (fun HT_ HW_ => ?_)
                  generalize wr.drew = w12 at HB HR323_1 HR324_1 hx323_0 hx323_1 hx323_2 hx323_3 hx323_4 hx323_5 hx323_6 hx324_0 hx324_1 hx324_2 hx324_3 hx324_4 hx324_5 hx324_6 hHeld ⊢
                  refine pure_ (i := 0) (N := some 16) (v := ?_) (a' := ?_) #[true, false, false, false, false, false, false, false, false, false] rfl rfl (any_of HT_.out (by kernel_rfl)) (fun _ _ _ h => h) (Or.inl ⟨by rfl, ?_⟩) ?_ ?_
                  rotate_left
                  · intro w'
                    go_simp
                    with_reducible rfl
                  rotate_left
                  · simp only [Act.put, List.setIfInBounds_toArray, List.set_cons_zero, List.set_cons_succ, i64_w, i32_w]
                    rfl
                  refine pure_ (i := 1) (N := some 17) (v := ?_) (a' := ?_) #[true, true, false, false, false, false, false, false, false, false] rfl rfl (any_of HT_.out (by kernel_rfl)) (fun _ _ _ h => h) (Or.inl ⟨by rfl, ?_⟩) ?_ ?_
                  rotate_left
                  · intro w'
                    go_simp
                    with_reducible rfl
                  rotate_left
                  · simp only [Act.put, List.setIfInBounds_toArray, List.set_cons_zero, List.set_cons_succ, i64_w, i32_w]
                    rfl
                  refine pure_ (i := 2) (N := some 18) (v := ?_) (a' := ?_) #[true, true, true, false, false, false, false, false, false, false] rfl rfl (any_of HT_.out (by kernel_rfl)) (fun _ _ _ h => h) (Or.inl ⟨by rfl, ?_⟩) ?_ ?_
                  rotate_left
                  · intro w'
                    go_simp
                    with_reducible rfl
                  rotate_left
                  · simp only [Act.put, List.setIfInBounds_toArray, List.set_cons_zero, List.set_cons_succ, i64_w, i32_w]
                    rfl
                  refine pure_ (i := 4) (N := some 20) (v := ?_) (a' := ?_) #[true, true, true, false, true, false, false, false, false, false] rfl rfl (any_of HT_.out (by kernel_rfl)) (fun _ _ _ h => h) (Or.inl ⟨by rfl, ?_⟩) ?_ ?_
                  rotate_left
                  · intro w'
                    go_simp
                    with_reducible rfl
                  rotate_left
                  · simp only [Act.put, List.setIfInBounds_toArray, List.set_cons_zero, List.set_cons_succ, i64_w, i32_w]
                    rfl
                  refine pure_ (i := 5) (N := some 21) (v := ?_) (a' := ?_) #[true, true, true, false, true, true, false, false, false, false] rfl rfl (any_of HT_.out (by kernel_rfl)) (fun _ _ _ h => h) (Or.inl ⟨by rfl, ?_⟩) ?_ ?_
                  rotate_left
                  · intro w'
                    go_simp
                    with_reducible rfl
                  rotate_left
                  · simp only [Act.put, List.setIfInBounds_toArray, List.set_cons_zero, List.set_cons_succ, i64_w, i32_w]
                    rfl
                  refine pure_ (i := 6) (N := some 22) (v := ?_) (a' := ?_) #[true, true, true, false, true, true, true, false, false, false] rfl rfl (any_of HT_.out (by kernel_rfl)) (fun _ _ _ h => h) (Or.inl ⟨by rfl, ?_⟩) ?_ ?_
                  rotate_left
                  · intro w'
                    go_simp
                    with_reducible rfl
                  rotate_left
                  · simp only [Act.put, List.setIfInBounds_toArray, List.set_cons_zero, List.set_cons_succ, i64_w, i32_w]
                    rfl
                  refine take_ (i := 3) (N := some 19) (v := ?_) (a' := ?_) #[true, true, true, true, true, true, true, false, false, false] rfl rfl (take_ofW HT_.out HW_.out (by kernel_rfl)) (fun _ _ _ h => h) (Or.inl ⟨by rfl, ?_⟩) hHeld ?_ ?_
                  rotate_left
                  · rintro w' ⟨s0, s1, s2, s3, s4, s5, s6, s7, s8, s9, s10, s11, s12, s13⟩
                    go_simp
                    with_reducible rfl
                  rotate_left
                  · simp only [Act.put, List.setIfInBounds_toArray, List.set_cons_zero, List.set_cons_succ, i64_w, i32_w]
                    rfl
                  refine take_ (i := 7) (N := some 23) (v := ?_) (a' := ?_) #[true, true, true, true, true, true, true, true, false, false] rfl rfl (take_ofW HT_.out HW_.out (by kernel_rfl)) (fun _ _ _ h => h) (Or.inl ⟨by rfl, ?_⟩) hHeld ?_ ?_
                  rotate_left
                  · rintro w' ⟨s0, s1, s2, s3, s4, s5, s6, s7, s8, s9, s10, s11, s12, s13⟩
                    go_simp
                    with_reducible rfl
                  rotate_left
                  · simp only [Act.put, List.setIfInBounds_toArray, List.set_cons_zero, List.set_cons_succ, i64_w, i32_w]
                    rfl
                  refine one_ (i := 8) (N := some 24) #[true, true, true, true, true, true, true, true, true, false] rfl rfl (one_of HT_.out (by kernel_rfl)) (by decide) (fun K hK => ?_)
                  refine goes_ Tryd.func20 (by kernel_rfl) rfl #[.agg #[.int .i64 ((rd_T28 l0 x13_1).f0), .slice A323_1 ((rd_T28 l0 x13_1).f1).length c323_1, .int .u32 ((rd_T28 l0 x13_1).f2), .int .i64 ((rd_T28 l0 x13_1).f3), .string ((rd_T28 l0 x13_1).f4), .bool ((rd_T28 l0 x13_1).f5), .string ((rd_T28 l0 x13_1).f6)], .agg #[.int .i64 ((rd_T28 l1 x13_1).f0), .slice A324_1 ((rd_T28 l1 x13_1).f1).length c324_1, .int .u32 ((rd_T28 l1 x13_1).f2), .int .i64 ((rd_T28 l1 x13_1).f3), .string ((rd_T28 l1 x13_1).f4), .bool ((rd_T28 l1 x13_1).f5), .string ((rd_T28 l1 x13_1).f6)]] (by rfl) rfl rfl (by (try simp only [List.map_toArray, List.map_cons, List.map_nil]); first | done | rfl | (simp only [List.length_drop, List.length_take]; rfl)) ?_
                  with_reducible refine (tattlerref07_Same.calls k1 ((rd_T28 l0 x13_1).f0) _ _ ((rd_T28 l0 x13_1).f1) ((rd_T28 l0 x13_1).f2) ((rd_T28 l0 x13_1).f3) ((rd_T28 l0 x13_1).f4) ((rd_T28 l0 x13_1).f5) ((rd_T28 l0 x13_1).f6) ((rd_T28 l1 x13_1).f0) _ _ ((rd_T28 l1 x13_1).f1) ((rd_T28 l1 x13_1).f2) ((rd_T28 l1 x13_1).f3) ((rd_T28 l1 x13_1).f4) ((rd_T28 l1 x13_1).f5) ((rd_T28 l1 x13_1).f6) false _ ?side1 ?side2 ?side3 ?side4 A8.out).mono ?_
                  (case side1 => repeat (first | exact (Kd.C_below HR323_1.out HB.out) | (with_reducible refine Kd.C_alloc ?_ _) | (with_reducible refine Kd.C_drewN ?_ _) | (with_reducible refine Kd.C_drew ?_)))
                  (case side2 => exact HC323_1.out)
                  (case side3 => repeat (first | exact (Kd.C_below HR324_1.out HB.out) | (with_reducible refine Kd.C_alloc ?_ _) | (with_reducible refine Kd.C_drewN ?_ _) | (with_reducible refine Kd.C_drew ?_)))
                  (case side4 => exact HC324_1.out)
                  rintro e w13 ⟨rfl, hb⟩
                  refine ⟨_, rfl, ?_⟩
                  have n0_ := Aside0.mk (below_step (by repeat (first | (with_reducible first | exact HB.out | apply below_alloc | apply pw_below_drewN | apply below_drew1) | exact HB.out)) hb)
                  clear HB
                  have HB := n0_
                  clear n0_
                  (try clear hb)
                  (try clear hb2)
                  (try clear hk)
                  (try clear hi)
                  refine hK.out _ _ ⟨((HB.out.cell (World.block_lt_of_cell? w _ hw323_0)).trans hw323_0), ((HB.out.cell (World.block_lt_of_cell? w _ hw323_1)).trans hw323_1), ((HB.out.cell (World.block_lt_of_cell? w _ hw323_2)).trans hw323_2), ((HB.out.cell (World.block_lt_of_cell? w _ hw323_3)).trans hw323_3), ((HB.out.cell (World.block_lt_of_cell? w _ hw323_4)).trans hw323_4), ((HB.out.cell (World.block_lt_of_cell? w _ hw323_5)).trans hw323_5), ((HB.out.cell (World.block_lt_of_cell? w _ hw323_6)).trans hw323_6), ((HB.out.cell (World.block_lt_of_cell? w _ hw324_0)).trans hw324_0), ((HB.out.cell (World.block_lt_of_cell? w _ hw324_1)).trans hw324_1), ((HB.out.cell (World.block_lt_of_cell? w _ hw324_2)).trans hw324_2), ((HB.out.cell (World.block_lt_of_cell? w _ hw324_3)).trans hw324_3), ((HB.out.cell (World.block_lt_of_cell? w _ hw324_4)).trans hw324_4), ((HB.out.cell (World.block_lt_of_cell? w _ hw324_5)).trans hw324_5), ((HB.out.cell (World.block_lt_of_cell? w _ hw324_6)).trans hw324_6)⟩ (fun hHeld => ?_)
                  clear hK K
                  refine norm_ (a' := ?_) ?_ ?_
                  rotate_left
                  · show Act.put _ (some 24) _ = _
                    simp only [Act.put, List.setIfInBounds_toArray, List.set_cons_zero, List.set_cons_succ, i64_w, i32_w]
                    rfl
                  refine pure_ (i := 9) (N := some 25) (v := ?_) (a' := ?_) #[true, true, true, true, true, true, true, true, true, true] rfl rfl (any_of HT_.out (by kernel_rfl)) (fun _ _ _ h => h) (Or.inl ⟨by rfl, ?_⟩) ?_ ?_
                  rotate_left
                  · intro w'
                    go_simp
                    with_reducible rfl
                  rotate_left
                  · simp only [Act.put, List.setIfInBounds_toArray, List.set_cons_zero, List.set_cons_succ, i64_w, i32_w]
                    rfl
                  refine done_ (done_of HT_.out (by kernel_rfl)) ?_
                  try go_wp2
                  go_ret
                  exact ⟨by first | rfl | (simp [errW_none, errW_some] <;> rfl) | (simp [*, errW_none, errW_some] <;> rfl), by repeat (first | (with_reducible first | exact HB.out | apply below_alloc | apply pw_below_drewN | apply below_drew1) | exact HB.out)⟩
              · rw [if_neg c7] at H
                exact absurd H (by simp)
            · rw [if_neg c6] at H
              exact absurd H (by simp)
          · rw [if_neg c5] at H
            exact absurd H (by simp)
        · rw [if_neg c4] at H
          have c4b0 : decide (x13_1 < (l0.length : Int)) = false := decide_eq_false c4
          clear c4
          obtain rfl := Option.some.inj H
          go_wp2
          go_ret
          exact ⟨by first | rfl | (simp [errW_none, errW_some] <;> rfl) | (simp [*, errW_none, errW_some] <;> rfl), by repeat (first | (with_reducible first | exact HB.out | apply below_alloc | apply pw_below_drewN | apply below_drew1) | exact HB.out)⟩
  · rw [if_neg c3] at H
    have c3b0 : ((l0.length : Int) == (l1.length : Int)) = false := beq_eq_false_iff_ne.mpr c3
    have c3b1 : ((l0.length : Int) != (l1.length : Int)) = true := bne_iff_ne.mpr c3
    have c3b2 : (l0.length == l1.length) = false := by first | simpa using c3 | (simp at c3 ⊢; omega)
    obtain rfl := Option.some.inj H
    go_enter Tryd.func11, Tryd.ntmps11
    go_wp2
    go_ret
    exact ⟨by first | rfl | (simp [errW_none, errW_some] <;> rfl) | (simp [*, errW_none, errW_some] <;> rfl), by repeat (first | (with_reducible first | exact HB.out | apply below_alloc | apply pw_below_drewN | apply below_drew1) | exact HB.out)⟩

end Go.Proofs.YthinmioognadpaaDoor.PCmd
