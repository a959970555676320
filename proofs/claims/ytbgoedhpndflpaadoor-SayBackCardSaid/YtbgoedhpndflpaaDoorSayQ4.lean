/- The printed text PSayx4, mended: the table of tens is asked for (wip/tools/fixsay.py). -/
-- Printed by a program of this session over its told contracts; Lean checks it.
import Derived.Test.YtbgoedhpndflpaaDoorPSayx0
import Derived.Test.YtbgoedhpndflpaaDoorSayQ2
import Derived.Test.YtbgoedhpndflpaaDoorSayQ3
namespace Go.Proofs.YtbgoedhpndflpaaDoor.PSay
open Go.RowKit Go.Proofs.YtbgoedhpndflpaaDoorW.PrintWords Go.Proofs.YtbgoedhpndflpaaDoorW.PrintLast Go.Proofs.YtbgoedhpndflpaaDoorW.PrintMore
attribute [local go_sem] max2_int min2_int max_two min_two max_three min_three max_four min_four   -- for this text's walks alone
set_option linter.unusedVariables false
set_option linter.unusedSimpArgs false

/-! ### say_Read: function 10 -/
mutual
def say_Read.j0 : Nat → ByteArray → Int → Bool → Option ((List (S30)) × Int × Int)
  | 0, _, _, _ => none
  | k + 1, x0, x1, x25 => if x25 = true then (some (([] : List (S30)), 0, 1)) else (say_Read.l0 k x0 x1 ([] : List (S30)))
def say_Read.l0 : Nat → ByteArray → Int → List (S30) → Option ((List (S30)) × Int × Int)
  | 0, _, _, _ => none
  | k + 1, x0, x1, x7 => (say_line.f k x0 x1).bind fun bt104 => (if bt104.2.2 = 0 then (if bt104.1.toList = ([69, 78, 68] : List UInt8) then (some (x7, bt104.2.1, 0)) else ((strings_Split.f bt104.1 (⟨#[32]⟩ : ByteArray)).bind fun t107 => (if (t107.length : Int) = 4 then (if 0 < (t107.length : Int) then (if (rdOf ByteArray.empty t107 0).toList = ([86, 65, 76, 85, 69] : List UInt8) then (if 1 < (t107.length : Int) then ((rec_KeyMay.f k (rdOf ByteArray.empty t107 1)).bind fun t112 => (say_Read.j2 k x0 x7 bt104.2.1 t107 (!t112))) else (none)) else (say_Read.j2 k x0 x7 bt104.2.1 t107 true)) else (none)) else (say_Read.j2 k x0 x7 bt104.2.1 t107 true)))) else (some (([] : List (S30)), 0, bt104.2.2)))
def say_Read.j2 : Nat → ByteArray → List (S30) → Int → List ByteArray → Bool → Option ((List (S30)) × Int × Int)
  | 0, _, _, _, _, _ => none
  | k + 1, x0, x7, x9, x11, x57 => if x57 = true then (some (([] : List (S30)), 0, 3)) else (if 2 < (x11.length : Int) then ((say_number.f k (rdOf ByteArray.empty x11 2) 4294967295).bind fun bt114 => (if 3 < (x11.length : Int) then ((say_number.f k (rdOf ByteArray.empty x11 3) 1024).bind fun bt117 => (if bt114.2 = true then (say_Read.j3 k x0 x7 x9 x11 bt114.1 bt117.1 (!bt117.2)) else (say_Read.j3 k x0 x7 x9 x11 bt114.1 bt117.1 true))) else (none))) else (none))
def say_Read.j3 : Nat → ByteArray → List (S30) → Int → List ByteArray → Int → Int → Bool → Option ((List (S30)) × Int × Int)
  | 0, _, _, _, _, _, _, _ => none
  | k + 1, x0, x7, x9, x11, x12, x14, x77 => if x77 = true then (some (([] : List (S30)), 0, 3)) else (if 0 ≤ x9 then (if x9 ≤ (x0.size : Int) then (if ((x0.extract (x9 : Int).toNat x0.size).size : Int) > (wrap64 (x14)) then (if 0 ≤ (wrap64 (x14)) then (if (wrap64 (x14)) < ((x0.extract (x9 : Int).toNat x0.size).size : Int) then (say_Read.j4 k x0 x7 x9 x11 x12 (wrap64 (x14)) (x0.extract (x9 : Int).toNat x0.size) ((bt (x0.extract (x9 : Int).toNat x0.size) (wrap64 (x14))) != 13)) else (none)) else (none)) else (say_Read.j4 k x0 x7 x9 x11 x12 (wrap64 (x14)) (x0.extract (x9 : Int).toNat x0.size) false)) else (none)) else (none))
def say_Read.j4 : Nat → ByteArray → List (S30) → Int → List ByteArray → Int → Int → ByteArray → Bool → Option ((List (S30)) × Int × Int)
  | 0, _, _, _, _, _, _, _, _ => none
  | k + 1, x0, x7, x9, x11, x12, x16, x17, x83 => if x83 = true then (say_Read.j5 k x0 x7 x9 x11 x12 x16 x17 x83) else (if (x17.size : Int) > (wrap64 (x16 + 1)) then (if 0 ≤ (wrap64 (x16 + 1)) then (if (wrap64 (x16 + 1)) < (x17.size : Int) then (say_Read.j5 k x0 x7 x9 x11 x12 x16 x17 ((bt x17 (wrap64 (x16 + 1))) != 10)) else (none)) else (none)) else (say_Read.j5 k x0 x7 x9 x11 x12 x16 x17 false))
def say_Read.j5 : Nat → ByteArray → List (S30) → Int → List ByteArray → Int → Int → ByteArray → Bool → Option ((List (S30)) × Int × Int)
  | 0, _, _, _, _, _, _, _, _ => none
  | k + 1, x0, x7, x9, x11, x12, x16, x17, x83 => if x83 = true then (some (([] : List (S30)), 0, 3)) else (if (x17.size : Int) < (wrap64 (x16 + 2)) then (some (([] : List (S30)), 0, 2)) else (if 1 < (x11.length : Int) then (if 0 ≤ x16 then (if x16 ≤ (x17.size : Int) then (if x7.length < 2199023255552 then (say_Read.l0 k x0 (wrap64 ((wrap64 (x9 + x16)) + 2)) (x7 ++ [(⟨rdOf ByteArray.empty x11 1, (⟨0, 0, 0⟩ : S28), 3, (x12) % 4294967296, 0, x17.extract 0 (x16 : Int).toNat⟩ : S30)])) else (none)) else (none)) else (none)) else (none)))
end
def say_Read.f (k : Nat) (a0 : ByteArray) (a1 : Int) : Option ((List (S30)) × Int × Int) := if a1 < 0 then (say_Read.j0 k a0 a1 true) else (say_Read.j0 k a0 a1 (decide (a1 > (a0.size : Int))))
theorem say_Read.mono_l : ∀ k, (∀ y0 y1 y2, LeO (say_Read.j0 k y0 y1 y2) (say_Read.j0 (k + 1) y0 y1 y2)) ∧ (∀ y0 y1 y2, LeO (say_Read.l0 k y0 y1 y2) (say_Read.l0 (k + 1) y0 y1 y2)) ∧ (∀ y0 y1 y2 y3 y4, LeO (say_Read.j2 k y0 y1 y2 y3 y4) (say_Read.j2 (k + 1) y0 y1 y2 y3 y4)) ∧ (∀ y0 y1 y2 y3 y4 y5 y6, LeO (say_Read.j3 k y0 y1 y2 y3 y4 y5 y6) (say_Read.j3 (k + 1) y0 y1 y2 y3 y4 y5 y6)) ∧ (∀ y0 y1 y2 y3 y4 y5 y6 y7, LeO (say_Read.j4 k y0 y1 y2 y3 y4 y5 y6 y7) (say_Read.j4 (k + 1) y0 y1 y2 y3 y4 y5 y6 y7)) ∧ (∀ y0 y1 y2 y3 y4 y5 y6 y7, LeO (say_Read.j5 k y0 y1 y2 y3 y4 y5 y6 y7) (say_Read.j5 (k + 1) y0 y1 y2 y3 y4 y5 y6 y7))
  | 0 => ⟨fun _ _ _ r h => by simp [say_Read.j0] at h, fun _ _ _ r h => by simp [say_Read.l0] at h, fun _ _ _ _ _ r h => by simp [say_Read.j2] at h, fun _ _ _ _ _ _ _ r h => by simp [say_Read.j3] at h, fun _ _ _ _ _ _ _ _ r h => by simp [say_Read.j4] at h, fun _ _ _ _ _ _ _ _ r h => by simp [say_Read.j5] at h⟩
  | k + 1 => by
    obtain ⟨ih0, ih1, ih2, ih3, ih4, ih5⟩ := say_Read.mono_l k
    refine ⟨?_, ?_, ?_, ?_, ?_, ?_⟩
    · intro y0 y1 y2
      unfold say_Read.j0
      repeat' first
      | (with_reducible exact ih0 _ _ _)
      | (with_reducible exact ih1 _ _ _)
      | (with_reducible exact ih2 _ _ _ _ _)
      | (with_reducible exact ih3 _ _ _ _ _ _ _)
      | (with_reducible exact ih4 _ _ _ _ _ _ _ _)
      | (with_reducible exact ih5 _ _ _ _ _ _ _ _)
      | (with_reducible exact rec_KeyMay.mono _ _)
      | (with_reducible exact say_line.mono _ _ _)
      | (with_reducible exact say_number.mono _ _ _)
      | (with_reducible exact LeO.refl _)
      | (with_reducible exact LeO.none _)
      | (with_reducible refine LeO.ite ?_ ?_)
      | (with_reducible refine LeO.bind ?_ (fun _ => ?_))
      | exact ih0 _ _ _
      | exact ih1 _ _ _
      | exact ih2 _ _ _ _ _
      | exact ih3 _ _ _ _ _ _ _
      | exact ih4 _ _ _ _ _ _ _ _
      | exact ih5 _ _ _ _ _ _ _ _
      | exact rec_KeyMay.mono _ _
      | exact say_line.mono _ _ _
      | exact say_number.mono _ _ _
      | exact LeO.none _
      | refine LeO.ite ?_ ?_
      | refine LeO.bind ?_ (fun _ => ?_)
    · intro y0 y1 y2
      unfold say_Read.l0
      repeat' first
      | (with_reducible exact ih0 _ _ _)
      | (with_reducible exact ih1 _ _ _)
      | (with_reducible exact ih2 _ _ _ _ _)
      | (with_reducible exact ih3 _ _ _ _ _ _ _)
      | (with_reducible exact ih4 _ _ _ _ _ _ _ _)
      | (with_reducible exact ih5 _ _ _ _ _ _ _ _)
      | (with_reducible exact rec_KeyMay.mono _ _)
      | (with_reducible exact say_line.mono _ _ _)
      | (with_reducible exact say_number.mono _ _ _)
      | (with_reducible exact LeO.refl _)
      | (with_reducible exact LeO.none _)
      | (with_reducible refine LeO.ite ?_ ?_)
      | (with_reducible refine LeO.bind ?_ (fun _ => ?_))
      | exact ih0 _ _ _
      | exact ih1 _ _ _
      | exact ih2 _ _ _ _ _
      | exact ih3 _ _ _ _ _ _ _
      | exact ih4 _ _ _ _ _ _ _ _
      | exact ih5 _ _ _ _ _ _ _ _
      | exact rec_KeyMay.mono _ _
      | exact say_line.mono _ _ _
      | exact say_number.mono _ _ _
      | exact LeO.none _
      | refine LeO.ite ?_ ?_
      | refine LeO.bind ?_ (fun _ => ?_)
    · intro y0 y1 y2 y3 y4
      unfold say_Read.j2
      repeat' first
      | (with_reducible exact ih0 _ _ _)
      | (with_reducible exact ih1 _ _ _)
      | (with_reducible exact ih2 _ _ _ _ _)
      | (with_reducible exact ih3 _ _ _ _ _ _ _)
      | (with_reducible exact ih4 _ _ _ _ _ _ _ _)
      | (with_reducible exact ih5 _ _ _ _ _ _ _ _)
      | (with_reducible exact rec_KeyMay.mono _ _)
      | (with_reducible exact say_line.mono _ _ _)
      | (with_reducible exact say_number.mono _ _ _)
      | (with_reducible exact LeO.refl _)
      | (with_reducible exact LeO.none _)
      | (with_reducible refine LeO.ite ?_ ?_)
      | (with_reducible refine LeO.bind ?_ (fun _ => ?_))
      | exact ih0 _ _ _
      | exact ih1 _ _ _
      | exact ih2 _ _ _ _ _
      | exact ih3 _ _ _ _ _ _ _
      | exact ih4 _ _ _ _ _ _ _ _
      | exact ih5 _ _ _ _ _ _ _ _
      | exact rec_KeyMay.mono _ _
      | exact say_line.mono _ _ _
      | exact say_number.mono _ _ _
      | exact LeO.none _
      | refine LeO.ite ?_ ?_
      | refine LeO.bind ?_ (fun _ => ?_)
    · intro y0 y1 y2 y3 y4 y5 y6
      unfold say_Read.j3
      repeat' first
      | (with_reducible exact ih0 _ _ _)
      | (with_reducible exact ih1 _ _ _)
      | (with_reducible exact ih2 _ _ _ _ _)
      | (with_reducible exact ih3 _ _ _ _ _ _ _)
      | (with_reducible exact ih4 _ _ _ _ _ _ _ _)
      | (with_reducible exact ih5 _ _ _ _ _ _ _ _)
      | (with_reducible exact rec_KeyMay.mono _ _)
      | (with_reducible exact say_line.mono _ _ _)
      | (with_reducible exact say_number.mono _ _ _)
      | (with_reducible exact LeO.refl _)
      | (with_reducible exact LeO.none _)
      | (with_reducible refine LeO.ite ?_ ?_)
      | (with_reducible refine LeO.bind ?_ (fun _ => ?_))
      | exact ih0 _ _ _
      | exact ih1 _ _ _
      | exact ih2 _ _ _ _ _
      | exact ih3 _ _ _ _ _ _ _
      | exact ih4 _ _ _ _ _ _ _ _
      | exact ih5 _ _ _ _ _ _ _ _
      | exact rec_KeyMay.mono _ _
      | exact say_line.mono _ _ _
      | exact say_number.mono _ _ _
      | exact LeO.none _
      | refine LeO.ite ?_ ?_
      | refine LeO.bind ?_ (fun _ => ?_)
    · intro y0 y1 y2 y3 y4 y5 y6 y7
      unfold say_Read.j4
      repeat' first
      | (with_reducible exact ih0 _ _ _)
      | (with_reducible exact ih1 _ _ _)
      | (with_reducible exact ih2 _ _ _ _ _)
      | (with_reducible exact ih3 _ _ _ _ _ _ _)
      | (with_reducible exact ih4 _ _ _ _ _ _ _ _)
      | (with_reducible exact ih5 _ _ _ _ _ _ _ _)
      | (with_reducible exact rec_KeyMay.mono _ _)
      | (with_reducible exact say_line.mono _ _ _)
      | (with_reducible exact say_number.mono _ _ _)
      | (with_reducible exact LeO.refl _)
      | (with_reducible exact LeO.none _)
      | (with_reducible refine LeO.ite ?_ ?_)
      | (with_reducible refine LeO.bind ?_ (fun _ => ?_))
      | exact ih0 _ _ _
      | exact ih1 _ _ _
      | exact ih2 _ _ _ _ _
      | exact ih3 _ _ _ _ _ _ _
      | exact ih4 _ _ _ _ _ _ _ _
      | exact ih5 _ _ _ _ _ _ _ _
      | exact rec_KeyMay.mono _ _
      | exact say_line.mono _ _ _
      | exact say_number.mono _ _ _
      | exact LeO.none _
      | refine LeO.ite ?_ ?_
      | refine LeO.bind ?_ (fun _ => ?_)
    · intro y0 y1 y2 y3 y4 y5 y6 y7
      unfold say_Read.j5
      repeat' first
      | (with_reducible exact ih0 _ _ _)
      | (with_reducible exact ih1 _ _ _)
      | (with_reducible exact ih2 _ _ _ _ _)
      | (with_reducible exact ih3 _ _ _ _ _ _ _)
      | (with_reducible exact ih4 _ _ _ _ _ _ _ _)
      | (with_reducible exact ih5 _ _ _ _ _ _ _ _)
      | (with_reducible exact rec_KeyMay.mono _ _)
      | (with_reducible exact say_line.mono _ _ _)
      | (with_reducible exact say_number.mono _ _ _)
      | (with_reducible exact LeO.refl _)
      | (with_reducible exact LeO.none _)
      | (with_reducible refine LeO.ite ?_ ?_)
      | (with_reducible refine LeO.bind ?_ (fun _ => ?_))
      | exact ih0 _ _ _
      | exact ih1 _ _ _
      | exact ih2 _ _ _ _ _
      | exact ih3 _ _ _ _ _ _ _
      | exact ih4 _ _ _ _ _ _ _ _
      | exact ih5 _ _ _ _ _ _ _ _
      | exact rec_KeyMay.mono _ _
      | exact say_line.mono _ _ _
      | exact say_number.mono _ _ _
      | exact LeO.none _
      | refine LeO.ite ?_ ?_
      | refine LeO.bind ?_ (fun _ => ?_)
theorem say_Read.mono : ∀ a0 a1 k, LeO (say_Read.f k a0 a1) (say_Read.f (k + 1) a0 a1) := by
  intro a0 a1 k
  obtain ⟨ih0, ih1, ih2, ih3, ih4, ih5⟩ := say_Read.mono_l k
  unfold say_Read.f
  repeat' first
      | (with_reducible exact ih0 _ _ _)
      | (with_reducible exact ih1 _ _ _)
      | (with_reducible exact ih2 _ _ _ _ _)
      | (with_reducible exact ih3 _ _ _ _ _ _ _)
      | (with_reducible exact ih4 _ _ _ _ _ _ _ _)
      | (with_reducible exact ih5 _ _ _ _ _ _ _ _)
      | (with_reducible exact rec_KeyMay.mono _ _)
      | (with_reducible exact say_line.mono _ _ _)
      | (with_reducible exact say_number.mono _ _ _)
      | (with_reducible exact LeO.refl _)
      | (with_reducible exact LeO.none _)
      | (with_reducible refine LeO.ite ?_ ?_)
      | (with_reducible refine LeO.bind ?_ (fun _ => ?_))
      | exact ih0 _ _ _
      | exact ih1 _ _ _
      | exact ih2 _ _ _ _ _
      | exact ih3 _ _ _ _ _ _ _
      | exact ih4 _ _ _ _ _ _ _ _
      | exact ih5 _ _ _ _ _ _ _ _
      | exact rec_KeyMay.mono _ _
      | exact say_line.mono _ _ _
      | exact say_number.mono _ _ _
      | exact LeO.none _
      | refine LeO.ite ?_ ?_
      | refine LeO.bind ?_ (fun _ => ?_)
def say_Read.T23 : Bool × List (List Nat × List Nat) := (true, [([], []), ([], []), ([1], [1]), ([2], [2]), ([], []), ([4], [4]), ([], []), ([], []), ([6, 7], [6, 7]), ([3, 5, 8], [3, 5, 8]), ([9], [9]), ([0, 10], [0, 10]), ([11, 11, 0, 1, 2, 3, 4, 5, 6, 7, 8, 9, 10, 11], [0, 11])])
def say_Read.B23 : List Nat := [0, 0, 2, 6, 0, 16, 0, 0, 192, 510, 1022, 2047, 4095]
theorem say_Read.tab23 : rtab .any (opsOf Tryd.f10 23) = say_Read.T23 := by kernel_rfl
theorem say_Read.bits23 : waitsOk say_Read.T23.2 say_Read.B23 = true := by kernel_rfl
set_option maxHeartbeats 8000000 in
set_option maxRecDepth 100000 in
theorem say_Read.calls (k : Nat) (a0 : ByteArray) (a1 : Int) (r1 : List (S30)) (r2 : Int) (r3 : Int) (w : World) (h : say_Read.f k a0 a1 = some (r1, r2, r3)) :
    Calls Tryd.prog 10 #[.string a0, .int .i64 a1] w fun e w' => ∃ v0_ : Value, e = .returned (.tuple #[v0_, .int .i64 r2, .int .i64 r3]) ∧ Kd.R k30 30 w' w.heap.size (fun _ => True) v0_ r1 ∧ Below w.heap.size w w' := by
  have hu30 := Tryd.underlying30
  have HB := Aside0.mk (Below.refl w.heap.size w)
  have H : (if a1 < 0 then (say_Read.j0 k a0 a1 true) else (say_Read.j0 k a0 a1 (decide (a1 > (a0.size : Int))))) = some (r1, r2, r3) := h
  clear h
  have HC3 := Aside0.mk H
  clear H
  go_enter Tryd.func10, Tryd.ntmps10
  go_upto_region 1 with (fail)
  go_cut [25] (fun v25 wc => ∃ (kq : Nat) (x25_2 : Bool), v25 = .bool x25_2 ∧ Aside0 (say_Read.j0 kq a0 a1 x25_2 = some (r1, r2, r3)) ∧ Aside0 (kq ≤ k) ∧ Aside0 (Below w.heap.size w wc))
  case first =>
    have H := HC3.out
    clear HC3
    by_cases c4 : a1 < 0
    · rw [if_pos c4] at H
      have c4b0 : decide (a1 < 0) = true := decide_eq_true c4
      clear c4
      (first | rw [c4b0] | (simp only [i64_w, i32_w]; rw [c4b0]) | skip)
      have H' := Aside0.mk H
      clear H
      go_wp2
      go_meet
      case rel => exact ⟨_, (true), (by first | rfl | (simp; done) | (simp [*]; done)), H', ⟨by first | omega | exact Nat.le_refl _⟩, ⟨by repeat (first | (with_reducible first | exact HB.out | apply below_alloc | apply pw_below_drewN | apply below_drew1) | exact HB.out)⟩⟩
    · rw [if_neg c4] at H
      have c4b0 : decide (a1 < 0) = false := decide_eq_false c4
      clear c4
      (first | rw [c4b0] | (simp only [i64_w, i32_w]; rw [c4b0]) | skip)
      have H' := Aside0.mk H
      clear H
      go_wp2
      go_meet
      case rel => exact ⟨_, (decide (a1 > (a0.size : Int))), (by first | rfl | (simp; done) | (simp [*]; done)), H', ⟨by first | omega | exact Nat.le_refl _⟩, ⟨by repeat (first | (with_reducible first | exact HB.out | apply below_alloc | apply pw_below_drewN | apply below_drew1) | exact HB.out)⟩⟩
  case rest =>
    clear HC3
    try clear c1
    try clear p2
    try clear c4
    try clear c4b0
    obtain ⟨kq, x25_2, rfl, HA, HJ2, HB⟩ := hcut
    cases kq with
    | zero => exact absurd HA.out (by simp [say_Read.j0])
    | succ kj2 =>
      have H := HA.out
      clear HA
      simp only [say_Read.j0] at H
      by_cases c5 : x25_2 = true
      · subst c5
        have H1 : (some (([] : List (S30)), 0, 1)) = some (r1, r2, r3) := by rw [if_pos rfl] at H; exact H
        clear H
        have H := H1
        clear H1
        simp only [Option.some.injEq, Prod.mk.injEq] at H
        obtain ⟨rfl, rfl, rfl⟩ := H
        go_wp2
        go_ret3
        exact ⟨_, by first | rfl | (simp [errW_none, errW_some] <;> rfl) | (simp [*, errW_none, errW_some] <;> rfl), by first | exact Kd.R_nil _ _ _ _ _ | exact Kd.N_nil _ _ _ _ _ | exact Kd.V_nil _ _ _ _ _ | exact Kd.Q_nil _ _ _ _ _ | exact Kd.S_nil _ _ _ _ _, by repeat (first | (with_reducible first | exact HB.out | apply below_alloc | apply pw_below_drewN | apply below_drew1) | exact HB.out)⟩
      · replace c5 := Bool.eq_false_iff.mpr c5
        subst c5
        have H1 : (say_Read.l0 kj2 a0 a1 ([] : List (S30))) = some (r1, r2, r3) := by rw [if_neg (show ¬ (false = true) by decide)] at H; exact H
        clear H
        have H := H1
        clear H1
        have H' := Aside0.mk H
        clear H
        go_wp2
        go_loopg [1, 7] kj2 (fun kq v1 v7 w' => ∃ (x1_2 : Int) (x7_2 : List (S30)), v1 = .int .i64 x1_2 ∧ Aside0 (say_Read.l0 kq a0 x1_2 x7_2 = some (r1, r2, r3)) ∧ Aside0 (kq ≤ kj2) ∧ Aside0 (Kd.R k30 30 w' w.heap.size (fun _ => True) v7 x7_2) ∧ Aside0 (Below w.heap.size w w'))
        case atStart => exact ⟨(a1), (([] : List (S30))), (by first | rfl | (simp; done) | (simp [*]; done)), H', ⟨Nat.le_refl _⟩, ⟨by first | exact Kd.R_nil _ _ _ _ _ | exact Kd.N_nil _ _ _ _ _ | exact Kd.V_nil _ _ _ _ _ | exact Kd.Q_nil _ _ _ _ _ | exact Kd.S_nil _ _ _ _ _⟩, ⟨by repeat (first | (with_reducible first | exact HB.out | apply below_alloc | apply pw_below_drewN | apply below_drew1) | exact HB.out)⟩⟩
        case round =>
          clear H'
          try clear c1
          try clear p2
          try clear c4
          try clear c4b0
          try clear c5
          try clear p2
          obtain ⟨x1_2, x7_2, rfl, HA, HK2, HO_7, HB⟩ := hrel
          cases gk with
          | zero => exact absurd HA.out (by simp [say_Read.l0])
          | succ k2 =>
            have H := HA.out
            clear HA
            simp only [say_Read.l0] at H
            replace H := Option.bind_eq_some_iff.mp H
            obtain ⟨⟨t104, t105, t106⟩, A60, H⟩ := H
            replace H : (if t106 = 0 then (if t104.toList = ([69, 78, 68] : List UInt8) then (some (x7_2, t105, 0)) else ((strings_Split.f t104 (⟨#[32]⟩ : ByteArray)).bind fun t107 => (if (t107.length : Int) = 4 then (if 0 < (t107.length : Int) then (if (rdOf ByteArray.empty t107 0).toList = ([86, 65, 76, 85, 69] : List UInt8) then (if 1 < (t107.length : Int) then ((rec_KeyMay.f k2 (rdOf ByteArray.empty t107 1)).bind fun t112 => (say_Read.j2 k2 a0 x7_2 t105 t107 (!t112))) else (none)) else (say_Read.j2 k2 a0 x7_2 t105 t107 true)) else (none)) else (say_Read.j2 k2 a0 x7_2 t105 t107 true)))) else (some (([] : List (S30)), 0, t106))) = some (r1, r2, r3) := H
            have A6 := Aside0.mk A60
            clear A60
            by_cases c7 : t106 = 0
            · rw [if_pos c7] at H
              have c7b0 : (t106 == 0) = true := beq_iff_eq.mpr c7
              have c7b1 : (t106 != 0) = false := bne_eq_false_iff_eq.mpr c7
              clear c7
              by_cases c8 : t104.toList = ([69, 78, 68] : List UInt8)
              · rw [if_pos c8] at H
                have c8b0 : (t104.toList == ([69, 78, 68] : List UInt8)) = true := beq_iff_eq.mpr c8
                have c8b1 : (t104.toList != ([69, 78, 68] : List UInt8)) = false := bne_eq_false_iff_eq.mpr c8
                clear c8
                simp only [Option.some.injEq, Prod.mk.injEq] at H
                obtain ⟨rfl, rfl, rfl⟩ := H
                go_wp2_with (first | ((with_reducible refine gate_callee (f := 20) rfl ?_); refine goesL_ (some 29) rfl rfl Tryd.func20 (by kernel_rfl) rfl #[.string a0, .int .i64 x1_2] rfl (by (try simp only [List.map_toArray, List.map_cons, List.map_nil]); first | done | rfl | (simp only [List.length_drop, List.length_take]; rfl)) ?_; (with_reducible refine (say_line.calls k2 a0 x1_2 t104 t105 t106 _ A6.out).mono ?_); rintro e w' ⟨rfl, ⟨nd, rfl⟩⟩; refine ⟨_, rfl, ?_⟩))
                go_ret3
                exact ⟨_, by first | rfl | (simp [errW_none, errW_some] <;> rfl) | (simp [*, errW_none, errW_some] <;> rfl), by (with_reducible repeat (first | apply Kd.R_alloc | apply Kd.R_drewN | apply Kd.R_drew)); exact HO_7.out, by repeat (first | (with_reducible first | exact HB.out | apply below_alloc | apply pw_below_drewN | apply below_drew1) | exact HB.out)⟩
              · rw [if_neg c8] at H
                have c8b0 : (t104.toList == ([69, 78, 68] : List UInt8)) = false := beq_eq_false_iff_ne.mpr c8
                have c8b1 : (t104.toList != ([69, 78, 68] : List UInt8)) = true := bne_iff_ne.mpr c8
                replace H := Option.bind_eq_some_iff.mp H
                obtain ⟨t107, A90, H⟩ := H
                replace H : (if (t107.length : Int) = 4 then (if 0 < (t107.length : Int) then (if (rdOf ByteArray.empty t107 0).toList = ([86, 65, 76, 85, 69] : List UInt8) then (if 1 < (t107.length : Int) then ((rec_KeyMay.f k2 (rdOf ByteArray.empty t107 1)).bind fun t112 => (say_Read.j2 k2 a0 x7_2 t105 t107 (!t112))) else (none)) else (say_Read.j2 k2 a0 x7_2 t105 t107 true)) else (none)) else (say_Read.j2 k2 a0 x7_2 t105 t107 true)) = some (r1, r2, r3) := H
                have A9 := Aside0.mk A90
                clear A90
                have HC10 := Aside0.mk H
                clear H
                go_upto_region 10 with (first | ((with_reducible refine gate_callee (f := 20) rfl ?_); refine goesL_ (some 29) rfl rfl Tryd.func20 (by kernel_rfl) rfl #[.string a0, .int .i64 x1_2] rfl (by (try simp only [List.map_toArray, List.map_cons, List.map_nil]); first | done | rfl | (simp only [List.length_drop, List.length_take]; rfl)) ?_; (with_reducible refine (say_line.calls k2 a0 x1_2 t104 t105 t106 _ A6.out).mono ?_); rintro e w' ⟨rfl, ⟨nd, rfl⟩⟩; refine ⟨_, rfl, ?_⟩) | ((with_reducible refine gate_callee (f := 21) rfl ?_); refine goesL_ (some 41) rfl rfl Tryd.func21 (by kernel_rfl) rfl #[.string t104, .string (⟨#[32]⟩ : ByteArray)] rfl (by (try simp only [List.map_toArray, List.map_cons, List.map_nil]); first | done | rfl | (simp only [List.length_drop, List.length_take]; rfl)) ?_; (with_reducible refine (strings_Split.calls t104 (⟨#[32]⟩ : ByteArray) t107 _ A9.out).mono ?_); rintro e w11 ⟨v108, rfl, ho0, hb⟩; refine ⟨_, rfl, ?_⟩; have n0_ := Aside0.mk (Kd.R_below (by (with_reducible repeat (first | apply Kd.R_alloc | apply Kd.R_drewN | apply Kd.R_drew)); exact HO_7.out) hb); have n1_ := Aside0.mk (Kd.R_lower ho0 (below_size (by repeat (first | (with_reducible first | exact HB.out | apply below_alloc | apply pw_below_drewN | apply below_drew1) | exact HB.out)))); have n2_ := Aside0.mk (below_step (by repeat (first | (with_reducible first | exact HB.out | apply below_alloc | apply pw_below_drewN | apply below_drew1) | exact HB.out)) hb); clear HO_7; clear HB; have HO_7 := n0_; have HO109 := n1_; have HB := n2_; clear n0_ n1_ n2_; (try clear hb); (try clear hb2); (try clear hk); (try clear hi); (try clear ho0)))
                (try simp only [Act.put, List.setIfInBounds_toArray, List.set_cons_zero, List.set_cons_succ])
                go_cut [57] (fun v57 wc => ∃ (kq : Nat) (x57_9 : Bool), v57 = .bool x57_9 ∧ Aside0 (say_Read.j2 kq a0 x7_2 t105 t107 x57_9 = some (r1, r2, r3)) ∧ Aside0 (kq ≤ k2) ∧ Aside0 (Kd.R k30 30 wc w.heap.size (fun _ => True) u7 x7_2) ∧ Aside0 (Kd.R Kd.string 9 wc w.heap.size (fun _ => True) v108 t107) ∧ Aside0 (Below w.heap.size w wc))
                case first =>
                  have H := HC10.out
                  clear HC10
                  by_cases c12 : (t107.length : Int) = 4
                  · rw [if_pos c12] at H
                    have c12b0 : ((t107.length : Int) == 4) = true := beq_iff_eq.mpr c12
                    have c12b1 : ((t107.length : Int) != 4) = false := bne_eq_false_iff_eq.mpr c12
                    clear c12
                    (first | rw [c12b0] | (simp only [i64_w, i32_w]; rw [c12b0]) | skip)
                    by_cases c13 : 0 < (t107.length : Int)
                    · rw [if_pos c13] at H
                      have c13b0 : decide (0 < (t107.length : Int)) = true := decide_eq_true c13
                      have c13b1 : decide (0 < t107.length) = true := decide_eq_true (by omega)
                      clear c13
                      by_cases c14 : (rdOf ByteArray.empty t107 0).toList = ([86, 65, 76, 85, 69] : List UInt8)
                      · rw [if_pos c14] at H
                        have c14b0 : ((rdOf ByteArray.empty t107 0).toList == ([86, 65, 76, 85, 69] : List UInt8)) = true := beq_iff_eq.mpr c14
                        have c14b1 : ((rdOf ByteArray.empty t107 0).toList != ([86, 65, 76, 85, 69] : List UInt8)) = false := bne_eq_false_iff_eq.mpr c14
                        clear c14
                        by_cases c15 : 1 < (t107.length : Int)
                        · rw [if_pos c15] at H
                          have c15b0 : decide (1 < (t107.length : Int)) = true := decide_eq_true c15
                          have c15b1 : decide (1 < t107.length) = true := decide_eq_true (by omega)
                          clear c15
                          replace H := Option.bind_eq_some_iff.mp H
                          obtain ⟨t112, A160, H⟩ := H
                          replace H : (say_Read.j2 k2 a0 x7_2 t105 t107 (!t112)) = some (r1, r2, r3) := H
                          have A16 := Aside0.mk A160
                          clear A160
                          have H' := Aside0.mk H
                          clear H
                          obtain ⟨Ao17, co17, eo17⟩ := Kd.R_slice HO109.out
                          subst eo17
                          have p110 : 0 ≤ (0 : Int) := (by omega)
                          have q110 : 0 < (t107.length : Int) := of_decide_eq_true (by first | (with_reducible assumption) | assumption)
                          obtain ⟨ad110, e110, hx110_0⟩ := Kd.at_string (Kd.R_reads' HO109.out).2.2 0 p110 q110
                          cases e110
                          have qi110 : (0 < t107.length) = True := eq_true (by omega)
                          (try rw [show ((0 : Int)).toNat = 0 from rfl] at hx110_0)
                          (try rw [Addr.add_zero'] at hx110_0)
                          replace p110 := eq_true p110
                          replace q110 := eq_true q110
                          have p111 : 0 ≤ (1 : Int) := (by omega)
                          have q111 : 1 < (t107.length : Int) := of_decide_eq_true (by first | (with_reducible assumption) | assumption)
                          obtain ⟨ad111, e111, hx111_0⟩ := Kd.at_string (Kd.R_reads' HO109.out).2.2 1 p111 q111
                          obtain rfl : ad110 = ad111 := (by injection e111)
                          (try simp only [show (1 : Int).toNat = 1 from rfl, Nat.reduceMul, Nat.reduceEqDiff, Go.Addr.add, ↓reduceIte] at hx111_0)
                          have qi111 : (1 < t107.length) = True := eq_true (by omega)
                          (try rw [show ((1 : Int)).toNat = 1 from rfl] at hx111_0)
                          replace p111 := eq_true p111
                          replace q111 := eq_true q111
                          go_wp2_with (first | (go_at_call 22; (with_reducible refine (rec_KeyMay.calls k2 (rdOf ByteArray.empty t107 1) t112 _ A16.out).mono ?_); rintro e w' ⟨rfl, ⟨nd, rfl⟩⟩))
                          go_meet
                          case rel => exact ⟨_, (!t112), (by first | rfl | (simp; done) | (simp [*]; done)), H', ⟨by have := HJ2.out; have := HK2.out; first | omega | exact Nat.le_refl _⟩, ⟨by (with_reducible repeat (first | apply Kd.R_alloc | apply Kd.R_drewN | apply Kd.R_drew)); exact HO_7.out⟩, ⟨by (with_reducible repeat (first | apply Kd.R_alloc | apply Kd.R_drewN | apply Kd.R_drew)); exact HO109.out⟩, ⟨by repeat (first | (with_reducible first | exact HB.out | apply below_alloc | apply pw_below_drewN | apply below_drew1) | exact HB.out)⟩⟩
                        · rw [if_neg c15] at H
                          exact absurd H (by simp)
                      · rw [if_neg c14] at H
                        have c14b0 : ((rdOf ByteArray.empty t107 0).toList == ([86, 65, 76, 85, 69] : List UInt8)) = false := beq_eq_false_iff_ne.mpr c14
                        have c14b1 : ((rdOf ByteArray.empty t107 0).toList != ([86, 65, 76, 85, 69] : List UInt8)) = true := bne_iff_ne.mpr c14
                        have H' := Aside0.mk H
                        clear H
                        obtain ⟨Ao18, co18, eo18⟩ := Kd.R_slice HO109.out
                        subst eo18
                        have p110 : 0 ≤ (0 : Int) := (by omega)
                        have q110 : 0 < (t107.length : Int) := of_decide_eq_true (by first | (with_reducible assumption) | assumption)
                        obtain ⟨ad110, e110, hx110_0⟩ := Kd.at_string (Kd.R_reads' HO109.out).2.2 0 p110 q110
                        cases e110
                        have qi110 : (0 < t107.length) = True := eq_true (by omega)
                        (try rw [show ((0 : Int)).toNat = 0 from rfl] at hx110_0)
                        (try rw [Addr.add_zero'] at hx110_0)
                        replace p110 := eq_true p110
                        replace q110 := eq_true q110
                        go_wp2
                        go_meet
                        case rel => exact ⟨_, (true), (by first | rfl | (simp; done) | (simp [*]; done)), H', ⟨by have := HJ2.out; have := HK2.out; first | omega | exact Nat.le_refl _⟩, ⟨by (with_reducible repeat (first | apply Kd.R_alloc | apply Kd.R_drewN | apply Kd.R_drew)); exact HO_7.out⟩, ⟨by (with_reducible repeat (first | apply Kd.R_alloc | apply Kd.R_drewN | apply Kd.R_drew)); exact HO109.out⟩, ⟨by repeat (first | (with_reducible first | exact HB.out | apply below_alloc | apply pw_below_drewN | apply below_drew1) | exact HB.out)⟩⟩
                    · rw [if_neg c13] at H
                      exact absurd H (by simp)
                  · rw [if_neg c12] at H
                    have c12b0 : ((t107.length : Int) == 4) = false := beq_eq_false_iff_ne.mpr c12
                    have c12b1 : ((t107.length : Int) != 4) = true := bne_iff_ne.mpr c12
                    (first | rw [c12b0] | (simp only [i64_w, i32_w]; rw [c12b0]) | skip)
                    have H' := Aside0.mk H
                    clear H
                    obtain ⟨Ao19, co19, eo19⟩ := Kd.R_slice HO109.out
                    subst eo19
                    go_wp2
                    go_meet
                    case rel => exact ⟨_, (true), (by first | rfl | (simp; done) | (simp [*]; done)), H', ⟨by have := HJ2.out; have := HK2.out; first | omega | exact Nat.le_refl _⟩, ⟨by (with_reducible repeat (first | apply Kd.R_alloc | apply Kd.R_drewN | apply Kd.R_drew)); exact HO_7.out⟩, ⟨by (with_reducible repeat (first | apply Kd.R_alloc | apply Kd.R_drewN | apply Kd.R_drew)); exact HO109.out⟩, ⟨by repeat (first | (with_reducible first | exact HB.out | apply below_alloc | apply pw_below_drewN | apply below_drew1) | exact HB.out)⟩⟩
                case rest =>
                  clear HC10
                  try clear c1
                  try clear p1
                  try clear q1
                  try clear hx1
                  try clear qi1
                  try clear c2
                  try clear p2
                  try clear c4
                  try clear c4b0
                  try clear c5
                  try clear c7
                  try clear c7b0
                  try clear c7b1
                  try clear c8
                  try clear c8b0
                  try clear c8b1
                  try clear c10
                  try clear p11
                  try clear q11
                  try clear hx11
                  try clear qi11
                  try clear c12
                  try clear c12b0
                  try clear c12b1
                  try clear c13
                  try clear c13b0
                  try clear c13b1
                  try clear c14
                  try clear c14b0
                  try clear c14b1
                  try clear c15
                  try clear c15b0
                  try clear c15b1
                  try clear hx110_0
                  try clear hx111_0
                  try clear p110
                  try clear p111
                  try clear p2
                  try clear q110
                  try clear q111
                  obtain ⟨kq, x57_9, rfl, HA, HJ9, HO_7, HO_11, HB⟩ := hcut
                  cases kq with
                  | zero => exact absurd HA.out (by simp [say_Read.j2])
                  | succ kj9 =>
                    have H := HA.out
                    clear HA
                    simp only [say_Read.j2] at H
                    by_cases c20 : x57_9 = true
                    · subst c20
                      have H1 : (some (([] : List (S30)), 0, 3)) = some (r1, r2, r3) := by rw [if_pos rfl] at H; exact H
                      clear H
                      have H := H1
                      clear H1
                      simp only [Option.some.injEq, Prod.mk.injEq] at H
                      obtain ⟨rfl, rfl, rfl⟩ := H
                      go_wp2
                      go_ret3
                      exact ⟨_, by first | rfl | (simp [errW_none, errW_some] <;> rfl) | (simp [*, errW_none, errW_some] <;> rfl), by first | exact Kd.R_nil _ _ _ _ _ | exact Kd.N_nil _ _ _ _ _ | exact Kd.V_nil _ _ _ _ _ | exact Kd.Q_nil _ _ _ _ _ | exact Kd.S_nil _ _ _ _ _, by repeat (first | (with_reducible first | exact HB.out | apply below_alloc | apply pw_below_drewN | apply below_drew1) | exact HB.out)⟩
                    · replace c20 := Bool.eq_false_iff.mpr c20
                      subst c20
                      have H1 : (if 2 < (t107.length : Int) then ((say_number.f kj9 (rdOf ByteArray.empty t107 2) 4294967295).bind fun bt114 => (if 3 < (t107.length : Int) then ((say_number.f kj9 (rdOf ByteArray.empty t107 3) 1024).bind fun bt117 => (if bt114.2 = true then (say_Read.j3 kj9 a0 x7_2 t105 t107 bt114.1 bt117.1 (!bt117.2)) else (say_Read.j3 kj9 a0 x7_2 t105 t107 bt114.1 bt117.1 true))) else (none))) else (none)) = some (r1, r2, r3) := by rw [if_neg (show ¬ (false = true) by decide)] at H; exact H
                      clear H
                      have H := H1
                      clear H1
                      by_cases c21 : 2 < (t107.length : Int)
                      · rw [if_pos c21] at H
                        have c21b0 : decide (2 < (t107.length : Int)) = true := decide_eq_true c21
                        have c21b1 : decide (2 < t107.length) = true := decide_eq_true (by omega)
                        clear c21
                        replace H := Option.bind_eq_some_iff.mp H
                        obtain ⟨⟨t114, t115⟩, A220, H⟩ := H
                        replace H : (if 3 < (t107.length : Int) then ((say_number.f kj9 (rdOf ByteArray.empty t107 3) 1024).bind fun bt117 => (if t115 = true then (say_Read.j3 kj9 a0 x7_2 t105 t107 t114 bt117.1 (!bt117.2)) else (say_Read.j3 kj9 a0 x7_2 t105 t107 t114 bt117.1 true))) else (none)) = some (r1, r2, r3) := H
                        have A22 := Aside0.mk A220
                        clear A220
                        by_cases c23 : 3 < (t107.length : Int)
                        · rw [if_pos c23] at H
                          have c23b0 : decide (3 < (t107.length : Int)) = true := decide_eq_true c23
                          have c23b1 : decide (3 < t107.length) = true := decide_eq_true (by omega)
                          clear c23
                          replace H := Option.bind_eq_some_iff.mp H
                          obtain ⟨⟨t117, t118⟩, A240, H⟩ := H
                          replace H : (if t115 = true then (say_Read.j3 kj9 a0 x7_2 t105 t107 t114 t117 (!t118)) else (say_Read.j3 kj9 a0 x7_2 t105 t107 t114 t117 true)) = some (r1, r2, r3) := H
                          have A24 := Aside0.mk A240
                          clear A240
                          have HC25 := Aside0.mk H
                          clear H
                          obtain ⟨Ao26, co26, eo26⟩ := Kd.R_slice HO_11.out
                          subst eo26
                          have p113 : 0 ≤ (2 : Int) := (by omega)
                          have q113 : 2 < (t107.length : Int) := of_decide_eq_true (by first | (with_reducible assumption) | assumption)
                          obtain ⟨ad113, e113, hx113_0⟩ := Kd.at_string (Kd.R_reads' HO_11.out).2.2 2 p113 q113
                          cases e113
                          (try simp only [show (2 : Int).toNat = 2 from rfl, Nat.reduceMul, Nat.reduceEqDiff, Go.Addr.add, ↓reduceIte] at hx113_0)
                          have qi113 : (2 < t107.length) = True := eq_true (by omega)
                          (try rw [show ((2 : Int)).toNat = 2 from rfl] at hx113_0)
                          replace p113 := eq_true p113
                          replace q113 := eq_true q113
                          go_upto_region 14 with (first | ((with_reducible refine gate_callee (f := 23) rfl ?_); refine goesL_ (some 62) rfl rfl Tryd.func23 (by kernel_rfl) rfl #[.string (rdOf ByteArray.empty t107 2), .int .u64 4294967295] rfl (by (try simp only [List.map_toArray, List.map_cons, List.map_nil]); first | done | rfl | (simp only [List.length_drop, List.length_take]; rfl)) ?_; (with_reducible refine (say_number.calls kj9 (rdOf ByteArray.empty t107 2) 4294967295 t114 t115 _ A22.out).mono ?_); rintro e w' ⟨rfl, ⟨nd, rfl⟩⟩; refine ⟨_, rfl, ?_⟩; have p116 : 0 ≤ (3 : Int) := (by omega); have q116 : 3 < (t107.length : Int) := of_decide_eq_true (by first | (with_reducible assumption) | assumption); obtain ⟨ad116, e116, hx116_0⟩ := Kd.at_string (Kd.R_reads' HO_11.out).2.2 3 p116 q116; obtain rfl : ad113 = ad116 := (by injection e116); (try simp only [show (3 : Int).toNat = 3 from rfl, Nat.reduceMul, Nat.reduceEqDiff, Go.Addr.add, ↓reduceIte] at hx116_0); have qi116 : (3 < t107.length) = True := eq_true (by omega); (try rw [show ((3 : Int)).toNat = 3 from rfl] at hx116_0); replace p116 := eq_true p116; replace q116 := eq_true q116) | ((with_reducible refine gate_callee (f := 23) rfl ?_); refine goesL_ (some 69) rfl rfl Tryd.func23 (by kernel_rfl) rfl #[.string (rdOf ByteArray.empty t107 3), .int .u64 1024] rfl (by (try simp only [List.map_toArray, List.map_cons, List.map_nil]); first | done | rfl | (simp only [List.length_drop, List.length_take]; rfl)) ?_; (with_reducible refine (say_number.calls kj9 (rdOf ByteArray.empty t107 3) 1024 t117 t118 _ A24.out).mono ?_); rintro e w' ⟨rfl, ⟨nd, rfl⟩⟩; refine ⟨_, rfl, ?_⟩))
                          (try simp only [Act.put, List.setIfInBounds_toArray, List.set_cons_zero, List.set_cons_succ])
                          go_cut [77] (fun v77 wc => ∃ (kq : Nat) (x77_24 : Bool), v77 = .bool x77_24 ∧ Aside0 (say_Read.j3 kq a0 x7_2 t105 t107 t114 t117 x77_24 = some (r1, r2, r3)) ∧ Aside0 (kq ≤ kj9) ∧ Aside0 (Kd.R k30 30 wc w.heap.size (fun _ => True) u7 x7_2) ∧ Aside0 (Kd.R Kd.string 9 wc w.heap.size (fun _ => True) (.slice (some ad113) t107.length co26) t107) ∧ Aside0 (Below w.heap.size w wc))
                          case first =>
                            have H := HC25.out
                            clear HC25
                            by_cases c27 : t115 = true
                            · subst c27
                              have H1 : (say_Read.j3 kj9 a0 x7_2 t105 t107 t114 t117 (!t118)) = some (r1, r2, r3) := by rw [if_pos rfl] at H; exact H
                              clear H
                              have H := H1
                              clear H1
                              have H' := Aside0.mk H
                              clear H
                              go_wp2
                              go_meet
                              case rel => exact ⟨_, (!t118), (by first | rfl | (simp; done) | (simp [*]; done)), H', ⟨by have := HJ2.out; have := HK2.out; have := HJ9.out; first | omega | exact Nat.le_refl _⟩, ⟨by (with_reducible repeat (first | apply Kd.R_alloc | apply Kd.R_drewN | apply Kd.R_drew)); exact HO_7.out⟩, ⟨by (with_reducible repeat (first | apply Kd.R_alloc | apply Kd.R_drewN | apply Kd.R_drew)); exact HO_11.out⟩, ⟨by repeat (first | (with_reducible first | exact HB.out | apply below_alloc | apply pw_below_drewN | apply below_drew1) | exact HB.out)⟩⟩
                            · replace c27 := Bool.eq_false_iff.mpr c27
                              subst c27
                              have H1 : (say_Read.j3 kj9 a0 x7_2 t105 t107 t114 t117 true) = some (r1, r2, r3) := by rw [if_neg (show ¬ (false = true) by decide)] at H; exact H
                              clear H
                              have H := H1
                              clear H1
                              have H' := Aside0.mk H
                              clear H
                              go_wp2
                              go_meet
                              case rel => exact ⟨_, (true), (by first | rfl | (simp; done) | (simp [*]; done)), H', ⟨by have := HJ2.out; have := HK2.out; have := HJ9.out; first | omega | exact Nat.le_refl _⟩, ⟨by (with_reducible repeat (first | apply Kd.R_alloc | apply Kd.R_drewN | apply Kd.R_drew)); exact HO_7.out⟩, ⟨by (with_reducible repeat (first | apply Kd.R_alloc | apply Kd.R_drewN | apply Kd.R_drew)); exact HO_11.out⟩, ⟨by repeat (first | (with_reducible first | exact HB.out | apply below_alloc | apply pw_below_drewN | apply below_drew1) | exact HB.out)⟩⟩
                          case rest =>
                            clear HC25
                            try clear c1
                            try clear p1
                            try clear q1
                            try clear hx1
                            try clear qi1
                            try clear c2
                            try clear p2
                            try clear c4
                            try clear c4b0
                            try clear c5
                            try clear c7
                            try clear c7b0
                            try clear c7b1
                            try clear c8
                            try clear c8b0
                            try clear c8b1
                            try clear c10
                            try clear p11
                            try clear q11
                            try clear hx11
                            try clear qi11
                            try clear c12
                            try clear c12b0
                            try clear c12b1
                            try clear c13
                            try clear c13b0
                            try clear c13b1
                            try clear c14
                            try clear c14b0
                            try clear c14b1
                            try clear c15
                            try clear c15b0
                            try clear c15b1
                            try clear c20
                            try clear c21
                            try clear c21b0
                            try clear c21b1
                            try clear c23
                            try clear c23b0
                            try clear c23b1
                            try clear c27
                            try clear hx110_0
                            try clear hx111_0
                            try clear hx113_0
                            try clear hx116_0
                            try clear p1
                            try clear p11
                            try clear p110
                            try clear p111
                            try clear p113
                            try clear p116
                            try clear p2
                            try clear q1
                            try clear q11
                            try clear q110
                            try clear q111
                            try clear q113
                            try clear q116
                            obtain ⟨kq, x77_24, rfl, HA, HJ24, HO_7, HO_11, HB⟩ := hcut
                            cases kq with
                            | zero => exact absurd HA.out (by simp [say_Read.j3])
                            | succ kj24 =>
                              have H := HA.out
                              clear HA
                              simp only [say_Read.j3] at H
                              by_cases c28 : x77_24 = true
                              · subst c28
                                have H1 : (some (([] : List (S30)), 0, 3)) = some (r1, r2, r3) := by rw [if_pos rfl] at H; exact H
                                clear H
                                have H := H1
                                clear H1
                                simp only [Option.some.injEq, Prod.mk.injEq] at H
                                obtain ⟨rfl, rfl, rfl⟩ := H
                                go_wp2
                                go_ret3
                                exact ⟨_, by first | rfl | (simp [errW_none, errW_some] <;> rfl) | (simp [*, errW_none, errW_some] <;> rfl), by first | exact Kd.R_nil _ _ _ _ _ | exact Kd.N_nil _ _ _ _ _ | exact Kd.V_nil _ _ _ _ _ | exact Kd.Q_nil _ _ _ _ _ | exact Kd.S_nil _ _ _ _ _, by repeat (first | (with_reducible first | exact HB.out | apply below_alloc | apply pw_below_drewN | apply below_drew1) | exact HB.out)⟩
                              · replace c28 := Bool.eq_false_iff.mpr c28
                                subst c28
                                have H1 : (if 0 ≤ t105 then (if t105 ≤ (a0.size : Int) then (if ((a0.extract (t105 : Int).toNat a0.size).size : Int) > (wrap64 (t117)) then (if 0 ≤ (wrap64 (t117)) then (if (wrap64 (t117)) < ((a0.extract (t105 : Int).toNat a0.size).size : Int) then (say_Read.j4 kj24 a0 x7_2 t105 t107 t114 (wrap64 (t117)) (a0.extract (t105 : Int).toNat a0.size) ((bt (a0.extract (t105 : Int).toNat a0.size) (wrap64 (t117))) != 13)) else (none)) else (none)) else (say_Read.j4 kj24 a0 x7_2 t105 t107 t114 (wrap64 (t117)) (a0.extract (t105 : Int).toNat a0.size) false)) else (none)) else (none)) = some (r1, r2, r3) := by rw [if_neg (show ¬ (false = true) by decide)] at H; exact H
                                clear H
                                have H := H1
                                clear H1
                                by_cases c29 : 0 ≤ t105
                                · rw [if_pos c29] at H
                                  have c29b0 := eq_true c29
                                  have c29b1 : decide (0 ≤ t105) = true := decide_eq_true c29
                                  clear c29
                                  by_cases c30 : t105 ≤ (a0.size : Int)
                                  · rw [if_pos c30] at H
                                    have c30b0 := eq_true c30
                                    have c30b1 : decide (t105 ≤ (a0.size : Int)) = true := decide_eq_true c30
                                    clear c30
                                    have HC31 := Aside0.mk H
                                    clear H
                                    go_upto_region 18 with (fail)
                                    generalize (a0.extract (t105 : Int).toNat a0.size) = x8S at *
                                    go_cut [83] (fun v83 wc => ∃ (kq : Nat) (x83_30 : Bool), v83 = .bool x83_30 ∧ Aside0 (say_Read.j4 kq a0 x7_2 t105 t107 t114 (wrap64 (t117)) x8S x83_30 = some (r1, r2, r3)) ∧ Aside0 (kq ≤ kj24) ∧ Aside0 (Kd.R k30 30 wc w.heap.size (fun _ => True) u7 x7_2) ∧ Aside0 (Kd.R Kd.string 9 wc w.heap.size (fun _ => True) (.slice (some ad113) t107.length co26) t107) ∧ Aside0 (Below w.heap.size w wc))
                                    case first =>
                                      have H := HC31.out
                                      clear HC31
                                      by_cases c32 : (x8S.size : Int) > (wrap64 (t117))
                                      · rw [if_pos c32] at H
                                        have c32b0 : decide ((wrap64 (t117)) < (x8S.size : Int)) = true := decide_eq_true c32
                                        clear c32
                                        (first | rw [c32b0] | (simp only [i64_w, i32_w]; rw [c32b0]) | skip)
                                        obtain ⟨ji33, hji33⟩ : ∃ j_ : Int, (wrap64 (t117)) = j_ := ⟨_, rfl⟩
                                        replace H : (if 0 ≤ (ji33) then (if (ji33) < (x8S.size : Int) then (say_Read.j4 kj24 a0 x7_2 t105 t107 t114 ji33 x8S ((bt x8S (ji33)) != 13)) else (none)) else (none)) = some (r1, r2, r3) := by first | (rw [hji33] at H; exact H) | (simp only [hji33] at H ⊢; exact H)
                                        (try rw [hji33] at c32b0)
                                        have hji33w : (IntKind.i64.wrap (t117)) = ji33 := (i64_w _).trans hji33
                                        by_cases c34 : 0 ≤ (ji33)
                                        · rw [if_pos c34] at H
                                          have c34b0 : decide (0 ≤ (ji33)) = true := decide_eq_true c34
                                          clear c34
                                          by_cases c35 : (ji33) < (x8S.size : Int)
                                          · rw [if_pos c35] at H
                                            have c35b0 : decide ((ji33) < (x8S.size : Int)) = true := decide_eq_true c35
                                            clear c35
                                            have H' := Aside0.mk H
                                            clear H
                                            have p36 : 0 ≤ ((ji33) : Int) := of_decide_eq_true (by first | (with_reducible assumption) | assumption)
                                            have q36 : (ji33) < (x8S.size : Int) := of_decide_eq_true (by first | (with_reducible assumption) | assumption)
                                            have hx36 := bt_at x8S (ji33)
                                            replace p36 := eq_true p36
                                            replace q36 := eq_true q36
                                            go_wp2
                                            subst hji33
                                            go_meet
                                            case rel => exact ⟨_, (((bt x8S ((wrap64 (t117)))) != 13)), (by first | rfl | (simp; done) | (simp only [← hji33] <;> (first | rfl | simp)) | (simp [*]; done)), H', ⟨by have := HJ2.out; have := HK2.out; have := HJ9.out; have := HJ24.out; first | omega | exact Nat.le_refl _⟩, ⟨by (with_reducible repeat (first | apply Kd.R_alloc | apply Kd.R_drewN | apply Kd.R_drew)); exact HO_7.out⟩, ⟨by (with_reducible repeat (first | apply Kd.R_alloc | apply Kd.R_drewN | apply Kd.R_drew)); exact HO_11.out⟩, ⟨by repeat (first | (with_reducible first | exact HB.out | apply below_alloc | apply pw_below_drewN | apply below_drew1) | exact HB.out)⟩⟩
                                          · rw [if_neg c35] at H
                                            exact absurd H (by simp)
                                        · rw [if_neg c34] at H
                                          exact absurd H (by simp)
                                      · rw [if_neg c32] at H
                                        have c32b0 : decide ((wrap64 (t117)) < (x8S.size : Int)) = false := decide_eq_false c32
                                        clear c32
                                        (first | rw [c32b0] | (simp only [i64_w, i32_w]; rw [c32b0]) | skip)
                                        have H' := Aside0.mk H
                                        clear H
                                        go_wp2
                                        go_meet
                                        case rel => exact ⟨_, (false), (by first | rfl | (simp; done) | (simp [*]; done)), H', ⟨by have := HJ2.out; have := HK2.out; have := HJ9.out; have := HJ24.out; first | omega | exact Nat.le_refl _⟩, ⟨by (with_reducible repeat (first | apply Kd.R_alloc | apply Kd.R_drewN | apply Kd.R_drew)); exact HO_7.out⟩, ⟨by (with_reducible repeat (first | apply Kd.R_alloc | apply Kd.R_drewN | apply Kd.R_drew)); exact HO_11.out⟩, ⟨by repeat (first | (with_reducible first | exact HB.out | apply below_alloc | apply pw_below_drewN | apply below_drew1) | exact HB.out)⟩⟩
                                    case rest =>
                                      clear HC31
                                      try clear c1
                                      try clear p1
                                      try clear q1
                                      try clear hx1
                                      try clear qi1
                                      try clear c2
                                      try clear p2
                                      try clear c3
                                      try clear p3
                                      try clear q3
                                      try clear hx3
                                      try clear c4
                                      try clear c4b0
                                      try clear c5
                                      try clear p6
                                      try clear c7
                                      try clear c7b0
                                      try clear c7b1
                                      try clear c8
                                      try clear c8b0
                                      try clear c8b1
                                      try clear c10
                                      try clear p11
                                      try clear q11
                                      try clear hx11
                                      try clear qi11
                                      try clear c12
                                      try clear c12b0
                                      try clear c12b1
                                      try clear c13
                                      try clear c13b0
                                      try clear c13b1
                                      try clear c14
                                      try clear c14b0
                                      try clear c14b1
                                      try clear c15
                                      try clear c15b0
                                      try clear c15b1
                                      try clear c20
                                      try clear c21
                                      try clear c21b0
                                      try clear c21b1
                                      try clear c23
                                      try clear c23b0
                                      try clear c23b1
                                      try clear c27
                                      try clear c28
                                      try clear c29
                                      try clear c29b0
                                      try clear c29b1
                                      try clear c30
                                      try clear c30b0
                                      try clear c30b1
                                      try clear c32
                                      try clear c32b0
                                      try clear c34
                                      try clear c34b0
                                      try clear c35
                                      try clear c35b0
                                      try clear p36
                                      try clear q36
                                      try clear hx36
                                      try clear hx110_0
                                      try clear hx111_0
                                      try clear hx113_0
                                      try clear hx116_0
                                      try clear p1
                                      try clear p11
                                      try clear p110
                                      try clear p111
                                      try clear p113
                                      try clear p116
                                      try clear p2
                                      try clear p36
                                      try clear q1
                                      try clear q11
                                      try clear q110
                                      try clear q111
                                      try clear q113
                                      try clear q116
                                      try clear q36
                                      obtain ⟨kq, x83_30, rfl, HA, HJ30, HO_7, HO_11, HB⟩ := hcut
                                      cases kq with
                                      | zero => exact absurd HA.out (by simp [say_Read.j4])
                                      | succ kj30 =>
                                        have H := HA.out
                                        clear HA
                                        simp only [say_Read.j4] at H
                                        have HC37 := Aside0.mk H
                                        clear H
                                        go_upto_if 83 with (fail)
                                        go_cut [83] (fun v83 wc => ∃ (kq : Nat) (x83_36 : Bool), v83 = .bool x83_36 ∧ Aside0 (say_Read.j5 kq a0 x7_2 t105 t107 t114 (wrap64 (t117)) x8S x83_36 = some (r1, r2, r3)) ∧ Aside0 (kq ≤ kj30) ∧ Aside0 (Kd.R k30 30 wc w.heap.size (fun _ => True) u7 x7_2) ∧ Aside0 (Kd.R Kd.string 9 wc w.heap.size (fun _ => True) (.slice (some ad113) t107.length co26) t107) ∧ Aside0 (Below w.heap.size w wc))
                                        case first =>
                                          have H := HC37.out
                                          clear HC37
                                          by_cases c38 : x83_30 = true
                                          · subst c38
                                            have H1 : (say_Read.j5 kj30 a0 x7_2 t105 t107 t114 (wrap64 (t117)) x8S true) = some (r1, r2, r3) := by rw [if_pos rfl] at H; exact H
                                            clear H
                                            have H := H1
                                            clear H1
                                            have H' := Aside0.mk H
                                            clear H
                                            go_wp2
                                            go_meet
                                            case rel => exact ⟨_, (true), (by first | rfl | (simp; done) | (simp [*]; done)), H', ⟨by have := HJ2.out; have := HK2.out; have := HJ9.out; have := HJ24.out; have := HJ30.out; first | omega | exact Nat.le_refl _⟩, ⟨by (with_reducible repeat (first | apply Kd.R_alloc | apply Kd.R_drewN | apply Kd.R_drew)); exact HO_7.out⟩, ⟨by (with_reducible repeat (first | apply Kd.R_alloc | apply Kd.R_drewN | apply Kd.R_drew)); exact HO_11.out⟩, ⟨by repeat (first | (with_reducible first | exact HB.out | apply below_alloc | apply pw_below_drewN | apply below_drew1) | exact HB.out)⟩⟩
                                          · replace c38 := Bool.eq_false_iff.mpr c38
                                            subst c38
                                            have H1 : (if (x8S.size : Int) > (wrap64 ((wrap64 (t117)) + 1)) then (if 0 ≤ (wrap64 ((wrap64 (t117)) + 1)) then (if (wrap64 ((wrap64 (t117)) + 1)) < (x8S.size : Int) then (say_Read.j5 kj30 a0 x7_2 t105 t107 t114 (wrap64 (t117)) x8S ((bt x8S (wrap64 ((wrap64 (t117)) + 1))) != 10)) else (none)) else (none)) else (say_Read.j5 kj30 a0 x7_2 t105 t107 t114 (wrap64 (t117)) x8S false)) = some (r1, r2, r3) := by rw [if_neg (show ¬ (false = true) by decide)] at H; exact H
                                            clear H
                                            have H := H1
                                            clear H1
                                            by_cases c39 : (x8S.size : Int) > (wrap64 ((wrap64 (t117)) + 1))
                                            · rw [if_pos c39] at H
                                              have c39b0 : decide ((wrap64 ((wrap64 (t117)) + 1)) < (x8S.size : Int)) = true := decide_eq_true c39
                                              clear c39
                                              (first | rw [c39b0] | (simp only [i64_w, i32_w]; rw [c39b0]) | skip)
                                              obtain ⟨ji40, hji40⟩ : ∃ j_ : Int, (wrap64 ((wrap64 (t117)) + 1)) = j_ := ⟨_, rfl⟩
                                              replace H : (if 0 ≤ (ji40) then (if (ji40) < (x8S.size : Int) then (say_Read.j5 kj30 a0 x7_2 t105 t107 t114 (wrap64 (t117)) x8S ((bt x8S (ji40)) != 10)) else (none)) else (none)) = some (r1, r2, r3) := by first | (rw [hji40] at H; exact H) | (simp only [hji40] at H ⊢; exact H)
                                              (try rw [hji40] at c39b0)
                                              have hji40w : (IntKind.i64.wrap ((wrap64 (t117)) + 1)) = ji40 := (i64_w _).trans hji40
                                              by_cases c41 : 0 ≤ (ji40)
                                              · rw [if_pos c41] at H
                                                have c41b0 : decide (0 ≤ (ji40)) = true := decide_eq_true c41
                                                clear c41
                                                by_cases c42 : (ji40) < (x8S.size : Int)
                                                · rw [if_pos c42] at H
                                                  have c42b0 : decide ((ji40) < (x8S.size : Int)) = true := decide_eq_true c42
                                                  clear c42
                                                  have H' := Aside0.mk H
                                                  clear H
                                                  have p43 : 0 ≤ ((ji40) : Int) := of_decide_eq_true (by first | (with_reducible assumption) | assumption)
                                                  have q43 : (ji40) < (x8S.size : Int) := of_decide_eq_true (by first | (with_reducible assumption) | assumption)
                                                  have hx43 := bt_at x8S (ji40)
                                                  replace p43 := eq_true p43
                                                  replace q43 := eq_true q43
                                                  go_wp2
                                                  go_meet
                                                  case rel => exact ⟨_, (((bt x8S (ji40)) != 10)), (by first | rfl | (simp; done) | (simp only [← hji40] <;> (first | rfl | simp)) | (simp [*]; done)), H', ⟨by have := HJ2.out; have := HK2.out; have := HJ9.out; have := HJ24.out; have := HJ30.out; first | omega | exact Nat.le_refl _⟩, ⟨by (with_reducible repeat (first | apply Kd.R_alloc | apply Kd.R_drewN | apply Kd.R_drew)); exact HO_7.out⟩, ⟨by (with_reducible repeat (first | apply Kd.R_alloc | apply Kd.R_drewN | apply Kd.R_drew)); exact HO_11.out⟩, ⟨by repeat (first | (with_reducible first | exact HB.out | apply below_alloc | apply pw_below_drewN | apply below_drew1) | exact HB.out)⟩⟩
                                                · rw [if_neg c42] at H
                                                  exact absurd H (by simp)
                                              · rw [if_neg c41] at H
                                                exact absurd H (by simp)
                                            · rw [if_neg c39] at H
                                              have c39b0 : decide ((wrap64 ((wrap64 (t117)) + 1)) < (x8S.size : Int)) = false := decide_eq_false c39
                                              clear c39
                                              (first | rw [c39b0] | (simp only [i64_w, i32_w]; rw [c39b0]) | skip)
                                              have H' := Aside0.mk H
                                              clear H
                                              go_wp2
                                              go_meet
                                              case rel => exact ⟨_, (false), (by first | rfl | (simp; done) | (simp [*]; done)), H', ⟨by have := HJ2.out; have := HK2.out; have := HJ9.out; have := HJ24.out; have := HJ30.out; first | omega | exact Nat.le_refl _⟩, ⟨by (with_reducible repeat (first | apply Kd.R_alloc | apply Kd.R_drewN | apply Kd.R_drew)); exact HO_7.out⟩, ⟨by (with_reducible repeat (first | apply Kd.R_alloc | apply Kd.R_drewN | apply Kd.R_drew)); exact HO_11.out⟩, ⟨by repeat (first | (with_reducible first | exact HB.out | apply below_alloc | apply pw_below_drewN | apply below_drew1) | exact HB.out)⟩⟩
                                        case rest =>
                                          clear HC37
                                          try clear c1
                                          try clear p1
                                          try clear q1
                                          try clear hx1
                                          try clear qi1
                                          try clear c2
                                          try clear p2
                                          try clear c3
                                          try clear p3
                                          try clear q3
                                          try clear hx3
                                          try clear c4
                                          try clear c4b0
                                          try clear p4
                                          try clear q4
                                          try clear hx4
                                          try clear c5
                                          try clear p6
                                          try clear c7
                                          try clear c7b0
                                          try clear c7b1
                                          try clear c8
                                          try clear c8b0
                                          try clear c8b1
                                          try clear c10
                                          try clear p11
                                          try clear q11
                                          try clear hx11
                                          try clear qi11
                                          try clear c12
                                          try clear c12b0
                                          try clear c12b1
                                          try clear c13
                                          try clear c13b0
                                          try clear c13b1
                                          try clear c14
                                          try clear c14b0
                                          try clear c14b1
                                          try clear c15
                                          try clear c15b0
                                          try clear c15b1
                                          try clear c20
                                          try clear c21
                                          try clear c21b0
                                          try clear c21b1
                                          try clear c23
                                          try clear c23b0
                                          try clear c23b1
                                          try clear c27
                                          try clear c28
                                          try clear c29
                                          try clear c29b0
                                          try clear c29b1
                                          try clear c30
                                          try clear c30b0
                                          try clear c30b1
                                          try clear c32
                                          try clear c32b0
                                          try clear c34
                                          try clear c34b0
                                          try clear c35
                                          try clear c35b0
                                          try clear p36
                                          try clear q36
                                          try clear hx36
                                          try clear c38
                                          try clear c39
                                          try clear c39b0
                                          try clear c41
                                          try clear c41b0
                                          try clear c42
                                          try clear c42b0
                                          try clear p43
                                          try clear q43
                                          try clear hx43
                                          try clear hx110_0
                                          try clear hx111_0
                                          try clear hx113_0
                                          try clear hx116_0
                                          try clear p1
                                          try clear p11
                                          try clear p110
                                          try clear p111
                                          try clear p113
                                          try clear p116
                                          try clear p2
                                          try clear p3
                                          try clear p36
                                          try clear p43
                                          try clear p6
                                          try clear q1
                                          try clear q11
                                          try clear q110
                                          try clear q111
                                          try clear q113
                                          try clear q116
                                          try clear q3
                                          try clear q36
                                          try clear q43
                                          obtain ⟨kq, x83_36, rfl, HA, HJ36, HO_7, HO_11, HB⟩ := hcut
                                          cases kq with
                                          | zero => exact absurd HA.out (by simp [say_Read.j5])
                                          | succ kj36 =>
                                            have H := HA.out
                                            clear HA
                                            simp only [say_Read.j5] at H
                                            by_cases c44 : x83_36 = true
                                            · subst c44
                                              have H1 : (some (([] : List (S30)), 0, 3)) = some (r1, r2, r3) := by rw [if_pos rfl] at H; exact H
                                              clear H
                                              have H := H1
                                              clear H1
                                              simp only [Option.some.injEq, Prod.mk.injEq] at H
                                              obtain ⟨rfl, rfl, rfl⟩ := H
                                              go_wp2
                                              go_ret3
                                              exact ⟨_, by first | rfl | (simp [errW_none, errW_some] <;> rfl) | (simp [*, errW_none, errW_some] <;> rfl), by first | exact Kd.R_nil _ _ _ _ _ | exact Kd.N_nil _ _ _ _ _ | exact Kd.V_nil _ _ _ _ _ | exact Kd.Q_nil _ _ _ _ _ | exact Kd.S_nil _ _ _ _ _, by repeat (first | (with_reducible first | exact HB.out | apply below_alloc | apply pw_below_drewN | apply below_drew1) | exact HB.out)⟩
                                            · replace c44 := Bool.eq_false_iff.mpr c44
                                              subst c44
                                              have H1 : (if (x8S.size : Int) < (wrap64 ((wrap64 (t117)) + 2)) then (some (([] : List (S30)), 0, 2)) else (if 1 < (t107.length : Int) then (if 0 ≤ (wrap64 (t117)) then (if (wrap64 (t117)) ≤ (x8S.size : Int) then (if x7_2.length < 2199023255552 then (say_Read.l0 kj36 a0 (wrap64 ((wrap64 (t105 + (wrap64 (t117)))) + 2)) (x7_2 ++ [(⟨rdOf ByteArray.empty t107 1, (⟨0, 0, 0⟩ : S28), 3, (t114) % 4294967296, 0, x8S.extract 0 ((wrap64 (t117)) : Int).toNat⟩ : S30)])) else (none)) else (none)) else (none)) else (none))) = some (r1, r2, r3) := by rw [if_neg (show ¬ (false = true) by decide)] at H; exact H
                                              clear H
                                              have H := H1
                                              clear H1
                                              by_cases c45 : (x8S.size : Int) < (wrap64 ((wrap64 (t117)) + 2))
                                              · rw [if_pos c45] at H
                                                have c45b0 : decide ((x8S.size : Int) < (wrap64 ((wrap64 (t117)) + 2))) = true := decide_eq_true c45
                                                clear c45
                                                simp only [Option.some.injEq, Prod.mk.injEq] at H
                                                obtain ⟨rfl, rfl, rfl⟩ := H
                                                go_wp2
                                                go_ret3
                                                exact ⟨_, by first | rfl | (simp [errW_none, errW_some] <;> rfl) | (simp [*, errW_none, errW_some] <;> rfl), by first | exact Kd.R_nil _ _ _ _ _ | exact Kd.N_nil _ _ _ _ _ | exact Kd.V_nil _ _ _ _ _ | exact Kd.Q_nil _ _ _ _ _ | exact Kd.S_nil _ _ _ _ _, by repeat (first | (with_reducible first | exact HB.out | apply below_alloc | apply pw_below_drewN | apply below_drew1) | exact HB.out)⟩
                                              · rw [if_neg c45] at H
                                                have c45b0 : decide ((x8S.size : Int) < (wrap64 ((wrap64 (t117)) + 2))) = false := decide_eq_false c45
                                                clear c45
                                                by_cases c46 : 1 < (t107.length : Int)
                                                · rw [if_pos c46] at H
                                                  have c46b0 : decide (1 < (t107.length : Int)) = true := decide_eq_true c46
                                                  have c46b1 : decide (1 < t107.length) = true := decide_eq_true (by omega)
                                                  clear c46
                                                  obtain ⟨ji47, hji47⟩ : ∃ j_ : Int, (wrap64 (t117)) = j_ := ⟨_, rfl⟩
                                                  replace H : (if 0 ≤ (ji47) then (if (ji47) ≤ (x8S.size : Int) then (if x7_2.length < 2199023255552 then (say_Read.l0 kj36 a0 (wrap64 ((wrap64 (t105 + (ji47))) + 2)) (x7_2 ++ [(⟨rdOf ByteArray.empty t107 1, (⟨0, 0, 0⟩ : S28), 3, (t114) % 4294967296, 0, x8S.extract 0 ((ji47) : Int).toNat⟩ : S30)])) else (none)) else (none)) else (none)) = some (r1, r2, r3) := by first | (rw [hji47] at H; exact H) | (simp only [hji47] at H ⊢; exact H)
                                                  (try rw [hji47] at c45b0)
                                                  have hji47w : (IntKind.i64.wrap (t117)) = ji47 := (i64_w _).trans hji47
                                                  by_cases c48 : 0 ≤ (ji47)
                                                  · rw [if_pos c48] at H
                                                    have c48b0 := eq_true c48
                                                    have c48b1 : decide (0 ≤ (ji47)) = true := decide_eq_true c48
                                                    clear c48
                                                    by_cases c49 : (ji47) ≤ (x8S.size : Int)
                                                    · rw [if_pos c49] at H
                                                      have c49b0 := eq_true c49
                                                      have c49b1 : decide ((ji47) ≤ (x8S.size : Int)) = true := decide_eq_true c49
                                                      clear c49
                                                      by_cases c50 : x7_2.length < 2199023255552
                                                      · rw [if_pos c50] at H
                                                        have LMc50 := Aside0.mk c50
                                                        clear c50
                                                        obtain ⟨y120, hy120⟩ : ∃ y_ : List (S30), y_ = (x7_2 ++ [(⟨rdOf ByteArray.empty t107 1, (⟨0, 0, 0⟩ : S28), 3, (t114) % 4294967296, 0, x8S.extract 0 ((ji47) : Int).toNat⟩ : S30)]) := ⟨_, rfl⟩
                                                        replace H : (say_Read.l0 kj36 a0 (wrap64 ((wrap64 (t105 + (ji47))) + 2)) y120) = some (r1, r2, r3) := by first | (rw [hy120]; with_reducible exact H) | (have H2_ := (Option.bind_some _ _).symm.trans H; rw [hy120]; with_reducible exact H2_) | (have H2_ := (Option.bind_some _ _).symm.trans H; with_reducible exact H2_) | with_reducible exact H | (rw [hy120]; exact H) | exact H
                                                        have Ny120 := Aside0.mk hy120
                                                        clear hy120
                                                        have H' := Aside0.mk H
                                                        clear H
                                                        try go_wp2
                                                        have n0_ := Aside0.mk (Kd.R_drew HO_7.out)
                                                        have n1_ := Aside0.mk (Kd.R_drew HO_11.out)
                                                        have n2_ := Aside0.mk (below_drew1 HB.out)
                                                        clear HO_7
                                                        clear HO_11
                                                        clear HB
                                                        have HO_7 := n0_
                                                        have HO_11 := n1_
                                                        have HB := n2_
                                                        clear n0_ n1_ n2_
                                                        have p119 : 0 ≤ (1 : Int) := (by omega)
                                                        have q119 : 1 < (t107.length : Int) := of_decide_eq_true (by first | (with_reducible assumption) | assumption)
                                                        obtain ⟨ad119, e119, hx119_0⟩ := Kd.at_string (Kd.R_reads' HO_11.out).2.2 1 p119 q119
                                                        obtain rfl : ad113 = ad119 := (by injection e119)
                                                        (try simp only [show (1 : Int).toNat = 1 from rfl, Nat.reduceMul, Nat.reduceEqDiff, Go.Addr.add, ↓reduceIte] at hx119_0)
                                                        have qi119 : (1 < t107.length) = True := eq_true (by omega)
                                                        (try rw [show ((1 : Int)).toNat = 1 from rfl] at hx119_0)
                                                        replace p119 := eq_true p119
                                                        replace q119 := eq_true q119
                                                        refine start_ (n := 13) (S := fun w' => w'.cell? ⟨ad113.block, ad113.off + 1, none⟩ = some (.string (rdOf ByteArray.empty t107 1))) (ds := [10, 11]) #[false, false, false, false, false, false, false, false, false, false, false, false, false] (by kernel_rfl) rfl rfl (hx119_0) (fun hHeld => ?_); refine with_tabW say_Read.tab23 say_Read.bits23 (fun HT_ HW_ => ?_)
                                                        generalize wc.drew = w51 at HO_7 HO_11 HB hx119_0 hHeld ⊢
                                                        refine pure_ (i := 0) (N := some 112) (v := ?_) (a' := ?_) #[true, false, false, false, false, false, false, false, false, false, false, false, false] rfl rfl (any_of HT_.out (by kernel_rfl)) (fun _ _ _ h => h) (Or.inl ⟨by rfl, ?_⟩) ?_ ?_
                                                        rotate_left
                                                        · intro w'
                                                          go_simp
                                                          with_reducible rfl
                                                        rotate_left
                                                        · simp only [Act.put, List.setIfInBounds_toArray, List.set_cons_zero, List.set_cons_succ, i64_w, i32_w]
                                                          rfl
                                                        refine pure_ (i := 1) (N := some 113) (v := ?_) (a' := ?_) #[true, true, false, false, false, false, false, false, false, false, false, false, false] rfl rfl (any_of HT_.out (by kernel_rfl)) (fun _ _ _ h => h) (Or.inl ⟨by rfl, ?_⟩) ?_ ?_
                                                        rotate_left
                                                        · intro w'
                                                          go_simp
                                                          with_reducible rfl
                                                        rotate_left
                                                        · simp only [Act.put, List.setIfInBounds_toArray, List.set_cons_zero, List.set_cons_succ, i64_w, i32_w]
                                                          rfl
                                                        refine pure_ (i := 2) (N := some 114) (v := ?_) (a' := ?_) #[true, true, true, false, false, false, false, false, false, false, false, false, false] rfl rfl (any_of HT_.out (by kernel_rfl)) (fun _ _ _ h => h) (Or.inl ⟨by rfl, ?_⟩) ?_ ?_
                                                        rotate_left
                                                        · intro w'
                                                          go_simp
                                                          with_reducible rfl
                                                        rotate_left
                                                        · simp only [Act.put, List.setIfInBounds_toArray, List.set_cons_zero, List.set_cons_succ, i64_w, i32_w]
                                                          rfl
                                                        refine pure_ (i := 4) (N := some 116) (v := ?_) (a' := ?_) #[true, true, true, false, true, false, false, false, false, false, false, false, false] rfl rfl (any_of HT_.out (by kernel_rfl)) (fun _ _ _ h => h) (Or.inl ⟨by rfl, ?_⟩) ?_ ?_
                                                        rotate_left
                                                        · intro w'
                                                          go_simp
                                                          with_reducible rfl
                                                        rotate_left
                                                        · simp only [Act.put, List.setIfInBounds_toArray, List.set_cons_zero, List.set_cons_succ, i64_w, i32_w]
                                                          rfl
                                                        refine pure_ (i := 5) (N := some 117) (v := ?_) (a' := ?_) #[true, true, true, false, true, true, false, false, false, false, false, false, false] rfl rfl (any_of HT_.out (by kernel_rfl)) (fun _ _ _ h => h) (Or.inl ⟨by rfl, ?_⟩) ?_ ?_
                                                        rotate_left
                                                        · intro w'
                                                          go_simp
                                                          with_reducible rfl
                                                        rotate_left
                                                        · simp only [Act.put, List.setIfInBounds_toArray, List.set_cons_zero, List.set_cons_succ, i64_w, i32_w]
                                                          rfl
                                                        refine pure_ (i := 6) (N := some 118) (v := ?_) (a' := ?_) #[true, true, true, false, true, true, true, false, false, false, false, false, false] rfl rfl (any_of HT_.out (by kernel_rfl)) (fun _ _ _ h => h) (Or.inl ⟨by rfl, ?_⟩) ?_ ?_
                                                        rotate_left
                                                        · intro w'
                                                          go_simp
                                                          with_reducible rfl
                                                        rotate_left
                                                        · simp only [Act.put, List.setIfInBounds_toArray, List.set_cons_zero, List.set_cons_succ, i64_w, i32_w]
                                                          rfl
                                                        refine pure_ (i := 7) (N := some 119) (v := ?_) (a' := ?_) #[true, true, true, false, true, true, true, true, false, false, false, false, false] rfl rfl (any_of HT_.out (by kernel_rfl)) (fun _ _ _ h => h) (Or.inl ⟨by rfl, ?_⟩) ?_ ?_
                                                        rotate_left
                                                        · intro w'
                                                          go_simp
                                                          with_reducible rfl
                                                        rotate_left
                                                        · simp only [Act.put, List.setIfInBounds_toArray, List.set_cons_zero, List.set_cons_succ, i64_w, i32_w]
                                                          rfl
                                                        refine pure_ (i := 8) (N := some 120) (v := ?_) (a' := ?_) #[true, true, true, false, true, true, true, true, true, false, false, false, false] rfl rfl (any_of HT_.out (by kernel_rfl)) (fun _ _ _ h => h) (Or.inl ⟨by rfl, ?_⟩) ?_ ?_
                                                        rotate_left
                                                        · intro w'
                                                          go_simp
                                                          with_reducible rfl
                                                        rotate_left
                                                        · simp only [Act.put, List.setIfInBounds_toArray, List.set_cons_zero, List.set_cons_succ, i64_w, i32_w]
                                                          rfl
                                                        refine take_ (i := 3) (N := some 115) (v := ?_) (a' := ?_) #[true, true, true, true, true, true, true, true, true, false, false, false, false] rfl rfl (take_ofW HT_.out HW_.out (by kernel_rfl)) (fun _ _ _ h => h) (Or.inl ⟨by rfl, ?_⟩) hHeld ?_ ?_
                                                        rotate_left
                                                        · intro w' s0
                                                          go_simp
                                                          with_reducible rfl
                                                        rotate_left
                                                        · simp only [Act.put, List.setIfInBounds_toArray, List.set_cons_zero, List.set_cons_succ, i64_w, i32_w]
                                                          rfl
                                                        refine pure_ (i := 9) (N := some 121) (v := ?_) (a' := ?_) #[true, true, true, true, true, true, true, true, true, true, false, false, false] rfl rfl (any_of HT_.out (by kernel_rfl)) (fun _ _ _ h => h) (Or.inl ⟨by rfl, ?_⟩) ?_ ?_
                                                        rotate_left
                                                        · intro w'
                                                          go_simp
                                                          with_reducible rfl
                                                        rotate_left
                                                        · simp only [Act.put, List.setIfInBounds_toArray, List.set_cons_zero, List.set_cons_succ, i64_w, i32_w]
                                                          rfl
                                                        refine last_ (i := 10) (N := some 122) #[true, true, true, true, true, true, true, true, true, true, true, false, false] rfl rfl (one_of HT_.out (by kernel_rfl)) (by decide) (fun K hK => ?_)
                                                        refine value_ (w1 := ?_) (v := ?_) (by rfl) rfl ?_ ?_
                                                        rotate_left 2
                                                        · go_simp
                                                          constructor
                                                          · rfl
                                                          · rfl
                                                        refine hK.out _ _ ?_
                                                        clear hK K
                                                        refine norm_ (a' := ?_) ?_ ?_
                                                        rotate_left
                                                        · show Act.put _ (some 122) _ = _
                                                          simp only [Act.put, List.setIfInBounds_toArray, List.set_cons_zero, List.set_cons_succ, i64_w, i32_w]
                                                          rfl
                                                        refine last_ (i := 11) (N := some 123) #[true, true, true, true, true, true, true, true, true, true, true, true, false] rfl rfl (one_of HT_.out (by kernel_rfl)) (by decide) (fun K hK => ?_)
                                                        refine Kd.R_append_step k30 (w0 := w) w.heap.size (by rfl) (.tmp 112) (.tmp 122) 22 30 (.agg #[(.string ⟨#[]⟩), (.int .u64 0), (.int .u32 0), (.int .u8 0), (.int .u8 0), (.int .u32 0), (.int .u64 0), (.string ⟨#[]⟩)]) 64 rfl Tryd.underlying22 info30 rfl (by decide) (by omega) u7 x7_2 (⟨rdOf ByteArray.empty t107 1, (⟨0, 0, 0⟩ : S28), 3, (t114) % 4294967296, 0, x8S.extract 0 ((ji47) : Int).toNat⟩ : S30) [.string (rdOf ByteArray.empty t107 1), .int .u64 0, .int .u32 0, .int .u8 0, .int .u8 3, .int .u32 ((t114) % 4294967296), .int .u64 0, .string (x8S.extract 0 ((ji47) : Int).toNat)] (fun _ => True) (fun _ => False) rfl rfl ?aP (fun _ hk => hk.elim) ?aF ?aO ?aB ?aS ?aL ?_
                                                        (case aP => exact k30_mkM _ _ _ (⟨rdOf ByteArray.empty t107 1, (⟨0, 0, 0⟩ : S28), 3, (t114) % 4294967296, 0, x8S.extract 0 ((ji47) : Int).toNat⟩ : S30))
                                                        (case aB => exact (by repeat (first | (with_reducible first | exact HB.out | apply below_alloc | apply pw_below_drewN | apply below_drew1) | exact HB.out)))
                                                        (case aF => exact (fun _ _ => trivial))
                                                        (case aO => exact (by (with_reducible repeat (first | apply Kd.R_alloc | apply Kd.R_drewN | apply Kd.R_drew)); exact HO_7.out))
                                                        (case aS => exact (below_size (by repeat (first | (with_reducible first | exact HB.out | apply below_alloc | apply pw_below_drewN | apply below_drew1) | exact HB.out))))
                                                        (case aL => have := LMc50.out; omega)
                                                        intro v121 w52 ho hb hg hat
                                                        rw [← Ny120.out] at ho
                                                        have n0_ := Aside0.mk (Kd.R_over' (by (with_reducible repeat (first | apply Kd.R_alloc | apply Kd.R_drewN | apply Kd.R_drew)); exact HO_11.out) (Kd.R_typed (by (with_reducible repeat (first | apply Kd.R_alloc | apply Kd.R_drewN | apply Kd.R_drew)); exact HO_7.out)) (by decide) hg)
                                                        have n1_ := Aside0.mk (hb)
                                                        have n2_ := Aside0.mk (ho)
                                                        clear HO_11
                                                        clear HB
                                                        clear HO_7
                                                        have HO_11 := n0_
                                                        have HB := n1_
                                                        have HO122 := n2_
                                                        clear n0_ n1_ n2_
                                                        clear ho hb hg hat
                                                        refine hK.out _ _ ?_
                                                        clear hK K
                                                        refine norm_ (a' := ?_) ?_ ?_
                                                        rotate_left
                                                        · show Act.put _ (some 123) _ = _
                                                          simp only [Act.put, List.setIfInBounds_toArray, List.set_cons_zero, List.set_cons_succ, i64_w, i32_w]
                                                          rfl
                                                        refine pure_ (i := 12) (N := some 7) (v := ?_) (a' := ?_) #[true, true, true, true, true, true, true, true, true, true, true, true, true] rfl rfl (any_of HT_.out (by kernel_rfl)) (fun _ _ _ h => h) (Or.inl ⟨by rfl, ?_⟩) ?_ ?_
                                                        rotate_left
                                                        · intro w'
                                                          go_simp
                                                          with_reducible rfl
                                                        rotate_left
                                                        · simp only [Act.put, List.setIfInBounds_toArray, List.set_cons_zero, List.set_cons_succ, i64_w, i32_w]
                                                          rfl
                                                        refine done_ (done_of HT_.out (by kernel_rfl)) ?_
                                                        try go_wp2
                                                        go_roundg kj36
                                                        case measure => have := HJ2.out; have := HK2.out; have := HJ9.out; have := HJ24.out; have := HJ30.out; have := HJ36.out; omega
                                                        case rel => exact ⟨(wrap64 ((wrap64 (t105 + (ji47))) + 2)), (y120), (by first | rfl | (simp; done) | (simp only [← hji47] <;> (first | rfl | simp)) | (simp [*]; done)), H', ⟨by have := HJ2.out; have := HK2.out; have := HJ9.out; have := HJ24.out; have := HJ30.out; have := HJ36.out; omega⟩, ⟨by (with_reducible repeat (first | apply Kd.R_alloc | apply Kd.R_drewN | apply Kd.R_drew)); exact HO122.out⟩, ⟨by repeat (first | (with_reducible first | exact HB.out | apply below_alloc | apply pw_below_drewN | apply below_drew1) | exact HB.out)⟩⟩
                                                      · rw [if_neg c50] at H
                                                        exact absurd H (by simp)
                                                    · rw [if_neg c49] at H
                                                      exact absurd H (by simp)
                                                  · rw [if_neg c48] at H
                                                    exact absurd H (by simp)
                                                · rw [if_neg c46] at H
                                                  exact absurd H (by simp)
                                  · rw [if_neg c30] at H
                                    exact absurd H (by simp)
                                · rw [if_neg c29] at H
                                  exact absurd H (by simp)
                        · rw [if_neg c23] at H
                          exact absurd H (by simp)
                      · rw [if_neg c21] at H
                        exact absurd H (by simp)
            · rw [if_neg c7] at H
              have c7b0 : (t106 == 0) = false := beq_eq_false_iff_ne.mpr c7
              have c7b1 : (t106 != 0) = true := bne_iff_ne.mpr c7
              simp only [Option.some.injEq, Prod.mk.injEq] at H
              obtain ⟨rfl, rfl, rfl⟩ := H
              go_wp2_with (first | ((with_reducible refine gate_callee (f := 20) rfl ?_); refine goesL_ (some 29) rfl rfl Tryd.func20 (by kernel_rfl) rfl #[.string a0, .int .i64 x1_2] rfl (by (try simp only [List.map_toArray, List.map_cons, List.map_nil]); first | done | rfl | (simp only [List.length_drop, List.length_take]; rfl)) ?_; (with_reducible refine (say_line.calls k2 a0 x1_2 t104 t105 t106 _ A6.out).mono ?_); rintro e w' ⟨rfl, ⟨nd, rfl⟩⟩; refine ⟨_, rfl, ?_⟩))
              go_ret3
              exact ⟨_, by first | rfl | (simp [errW_none, errW_some] <;> rfl) | (simp [*, errW_none, errW_some] <;> rfl), by first | exact Kd.R_nil _ _ _ _ _ | exact Kd.N_nil _ _ _ _ _ | exact Kd.V_nil _ _ _ _ _ | exact Kd.Q_nil _ _ _ _ _ | exact Kd.S_nil _ _ _ _ _, by repeat (first | (with_reducible first | exact HB.out | apply below_alloc | apply pw_below_drewN | apply below_drew1) | exact HB.out)⟩

end Go.Proofs.YtbgoedhpndflpaaDoor.PSay
