/- What the row needs, laid together out of MsgQ9, MsgSame, MsgRKey (own texts and texts printed for this seat; wip/tools/group.py). -/
import Derived.Test.YtdjompbhlkgmbaaGB3
import Derived.Test.YtdjompbhlkgmbaaGB7
import Derived.Test.YtdjompbhlkgmbaaGB8
import Derived.Test.YtdjompbhlkgmbaaGB10
import Derived.Test.YtdjompbhlkgmbaaGB12
section
/- Printed by a program of this session over its told contracts; mended by wip/tools/fixmsg.py. -/
namespace Go.Proofs.Ytdjompbhlkgmbaa.PMsg
open Go.RowKit Go.Proofs.YtdjompbhlkgmbaaW.PrintWords Go.Proofs.YtdjompbhlkgmbaaW.PrintLast Go.Proofs.YtdjompbhlkgmbaaW.PrintMore
attribute [local go_sem] max2_int min2_int max_two min_two max_three min_three max_four min_four   -- for this text's walks alone
set_option linter.unusedVariables false
set_option linter.unusedSimpArgs false

attribute [local go_sem high] eqA54 eqA56 eqA72
/-! ### tattlerref22_Pack: function 11 -/
def tattlerref22_Pack.T3 : Bool × List (List Nat × List Nat) := (true, [([], []), ([0], [0]), ([], []), ([2], [2]), ([], []), ([4], [4]), ([], []), ([6], [6]), ([1, 3, 5, 7], [1, 3, 5, 7]), ([8, 7], [8]), ([9], [9]), ([9], [9]), ([10, 9, 0, 1, 2, 3, 4, 5, 6, 7, 8, 9, 10, 11], [10]), ([11, 12, 0, 1, 2, 3, 4, 5, 6, 7, 8, 9, 10, 11, 12], [11])])
/-! ### tattlerref17_SameNews: function 46 -/
def tattlerref17_SameNews.l0 : Nat → List (S72) → List (S72) → Int → Int → Option (Bool)
  | 0, _, _, _, _ => none
  | k + 1, x0, x1, x12, x13 => if x13 < x12 then (if 0 ≤ x13 then (if x13 < (x0.length : Int) then (if x13 < (x1.length : Int) then (if (!(((rd_T72 x0 x13).f0) == ((rd_T72 x1 x13).f0)) || ((!(((rd_T72 x0 x13).f1.f0) == ((rd_T72 x1 x13).f1.f0)) || (!(((rd_T72 x0 x13).f1.f1) == ((rd_T72 x1 x13).f1.f1)))))) = true then (some false) else (tattlerref17_SameNews.l0 k x0 x1 x12 (wrap64 (x13 + 1)))) else (none)) else (none)) else (none)) else (some true)
def tattlerref17_SameNews.f (k : Nat) (l0 : List (S72)) (l1 : List (S72)) : Option (Bool) := if (l0.length : Int) = (l1.length : Int) then (tattlerref17_SameNews.l0 k l0 l1 (l0.length : Int) 0) else (some false)
set_option maxHeartbeats 8000000 in
set_option maxRecDepth 100000 in
theorem tattlerref17_SameNews.calls (k : Nat) (A0 : Option Addr) (c0 : Nat) (l0 : List (S72)) (A1 : Option Addr) (c1 : Nat) (l1 : List (S72)) (r : Bool) (w : World) (hr0 : Kd.C k72 w A0 l0.length l0) (hc0 : l0.length ≤ c0) (hr1 : Kd.C k72 w A1 l1.length l1) (hc1 : l1.length ≤ c1) (h : tattlerref17_SameNews.f k l0 l1 = some r) :
    Calls Try.prog 46 #[.slice A0 l0.length c0, .slice A1 l1.length c1] w fun e w' => e = .returned (.bool r) ∧ Drawn0 w w' := by
  have hu72 := Try.underlying72
  have HR0 := Aside0.mk hr0
  have HC0 := Aside0.mk hc0
  clear hr0 hc0
  have HR1 := Aside0.mk hr1
  have HC1 := Aside0.mk hc1
  clear hr1 hc1
  have H : (if (l0.length : Int) = (l1.length : Int) then (tattlerref17_SameNews.l0 k l0 l1 (l0.length : Int) 0) else (some false)) = some r := h
  clear h
  by_cases c3 : (l0.length : Int) = (l1.length : Int)
  · rw [if_pos c3] at H
    have c3b0 : ((l0.length : Int) == (l1.length : Int)) = true := beq_iff_eq.mpr c3
    have c3b1 : ((l0.length : Int) != (l1.length : Int)) = false := bne_eq_false_iff_eq.mpr c3
    have c3b2 : (l0.length == l1.length) = true := by first | simpa using c3 | (simp at c3 ⊢; omega)
    clear c3
    have H' := Aside0.mk H
    clear H
    go_enter Try.func46, Try.ntmps46
    go_wp2
    repeat (go_quiet (fail); try go_wp2)
    go_loopg [13] k (fun kq v13 w' => ∃ (x13_1 : Int), v13 = .int .i64 x13_1 ∧ Aside0 (tattlerref17_SameNews.l0 kq l0 l1 (l0.length : Int) x13_1 = some r) ∧ Aside0 (kq ≤ k) ∧ Drawn0 w w')
    case atStart => exact ⟨(0), (by first | rfl | (simp; done) | (simp [*]; done)), H', ⟨Nat.le_refl _⟩, by repeat (first | exact Drawn0.refl _ | apply Drawn0.step)⟩
    case round =>
      clear H'
      try clear c1
      try clear p2
      try clear c3
      try clear c3b0
      try clear c3b1
      try clear c3b2
      obtain ⟨x13_1, rfl, HA, HK1, ⟨m1, rfl⟩⟩ := hrel
      cases gk with
      | zero => exact absurd HA.out (by simp [tattlerref17_SameNews.l0])
      | succ k1 =>
        have H := HA.out
        clear HA
        simp only [tattlerref17_SameNews.l0] at H
        by_cases c4 : x13_1 < (l0.length : Int)
        · rw [if_pos c4] at H
          have c4b0 : decide (x13_1 < (l0.length : Int)) = true := decide_eq_true c4
          clear c4
          by_cases c5 : 0 ≤ x13_1
          · rw [if_pos c5] at H
            have c5b0 : decide (0 ≤ x13_1) = true := decide_eq_true c5
            clear c5
            by_cases c6 : x13_1 < (l0.length : Int)
            · rw [if_pos c6] at H
              have c6b0 : decide (x13_1 < (l0.length : Int)) = true := decide_eq_true c6
              clear c6
              by_cases c7 : x13_1 < (l1.length : Int)
              · rw [if_pos c7] at H
                have c7b0 : decide (x13_1 < (l1.length : Int)) = true := decide_eq_true c7
                clear c7
                by_cases c8 : (!(((rd_T72 l0 x13_1).f0) == ((rd_T72 l1 x13_1).f0)) || ((!(((rd_T72 l0 x13_1).f1.f0) == ((rd_T72 l1 x13_1).f1.f0)) || (!(((rd_T72 l0 x13_1).f1.f1) == ((rd_T72 l1 x13_1).f1.f1)))))) = true
                · rw [if_pos c8] at H
                  have c8b0 : (!(((rd_T72 l0 x13_1).f0) == ((rd_T72 l1 x13_1).f0)) || ((!(((rd_T72 l0 x13_1).f1.f0) == ((rd_T72 l1 x13_1).f1.f0)) || (!(((rd_T72 l0 x13_1).f1.f1) == ((rd_T72 l1 x13_1).f1.f1)))))) = true := c8
                  clear c8
                  obtain rfl := Option.some.inj H
                  have p195 : 0 ≤ (x13_1 : Int) := of_decide_eq_true (by first | (with_reducible assumption) | assumption)
                  have q195 : x13_1 < (l0.length : Int) := of_decide_eq_true (by first | (with_reducible assumption) | assumption)
                  obtain ⟨ad195, e195, hx195_0, hx195_1, hx195_2⟩ := at_T72 HR0.out x13_1 p195 q195
                  cases e195
                  replace p195 := eq_true p195
                  replace q195 := eq_true q195
                  have p196 : 0 ≤ (x13_1 : Int) := of_decide_eq_true (by first | (with_reducible assumption) | assumption)
                  have q196 : x13_1 < (l1.length : Int) := of_decide_eq_true (by first | (with_reducible assumption) | assumption)
                  obtain ⟨ad196, e196, hx196_0, hx196_1, hx196_2⟩ := at_T72 HR1.out x13_1 p196 q196
                  cases e196
                  replace p196 := eq_true p196
                  replace q196 := eq_true q196
                  go_wp2
                  repeat (go_quiet (fail); try go_wp2)
                  go_ret
                  exact ⟨by first | rfl | (simp; done) | (simp [*]; done), by repeat (first | exact Drawn0.refl _ | apply Drawn0.step)⟩
                · rw [if_neg c8] at H
                  have c8b0 : (!(((rd_T72 l0 x13_1).f0) == ((rd_T72 l1 x13_1).f0)) || ((!(((rd_T72 l0 x13_1).f1.f0) == ((rd_T72 l1 x13_1).f1.f0)) || (!(((rd_T72 l0 x13_1).f1.f1) == ((rd_T72 l1 x13_1).f1.f1)))))) = false := by simpa using c8
                  clear c8
                  have H' := Aside0.mk H
                  clear H
                  have p195 : 0 ≤ (x13_1 : Int) := of_decide_eq_true (by first | (with_reducible assumption) | assumption)
                  have q195 : x13_1 < (l0.length : Int) := of_decide_eq_true (by first | (with_reducible assumption) | assumption)
                  obtain ⟨ad195, e195, hx195_0, hx195_1, hx195_2⟩ := at_T72 HR0.out x13_1 p195 q195
                  cases e195
                  replace p195 := eq_true p195
                  replace q195 := eq_true q195
                  have p196 : 0 ≤ (x13_1 : Int) := of_decide_eq_true (by first | (with_reducible assumption) | assumption)
                  have q196 : x13_1 < (l1.length : Int) := of_decide_eq_true (by first | (with_reducible assumption) | assumption)
                  obtain ⟨ad196, e196, hx196_0, hx196_1, hx196_2⟩ := at_T72 HR1.out x13_1 p196 q196
                  cases e196
                  replace p196 := eq_true p196
                  replace q196 := eq_true q196
                  go_wp2
                  repeat (go_quiet (fail); try go_wp2)
                  go_roundg k1
                  case measure => have := HK1.out; omega
                  case rel => exact ⟨(wrap64 (x13_1 + 1)), (by first | rfl | (simp; done) | (simp [*]; done)), H', ⟨by have := HK1.out; omega⟩, by repeat (first | exact Drawn0.refl _ | apply Drawn0.step)⟩
              · rw [if_neg c7] at H
                exact absurd H (by simp)
            · rw [if_neg c6] at H
              exact absurd H (by simp)
          · rw [if_neg c5] at H
            exact absurd H (by simp)
        · rw [if_neg c4] at H
          have c4b0 : decide (x13_1 < (l0.length : Int)) = false := decide_eq_false c4
          clear c4
          obtain rfl := Option.some.inj H
          go_wp2
          repeat (go_quiet (fail); try go_wp2)
          go_ret
          exact ⟨by first | rfl | (simp; done) | (simp [*]; done), by repeat (first | exact Drawn0.refl _ | apply Drawn0.step)⟩
  · rw [if_neg c3] at H
    have c3b0 : ((l0.length : Int) == (l1.length : Int)) = false := beq_eq_false_iff_ne.mpr c3
    have c3b1 : ((l0.length : Int) != (l1.length : Int)) = true := bne_iff_ne.mpr c3
    have c3b2 : (l0.length == l1.length) = false := by first | simpa using c3 | (simp at c3 ⊢; omega)
    obtain rfl := Option.some.inj H
    go_enter Try.func46, Try.ntmps46
    go_wp2
    repeat (go_quiet (fail); try go_wp2)
    go_ret
    exact ⟨by first | rfl | (simp; done) | (simp [*]; done), by repeat (first | exact Drawn0.refl _ | apply Drawn0.step)⟩

/-! ### tattlerref06_Same: function 47 -/
def tattlerref06_Same.l0 : Nat → List (S54) → List (S54) → Int → Int → Option (Bool)
  | 0, _, _, _, _ => none
  | k + 1, x0, x1, x12, x13 => if x13 < x12 then (if 0 ≤ x13 then (if x13 < (x0.length : Int) then (if x13 < (x1.length : Int) then (if (!((((rd_T54 x0 x13).f0).toList) == (((rd_T54 x1 x13).f0).toList)) || ((!(((rd_T54 x0 x13).f1.f0) == ((rd_T54 x1 x13).f1.f0)) || (!(((rd_T54 x0 x13).f1.f1) == ((rd_T54 x1 x13).f1.f1)) || (!(((rd_T54 x0 x13).f1.f2) == ((rd_T54 x1 x13).f1.f2))))) || (!(((rd_T54 x0 x13).f2) == ((rd_T54 x1 x13).f2)) || (!(((rd_T54 x0 x13).f3) == ((rd_T54 x1 x13).f3)) || (!(((rd_T54 x0 x13).f4) == ((rd_T54 x1 x13).f4)) || (!((((rd_T54 x0 x13).f5).toList) == (((rd_T54 x1 x13).f5).toList)))))))) = true then (some false) else (tattlerref06_Same.l0 k x0 x1 x12 (wrap64 (x13 + 1)))) else (none)) else (none)) else (none)) else (some true)
def tattlerref06_Same.f (k : Nat) (l0 : List (S54)) (l1 : List (S54)) : Option (Bool) := if (l0.length : Int) = (l1.length : Int) then (tattlerref06_Same.l0 k l0 l1 (l0.length : Int) 0) else (some false)
set_option maxHeartbeats 8000000 in
set_option maxRecDepth 100000 in
theorem tattlerref06_Same.calls (k : Nat) (A0 : Option Addr) (c0 : Nat) (l0 : List (S54)) (A1 : Option Addr) (c1 : Nat) (l1 : List (S54)) (r : Bool) (w : World) (hr0 : Kd.C k54 w A0 l0.length l0) (hc0 : l0.length ≤ c0) (hr1 : Kd.C k54 w A1 l1.length l1) (hc1 : l1.length ≤ c1) (h : tattlerref06_Same.f k l0 l1 = some r) :
    Calls Try.prog 47 #[.slice A0 l0.length c0, .slice A1 l1.length c1] w fun e w' => e = .returned (.bool r) ∧ Drawn0 w w' := by
  have hu54 := Try.underlying54
  have HR0 := Aside0.mk hr0
  have HC0 := Aside0.mk hc0
  clear hr0 hc0
  have HR1 := Aside0.mk hr1
  have HC1 := Aside0.mk hc1
  clear hr1 hc1
  have H : (if (l0.length : Int) = (l1.length : Int) then (tattlerref06_Same.l0 k l0 l1 (l0.length : Int) 0) else (some false)) = some r := h
  clear h
  by_cases c3 : (l0.length : Int) = (l1.length : Int)
  · rw [if_pos c3] at H
    have c3b0 : ((l0.length : Int) == (l1.length : Int)) = true := beq_iff_eq.mpr c3
    have c3b1 : ((l0.length : Int) != (l1.length : Int)) = false := bne_eq_false_iff_eq.mpr c3
    have c3b2 : (l0.length == l1.length) = true := by first | simpa using c3 | (simp at c3 ⊢; omega)
    clear c3
    have H' := Aside0.mk H
    clear H
    go_enter Try.func47, Try.ntmps47
    go_wp2
    repeat (go_quiet (fail); try go_wp2)
    go_loopg [13] k (fun kq v13 w' => ∃ (x13_1 : Int), v13 = .int .i64 x13_1 ∧ Aside0 (tattlerref06_Same.l0 kq l0 l1 (l0.length : Int) x13_1 = some r) ∧ Aside0 (kq ≤ k) ∧ Drawn0 w w')
    case atStart => exact ⟨(0), (by first | rfl | (simp; done) | (simp [*]; done)), H', ⟨Nat.le_refl _⟩, by repeat (first | exact Drawn0.refl _ | apply Drawn0.step)⟩
    case round =>
      clear H'
      try clear c1
      try clear p2
      try clear c3
      try clear c3b0
      try clear c3b1
      try clear c3b2
      obtain ⟨x13_1, rfl, HA, HK1, ⟨m1, rfl⟩⟩ := hrel
      cases gk with
      | zero => exact absurd HA.out (by simp [tattlerref06_Same.l0])
      | succ k1 =>
        have H := HA.out
        clear HA
        simp only [tattlerref06_Same.l0] at H
        by_cases c4 : x13_1 < (l0.length : Int)
        · rw [if_pos c4] at H
          have c4b0 : decide (x13_1 < (l0.length : Int)) = true := decide_eq_true c4
          clear c4
          by_cases c5 : 0 ≤ x13_1
          · rw [if_pos c5] at H
            have c5b0 : decide (0 ≤ x13_1) = true := decide_eq_true c5
            clear c5
            by_cases c6 : x13_1 < (l0.length : Int)
            · rw [if_pos c6] at H
              have c6b0 : decide (x13_1 < (l0.length : Int)) = true := decide_eq_true c6
              clear c6
              by_cases c7 : x13_1 < (l1.length : Int)
              · rw [if_pos c7] at H
                have c7b0 : decide (x13_1 < (l1.length : Int)) = true := decide_eq_true c7
                clear c7
                by_cases c8 : (!((((rd_T54 l0 x13_1).f0).toList) == (((rd_T54 l1 x13_1).f0).toList)) || ((!(((rd_T54 l0 x13_1).f1.f0) == ((rd_T54 l1 x13_1).f1.f0)) || (!(((rd_T54 l0 x13_1).f1.f1) == ((rd_T54 l1 x13_1).f1.f1)) || (!(((rd_T54 l0 x13_1).f1.f2) == ((rd_T54 l1 x13_1).f1.f2))))) || (!(((rd_T54 l0 x13_1).f2) == ((rd_T54 l1 x13_1).f2)) || (!(((rd_T54 l0 x13_1).f3) == ((rd_T54 l1 x13_1).f3)) || (!(((rd_T54 l0 x13_1).f4) == ((rd_T54 l1 x13_1).f4)) || (!((((rd_T54 l0 x13_1).f5).toList) == (((rd_T54 l1 x13_1).f5).toList)))))))) = true
                · rw [if_pos c8] at H
                  have c8b0 : (!((((rd_T54 l0 x13_1).f0).toList) == (((rd_T54 l1 x13_1).f0).toList)) || ((!(((rd_T54 l0 x13_1).f1.f0) == ((rd_T54 l1 x13_1).f1.f0)) || (!(((rd_T54 l0 x13_1).f1.f1) == ((rd_T54 l1 x13_1).f1.f1)) || (!(((rd_T54 l0 x13_1).f1.f2) == ((rd_T54 l1 x13_1).f1.f2))))) || (!(((rd_T54 l0 x13_1).f2) == ((rd_T54 l1 x13_1).f2)) || (!(((rd_T54 l0 x13_1).f3) == ((rd_T54 l1 x13_1).f3)) || (!(((rd_T54 l0 x13_1).f4) == ((rd_T54 l1 x13_1).f4)) || (!((((rd_T54 l0 x13_1).f5).toList) == (((rd_T54 l1 x13_1).f5).toList)))))))) = true := c8
                  clear c8
                  obtain rfl := Option.some.inj H
                  have p197 : 0 ≤ (x13_1 : Int) := of_decide_eq_true (by first | (with_reducible assumption) | assumption)
                  have q197 : x13_1 < (l0.length : Int) := of_decide_eq_true (by first | (with_reducible assumption) | assumption)
                  obtain ⟨ad197, e197, hx197_0, hx197_1, hx197_2, hx197_3, hx197_4, hx197_5, hx197_6, hx197_7⟩ := at_T54 HR0.out x13_1 p197 q197
                  cases e197
                  replace p197 := eq_true p197
                  replace q197 := eq_true q197
                  have p198 : 0 ≤ (x13_1 : Int) := of_decide_eq_true (by first | (with_reducible assumption) | assumption)
                  have q198 : x13_1 < (l1.length : Int) := of_decide_eq_true (by first | (with_reducible assumption) | assumption)
                  obtain ⟨ad198, e198, hx198_0, hx198_1, hx198_2, hx198_3, hx198_4, hx198_5, hx198_6, hx198_7⟩ := at_T54 HR1.out x13_1 p198 q198
                  cases e198
                  replace p198 := eq_true p198
                  replace q198 := eq_true q198
                  go_wp2
                  repeat (go_quiet (fail); try go_wp2)
                  go_ret
                  exact ⟨by first | rfl | (simp; done) | (simp [*]; done), by repeat (first | exact Drawn0.refl _ | apply Drawn0.step)⟩
                · rw [if_neg c8] at H
                  have c8b0 : (!((((rd_T54 l0 x13_1).f0).toList) == (((rd_T54 l1 x13_1).f0).toList)) || ((!(((rd_T54 l0 x13_1).f1.f0) == ((rd_T54 l1 x13_1).f1.f0)) || (!(((rd_T54 l0 x13_1).f1.f1) == ((rd_T54 l1 x13_1).f1.f1)) || (!(((rd_T54 l0 x13_1).f1.f2) == ((rd_T54 l1 x13_1).f1.f2))))) || (!(((rd_T54 l0 x13_1).f2) == ((rd_T54 l1 x13_1).f2)) || (!(((rd_T54 l0 x13_1).f3) == ((rd_T54 l1 x13_1).f3)) || (!(((rd_T54 l0 x13_1).f4) == ((rd_T54 l1 x13_1).f4)) || (!((((rd_T54 l0 x13_1).f5).toList) == (((rd_T54 l1 x13_1).f5).toList)))))))) = false := by simpa using c8
                  clear c8
                  have H' := Aside0.mk H
                  clear H
                  have p197 : 0 ≤ (x13_1 : Int) := of_decide_eq_true (by first | (with_reducible assumption) | assumption)
                  have q197 : x13_1 < (l0.length : Int) := of_decide_eq_true (by first | (with_reducible assumption) | assumption)
                  obtain ⟨ad197, e197, hx197_0, hx197_1, hx197_2, hx197_3, hx197_4, hx197_5, hx197_6, hx197_7⟩ := at_T54 HR0.out x13_1 p197 q197
                  cases e197
                  replace p197 := eq_true p197
                  replace q197 := eq_true q197
                  have p198 : 0 ≤ (x13_1 : Int) := of_decide_eq_true (by first | (with_reducible assumption) | assumption)
                  have q198 : x13_1 < (l1.length : Int) := of_decide_eq_true (by first | (with_reducible assumption) | assumption)
                  obtain ⟨ad198, e198, hx198_0, hx198_1, hx198_2, hx198_3, hx198_4, hx198_5, hx198_6, hx198_7⟩ := at_T54 HR1.out x13_1 p198 q198
                  cases e198
                  replace p198 := eq_true p198
                  replace q198 := eq_true q198
                  go_wp2
                  repeat (go_quiet (fail); try go_wp2)
                  go_roundg k1
                  case measure => have := HK1.out; omega
                  case rel => exact ⟨(wrap64 (x13_1 + 1)), (by first | rfl | (simp; done) | (simp [*]; done)), H', ⟨by have := HK1.out; omega⟩, by repeat (first | exact Drawn0.refl _ | apply Drawn0.step)⟩
              · rw [if_neg c7] at H
                exact absurd H (by simp)
            · rw [if_neg c6] at H
              exact absurd H (by simp)
          · rw [if_neg c5] at H
            exact absurd H (by simp)
        · rw [if_neg c4] at H
          have c4b0 : decide (x13_1 < (l0.length : Int)) = false := decide_eq_false c4
          clear c4
          obtain rfl := Option.some.inj H
          go_wp2
          repeat (go_quiet (fail); try go_wp2)
          go_ret
          exact ⟨by first | rfl | (simp; done) | (simp [*]; done), by repeat (first | exact Drawn0.refl _ | apply Drawn0.step)⟩
  · rw [if_neg c3] at H
    have c3b0 : ((l0.length : Int) == (l1.length : Int)) = false := beq_eq_false_iff_ne.mpr c3
    have c3b1 : ((l0.length : Int) != (l1.length : Int)) = true := bne_iff_ne.mpr c3
    have c3b2 : (l0.length == l1.length) = false := by first | simpa using c3 | (simp at c3 ⊢; omega)
    obtain rfl := Option.some.inj H
    go_enter Try.func47, Try.ntmps47
    go_wp2
    repeat (go_quiet (fail); try go_wp2)
    go_ret
    exact ⟨by first | rfl | (simp; done) | (simp [*]; done), by repeat (first | exact Drawn0.refl _ | apply Drawn0.step)⟩

/-! ### tattlerref15_SameSeen: function 48 -/
def tattlerref15_SameSeen.l0 : Nat → List (S56) → List (S56) → Int → Int → Option (Bool)
  | 0, _, _, _, _ => none
  | k + 1, x0, x1, x12, x13 => if x13 < x12 then (if 0 ≤ x13 then (if x13 < (x0.length : Int) then (if x13 < (x1.length : Int) then (if (!((((rd_T56 x0 x13).f0).toList) == (((rd_T56 x1 x13).f0).toList)) || ((!(((rd_T56 x0 x13).f1.f0) == ((rd_T56 x1 x13).f1.f0)) || (!(((rd_T56 x0 x13).f1.f1) == ((rd_T56 x1 x13).f1.f1)) || (!(((rd_T56 x0 x13).f1.f2) == ((rd_T56 x1 x13).f1.f2))))) || (!(((rd_T56 x0 x13).f2) == ((rd_T56 x1 x13).f2))))) = true then (some false) else (tattlerref15_SameSeen.l0 k x0 x1 x12 (wrap64 (x13 + 1)))) else (none)) else (none)) else (none)) else (some true)
def tattlerref15_SameSeen.f (k : Nat) (l0 : List (S56)) (l1 : List (S56)) : Option (Bool) := if (l0.length : Int) = (l1.length : Int) then (tattlerref15_SameSeen.l0 k l0 l1 (l0.length : Int) 0) else (some false)
set_option maxHeartbeats 8000000 in
set_option maxRecDepth 100000 in
theorem tattlerref15_SameSeen.calls (k : Nat) (A0 : Option Addr) (c0 : Nat) (l0 : List (S56)) (A1 : Option Addr) (c1 : Nat) (l1 : List (S56)) (r : Bool) (w : World) (hr0 : Kd.C k56 w A0 l0.length l0) (hc0 : l0.length ≤ c0) (hr1 : Kd.C k56 w A1 l1.length l1) (hc1 : l1.length ≤ c1) (h : tattlerref15_SameSeen.f k l0 l1 = some r) :
    Calls Try.prog 48 #[.slice A0 l0.length c0, .slice A1 l1.length c1] w fun e w' => e = .returned (.bool r) ∧ Drawn0 w w' := by
  have hu56 := Try.underlying56
  have HR0 := Aside0.mk hr0
  have HC0 := Aside0.mk hc0
  clear hr0 hc0
  have HR1 := Aside0.mk hr1
  have HC1 := Aside0.mk hc1
  clear hr1 hc1
  have H : (if (l0.length : Int) = (l1.length : Int) then (tattlerref15_SameSeen.l0 k l0 l1 (l0.length : Int) 0) else (some false)) = some r := h
  clear h
  by_cases c3 : (l0.length : Int) = (l1.length : Int)
  · rw [if_pos c3] at H
    have c3b0 : ((l0.length : Int) == (l1.length : Int)) = true := beq_iff_eq.mpr c3
    have c3b1 : ((l0.length : Int) != (l1.length : Int)) = false := bne_eq_false_iff_eq.mpr c3
    have c3b2 : (l0.length == l1.length) = true := by first | simpa using c3 | (simp at c3 ⊢; omega)
    clear c3
    have H' := Aside0.mk H
    clear H
    go_enter Try.func48, Try.ntmps48
    go_wp2
    repeat (go_quiet (fail); try go_wp2)
    go_loopg [13] k (fun kq v13 w' => ∃ (x13_1 : Int), v13 = .int .i64 x13_1 ∧ Aside0 (tattlerref15_SameSeen.l0 kq l0 l1 (l0.length : Int) x13_1 = some r) ∧ Aside0 (kq ≤ k) ∧ Drawn0 w w')
    case atStart => exact ⟨(0), (by first | rfl | (simp; done) | (simp [*]; done)), H', ⟨Nat.le_refl _⟩, by repeat (first | exact Drawn0.refl _ | apply Drawn0.step)⟩
    case round =>
      clear H'
      try clear c1
      try clear p2
      try clear c3
      try clear c3b0
      try clear c3b1
      try clear c3b2
      obtain ⟨x13_1, rfl, HA, HK1, ⟨m1, rfl⟩⟩ := hrel
      cases gk with
      | zero => exact absurd HA.out (by simp [tattlerref15_SameSeen.l0])
      | succ k1 =>
        have H := HA.out
        clear HA
        simp only [tattlerref15_SameSeen.l0] at H
        by_cases c4 : x13_1 < (l0.length : Int)
        · rw [if_pos c4] at H
          have c4b0 : decide (x13_1 < (l0.length : Int)) = true := decide_eq_true c4
          clear c4
          by_cases c5 : 0 ≤ x13_1
          · rw [if_pos c5] at H
            have c5b0 : decide (0 ≤ x13_1) = true := decide_eq_true c5
            clear c5
            by_cases c6 : x13_1 < (l0.length : Int)
            · rw [if_pos c6] at H
              have c6b0 : decide (x13_1 < (l0.length : Int)) = true := decide_eq_true c6
              clear c6
              by_cases c7 : x13_1 < (l1.length : Int)
              · rw [if_pos c7] at H
                have c7b0 : decide (x13_1 < (l1.length : Int)) = true := decide_eq_true c7
                clear c7
                by_cases c8 : (!((((rd_T56 l0 x13_1).f0).toList) == (((rd_T56 l1 x13_1).f0).toList)) || ((!(((rd_T56 l0 x13_1).f1.f0) == ((rd_T56 l1 x13_1).f1.f0)) || (!(((rd_T56 l0 x13_1).f1.f1) == ((rd_T56 l1 x13_1).f1.f1)) || (!(((rd_T56 l0 x13_1).f1.f2) == ((rd_T56 l1 x13_1).f1.f2))))) || (!(((rd_T56 l0 x13_1).f2) == ((rd_T56 l1 x13_1).f2))))) = true
                · rw [if_pos c8] at H
                  have c8b0 : (!((((rd_T56 l0 x13_1).f0).toList) == (((rd_T56 l1 x13_1).f0).toList)) || ((!(((rd_T56 l0 x13_1).f1.f0) == ((rd_T56 l1 x13_1).f1.f0)) || (!(((rd_T56 l0 x13_1).f1.f1) == ((rd_T56 l1 x13_1).f1.f1)) || (!(((rd_T56 l0 x13_1).f1.f2) == ((rd_T56 l1 x13_1).f1.f2))))) || (!(((rd_T56 l0 x13_1).f2) == ((rd_T56 l1 x13_1).f2))))) = true := c8
                  clear c8
                  obtain rfl := Option.some.inj H
                  have p199 : 0 ≤ (x13_1 : Int) := of_decide_eq_true (by first | (with_reducible assumption) | assumption)
                  have q199 : x13_1 < (l0.length : Int) := of_decide_eq_true (by first | (with_reducible assumption) | assumption)
                  obtain ⟨ad199, e199, hx199_0, hx199_1, hx199_2, hx199_3, hx199_4⟩ := at_T56 HR0.out x13_1 p199 q199
                  cases e199
                  replace p199 := eq_true p199
                  replace q199 := eq_true q199
                  have p200 : 0 ≤ (x13_1 : Int) := of_decide_eq_true (by first | (with_reducible assumption) | assumption)
                  have q200 : x13_1 < (l1.length : Int) := of_decide_eq_true (by first | (with_reducible assumption) | assumption)
                  obtain ⟨ad200, e200, hx200_0, hx200_1, hx200_2, hx200_3, hx200_4⟩ := at_T56 HR1.out x13_1 p200 q200
                  cases e200
                  replace p200 := eq_true p200
                  replace q200 := eq_true q200
                  go_wp2
                  repeat (go_quiet (fail); try go_wp2)
                  go_ret
                  exact ⟨by first | rfl | (simp; done) | (simp [*]; done), by repeat (first | exact Drawn0.refl _ | apply Drawn0.step)⟩
                · rw [if_neg c8] at H
                  have c8b0 : (!((((rd_T56 l0 x13_1).f0).toList) == (((rd_T56 l1 x13_1).f0).toList)) || ((!(((rd_T56 l0 x13_1).f1.f0) == ((rd_T56 l1 x13_1).f1.f0)) || (!(((rd_T56 l0 x13_1).f1.f1) == ((rd_T56 l1 x13_1).f1.f1)) || (!(((rd_T56 l0 x13_1).f1.f2) == ((rd_T56 l1 x13_1).f1.f2))))) || (!(((rd_T56 l0 x13_1).f2) == ((rd_T56 l1 x13_1).f2))))) = false := by simpa using c8
                  clear c8
                  have H' := Aside0.mk H
                  clear H
                  have p199 : 0 ≤ (x13_1 : Int) := of_decide_eq_true (by first | (with_reducible assumption) | assumption)
                  have q199 : x13_1 < (l0.length : Int) := of_decide_eq_true (by first | (with_reducible assumption) | assumption)
                  obtain ⟨ad199, e199, hx199_0, hx199_1, hx199_2, hx199_3, hx199_4⟩ := at_T56 HR0.out x13_1 p199 q199
                  cases e199
                  replace p199 := eq_true p199
                  replace q199 := eq_true q199
                  have p200 : 0 ≤ (x13_1 : Int) := of_decide_eq_true (by first | (with_reducible assumption) | assumption)
                  have q200 : x13_1 < (l1.length : Int) := of_decide_eq_true (by first | (with_reducible assumption) | assumption)
                  obtain ⟨ad200, e200, hx200_0, hx200_1, hx200_2, hx200_3, hx200_4⟩ := at_T56 HR1.out x13_1 p200 q200
                  cases e200
                  replace p200 := eq_true p200
                  replace q200 := eq_true q200
                  go_wp2
                  repeat (go_quiet (fail); try go_wp2)
                  go_roundg k1
                  case measure => have := HK1.out; omega
                  case rel => exact ⟨(wrap64 (x13_1 + 1)), (by first | rfl | (simp; done) | (simp [*]; done)), H', ⟨by have := HK1.out; omega⟩, by repeat (first | exact Drawn0.refl _ | apply Drawn0.step)⟩
              · rw [if_neg c7] at H
                exact absurd H (by simp)
            · rw [if_neg c6] at H
              exact absurd H (by simp)
          · rw [if_neg c5] at H
            exact absurd H (by simp)
        · rw [if_neg c4] at H
          have c4b0 : decide (x13_1 < (l0.length : Int)) = false := decide_eq_false c4
          clear c4
          obtain rfl := Option.some.inj H
          go_wp2
          repeat (go_quiet (fail); try go_wp2)
          go_ret
          exact ⟨by first | rfl | (simp; done) | (simp [*]; done), by repeat (first | exact Drawn0.refl _ | apply Drawn0.step)⟩
  · rw [if_neg c3] at H
    have c3b0 : ((l0.length : Int) == (l1.length : Int)) = false := beq_eq_false_iff_ne.mpr c3
    have c3b1 : ((l0.length : Int) != (l1.length : Int)) = true := bne_iff_ne.mpr c3
    have c3b2 : (l0.length == l1.length) = false := by first | simpa using c3 | (simp at c3 ⊢; omega)
    obtain rfl := Option.some.inj H
    go_enter Try.func48, Try.ntmps48
    go_wp2
    repeat (go_quiet (fail); try go_wp2)
    go_ret
    exact ⟨by first | rfl | (simp; done) | (simp [*]; done), by repeat (first | exact Drawn0.refl _ | apply Drawn0.step)⟩

end Go.Proofs.Ytdjompbhlkgmbaa.PMsg
end
section
/- The reference's Same where both messages are the same (own text; written by wip/tools/gen_msgsame.py). -/
namespace Go.Proofs.Ytdjompbhlkgmbaa.Msg
open Go.RowKit Go.Proofs.Ytdjompbhlkgmbaa.Mem Go.Proofs.YtdjompbhlkgmbaaW.PrintWords Go.Proofs.YtdjompbhlkgmbaaW.PrintLast Go.Proofs.YtdjompbhlkgmbaaW.PrintMore Go.Proofs.Ytdjompbhlkgmbaa.PMsg
set_option linter.unusedVariables false
set_option linter.unusedSimpArgs false
theorem same_news (l : List S72) (hl : l.length ≤ 5000) : ∀ d i k, l.length - i = d → i ≤ l.length → d < k → tattlerref17_SameNews.l0 k l l (l.length : Int) (i : Int) = some true := by
  intro d
  induction d with
  | zero =>
    intro i k h hi hk
    obtain ⟨k, rfl⟩ : ∃ q, k = q + 1 := ⟨k - 1, by omega⟩
    simp only [tattlerref17_SameNews.l0]
    rw [if_neg (by omega)]
  | succ d ih =>
    intro i k h hi hk
    obtain ⟨k, rfl⟩ : ∃ q, k = q + 1 := ⟨k - 1, by omega⟩
    simp only [tattlerref17_SameNews.l0]
    rw [if_pos (by omega), if_pos (by omega), if_pos (by omega), if_pos (by omega), if_neg (by simp), show wrap64 ((i : Int) + 1) = ((i + 1 : Nat) : Int) from by rw [IntWalk.wrap64_in _ (by omega)]; omega]
    exact ih (i + 1) k (by omega) (by omega) (by omega)
theorem same_news_c (A : Option Addr) (g : Nat) (B : Option Addr) (h : Nat) (l : List S72) (hl : l.length ≤ 5000) (w : World) (r0 : Kd.C k72 w A l.length l) (l0 : l.length ≤ g) (r1 : Kd.C k72 w B l.length l) (l1 : l.length ≤ h) :
    Calls Try.prog 46 #[.slice A l.length g, .slice B l.length h] w fun e w' => e = .returned (.bool true) ∧ Below w.heap.size w w' := by
  refine (tattlerref17_SameNews.calls (l.length + 1) A g l B h l true w r0 l0 r1 l1 ?_).mono ?_
  · unfold tattlerref17_SameNews.f
    rw [if_pos rfl]
    exact same_news l hl l.length 0 _ (by omega) (by omega) (by omega)
  · rintro e w' ⟨rfl, hd⟩
    exact ⟨rfl, hd.below⟩
theorem same_recs (l : List S54) (hl : l.length ≤ 5000) : ∀ d i k, l.length - i = d → i ≤ l.length → d < k → tattlerref06_Same.l0 k l l (l.length : Int) (i : Int) = some true := by
  intro d
  induction d with
  | zero =>
    intro i k h hi hk
    obtain ⟨k, rfl⟩ : ∃ q, k = q + 1 := ⟨k - 1, by omega⟩
    simp only [tattlerref06_Same.l0]
    rw [if_neg (by omega)]
  | succ d ih =>
    intro i k h hi hk
    obtain ⟨k, rfl⟩ : ∃ q, k = q + 1 := ⟨k - 1, by omega⟩
    simp only [tattlerref06_Same.l0]
    rw [if_pos (by omega), if_pos (by omega), if_pos (by omega), if_pos (by omega), if_neg (by simp), show wrap64 ((i : Int) + 1) = ((i + 1 : Nat) : Int) from by rw [IntWalk.wrap64_in _ (by omega)]; omega]
    exact ih (i + 1) k (by omega) (by omega) (by omega)
theorem same_recs_c (A : Option Addr) (g : Nat) (B : Option Addr) (h : Nat) (l : List S54) (hl : l.length ≤ 5000) (w : World) (r0 : Kd.C k54 w A l.length l) (l0 : l.length ≤ g) (r1 : Kd.C k54 w B l.length l) (l1 : l.length ≤ h) :
    Calls Try.prog 47 #[.slice A l.length g, .slice B l.length h] w fun e w' => e = .returned (.bool true) ∧ Below w.heap.size w w' := by
  refine (tattlerref06_Same.calls (l.length + 1) A g l B h l true w r0 l0 r1 l1 ?_).mono ?_
  · unfold tattlerref06_Same.f
    rw [if_pos rfl]
    exact same_recs l hl l.length 0 _ (by omega) (by omega) (by omega)
  · rintro e w' ⟨rfl, hd⟩
    exact ⟨rfl, hd.below⟩
theorem same_seen (l : List S56) (hl : l.length ≤ 5000) : ∀ d i k, l.length - i = d → i ≤ l.length → d < k → tattlerref15_SameSeen.l0 k l l (l.length : Int) (i : Int) = some true := by
  intro d
  induction d with
  | zero =>
    intro i k h hi hk
    obtain ⟨k, rfl⟩ : ∃ q, k = q + 1 := ⟨k - 1, by omega⟩
    simp only [tattlerref15_SameSeen.l0]
    rw [if_neg (by omega)]
  | succ d ih =>
    intro i k h hi hk
    obtain ⟨k, rfl⟩ : ∃ q, k = q + 1 := ⟨k - 1, by omega⟩
    simp only [tattlerref15_SameSeen.l0]
    rw [if_pos (by omega), if_pos (by omega), if_pos (by omega), if_pos (by omega), if_neg (by simp), show wrap64 ((i : Int) + 1) = ((i + 1 : Nat) : Int) from by rw [IntWalk.wrap64_in _ (by omega)]; omega]
    exact ih (i + 1) k (by omega) (by omega) (by omega)
theorem same_seen_c (A : Option Addr) (g : Nat) (B : Option Addr) (h : Nat) (l : List S56) (hl : l.length ≤ 5000) (w : World) (r0 : Kd.C k56 w A l.length l) (l0 : l.length ≤ g) (r1 : Kd.C k56 w B l.length l) (l1 : l.length ≤ h) :
    Calls Try.prog 48 #[.slice A l.length g, .slice B l.length h] w fun e w' => e = .returned (.bool true) ∧ Below w.heap.size w w' := by
  refine (tattlerref15_SameSeen.calls (l.length + 1) A g l B h l true w r0 l0 r1 l1 ?_).mono ?_
  · unfold tattlerref15_SameSeen.f
    rw [if_pos rfl]
    exact same_seen l hl l.length 0 _ (by omega) (by omega) (by omega)
  · rintro e w' ⟨rfl, hd⟩
    exact ⟨rfl, hd.below⟩
set_option maxRecDepth 100000 in
set_option maxHeartbeats 8000000 in
theorem same_c (m : M) (A7 : Option Addr) (g7 : Nat) (A8 : Option Addr) (g8 : Nat) (A9 : Option Addr) (g9 : Nat) (A10 : Option Addr) (g10 : Nat) (A11 : Option Addr) (g11 : Nat) (B7 : Option Addr) (h7 : Nat) (B8 : Option Addr) (h8 : Nat) (B9 : Option Addr) (h9 : Nat) (B10 : Option Addr) (h10 : Nat) (B11 : Option Addr) (h11 : Nat) (w : World) (ha : HasM m A7 g7 A8 g8 A9 g9 A10 g10 A11 g11 w) (hb : HasM m B7 h7 B8 h8 B9 h9 B10 h10 B11 h11 w) (hs : SmM m) :
    Calls Try.prog 14 #[.agg #[.int .u8 m.kind, .int .u8 m.fr, .int .u8 m.dst, .int .u32 m.id, .int .u8 m.tg, .int .u8 m.rg, .bool m.flag, .slice A7 m.news.length g7, .slice A8 m.keys.length g8, .slice A9 m.recs.length g9, .slice A10 m.seen.length g10, .slice A11 m.digs.length g11], .agg #[.int .u8 m.kind, .int .u8 m.fr, .int .u8 m.dst, .int .u32 m.id, .int .u8 m.tg, .int .u8 m.rg, .bool m.flag, .slice B7 m.news.length h7, .slice B8 m.keys.length h8, .slice B9 m.recs.length h9, .slice B10 m.seen.length h10, .slice B11 m.digs.length h11]] w fun e w' => e = .returned (.bool true) ∧ Below w.heap.size w w' := by
  have s7 := fun (W : World) (h : Below w.heap.size w W) => same_news_c A7 g7 B7 h7 m.news hs.n1 W (ha.below h).r7 ha.l7 (hb.below h).r7 hb.l7
  have s9 := fun (W : World) (h : Below w.heap.size w W) => same_recs_c A9 g9 B9 h9 m.recs hs.n3 W (ha.below h).r9 ha.l9 (hb.below h).r9 hb.l9
  have s10 := fun (W : World) (h : Below w.heap.size w W) => same_seen_c A10 g10 B10 h10 m.seen hs.n4 W (ha.below h).r10 ha.l10 (hb.below h).r10 hb.l10
  have HR8 := Lib.hid ha.r8
  have HQ8 := Lib.hid hb.r8
  have HR11 := Lib.hid ha.r11
  have HQ11 := Lib.hid hb.r11
  have z2 := hs.n2
  have z5 := hs.n5
  clear ha hb hs
  obtain ⟨n1, hn7⟩ : ∃ n, n = m.news.length := ⟨_, rfl⟩
  rw [← hn7] at s7 ⊢
  have HN7 := Lib.hid hn7
  clear hn7
  obtain ⟨n2, hn8⟩ : ∃ n, n = m.keys.length := ⟨_, rfl⟩
  rw [← hn8] at z2 ⊢
  have HN8 := Lib.hid hn8
  clear hn8
  obtain ⟨n3, hn9⟩ : ∃ n, n = m.recs.length := ⟨_, rfl⟩
  rw [← hn9] at s9 ⊢
  have HN9 := Lib.hid hn9
  clear hn9
  obtain ⟨n4, hn10⟩ : ∃ n, n = m.seen.length := ⟨_, rfl⟩
  rw [← hn10] at s10 ⊢
  have HN10 := Lib.hid hn10
  clear hn10
  obtain ⟨n5, hn11⟩ : ∃ n, n = m.digs.length := ⟨_, rfl⟩
  rw [← hn11] at z5 ⊢
  have HN11 := Lib.hid hn11
  clear hn11
  have S7 := Lib.hid s7
  have S9 := Lib.hid s9
  have S10 := Lib.hid s10
  have Z2 := Lib.hid z2
  have Z5 := Lib.hid z5
  clear s7 s9 s10 z2 z5
  have q0 : (m.kind != m.kind) = false := bne_self_eq_false _
  have q1 : (m.fr != m.fr) = false := bne_self_eq_false _
  have q2 : (m.dst != m.dst) = false := bne_self_eq_false _
  have q3 : (m.id != m.id) = false := bne_self_eq_false _
  have q4 : (m.tg != m.tg) = false := bne_self_eq_false _
  have q5 : (m.rg != m.rg) = false := bne_self_eq_false _
  have q6 : (m.flag != m.flag) = false := bne_self_eq_false _
  have q8 : ((n2 : Int) != (n2 : Int)) = false := bne_self_eq_false _
  have q9 : ((n5 : Int) != (n5 : Int)) = false := bne_self_eq_false _
  go_enter Try.func14, Try.ntmps14
  go_upto_region 1 with (fail)
  have AX := Lib.hid (at_alloc (o := .cells #[.int .u8 m.kind, .int .u8 m.fr, .int .u8 m.dst, .int .u32 m.id, .int .u8 m.tg, .int .u8 m.rg, .bool m.flag, .slice B7 n1 h7, .slice B8 n2 h8, .slice B9 n3 h9, .slice B10 n4 h10, .slice B11 n5 h11] 29) (at_new w #[.int .u8 m.kind, .int .u8 m.fr, .int .u8 m.dst, .int .u32 m.id, .int .u8 m.tg, .int .u8 m.rg, .bool m.flag, .slice A7 n1 g7, .slice A8 n2 g8, .slice A9 n3 g9, .slice A10 n4 g10, .slice A11 n5 g11] 29))
  have AY := Lib.hid (at_new (w.alloc (.cells #[.int .u8 m.kind, .int .u8 m.fr, .int .u8 m.dst, .int .u32 m.id, .int .u8 m.tg, .int .u8 m.rg, .bool m.flag, .slice A7 n1 g7, .slice A8 n2 g8, .slice A9 n3 g9, .slice A10 n4 g10, .slice A11 n5 g11] 29)) #[.int .u8 m.kind, .int .u8 m.fr, .int .u8 m.dst, .int .u32 m.id, .int .u8 m.tg, .int .u8 m.rg, .bool m.flag, .slice B7 n1 h7, .slice B8 n2 h8, .slice B9 n3 h9, .slice B10 n4 h10, .slice B11 n5 h11] 29)
  rw [World.size_alloc] at AY
  have HB := Lib.hid (below_alloc (below_alloc (Below.refl w.heap.size w) (.cells #[.int .u8 m.kind, .int .u8 m.fr, .int .u8 m.dst, .int .u32 m.id, .int .u8 m.tg, .int .u8 m.rg, .bool m.flag, .slice A7 n1 g7, .slice A8 n2 g8, .slice A9 n3 g9, .slice A10 n4 g10, .slice A11 n5 g11] 29)) (.cells #[.int .u8 m.kind, .int .u8 m.fr, .int .u8 m.dst, .int .u32 m.id, .int .u8 m.tg, .int .u8 m.rg, .bool m.flag, .slice B7 n1 h7, .slice B8 n2 h8, .slice B9 n3 h9, .slice B10 n4 h10, .slice B11 n5 h11] 29))
  generalize (w.alloc (.cells #[.int .u8 m.kind, .int .u8 m.fr, .int .u8 m.dst, .int .u32 m.id, .int .u8 m.tg, .int .u8 m.rg, .bool m.flag, .slice A7 n1 g7, .slice A8 n2 g8, .slice A9 n3 g9, .slice A10 n4 g10, .slice A11 n5 g11] 29)).alloc (.cells #[.int .u8 m.kind, .int .u8 m.fr, .int .u8 m.dst, .int .u32 m.id, .int .u8 m.tg, .int .u8 m.rg, .bool m.flag, .slice B7 n1 h7, .slice B8 n2 h8, .slice B9 n3 h9, .slice B10 n4 h10, .slice B11 n5 h11] 29) = w1 at *
  have ex0 : w1.cell? ⟨w.heap.size, 0, none⟩ = some (.int .u8 m.kind) := AX.out.cell 0
  have ey0 : w1.cell? ⟨w.heap.size + 1, 0, none⟩ = some (.int .u8 m.kind) := AY.out.cell 0
  have ex1 : w1.cell? ⟨w.heap.size, 1, none⟩ = some (.int .u8 m.fr) := AX.out.cell 1
  have ey1 : w1.cell? ⟨w.heap.size + 1, 1, none⟩ = some (.int .u8 m.fr) := AY.out.cell 1
  have ex2 : w1.cell? ⟨w.heap.size, 2, none⟩ = some (.int .u8 m.dst) := AX.out.cell 2
  have ey2 : w1.cell? ⟨w.heap.size + 1, 2, none⟩ = some (.int .u8 m.dst) := AY.out.cell 2
  have ex3 : w1.cell? ⟨w.heap.size, 3, none⟩ = some (.int .u32 m.id) := AX.out.cell 3
  have ey3 : w1.cell? ⟨w.heap.size + 1, 3, none⟩ = some (.int .u32 m.id) := AY.out.cell 3
  have ex4 : w1.cell? ⟨w.heap.size, 4, none⟩ = some (.int .u8 m.tg) := AX.out.cell 4
  have ey4 : w1.cell? ⟨w.heap.size + 1, 4, none⟩ = some (.int .u8 m.tg) := AY.out.cell 4
  have ex5 : w1.cell? ⟨w.heap.size, 5, none⟩ = some (.int .u8 m.rg) := AX.out.cell 5
  have ey5 : w1.cell? ⟨w.heap.size + 1, 5, none⟩ = some (.int .u8 m.rg) := AY.out.cell 5
  have ex6 : w1.cell? ⟨w.heap.size, 6, none⟩ = some (.bool m.flag) := AX.out.cell 6
  have ey6 : w1.cell? ⟨w.heap.size + 1, 6, none⟩ = some (.bool m.flag) := AY.out.cell 6
  have ex7 : w1.cell? ⟨w.heap.size, 7, none⟩ = some (.slice A7 n1 g7) := AX.out.cell 7
  have ey7 : w1.cell? ⟨w.heap.size + 1, 7, none⟩ = some (.slice B7 n1 h7) := AY.out.cell 7
  have ex8 : w1.cell? ⟨w.heap.size, 8, none⟩ = some (.slice A8 n2 g8) := AX.out.cell 8
  have ey8 : w1.cell? ⟨w.heap.size + 1, 8, none⟩ = some (.slice B8 n2 h8) := AY.out.cell 8
  have ex9 : w1.cell? ⟨w.heap.size, 9, none⟩ = some (.slice A9 n3 g9) := AX.out.cell 9
  have ey9 : w1.cell? ⟨w.heap.size + 1, 9, none⟩ = some (.slice B9 n3 h9) := AY.out.cell 9
  have ex10 : w1.cell? ⟨w.heap.size, 10, none⟩ = some (.slice A10 n4 g10) := AX.out.cell 10
  have ey10 : w1.cell? ⟨w.heap.size + 1, 10, none⟩ = some (.slice B10 n4 h10) := AY.out.cell 10
  have ex11 : w1.cell? ⟨w.heap.size, 11, none⟩ = some (.slice A11 n5 g11) := AX.out.cell 11
  have ey11 : w1.cell? ⟨w.heap.size + 1, 11, none⟩ = some (.slice B11 n5 h11) := AY.out.cell 11
  go_wp2_with (fail)
  go_loopw [73] (fun v73 w' => ∃ (i : Nat) (y : Int), i ≤ n2 ∧ v73 = .int .i64 y ∧ Hid (y = (i : Int)) ∧ Hid (At w' w.heap.size #[.int .u8 m.kind, .int .u8 m.fr, .int .u8 m.dst, .int .u32 m.id, .int .u8 m.tg, .int .u8 m.rg, .bool m.flag, .slice A7 n1 g7, .slice A8 n2 g8, .slice A9 n3 g9, .slice A10 n4 g10, .slice A11 n5 g11] 29) ∧ Hid (At w' (w.heap.size + 1) #[.int .u8 m.kind, .int .u8 m.fr, .int .u8 m.dst, .int .u32 m.id, .int .u8 m.tg, .int .u8 m.rg, .bool m.flag, .slice B7 n1 h7, .slice B8 n2 h8, .slice B9 n3 h9, .slice B10 n4 h10, .slice B11 n5 h11] 29) ∧ Hid (Below w.heap.size w w')) (fun v _ => n2 - (intOf v).toNat)
  case atStart => exact ⟨0, 0, Nat.zero_le _, rfl, Lib.hid rfl, AX, AY, HB⟩
  case round =>
    clear AX AY HB
    obtain ⟨i, y, hi, rfl, HY, AX, AY, HB⟩ := hrel
    by_cases hlt : i < n2
    · have p157 : 0 ≤ y := by have := HY.out; omega
      have q157 : y < (n2 : Int) := by have := HY.out; omega
      have vj : IntKind.i64.wrap (y + 1) = y + 1 := IntWalk.i64_in _ ⟨by omega, by have := Z2.out; omega⟩
      obtain ⟨ad, e157, hx⟩ := Kd.at_string HR8.out y p157 (by rw [← HN8.out]; exact q157)
      cases e157
      obtain ⟨bd, e158, hy⟩ := Kd.at_string HQ8.out y p157 (by rw [← HN8.out]; exact q157)
      cases e158
      replace hx := (HB.out.cell (World.block_lt_of_cell? w _ hx)).trans hx
      replace hy := (HB.out.cell (World.block_lt_of_cell? w _ hy)).trans hy
      generalize rdOf ByteArray.empty m.keys y = x at *
      have hq0 : (0 ≤ y) = True := eq_true p157
      have hq1 : (y < (n2 : Int)) = True := eq_true q157
      go_wp2_with (fail)
      refine start_ (n := 11) (S := fun w' => w'.cell? ⟨w.heap.size, 8, none⟩ = some (.slice (some ad) n2 g8) ∧ w'.cell? ⟨w.heap.size + 1, 8, none⟩ = some (.slice (some bd) n2 h8) ∧ w'.cell? (ad.add y.toNat) = some (.string x) ∧ w'.cell? (bd.add y.toNat) = some (.string x)) (ds := []) #[false, false, false, false, false, false, false, false, false, false, false] (by kernel_rfl) rfl rfl ⟨AX.out.cell 8, AY.out.cell 8, hx, hy⟩ (fun hHeld => ?_)
      replace AX := Lib.hid (at_drew AX.out)
      replace AY := Lib.hid (at_drew AY.out)
      replace HB := Lib.hid (below_drew HB.out)
      generalize wr.drew = w5 at AX AY HB hHeld ⊢
      refine pure_ (i := 0) (N := some 76) (v := ?_) (a' := ?_) #[true, false, false, false, false, false, false, false, false, false, false] rfl rfl (by kernel_rfl) (fun _ _ _ h => h) (Or.inl ⟨by rfl, ?_⟩) ?_ ?_
      rotate_left
      · intro w'
        go_simp
        with_reducible rfl
      rotate_left
      · simp only [Act.put, List.setIfInBounds_toArray, List.set_cons_zero, List.set_cons_succ, i64_w, i32_w]
        rfl
      refine pure_ (i := 2) (N := some 78) (v := ?_) (a' := ?_) #[true, false, true, false, false, false, false, false, false, false, false] rfl rfl (by kernel_rfl) (fun _ _ _ h => h) (Or.inl ⟨by rfl, ?_⟩) ?_ ?_
      rotate_left
      · intro w'
        go_simp
        with_reducible rfl
      rotate_left
      · simp only [Act.put, List.setIfInBounds_toArray, List.set_cons_zero, List.set_cons_succ, i64_w, i32_w]
        rfl
      refine pure_ (i := 5) (N := some 81) (v := ?_) (a' := ?_) #[true, false, true, false, false, true, false, false, false, false, false] rfl rfl (by kernel_rfl) (fun _ _ _ h => h) (Or.inl ⟨by rfl, ?_⟩) ?_ ?_
      rotate_left
      · intro w'
        go_simp
        with_reducible rfl
      rotate_left
      · simp only [Act.put, List.setIfInBounds_toArray, List.set_cons_zero, List.set_cons_succ, i64_w, i32_w]
        rfl
      refine pure_ (i := 7) (N := some 83) (v := ?_) (a' := ?_) #[true, false, true, false, false, true, false, true, false, false, false] rfl rfl (by kernel_rfl) (fun _ _ _ h => h) (Or.inl ⟨by rfl, ?_⟩) ?_ ?_
      rotate_left
      · intro w'
        go_simp
        with_reducible rfl
      rotate_left
      · simp only [Act.put, List.setIfInBounds_toArray, List.set_cons_zero, List.set_cons_succ, i64_w, i32_w]
        rfl
      refine take_ (i := 1) (N := some 77) (v := ?_) (a' := ?_) #[true, true, true, false, false, true, false, true, false, false, false] rfl rfl (by kernel_rfl) (fun _ _ _ h => h) (Or.inl ⟨by rfl, ?_⟩) hHeld ?_ ?_
      rotate_left
      · rintro w' ⟨s0, s1, s2, s3⟩
        go_simp
        with_reducible rfl
      rotate_left
      · simp only [Act.put, List.setIfInBounds_toArray, List.set_cons_zero, List.set_cons_succ, i64_w, i32_w]
        rfl
      refine pure_ (i := 3) (N := some 79) (v := ?_) (a' := ?_) #[true, true, true, true, false, true, false, true, false, false, false] rfl rfl (by kernel_rfl) (fun _ _ _ h => h) (Or.inl ⟨by rfl, ?_⟩) ?_ ?_
      rotate_left
      · intro w'
        go_simp
        with_reducible rfl
      rotate_left
      · simp only [Act.put, List.setIfInBounds_toArray, List.set_cons_zero, List.set_cons_succ, i64_w, i32_w]
        rfl
      refine take_ (i := 4) (N := some 80) (v := ?_) (a' := ?_) #[true, true, true, true, true, true, false, true, false, false, false] rfl rfl (by kernel_rfl) (fun _ _ _ h => h) (Or.inl ⟨by rfl, ?_⟩) hHeld ?_ ?_
      rotate_left
      · rintro w' ⟨s0, s1, s2, s3⟩
        go_simp
        with_reducible rfl
      rotate_left
      · simp only [Act.put, List.setIfInBounds_toArray, List.set_cons_zero, List.set_cons_succ, i64_w, i32_w]
        rfl
      refine take_ (i := 6) (N := some 82) (v := ?_) (a' := ?_) #[true, true, true, true, true, true, true, true, false, false, false] rfl rfl (by kernel_rfl) (fun _ _ _ h => h) (Or.inl ⟨by rfl, ?_⟩) hHeld ?_ ?_
      rotate_left
      · rintro w' ⟨s0, s1, s2, s3⟩
        go_simp
        with_reducible rfl
      rotate_left
      · simp only [Act.put, List.setIfInBounds_toArray, List.set_cons_zero, List.set_cons_succ, i64_w, i32_w]
        rfl
      refine pure_ (i := 8) (N := some 84) (v := ?_) (a' := ?_) #[true, true, true, true, true, true, true, true, true, false, false] rfl rfl (by kernel_rfl) (fun _ _ _ h => h) (Or.inl ⟨by rfl, ?_⟩) ?_ ?_
      rotate_left
      · intro w'
        go_simp
        with_reducible rfl
      rotate_left
      · simp only [Act.put, List.setIfInBounds_toArray, List.set_cons_zero, List.set_cons_succ, i64_w, i32_w]
        rfl
      refine take_ (i := 9) (N := some 85) (v := ?_) (a' := ?_) #[true, true, true, true, true, true, true, true, true, true, false] rfl rfl (by kernel_rfl) (fun _ _ _ h => h) (Or.inl ⟨by rfl, ?_⟩) hHeld ?_ ?_
      rotate_left
      · rintro w' ⟨s0, s1, s2, s3⟩
        go_simp
        with_reducible rfl
      rotate_left
      · simp only [Act.put, List.setIfInBounds_toArray, List.set_cons_zero, List.set_cons_succ, i64_w, i32_w]
        rfl
      refine pure_ (i := 10) (N := some 86) (v := ?_) (a' := ?_) #[true, true, true, true, true, true, true, true, true, true, true] rfl rfl (by kernel_rfl) (fun _ _ _ h => h) (Or.inl ⟨by rfl, ?_⟩) ?_ ?_
      rotate_left
      · intro w'
        go_simp
        with_reducible rfl
      rotate_left
      · simp only [Act.put, List.setIfInBounds_toArray, List.set_cons_zero, List.set_cons_succ, i64_w, i32_w]
        rfl
      refine done_ (by kernel_rfl) ?_
      go_wp2_with (fail)
      exact ⟨⟨i + 1, y + 1, by omega, rfl, Lib.hid (by have := HY.out; omega), AX, AY, HB⟩, by have := HY.out; simp [intOf]; omega⟩
    · have hie : i = n2 := by omega
      have hq2 : decide (y < (n2 : Int)) = false := decide_eq_false (by have := HY.out; omega)
      clear hie hi hlt HY
      have eu11 : wr.cell? ⟨w.heap.size, 11, none⟩ = some (.slice A11 n5 g11) := AX.out.cell 11
      have ev11 : wr.cell? ⟨w.heap.size + 1, 11, none⟩ = some (.slice B11 n5 h11) := AY.out.cell 11
      go_wp2_with (fail)
      clear eu11 ev11
      go_loopw [91] (fun v91 w' => ∃ (i : Nat) (y : Int), i ≤ n5 ∧ v91 = .int .i64 y ∧ Hid (y = (i : Int)) ∧ Hid (At w' w.heap.size #[.int .u8 m.kind, .int .u8 m.fr, .int .u8 m.dst, .int .u32 m.id, .int .u8 m.tg, .int .u8 m.rg, .bool m.flag, .slice A7 n1 g7, .slice A8 n2 g8, .slice A9 n3 g9, .slice A10 n4 g10, .slice A11 n5 g11] 29) ∧ Hid (At w' (w.heap.size + 1) #[.int .u8 m.kind, .int .u8 m.fr, .int .u8 m.dst, .int .u32 m.id, .int .u8 m.tg, .int .u8 m.rg, .bool m.flag, .slice B7 n1 h7, .slice B8 n2 h8, .slice B9 n3 h9, .slice B10 n4 h10, .slice B11 n5 h11] 29) ∧ Hid (Below w.heap.size w w')) (fun v _ => n5 - (intOf v).toNat)
      case atStart => exact ⟨0, 0, Nat.zero_le _, rfl, Lib.hid rfl, AX, AY, HB⟩
      case round =>
        clear AX AY HB
        obtain ⟨i, y, hi, rfl, HY, AX, AY, HB⟩ := hrel
        by_cases hlt : i < n5
        · have p157 : 0 ≤ y := by have := HY.out; omega
          have q157 : y < (n5 : Int) := by have := HY.out; omega
          have vj : IntKind.i64.wrap (y + 1) = y + 1 := IntWalk.i64_in _ ⟨by omega, by have := Z5.out; omega⟩
          obtain ⟨ad, e157, hx⟩ := Kd.at_int HR11.out y p157 (by rw [← HN11.out]; exact q157)
          cases e157
          obtain ⟨bd, e158, hy⟩ := Kd.at_int HQ11.out y p157 (by rw [← HN11.out]; exact q157)
          cases e158
          replace hx := (HB.out.cell (World.block_lt_of_cell? w _ hx)).trans hx
          replace hy := (HB.out.cell (World.block_lt_of_cell? w _ hy)).trans hy
          generalize rd m.digs y = x at *
          have hq0 : (0 ≤ y) = True := eq_true p157
          have hq1 : (y < (n5 : Int)) = True := eq_true q157
          go_wp2_with (fail)
          refine start_ (n := 11) (S := fun w' => w'.cell? ⟨w.heap.size, 11, none⟩ = some (.slice (some ad) n5 g11) ∧ w'.cell? ⟨w.heap.size + 1, 11, none⟩ = some (.slice (some bd) n5 h11) ∧ w'.cell? (ad.add y.toNat) = some (.int .u64 x) ∧ w'.cell? (bd.add y.toNat) = some (.int .u64 x)) (ds := []) #[false, false, false, false, false, false, false, false, false, false, false] (by kernel_rfl) rfl rfl ⟨AX.out.cell 11, AY.out.cell 11, hx, hy⟩ (fun hHeld => ?_)
          replace AX := Lib.hid (at_drew AX.out)
          replace AY := Lib.hid (at_drew AY.out)
          replace HB := Lib.hid (below_drew HB.out)
          generalize wr.drew = w5 at AX AY HB hHeld ⊢
          refine pure_ (i := 0) (N := some 94) (v := ?_) (a' := ?_) #[true, false, false, false, false, false, false, false, false, false, false] rfl rfl (by kernel_rfl) (fun _ _ _ h => h) (Or.inl ⟨by rfl, ?_⟩) ?_ ?_
          rotate_left
          · intro w'
            go_simp
            with_reducible rfl
          rotate_left
          · simp only [Act.put, List.setIfInBounds_toArray, List.set_cons_zero, List.set_cons_succ, i64_w, i32_w]
            rfl
          refine pure_ (i := 2) (N := some 96) (v := ?_) (a' := ?_) #[true, false, true, false, false, false, false, false, false, false, false] rfl rfl (by kernel_rfl) (fun _ _ _ h => h) (Or.inl ⟨by rfl, ?_⟩) ?_ ?_
          rotate_left
          · intro w'
            go_simp
            with_reducible rfl
          rotate_left
          · simp only [Act.put, List.setIfInBounds_toArray, List.set_cons_zero, List.set_cons_succ, i64_w, i32_w]
            rfl
          refine pure_ (i := 5) (N := some 99) (v := ?_) (a' := ?_) #[true, false, true, false, false, true, false, false, false, false, false] rfl rfl (by kernel_rfl) (fun _ _ _ h => h) (Or.inl ⟨by rfl, ?_⟩) ?_ ?_
          rotate_left
          · intro w'
            go_simp
            with_reducible rfl
          rotate_left
          · simp only [Act.put, List.setIfInBounds_toArray, List.set_cons_zero, List.set_cons_succ, i64_w, i32_w]
            rfl
          refine pure_ (i := 7) (N := some 101) (v := ?_) (a' := ?_) #[true, false, true, false, false, true, false, true, false, false, false] rfl rfl (by kernel_rfl) (fun _ _ _ h => h) (Or.inl ⟨by rfl, ?_⟩) ?_ ?_
          rotate_left
          · intro w'
            go_simp
            with_reducible rfl
          rotate_left
          · simp only [Act.put, List.setIfInBounds_toArray, List.set_cons_zero, List.set_cons_succ, i64_w, i32_w]
            rfl
          refine take_ (i := 1) (N := some 95) (v := ?_) (a' := ?_) #[true, true, true, false, false, true, false, true, false, false, false] rfl rfl (by kernel_rfl) (fun _ _ _ h => h) (Or.inl ⟨by rfl, ?_⟩) hHeld ?_ ?_
          rotate_left
          · rintro w' ⟨s0, s1, s2, s3⟩
            go_simp
            with_reducible rfl
          rotate_left
          · simp only [Act.put, List.setIfInBounds_toArray, List.set_cons_zero, List.set_cons_succ, i64_w, i32_w]
            rfl
          refine pure_ (i := 3) (N := some 97) (v := ?_) (a' := ?_) #[true, true, true, true, false, true, false, true, false, false, false] rfl rfl (by kernel_rfl) (fun _ _ _ h => h) (Or.inl ⟨by rfl, ?_⟩) ?_ ?_
          rotate_left
          · intro w'
            go_simp
            with_reducible rfl
          rotate_left
          · simp only [Act.put, List.setIfInBounds_toArray, List.set_cons_zero, List.set_cons_succ, i64_w, i32_w]
            rfl
          refine take_ (i := 4) (N := some 98) (v := ?_) (a' := ?_) #[true, true, true, true, true, true, false, true, false, false, false] rfl rfl (by kernel_rfl) (fun _ _ _ h => h) (Or.inl ⟨by rfl, ?_⟩) hHeld ?_ ?_
          rotate_left
          · rintro w' ⟨s0, s1, s2, s3⟩
            go_simp
            with_reducible rfl
          rotate_left
          · simp only [Act.put, List.setIfInBounds_toArray, List.set_cons_zero, List.set_cons_succ, i64_w, i32_w]
            rfl
          refine take_ (i := 6) (N := some 100) (v := ?_) (a' := ?_) #[true, true, true, true, true, true, true, true, false, false, false] rfl rfl (by kernel_rfl) (fun _ _ _ h => h) (Or.inl ⟨by rfl, ?_⟩) hHeld ?_ ?_
          rotate_left
          · rintro w' ⟨s0, s1, s2, s3⟩
            go_simp
            with_reducible rfl
          rotate_left
          · simp only [Act.put, List.setIfInBounds_toArray, List.set_cons_zero, List.set_cons_succ, i64_w, i32_w]
            rfl
          refine pure_ (i := 8) (N := some 102) (v := ?_) (a' := ?_) #[true, true, true, true, true, true, true, true, true, false, false] rfl rfl (by kernel_rfl) (fun _ _ _ h => h) (Or.inl ⟨by rfl, ?_⟩) ?_ ?_
          rotate_left
          · intro w'
            go_simp
            with_reducible rfl
          rotate_left
          · simp only [Act.put, List.setIfInBounds_toArray, List.set_cons_zero, List.set_cons_succ, i64_w, i32_w]
            rfl
          refine take_ (i := 9) (N := some 103) (v := ?_) (a' := ?_) #[true, true, true, true, true, true, true, true, true, true, false] rfl rfl (by kernel_rfl) (fun _ _ _ h => h) (Or.inl ⟨by rfl, ?_⟩) hHeld ?_ ?_
          rotate_left
          · rintro w' ⟨s0, s1, s2, s3⟩
            go_simp
            with_reducible rfl
          rotate_left
          · simp only [Act.put, List.setIfInBounds_toArray, List.set_cons_zero, List.set_cons_succ, i64_w, i32_w]
            rfl
          refine pure_ (i := 10) (N := some 104) (v := ?_) (a' := ?_) #[true, true, true, true, true, true, true, true, true, true, true] rfl rfl (by kernel_rfl) (fun _ _ _ h => h) (Or.inl ⟨by rfl, ?_⟩) ?_ ?_
          rotate_left
          · intro w'
            go_simp
            with_reducible rfl
          rotate_left
          · simp only [Act.put, List.setIfInBounds_toArray, List.set_cons_zero, List.set_cons_succ, i64_w, i32_w]
            rfl
          refine done_ (by kernel_rfl) ?_
          go_wp2_with (fail)
          exact ⟨⟨i + 1, y + 1, by omega, rfl, Lib.hid (by have := HY.out; omega), AX, AY, HB⟩, by have := HY.out; simp [intOf]; omega⟩
        · have hie : i = n5 := by omega
          have hq2 : decide (y < (n5 : Int)) = false := decide_eq_false (by have := HY.out; omega)
          clear hie hi hlt HY
          have eu7 : wr.cell? ⟨w.heap.size, 7, none⟩ = some (.slice A7 n1 g7) := AX.out.cell 7
          have ev7 : wr.cell? ⟨w.heap.size + 1, 7, none⟩ = some (.slice B7 n1 h7) := AY.out.cell 7
          go_wp2_with (first
            | (go_at_call 46; (with_reducible refine (S7.out _ HB.out).mono ?_); rintro e w6 ⟨rfl, hb⟩; have AX6 := Lib.hid (at_below AX.out hb); have AY6 := Lib.hid (at_below AY.out hb); have HB6 := Lib.hid (below_step HB.out hb); clear hb AX AY HB; have eu9 : w6.cell? ⟨w.heap.size, 9, none⟩ = some (.slice A9 n3 g9) := AX6.out.cell 9; have ev9 : w6.cell? ⟨w.heap.size + 1, 9, none⟩ = some (.slice B9 n3 h9) := AY6.out.cell 9)
            | (go_at_call 47; (with_reducible refine (S9.out _ HB6.out).mono ?_); rintro e w7 ⟨rfl, hb⟩; have AX7 := Lib.hid (at_below AX6.out hb); have AY7 := Lib.hid (at_below AY6.out hb); have HB7 := Lib.hid (below_step HB6.out hb); clear hb AX6 AY6 HB6; have eu10 : w7.cell? ⟨w.heap.size, 10, none⟩ = some (.slice A10 n4 g10) := AX7.out.cell 10; have ev10 : w7.cell? ⟨w.heap.size + 1, 10, none⟩ = some (.slice B10 n4 h10) := AY7.out.cell 10)
            | (go_at_call 48; (with_reducible refine (S10.out _ HB7.out).mono ?_); rintro e w8 ⟨rfl, hb⟩; have HB8 := Lib.hid (below_step HB7.out hb); clear hb HB7))
          go_ret
          exact ⟨rfl, HB8.out⟩
set_option maxRecDepth 100000 in
set_option maxHeartbeats 2000000 in
theorem pack_nil (i0 i1 i2 i3 i4 i5 : Int) (b6 : Bool) (k7 k8 k9 k10 k11 : Nat) (A7 : Option Addr) (g7 : Nat) (A8 : Option Addr) (g8 : Nat) (A9 : Option Addr) (g9 : Nat) (A10 : Option Addr) (g10 : Nat) (A11 : Option Addr) (g11 : Nat) (w : World) : Calls Try.prog 10 #[.pointer none, .agg #[.int .u8 i0, .int .u8 i1, .int .u8 i2, .int .u32 i3, .int .u8 i4, .int .u8 i5, .bool b6, .slice A7 k7 g7, .slice A8 k8 g8, .slice A9 k9 g9, .slice A10 k10 g10, .slice A11 k11 g11]] w fun e w' => e = .returned (.tuple #[.string ⟨#[]⟩, .int .i64 1]) ∧ Below w.heap.size w w' := by
  go_enter Try.func10, Try.ntmps10
  go_upto_region 1 with (fail)
  have HB := Lib.hid (below_alloc (Below.refl w.heap.size w) (.cells #[.int .u8 i0, .int .u8 i1, .int .u8 i2, .int .u32 i3, .int .u8 i4, .int .u8 i5, .bool b6, .slice A7 k7 g7, .slice A8 k8 g8, .slice A9 k9 g9, .slice A10 k10 g10, .slice A11 k11 g11] 29))
  generalize w.alloc (.cells #[.int .u8 i0, .int .u8 i1, .int .u8 i2, .int .u32 i3, .int .u8 i4, .int .u8 i5, .bool b6, .slice A7 k7 g7, .slice A8 k8 g8, .slice A9 k9 g9, .slice A10 k10 g10, .slice A11 k11 g11] 29) = w1 at *
  go_wp2_with (fail)
  go_ret2
  exact ⟨rfl, HB.out⟩
set_option maxRecDepth 100000 in
set_option maxHeartbeats 2000000 in
theorem unpack_nil (S : ByteArray) (w : World) : Calls Try.prog 12 #[.pointer none, .string S] w fun e w' => e = .returned (.tuple #[.agg #[.int .u8 0, .int .u8 0, .int .u8 0, .int .u32 0, .int .u8 0, .int .u8 0, .bool false, .slice none 0 0, .slice none 0 0, .slice none 0 0, .slice none 0 0, .slice none 0 0], .int .i64 1]) ∧ Below w.heap.size w w' := by
  go_enter_defers Try.func12, Try.ntmps12
  go_upto_region 2 with (fail)
  have AZ := Lib.hid (at_alloc (o := .cells #[.int .i64 0] 32) (at_new w #[.int .u8 0, .int .u8 0, .int .u8 0, .int .u32 0, .int .u8 0, .int .u8 0, .bool false, .slice none 0 0, .slice none 0 0, .slice none 0 0, .slice none 0 0, .slice none 0 0] 29))
  have AE := Lib.hid (at_new (w.alloc (.cells #[.int .u8 0, .int .u8 0, .int .u8 0, .int .u32 0, .int .u8 0, .int .u8 0, .bool false, .slice none 0 0, .slice none 0 0, .slice none 0 0, .slice none 0 0, .slice none 0 0] 29)) #[.int .i64 0] 32)
  rw [World.size_alloc] at AE
  have HB := Lib.hid (below_alloc (below_alloc (Below.refl w.heap.size w) (.cells #[.int .u8 0, .int .u8 0, .int .u8 0, .int .u32 0, .int .u8 0, .int .u8 0, .bool false, .slice none 0 0, .slice none 0 0, .slice none 0 0, .slice none 0 0, .slice none 0 0] 29)) (.cells #[.int .i64 0] 32))
  generalize (w.alloc (.cells #[.int .u8 0, .int .u8 0, .int .u8 0, .int .u32 0, .int .u8 0, .int .u8 0, .bool false, .slice none 0 0, .slice none 0 0, .slice none 0 0, .slice none 0 0, .slice none 0 0] 29)).alloc (.cells #[.int .i64 0] 32) = w1 at *
  have ee0 : w1.cell? ⟨w.heap.size, 0, none⟩ = some (.int .u8 0) := AZ.out.cell 0
  have ff0 : w1.frozen? ⟨w.heap.size, 0, none⟩ = false := AZ.out.free 0
  have ee1 : w1.cell? ⟨w.heap.size, 1, none⟩ = some (.int .u8 0) := AZ.out.cell 1
  have ff1 : w1.frozen? ⟨w.heap.size, 1, none⟩ = false := AZ.out.free 1
  have ee2 : w1.cell? ⟨w.heap.size, 2, none⟩ = some (.int .u8 0) := AZ.out.cell 2
  have ff2 : w1.frozen? ⟨w.heap.size, 2, none⟩ = false := AZ.out.free 2
  have ee3 : w1.cell? ⟨w.heap.size, 3, none⟩ = some (.int .u32 0) := AZ.out.cell 3
  have ff3 : w1.frozen? ⟨w.heap.size, 3, none⟩ = false := AZ.out.free 3
  have ee4 : w1.cell? ⟨w.heap.size, 4, none⟩ = some (.int .u8 0) := AZ.out.cell 4
  have ff4 : w1.frozen? ⟨w.heap.size, 4, none⟩ = false := AZ.out.free 4
  have ee5 : w1.cell? ⟨w.heap.size, 5, none⟩ = some (.int .u8 0) := AZ.out.cell 5
  have ff5 : w1.frozen? ⟨w.heap.size, 5, none⟩ = false := AZ.out.free 5
  have ee6 : w1.cell? ⟨w.heap.size, 6, none⟩ = some (.bool false) := AZ.out.cell 6
  have ff6 : w1.frozen? ⟨w.heap.size, 6, none⟩ = false := AZ.out.free 6
  have ee7 : w1.cell? ⟨w.heap.size, 7, none⟩ = some (.slice none 0 0) := AZ.out.cell 7
  have ff7 : w1.frozen? ⟨w.heap.size, 7, none⟩ = false := AZ.out.free 7
  have ee8 : w1.cell? ⟨w.heap.size, 8, none⟩ = some (.slice none 0 0) := AZ.out.cell 8
  have ff8 : w1.frozen? ⟨w.heap.size, 8, none⟩ = false := AZ.out.free 8
  have ee9 : w1.cell? ⟨w.heap.size, 9, none⟩ = some (.slice none 0 0) := AZ.out.cell 9
  have ff9 : w1.frozen? ⟨w.heap.size, 9, none⟩ = false := AZ.out.free 9
  have ee10 : w1.cell? ⟨w.heap.size, 10, none⟩ = some (.slice none 0 0) := AZ.out.cell 10
  have ff10 : w1.frozen? ⟨w.heap.size, 10, none⟩ = false := AZ.out.free 10
  have ee11 : w1.cell? ⟨w.heap.size, 11, none⟩ = some (.slice none 0 0) := AZ.out.cell 11
  have ff11 : w1.frozen? ⟨w.heap.size, 11, none⟩ = false := AZ.out.free 11
  apply wp_region
  show wpOps _ _ _ [0, 1, 2] _ _
  refine step_ (i := 0) rfl ?_
  refine value_ (N := some 10) (w1 := ?_) (v := ?_) (by rfl) rfl ?_ ?_
  rotate_left 2
  · go_simp
    constructor
    · rfl
    · rfl
  simp only [Act.put, List.setIfInBounds_toArray, List.set_cons_zero, List.set_cons_succ]
  refine step_ (i := 1) rfl ?_
  refine skip_ (w1 := ?_) (by rfl) rfl ?_ ?_
  rotate_left
  · go_simp
    rfl
  have AZ2 := Lib.hid (show At (((((((((((((w1.setCell ⟨w.heap.size, 0, none⟩ (.int .u8 0)).setCell ⟨w.heap.size, 1, none⟩ (.int .u8 0)).setCell ⟨w.heap.size, 2, none⟩ (.int .u8 0)).setCell ⟨w.heap.size, 3, none⟩ (.int .u32 0)).setCell ⟨w.heap.size, 4, none⟩ (.int .u8 0)).setCell ⟨w.heap.size, 5, none⟩ (.int .u8 0)).setCell ⟨w.heap.size, 6, none⟩ (.bool false)).setCell ⟨w.heap.size, 7, none⟩ (.slice none 0 0)).setCell ⟨w.heap.size, 8, none⟩ (.slice none 0 0)).setCell ⟨w.heap.size, 9, none⟩ (.slice none 0 0)).setCell ⟨w.heap.size, 10, none⟩ (.slice none 0 0)).setCell ⟨w.heap.size, 11, none⟩ (.slice none 0 0))) w.heap.size #[.int .u8 0, .int .u8 0, .int .u8 0, .int .u32 0, .int .u8 0, .int .u8 0, .bool false, .slice none 0 0, .slice none 0 0, .slice none 0 0, .slice none 0 0, .slice none 0 0] 29 from at_set12 AZ.out)
  have AE2 := Lib.hid (show At (((((((((((((w1.setCell ⟨w.heap.size, 0, none⟩ (.int .u8 0)).setCell ⟨w.heap.size, 1, none⟩ (.int .u8 0)).setCell ⟨w.heap.size, 2, none⟩ (.int .u8 0)).setCell ⟨w.heap.size, 3, none⟩ (.int .u32 0)).setCell ⟨w.heap.size, 4, none⟩ (.int .u8 0)).setCell ⟨w.heap.size, 5, none⟩ (.int .u8 0)).setCell ⟨w.heap.size, 6, none⟩ (.bool false)).setCell ⟨w.heap.size, 7, none⟩ (.slice none 0 0)).setCell ⟨w.heap.size, 8, none⟩ (.slice none 0 0)).setCell ⟨w.heap.size, 9, none⟩ (.slice none 0 0)).setCell ⟨w.heap.size, 10, none⟩ (.slice none 0 0)).setCell ⟨w.heap.size, 11, none⟩ (.slice none 0 0))) (w.heap.size + 1) #[.int .i64 0] 32 from at_set12_ne AE.out (by omega))
  have HB2 := Lib.hid (show Below w.heap.size w (((((((((((((w1.setCell ⟨w.heap.size, 0, none⟩ (.int .u8 0)).setCell ⟨w.heap.size, 1, none⟩ (.int .u8 0)).setCell ⟨w.heap.size, 2, none⟩ (.int .u8 0)).setCell ⟨w.heap.size, 3, none⟩ (.int .u32 0)).setCell ⟨w.heap.size, 4, none⟩ (.int .u8 0)).setCell ⟨w.heap.size, 5, none⟩ (.int .u8 0)).setCell ⟨w.heap.size, 6, none⟩ (.bool false)).setCell ⟨w.heap.size, 7, none⟩ (.slice none 0 0)).setCell ⟨w.heap.size, 8, none⟩ (.slice none 0 0)).setCell ⟨w.heap.size, 9, none⟩ (.slice none 0 0)).setCell ⟨w.heap.size, 10, none⟩ (.slice none 0 0)).setCell ⟨w.heap.size, 11, none⟩ (.slice none 0 0))) from below_set12 HB.out (Nat.le_refl _))
  clear AZ AE HB ee0 ff0 ee1 ff1 ee2 ff2 ee3 ff3 ee4 ff4 ee5 ff5 ee6 ff6 ee7 ff7 ee8 ff8 ee9 ff9 ee10 ff10 ee11 ff11
  generalize ((((((((((((w1.setCell ⟨w.heap.size, 0, none⟩ (.int .u8 0)).setCell ⟨w.heap.size, 1, none⟩ (.int .u8 0)).setCell ⟨w.heap.size, 2, none⟩ (.int .u8 0)).setCell ⟨w.heap.size, 3, none⟩ (.int .u32 0)).setCell ⟨w.heap.size, 4, none⟩ (.int .u8 0)).setCell ⟨w.heap.size, 5, none⟩ (.int .u8 0)).setCell ⟨w.heap.size, 6, none⟩ (.bool false)).setCell ⟨w.heap.size, 7, none⟩ (.slice none 0 0)).setCell ⟨w.heap.size, 8, none⟩ (.slice none 0 0)).setCell ⟨w.heap.size, 9, none⟩ (.slice none 0 0)).setCell ⟨w.heap.size, 10, none⟩ (.slice none 0 0)).setCell ⟨w.heap.size, 11, none⟩ (.slice none 0 0)) = w3 at *
  have ei : w3.cell? ⟨w.heap.size + 1, 0, none⟩ = some (.int .i64 0) := AE2.out.cell 0
  have fi : w3.frozen? ⟨w.heap.size + 1, 0, none⟩ = false := AE2.out.free 0
  refine step_ (i := 2) rfl ?_
  refine skip_ (w1 := ?_) (by rfl) rfl ?_ ?_
  rotate_left
  · go_simp
    rfl
  have AZ3 := Lib.hid (at_set_ne (b' := w.heap.size + 1) (i := 0) (v := .int .i64 1) AZ2.out (by omega))
  have AE3 := Lib.hid (show At (w3.setCell ⟨w.heap.size + 1, 0, none⟩ (.int .i64 1)) (w.heap.size + 1) #[.int .i64 1] 32 from at_set' AE2.out rfl)
  have HB3 := Lib.hid (below_new (i := 0) (v := .int .i64 1) HB2.out (show w.heap.size ≤ w.heap.size + 1 from by omega))
  clear AZ2 AE2 HB2 ei fi
  generalize w3.setCell ⟨w.heap.size + 1, 0, none⟩ (.int .i64 1) = w4 at *
  rw [wpOps]
  go_wp2_with (fail)
  exact ⟨_, results_un _ w.heap.size (w.heap.size + 1) _ _ _ _ _ _ _ _ _ _ _ _ _ _ rfl rfl AZ3.out AE3.out, rfl, HB3.out⟩

end Go.Proofs.Ytdjompbhlkgmbaa.Msg
end
section
/- The reader's key (own text; written by wip/tools/gen_msgkey.py). -/
namespace Go.Proofs.Ytdjompbhlkgmbaa.Msg
open Go.RowKit Go.Proofs.Ytdjompbhlkgmbaa.Mem Go.Proofs.YtdjompbhlkgmbaaW.PrintWords Go.Proofs.YtdjompbhlkgmbaaW.PrintLast Go.Proofs.YtdjompbhlkgmbaaW.PrintMore
set_option linter.unusedVariables false
set_option linter.unusedSimpArgs false
set_option maxRecDepth 100000 in
set_option maxHeartbeats 4000000 in
theorem rkey_ok (zr : Nat) (s : ByteArray) (a : Int) (t : ByteArray) (nx er : Int) (w : World) (hA : At w zr #[.string s, .int .i64 a] 89) (hs : s.size ≤ 900000) (hg : Num.textS s a 250 = (t, nx, er)) (h0 : er = 0) (hz : t.size ≤ 1000000) (h1 : Rec.keyMay t = true) :
    Calls Try.prog 33 #[.pointer (some ⟨zr, 0, none⟩)] w fun e w' => e = .returned (.string t) ∧ At w' zr #[.string s, .int .i64 nx] 89 ∧ Chg (fun x => x = zr) w w' := by
  have hgt := fun W => Num.getText_any s a 250 W (by unfold maxLen; omega) (by omega)
  rw [hg] at hgt
  have GT := Lib.hid (show ∀ W : World, Calls Try.prog 74 #[.string s, .int .i64 a, .int .i64 250] W fun e w' => e = .returned (.tuple #[.string t, .int .i64 nx, .int .i64 er]) ∧ Below W.heap.size W w' from hgt)
  have HA := Lib.hid hA
  subst h0
  have hkm := fun W => Rec.key_any t W hz
  rw [h1] at hkm
  have KM := Lib.hid hkm
  clear hkm hz h1
  clear hgt hg hs hA
  go_enter Try.func33, Try.ntmps33
  go_wp2_with (fail)
  refine start_ (n := 16) (S := fun w' => w'.cell? ⟨zr, 0, none⟩ = some (.string s) ∧ w'.cell? ⟨zr, 1, none⟩ = some (.int .i64 a)) (ds := []) #[false, false, false, false, false, false, false, false, false, false, false, false, false, false, false, false] (by kernel_rfl) rfl rfl ⟨HA.out.cell 0, HA.out.cell 1⟩ (fun hHeld => ?_)
  replace HA := Lib.hid (at_drew HA.out)
  have HB := Lib.hid (below_drew (Below.refl w.heap.size w))
  generalize w.drew = w3 at HA HB hHeld ⊢
  refine pure_ (i := 0) (N := some 7) (v := ?_) (a' := ?_) #[true, false, false, false, false, false, false, false, false, false, false, false, false, false, false, false] rfl rfl (by kernel_rfl) (fun _ _ _ h => h) (Or.inl ⟨by rfl, ?_⟩) ?_ ?_
  rotate_left
  · intro w'
    go_simp
    with_reducible rfl
  rotate_left
  · simp only [Act.put, List.setIfInBounds_toArray, List.set_cons_zero, List.set_cons_succ, i64_w, i32_w]
    rfl
  refine pure_ (i := 1) (N := some 8) (v := ?_) (a' := ?_) #[true, true, false, false, false, false, false, false, false, false, false, false, false, false, false, false] rfl rfl (by kernel_rfl) (fun _ _ _ h => h) (Or.inl ⟨by rfl, ?_⟩) ?_ ?_
  rotate_left
  · intro w'
    go_simp
    with_reducible rfl
  rotate_left
  · simp only [Act.put, List.setIfInBounds_toArray, List.set_cons_zero, List.set_cons_succ, i64_w, i32_w]
    rfl
  refine pure_ (i := 2) (N := some 9) (v := ?_) (a' := ?_) #[true, true, true, false, false, false, false, false, false, false, false, false, false, false, false, false] rfl rfl (by kernel_rfl) (fun _ _ _ h => h) (Or.inl ⟨by rfl, ?_⟩) ?_ ?_
  rotate_left
  · intro w'
    go_simp
    with_reducible rfl
  rotate_left
  · simp only [Act.put, List.setIfInBounds_toArray, List.set_cons_zero, List.set_cons_succ, i64_w, i32_w]
    rfl
  refine pure_ (i := 4) (N := some 11) (v := ?_) (a' := ?_) #[true, true, true, false, true, false, false, false, false, false, false, false, false, false, false, false] rfl rfl (by kernel_rfl) (fun _ _ _ h => h) (Or.inl ⟨by rfl, ?_⟩) ?_ ?_
  rotate_left
  · intro w'
    go_simp
    with_reducible rfl
  rotate_left
  · simp only [Act.put, List.setIfInBounds_toArray, List.set_cons_zero, List.set_cons_succ, i64_w, i32_w]
    rfl
  refine pure_ (i := 5) (N := some 12) (v := ?_) (a' := ?_) #[true, true, true, false, true, true, false, false, false, false, false, false, false, false, false, false] rfl rfl (by kernel_rfl) (fun _ _ _ h => h) (Or.inl ⟨by rfl, ?_⟩) ?_ ?_
  rotate_left
  · intro w'
    go_simp
    with_reducible rfl
  rotate_left
  · simp only [Act.put, List.setIfInBounds_toArray, List.set_cons_zero, List.set_cons_succ, i64_w, i32_w]
    rfl
  refine pure_ (i := 6) (N := some 13) (v := ?_) (a' := ?_) #[true, true, true, false, true, true, true, false, false, false, false, false, false, false, false, false] rfl rfl (by kernel_rfl) (fun _ _ _ h => h) (Or.inl ⟨by rfl, ?_⟩) ?_ ?_
  rotate_left
  · intro w'
    go_simp
    with_reducible rfl
  rotate_left
  · simp only [Act.put, List.setIfInBounds_toArray, List.set_cons_zero, List.set_cons_succ, i64_w, i32_w]
    rfl
  refine take_ (i := 3) (N := some 10) (v := ?_) (a' := ?_) #[true, true, true, true, true, true, true, false, false, false, false, false, false, false, false, false] rfl rfl (by kernel_rfl) (fun _ _ _ h => h) (Or.inl ⟨by rfl, ?_⟩) hHeld ?_ ?_
  rotate_left
  · rintro w' ⟨s0, s1⟩
    go_simp
    with_reducible rfl
  rotate_left
  · simp only [Act.put, List.setIfInBounds_toArray, List.set_cons_zero, List.set_cons_succ, i64_w, i32_w]
    rfl
  refine take_ (i := 7) (N := some 14) (v := ?_) (a' := ?_) #[true, true, true, true, true, true, true, true, false, false, false, false, false, false, false, false] rfl rfl (by kernel_rfl) (fun _ _ _ h => h) (Or.inl ⟨by rfl, ?_⟩) hHeld ?_ ?_
  rotate_left
  · rintro w' ⟨s0, s1⟩
    go_simp
    with_reducible rfl
  rotate_left
  · simp only [Act.put, List.setIfInBounds_toArray, List.set_cons_zero, List.set_cons_succ, i64_w, i32_w]
    rfl
  refine one_ (i := 8) (N := some 15) #[true, true, true, true, true, true, true, true, true, false, false, false, false, false, false, false] rfl rfl (by kernel_rfl) (by decide) (fun K hK => ?_)
  refine goes_ Try.func74 (by kernel_rfl) rfl #[.string s, .int .i64 a, .int .i64 250] (by rfl) rfl rfl (by simp only [List.map_toArray, List.map_cons, List.map_nil]; rfl) ?_
  with_reducible refine (GT.out _).mono ?_
  rintro e w10 ⟨rfl, hb⟩
  refine ⟨_, rfl, ?_⟩
  have HA1 := Lib.hid (at_below HA.out hb)
  have HB1 := Lib.hid (below_step HB.out hb)
  clear HA HB hb
  refine hK.out _ _ ⟨HA1.out.cell 0, HA1.out.cell 1⟩ (fun hHeld => ?_)
  clear hK K
  refine norm_ (a' := ?_) ?_ ?_
  rotate_left
  · show Act.put _ (some 15) _ = _
    simp only [Act.put, List.setIfInBounds_toArray, List.set_cons_zero, List.set_cons_succ, i64_w, i32_w]
    rfl
  refine pure_ (i := 9) (N := some 6) (v := ?_) (a' := ?_) #[true, true, true, true, true, true, true, true, true, true, false, false, false, false, false, false] rfl rfl (by kernel_rfl) (fun _ _ _ h => h) (Or.inl ⟨by rfl, ?_⟩) ?_ ?_
  rotate_left
  · intro w'
    go_simp
    with_reducible rfl
  rotate_left
  · simp only [Act.put, List.setIfInBounds_toArray, List.set_cons_zero, List.set_cons_succ, i64_w, i32_w]
    rfl
  refine pure_ (i := 10) (N := some 16) (v := ?_) (a' := ?_) #[true, true, true, true, true, true, true, true, true, true, true, false, false, false, false, false] rfl rfl (by kernel_rfl) (fun _ _ _ h => h) (Or.inl ⟨by rfl, ?_⟩) ?_ ?_
  rotate_left
  · intro w'
    go_simp
    with_reducible rfl
  rotate_left
  · simp only [Act.put, List.setIfInBounds_toArray, List.set_cons_zero, List.set_cons_succ, i64_w, i32_w]
    rfl
  refine pure_ (i := 11) (N := some 17) (v := ?_) (a' := ?_) #[true, true, true, true, true, true, true, true, true, true, true, true, false, false, false, false] rfl rfl (by kernel_rfl) (fun _ _ _ h => h) (Or.inl ⟨by rfl, ?_⟩) ?_ ?_
  rotate_left
  · intro w'
    go_simp
    with_reducible rfl
  rotate_left
  · simp only [Act.put, List.setIfInBounds_toArray, List.set_cons_zero, List.set_cons_succ, i64_w, i32_w]
    rfl
  refine pure_ (i := 12) (N := some 18) (v := ?_) (a' := ?_) #[true, true, true, true, true, true, true, true, true, true, true, true, true, false, false, false] rfl rfl (by kernel_rfl) (fun _ _ _ h => h) (Or.inl ⟨by rfl, ?_⟩) ?_ ?_
  rotate_left
  · intro w'
    go_simp
    with_reducible rfl
  rotate_left
  · simp only [Act.put, List.setIfInBounds_toArray, List.set_cons_zero, List.set_cons_succ, i64_w, i32_w]
    rfl
  refine pure_ (i := 13) (N := some 3) (v := ?_) (a' := ?_) #[true, true, true, true, true, true, true, true, true, true, true, true, true, true, false, false] rfl rfl (by kernel_rfl) (fun _ _ _ h => h) (Or.inl ⟨by rfl, ?_⟩) ?_ ?_
  rotate_left
  · intro w'
    go_simp
    with_reducible rfl
  rotate_left
  · simp only [Act.put, List.setIfInBounds_toArray, List.set_cons_zero, List.set_cons_succ, i64_w, i32_w]
    rfl
  refine pure_ (i := 14) (N := some 4) (v := ?_) (a' := ?_) #[true, true, true, true, true, true, true, true, true, true, true, true, true, true, true, false] rfl rfl (by kernel_rfl) (fun _ _ _ h => h) (Or.inl ⟨by rfl, ?_⟩) ?_ ?_
  rotate_left
  · intro w'
    go_simp
    with_reducible rfl
  rotate_left
  · simp only [Act.put, List.setIfInBounds_toArray, List.set_cons_zero, List.set_cons_succ, i64_w, i32_w]
    rfl
  refine pure_ (i := 15) (N := some 5) (v := ?_) (a' := ?_) #[true, true, true, true, true, true, true, true, true, true, true, true, true, true, true, true] rfl rfl (by kernel_rfl) (fun _ _ _ h => h) (Or.inl ⟨by rfl, ?_⟩) ?_ ?_
  rotate_left
  · intro w'
    go_simp
    with_reducible rfl
  rotate_left
  · simp only [Act.put, List.setIfInBounds_toArray, List.set_cons_zero, List.set_cons_succ, i64_w, i32_w]
    rfl
  refine done_ (by kernel_rfl) ?_
  go_wp2_with (go_at_call 57; (with_reducible refine (KM.out _).mono ?_); rintro e w12 ⟨rfl, hb⟩; have HA2 := Lib.hid (at_below HA1.out hb); have HB2 := Lib.hid (below_step HB1.out hb); clear HA1 HB1 hb; have e1 : w12.cell? ⟨zr, 1, none⟩ = some (.int .i64 a) := HA2.out.cell 1; have f1 : w12.frozen? ⟨zr, 1, none⟩ = false := HA2.out.free 1)
  go_ret
  exact ⟨rfl, at_set' HA2.out rfl, chg_set (chg_below (chg_refl _ _) HB2.out) rfl⟩
/-- What the reader's key is: the key, the next place, the error. -/
def keyR (s : ByteArray) (a : Int) : ByteArray × Int × Int := ((Num.textS s a 250).1, (Num.textS s a 250).2.1, if (Num.textS s a 250).2.2 = 0 then (if Rec.keyMay (Num.textS s a 250).1 = true then 0 else 3) else (Num.textS s a 250).2.2)
theorem text_small (s : ByteArray) (a : Int) (h : (Num.textS s a 250).2.2 = 0) : (Num.textS s a 250).1.size ≤ 1000000 := by
  unfold Num.textS at h ⊢
  split at h
  · rename_i h0
    rw [if_pos h0]
    split at h
    · simp at h
    · rename_i h1
      rw [if_neg h1]
      split at h
      · simp at h
      · rename_i h2
        rw [if_neg h2]
        simp only []
        rw [ByteArray.size_extract]
        omega
  · rename_i h0
    exact absurd h h0
theorem rkey_good (zr : Nat) (s : ByteArray) (a : Int) (w : World) (hA : At w zr #[.string s, .int .i64 a] 89) (hs : s.size ≤ 900000) (h : (keyR s a).2.2 = 0) :
    Calls Try.prog 33 #[.pointer (some ⟨zr, 0, none⟩)] w fun e w' => e = .returned (.string (keyR s a).1) ∧ At w' zr #[.string s, .int .i64 (keyR s a).2.1] 89 ∧ Chg (fun x => x = zr) w w' := by
  have hz := text_small s a
  obtain ⟨t, nx, er, hg⟩ : ∃ t nx er, Num.textS s a 250 = (t, nx, er) := ⟨_, _, _, rfl⟩
  unfold keyR at h ⊢
  rw [hg] at h hz ⊢
  simp only [] at h hz ⊢
  by_cases h0 : er = 0
  · rw [if_pos h0] at h
    by_cases h1 : Rec.keyMay t = true
    · exact rkey_ok zr s a t nx er w hA hs hg h0 (hz h0) h1
    · rw [if_neg h1] at h
      cases h
  · rw [if_neg h0] at h
    exact absurd h h0
end Go.Proofs.Ytdjompbhlkgmbaa.Msg
end
