/- The law's fixed example answers true (own text). -/
import Derived.Test.YtnbcbokdbenbiaaAskFix
namespace Go.Proofs.Ytnbcbokdbenbiaa.Ask
open Go.RowKit Go.Proofs.Ytnbcbokdbenbiaa.Mem Go.Lib Go.Proofs.YtnbcbokdbenbiaaW.PrintWords
set_option linter.unusedVariables false
set_option linter.unusedSimpArgs false
theorem below_chg' {w w1 w2 : World} {g : Nat} (h : Below w.heap.size w w1) (k : Chg (· = g) w1 w2) (hg : w.heap.size ≤ g) : Below w.heap.size w w2 :=
  ⟨k.os.trans h.os, k.tape.trans h.tape, k.output.trans h.output, Nat.le_trans h.size k.size, fun i hi => (k.block i (Nat.lt_of_lt_of_le hi h.size) (by omega)).trans (h.block i hi)⟩
theorem two_nodes (w : World) : Nodes (w.alloc (.cells #[.int .u8 1, .int .u8 2] 5)) (some ⟨w.heap.size, 0, none⟩) [1, 2] := by
  intro _
  have h := at_new w #[.int .u8 1, .int .u8 2] 5
  refine ⟨w.heap.size, 0, rfl, h.lt, fun i hi => ?_⟩
  match i, hi with
  | 0, _ => exact h.cell 0
  | 1, _ => exact h.cell 1
theorem one_R (w : World) (base : Nat) (hb : base ≤ w.heap.size) : (Kd.int .u8).R 5 (w.alloc (.cells #[.int .u8 2] 5)) base (fun _ => True) (.slice (some ⟨w.heap.size, 0, none⟩) 1 1) [2] := by
  refine ⟨fun _ _ => trivial, [.int .u8 2], ⟨rfl, .inr ⟨w.heap.size, 1, #[.int .u8 2], rfl, hb, at_new w _ _, Nat.le_refl _, by decide, rfl, rfl⟩⟩, ?_⟩
  exact (Reps.snoc (Reps.none _ _) (p := (2 : Int)) (c := [.int .u8 2]) rfl rfl)
set_option maxRecDepth 100000 in
set_option maxHeartbeats 8000000 in
theorem fixed_any (w : World) : Calls Try.prog 6 #[] w fun e w' => e = .returned (.bool true) ∧ Below w.heap.size w w' := by
  have h1 := new_any [1, 2] (some ⟨w.heap.size, 0, none⟩) 2 10 (w.alloc (.cells #[.int .u8 1, .int .u8 2] 5)) (by decide) (two_nodes w)
  rw [fx_new] at h1
  have hb0 := below_al (o := .cells #[.int .u8 1, .int .u8 2] 5) (Below.refl w.heap.size w)
  have hz : w.heap.size ≤ (w.alloc (.cells #[.int .u8 1, .int .u8 2] 5)).heap.size := by rw [World.size_alloc]; omega
  go_enter Try.func6, Try.ntmps6
  go_wp2_with (fail)
  refine (h1).mono ?_
  rintro e w1 ⟨g, rfl, hq1, hg1, hg2, hb1⟩
  have hB1 := Lib.hid (below_on hb0 hb1)
  have hgw : w.heap.size ≤ g := Nat.le_trans hz hg1
  clear h1 hb0 hb1 hg2 hg1
  generalize (w.alloc (.cells #[.int .u8 1, .int .u8 2] 5)).heap.size = b at *
  have h2 := over_any b g 10 9 fx0 w1 hq1
  rw [fx_over0] at h2
  replace h2 : Calls Try.prog 14 #[.pointer (some ⟨b, 0, none⟩), .int .u64 9] w1 fun e w' => e = .returned (.bool false) ∧ Below w1.heap.size w1 w' := h2
  have HQ1 := Lib.hid hq1
  clear hq1
  go_wp2_with (fail)
  refine (h2).mono ?_
  rintro e w2 ⟨rfl, hb2⟩
  have h3 := take_any b g 10 3 repT fx0 w2 (req_below HQ1.out hb2)
  rw [fx_take3, take_none 3 repT fx0 fx_take3] at h3
  have hB2 := Lib.hid (below_on hB1.out hb2)
  clear h2 HQ1 hB1 hb2
  go_wp2_with (fail)
  refine (h3).mono ?_
  rintro e w3 ⟨rfl, hq3, hk3⟩
  have h4 := take_any b g 10 1 repK fx0 w3 hq3
  rw [fx_take1, fx_l2] at h4
  have hB3 := Lib.hid (below_chg' hB2.out hk3 hgw)
  clear h3 hk3 hB2 hq3
  go_wp2_with (fail)
  refine (h4).mono ?_
  rintro e w4 ⟨rfl, hq4, hk4⟩
  have h5 := best_any b g 10 fx2 w4 hq4
  rw [fx_best] at h5
  have hB4 := Lib.hid (below_chg' hB3.out hk4 hgw)
  have HQ4 := Lib.hid hq4
  clear h4 hk4 hB3 hq4
  simp only [bestV, recA, repK] at h5
  go_upto_region 5 with (go_at_call 10; refine (h5).mono ?_; rintro e w5 ⟨rfl, hb5⟩)
  have hs := at_new w5 #[.string ⟨#[107]⟩, .int .u64 0, .int .u32 0, .int .u8 0, .int .u8 3, .int .u32 0, .int .u64 0, .string ⟨#[]⟩] 32
  have HQ5 := Lib.hid (req_below (req_below HQ4.out hb5) (below_al (o := .cells #[.string ⟨#[107]⟩, .int .u64 0, .int .u32 0, .int .u8 0, .int .u8 3, .int .u32 0, .int .u64 0, .string ⟨#[]⟩] 32) (Below.refl _ _)))
  have hB5 := Lib.hid (below_al (o := .cells #[.string ⟨#[107]⟩, .int .u64 0, .int .u32 0, .int .u8 0, .int .u8 3, .int .u32 0, .int .u64 0, .string ⟨#[]⟩] 32) (below_on hB4.out hb5))
  clear h5 hb5 HQ4 hB4
  generalize w5.alloc (.cells #[.string ⟨#[107]⟩, .int .u64 0, .int .u32 0, .int .u8 0, .int .u8 3, .int .u32 0, .int .u64 0, .string ⟨#[]⟩] 32) = w6 at *
  generalize w5.heap.size = y at *
  have h6 := behind_any b g 10 fx2 w6 HQ5.out
  rw [fx_behind2] at h6
  go_wp2_with (fail)
  refine (h6).mono ?_
  rintro e w7 ⟨v, rfl, hv, hb7⟩
  obtain ⟨A7, c7, rfl⟩ := Kd.R_slice hv
  have x0 := (at_below hs hb7).cell 0
  have h7 := take_any b g 10 2 rep0 fx2 w7 (req_below HQ5.out hb7)
  rw [fx_take2, fx_l3] at h7
  have hB7 := Lib.hid (below_on hB5.out hb7)
  clear h6 hv hb7 HQ5 hB5 hs
  go_wp2_with (fail)
  refine (h7).mono ?_
  rintro e w8 ⟨rfl, hq8, hk8⟩
  have h8 := over_any b g 10 9 fx3 w8 hq8
  rw [fx_over3] at h8
  replace h8 : Calls Try.prog 14 #[.pointer (some ⟨b, 0, none⟩), .int .u64 9] w8 fun e w' => e = .returned (.bool true) ∧ Below w8.heap.size w8 w' := h8
  have hB8 := Lib.hid (below_chg' hB7.out hk8 hgw)
  have HQ8 := Lib.hid hq8
  clear h7 hq8 hk8 hB7 x0
  go_wp2_with (fail)
  refine (h8).mono ?_
  rintro e w9 ⟨rfl, hb9⟩
  have HQ9 := Lib.hid (req_below HQ8.out hb9)
  have hB9 := Lib.hid (below_on hB8.out hb9)
  have h9 := behind_any b g 10 fx3 w9 HQ9.out
  rw [fx_behind3] at h9
  clear h8 hb9 HQ8 hB8
  go_wp2_with (fail)
  refine (h9).mono ?_
  rintro e w10 ⟨v, rfl, hv, hb10⟩
  have hv2 := Kd.R_alloc hv (.cells #[.int .u8 2] 5)
  have h10 := same_self [2] (by decide) v _ _ w10.heap.size _ _ _ hv2 (one_R w10 w10.heap.size (Nat.le_refl _))
  have HQ10 := Lib.hid (req_below (req_below HQ9.out hb10) (below_al (o := .cells #[.int .u8 2] 5) (Below.refl _ _)))
  have hB10 := Lib.hid (below_al (o := .cells #[.int .u8 2] 5) (below_on hB9.out hb10))
  clear h9 hb10 HQ9 hB9 hv hv2
  go_wp2_with (fail)
  refine (h10).mono ?_
  rintro e w11 ⟨rfl, hb11⟩
  have h11 := yes_any b g 10 fx3 w11 (req_below HQ10.out hb11)
  rw [fx_yes] at h11
  have hB11 := Lib.hid (below_on hB10.out hb11)
  clear h10 hb11 HQ10 hB10
  go_wp2_with (fail)
  refine (h11).mono ?_
  rintro e w12 ⟨rfl, hb12⟩
  go_wp2_with (fail)
  go_ret
  exact ⟨rfl, below_on hB11.out hb12⟩
end Go.Proofs.Ytnbcbokdbenbiaa.Ask
