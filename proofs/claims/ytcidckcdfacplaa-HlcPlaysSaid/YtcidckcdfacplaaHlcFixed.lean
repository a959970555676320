/- The chapter's example of the clock holds (own text). -/
import Derived.Test.YtcidckcdfacplaaHlcRef
namespace Go.Proofs.Ytcidckcdfacplaa.Hlc
open Go.RowKit Go.Proofs.Ytcidckcdfacplaa.Mem
set_option linter.unusedVariables false
set_option linter.unusedSimpArgs false

def fc0 : Clk := ⟨3, 10, 2, 12, false, 0, 0, 0⟩
def fc1 : Clk := ⟨3, 10, 2, 12, false, 10, 0, 3⟩
def fc2 : Clk := ⟨3, 10, 2, 12, false, 10, 1, 3⟩
def fc3 : Clk := ⟨3, 10, 2, 12, false, 12, 5, 9⟩
def fc4 : Clk := ⟨3, 10, 2, 12, false, 12, 6, 3⟩
theorem fgood (c : Clk) (h : c = fc0 ∨ c = fc1 ∨ c = fc2 ∨ c = fc3 ∨ c = fc4) : Good c := by
  rcases h with rfl | rfl | rfl | rfl | rfl <;> constructor <;> decide
theorem fnew (w : World) : Calls Try.prog 12 #[.int .u8 3, .int .u64 10, .int .i64 2, .bool false] w fun e w' => e = .returned (.tuple #[.pointer (some ⟨w.heap.size, 0, none⟩), .int .i64 0]) ∧ ClkAt w' w.heap.size fc0 ∧ Below w.heap.size w w' ∧ w.heap.size < w'.heap.size :=
  progNew_ok 3 10 2 false w (by decide) (by decide) (by decide) (by decide) (by decide) (by decide)
theorem fnow0 (b : Nat) (w : World) (hc : ClkAt w b fc0) : Calls Try.prog 16 #[.pointer (some ⟨b, 0, none⟩)] w fun e w' => e = .returned (.tuple #[.agg #[.int .u64 10, .int .u32 0, .int .u8 3], .int .i64 0]) ∧ ClkAt w' b fc1 ∧ Chg (· = b) w w' :=
  now_any b fc0 w hc (fgood _ (by simp))
theorem fnow1 (b : Nat) (w : World) (hc : ClkAt w b fc1) : Calls Try.prog 16 #[.pointer (some ⟨b, 0, none⟩)] w fun e w' => e = .returned (.tuple #[.agg #[.int .u64 10, .int .u32 1, .int .u8 3], .int .i64 0]) ∧ ClkAt w' b fc2 ∧ Chg (· = b) w w' :=
  now_any b fc1 w hc (fgood _ (by simp))
theorem fsee (b : Nat) (w : World) (hc : ClkAt w b fc2) : Calls Try.prog 18 #[.pointer (some ⟨b, 0, none⟩), .agg #[.int .u64 12, .int .u32 5, .int .u8 9]] w fun e w' => e = .returned (.int .i64 0) ∧ ClkAt w' b fc3 ∧ Chg (· = b) w w' :=
  see_any b fc2 12 5 9 w hc (fgood _ (by simp)) (by decide) (by decide) (by decide) (by decide) (by decide) (by decide)
theorem fnow3 (b : Nat) (w : World) (hc : ClkAt w b fc3) : Calls Try.prog 16 #[.pointer (some ⟨b, 0, none⟩)] w fun e w' => e = .returned (.tuple #[.agg #[.int .u64 12, .int .u32 6, .int .u8 3], .int .i64 0]) ∧ ClkAt w' b fc4 ∧ Chg (· = b) w w' :=
  now_any b fc3 w hc (fgood _ (by simp))
theorem fsee4 (b : Nat) (w : World) (hc : ClkAt w b fc4) : Calls Try.prog 18 #[.pointer (some ⟨b, 0, none⟩), .agg #[.int .u64 13, .int .u32 0, .int .u8 0]] w fun e w' => e = .returned (.int .i64 9) ∧ ClkAt w' b fc4 ∧ Chg (· = b) w w' :=
  see_any b fc4 13 0 0 w hc (fgood _ (by simp)) (by decide) (by decide) (by decide) (by decide) (by decide) (by decide)

set_option maxHeartbeats 800000 in
theorem fixed_any (w : World) : Calls Try.prog 9 #[] w fun e w' => e = .returned (.bool true) ∧ Below w.heap.size w w' := by
  go_enter Try.func9, Try.ntmps9
  go_wp2_with (fail)
  refine (fnew _).mono ?_
  rintro e w1 ⟨rfl, a1, h1, z1⟩
  go_wp2_with (fail)
  refine (fnow0 _ _ a1).mono ?_
  rintro e w2 ⟨rfl, a2, h2⟩
  have z2 := Nat.lt_of_lt_of_le z1 h2.size
  go_wp2_with (fail)
  refine (fnow1 _ _ (at_alloc a2)).mono ?_
  rintro e w3 ⟨rfl, a3, h3⟩
  have x3 := at_chg (at_new w2 _ _) h3 (Nat.ne_of_gt z2)
  have s3 : w2.heap.size < w3.heap.size := x3.lt
  have z3 : w.heap.size < w3.heap.size := Nat.lt_trans z2 s3
  go_wp2_with (fail)
  refine (fsee _ _ (at_alloc a3)).mono ?_
  rintro e w4 ⟨rfl, a4, h4⟩
  have x4 := at_chg (at_alloc x3) h4 (Nat.ne_of_gt z2)
  have y4 := at_chg (at_new w3 _ _) h4 (Nat.ne_of_gt z3)
  have s4 : w3.heap.size < w4.heap.size := y4.lt
  have z4 : w.heap.size < w4.heap.size := Nat.lt_trans z3 s4
  go_wp2_with (fail)
  refine (fnow3 _ _ a4).mono ?_
  rintro e w5 ⟨rfl, a5, h5⟩
  have x5 := at_chg x4 h5 (Nat.ne_of_gt z2)
  have y5 := at_chg y4 h5 (Nat.ne_of_gt z3)
  have z5 : w.heap.size < w5.heap.size := Nat.lt_of_lt_of_le z4 h5.size
  obtain ⟨x50, x51, x52, xf0, xf1, xf2⟩ := at3 x5
  obtain ⟨y50, y51, y52, yf0, yf1, yf2⟩ := at3 y5
  have s5 : w2.heap.size < w5.heap.size := x5.lt
  have s5b : w3.heap.size < w5.heap.size := y5.lt
  go_wp2_with (fail)
  refine (fsee4 _ _ (at_alloc a5)).mono ?_
  rintro e w6 ⟨rfl, a6, h6⟩
  go_wp2_with (fail)
  go_ret
  have hb := below_chg (below_al (below_chg (below_chg (below_al (below_chg (below_al (below_chg h1 h2 (fun i h => by omega))) h3 (fun i h => by omega))) h4 (fun i h => by omega)) h5 (fun i h => by omega))) h6 (fun i h => by omega)
  exact ⟨rfl, hb⟩
end Go.Proofs.Ytcidckcdfacplaa.Hlc
