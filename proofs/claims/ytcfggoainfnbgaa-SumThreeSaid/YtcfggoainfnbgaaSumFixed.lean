/- The chapter's examples of the sums hold (own text). -/
import Derived.Test.YtcfggoainfnbgaaSumNew
namespace Go.Proofs.Ytcfggoainfnbgaa.Sum
open Go.RowKit Go.Proofs.Ytcfggoainfnbgaa.Mem Go.Proofs.Ytcfggoainfnbgaa.Once
set_option linter.unusedVariables false
set_option linter.unusedSimpArgs false
theorem nine : more 0 { data := #[49, 50, 51, 52, 53, 54, 55, 56, 57] } = 3421780262 := by kernel_rfl
theorem none0 : more 0 { data := #[] } = 0 := by kernel_rfl
theorem one1 : ei (lowB 1) = 1996959894 := by kernel_rfl
theorem chg_new {w w1 w2 : World} (h : Below w.heap.size w w1) (k : Chg (fun x => x = w.heap.size) w1 w2) : Below w.heap.size w w2 :=
  below_chg h k (fun i hi => by omega)
set_option maxRecDepth 100000 in
theorem fixed_any (w : World) :
    Calls Try.prog 8 #[] w fun e w' => e = .returned (.bool true) ∧ Below w.heap.size w w' := by
  have H9 := fun (b : Nat) (W : World) (h : IsTab W b) => sum_any b { data := #[49, 50, 51, 52, 53, 54, 55, 56, 57] } W h (by decide)
  have H0 := fun (b : Nat) (W : World) (h : IsTab W b) => sum_any b { data := #[] } W h (by decide)
  have H1 := fun (b : Nat) (W : World) (h : IsTab W b) => entry_any b 1 W h
  rw [nine] at H9
  rw [none0] at H0
  rw [one1] at H1
  have K9 := Lib.hid H9
  have K0 := Lib.hid H0
  have K1 := Lib.hid H1
  clear H9 H0 H1
  go_enter Try.func8, Try.ntmps8
  go_wp2_with (fail)
  refine (new_any w).mono ?_
  rintro e w1 ⟨rfl, t1, b1, -⟩
  have HT1 := Lib.hid t1
  have HB1 := Lib.hid b1
  clear t1 b1
  go_wp2_with (fail)
  refine (K9.out _ w1 (Or.inl HT1.out)).mono ?_
  rintro e w2 ⟨rfl, t2, k2⟩
  have HT2 := Lib.hid t2
  have HB2 := Lib.hid (chg_new HB1.out k2)
  clear t2 k2
  go_wp2_with (fail)
  refine (K0.out _ w2 (Or.inr HT2.out)).mono ?_
  rintro e w3 ⟨rfl, t3, k3⟩
  have HT3 := Lib.hid t3
  have HB3 := Lib.hid (chg_new HB2.out k3)
  clear t3 k3
  go_wp2_with (fail)
  refine (K1.out _ w3 (Or.inr HT3.out)).mono ?_
  rintro e w4 ⟨rfl, t4, k4⟩
  have HB4 := Lib.hid (chg_new HB3.out k4)
  clear t4 k4
  go_wp2_with (fail)
  go_ret
  exact ⟨rfl, HB4.out⟩
end Go.Proofs.Ytcfggoainfnbgaa.Sum
