/- SumMore answers true: the walk (own text). -/
import Derived.Test.YtcfggoainfnbgaaSumSums
import Derived.Test.YtcfggoainfnbgaaSumApp
namespace Go.Proofs.Ytcfggoainfnbgaa.Sum
open Go.RowKit Go.Proofs.Ytcfggoainfnbgaa.Mem Go.Proofs.Ytcfggoainfnbgaa.Once
set_option linter.unusedVariables false
set_option linter.unusedSimpArgs false
theorem smore_ok (a c : ByteArray) (x : Nat) (w : World) (hx : x < 4294967296) (h1 : a.size ≤ 5000) (h2 : c.size ≤ 5000) :
    Calls Try.prog 5 #[.string a, .string c, .int .u32 x] w fun e w' => e = .returned (.bool true) ∧ Below w.heap.size w w' := by
  have c1 : decide ((5000 : Int) < (a.size : Int)) = false := by simp; omega
  have c2 : decide ((5000 : Int) < (c.size : Int)) = false := by simp; omega
  have K := Lib.hid (fun (b : Nat) (W : World) (h : IsTab W b) => sum_any b a W h (by omega))
  have kc := fun (b : Nat) (W : World) (h : IsTab W b) => more_any b (more 0 a) c W h (more_lt a (by decide)) (by omega)
  rw [more_app a c 0] at kc
  have KC := Lib.hid kc
  have KA := Lib.hid (fun (b : Nat) (W : World) (h : IsTab W b) => sum_any b (a ++ c) W h (by rw [ByteArray.size_append]; omega))
  have KX := Lib.hid (fun (b : Nat) (W : World) (h : IsTab W b) => more_any b x c W h hx (by omega))
  have KR := Lib.hid (fun (W : World) => refMore_any x c W hx (by omega))
  have KF := Lib.hid fixed_any
  clear kc
  go_enter Try.func5, Try.ntmps5
  go_wp2_with (fail)
  refine (new_any w).mono ?_
  rintro e w1 ⟨rfl, t1, b1, z1⟩
  have HT := Lib.hid (show IsTab w1 w.heap.size from Or.inl t1)
  have HB := Lib.hid b1
  clear t1 b1
  go_wp2_with (fail)
  refine (KF.out _).mono ?_
  rintro e w2 ⟨rfl, b2⟩
  replace HT := Lib.hid (is_below HT.out b2)
  replace HB := Lib.hid (below_on HB.out b2)
  clear b2
  go_wp2_with (fail)
  refine (K.out _ _ HT.out).mono ?_
  rintro e w3 ⟨rfl, t2, k2⟩
  replace HT := Lib.hid (show IsTab w3 _ from Or.inr t2)
  replace HB := Lib.hid (below_chg HB.out k2 (fun i h => by omega))
  clear t2 k2
  go_wp2_with (fail)
  refine (KC.out _ _ HT.out).mono ?_
  rintro e w4 ⟨rfl, t2, k2⟩
  replace HT := Lib.hid (show IsTab w4 _ from Or.inr t2)
  replace HB := Lib.hid (below_chg HB.out k2 (fun i h => by omega))
  clear t2 k2
  go_wp2_with (fail)
  refine (KA.out _ _ HT.out).mono ?_
  rintro e w5 ⟨rfl, t2, k2⟩
  replace HT := Lib.hid (show IsTab w5 _ from Or.inr t2)
  replace HB := Lib.hid (below_chg HB.out k2 (fun i h => by omega))
  clear t2 k2
  go_wp2_with (fail)
  refine (KX.out _ _ HT.out).mono ?_
  rintro e w6 ⟨rfl, t2, k2⟩
  replace HT := Lib.hid (show IsTab w6 _ from Or.inr t2)
  replace HB := Lib.hid (below_chg HB.out k2 (fun i h => by omega))
  clear t2 k2
  go_wp2_with (fail)
  refine (KR.out _).mono ?_
  rintro e w7 ⟨rfl, b2⟩
  replace HT := Lib.hid (is_below HT.out b2)
  replace HB := Lib.hid (below_on HB.out b2)
  clear b2
  go_wp2_with (fail)
  go_ret
  exact ⟨rfl, HB.out⟩
theorem smore_long1 (a c : ByteArray) (x : Int) (w : World) (h : 5000 < a.size) :
    Calls Try.prog 5 #[.string a, .string c, .int .u32 x] w fun e w' => e = .returned (.bool true) ∧ Below w.heap.size w w' := by
  have c1 : decide ((5000 : Int) < (a.size : Int)) = true := by simp; omega
  go_enter Try.func5, Try.ntmps5
  go_wp2_with (go_at_call 8; (with_reducible refine (fixed_any _).mono ?_); rintro e w9 ⟨rfl, hb9⟩)
  go_ret
  exact ⟨rfl, hb9⟩
theorem smore_long2 (a c : ByteArray) (x : Int) (w : World) (h1 : a.size ≤ 5000) (h : 5000 < c.size) :
    Calls Try.prog 5 #[.string a, .string c, .int .u32 x] w fun e w' => e = .returned (.bool true) ∧ Below w.heap.size w w' := by
  have c1 : decide ((5000 : Int) < (a.size : Int)) = false := by simp; omega
  have c2 : decide ((5000 : Int) < (c.size : Int)) = true := by simp; omega
  go_enter Try.func5, Try.ntmps5
  go_wp2_with (go_at_call 8; (with_reducible refine (fixed_any _).mono ?_); rintro e w9 ⟨rfl, hb9⟩)
  go_ret
  exact ⟨rfl, hb9⟩
theorem SumMore_walk (a c : ByteArray) (x : Int) (w : World) (hx : 0 ≤ x ∧ x ≤ 4294967295) :
    Calls Try.prog 5 #[.string a, .string c, .int .u32 x] w fun e w' => e = .returned (.bool true) ∧ Below w.heap.size w w' := by
  by_cases h1 : a.size ≤ 5000
  · by_cases h2 : c.size ≤ 5000
    · obtain ⟨n, rfl⟩ : ∃ n : Nat, x = n := ⟨x.toNat, by omega⟩
      exact smore_ok a c n w (by omega) h1 h2
    · exact smore_long2 a c x w h1 (by omega)
  · exact smore_long1 a c x w (by omega)
end Go.Proofs.Ytcfggoainfnbgaa.Sum
