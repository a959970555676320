/- SumTables answers true: the walk (own text). -/
import Derived.Test.YtcfggoainfnbgaaSumSums
namespace Go.Proofs.Ytcfggoainfnbgaa.Sum
open Go.RowKit Go.Proofs.Ytcfggoainfnbgaa.Mem Go.Proofs.Ytcfggoainfnbgaa.Once
set_option linter.unusedVariables false
set_option linter.unusedSimpArgs false
theorem SumTables_walk (i k : Int) (s : ByteArray) (w : World) :
    Calls Try.prog 4 #[.int .i64 i, .int .i64 k, .string s] w fun e w' => e = .returned (.bool true) ∧ Below w.heap.size w w' := by
  have KI := Lib.hid (fun (b : Nat) (W : World) (h : IsTab W b) => entry_any b i W h)
  have KK := Lib.hid (fun (b : Nat) (W : World) (h : IsTab W b) => entry_any b k W h)
  have KR := Lib.hid (fun (W : World) => refEntry_any i W)
  have KS := Lib.hid (fun (W : World) => refEntry_any k W)
  have KF := Lib.hid fixed_any
  have N1 := Lib.hid (fun (W : World) => entry_nil i W)
  have N2 := Lib.hid (fun (W : World) => sum_nil s W)
  have N3 := Lib.hid (fun (y : Int) (W : World) => more_nil y s W)
  go_enter Try.func4, Try.ntmps4
  go_wp2_with (fail)
  refine (new_any w).mono ?_
  rintro e w1 ⟨rfl, t1, b1, z1⟩
  have HT := Lib.hid (show IsTab w1 w.heap.size from Or.inl t1)
  have HB := Lib.hid b1
  clear t1 b1
  go_wp2_with (fail)
  refine (KF.out _).mono ?_
  rintro e w2 ⟨rfl, b2⟩
  replace HT := Lib.hid (is_below HT.out b2)
  replace HB := Lib.hid (below_on HB.out b2)
  clear b2
  go_wp2_with (fail)
  refine (KI.out _ _ HT.out).mono ?_
  rintro e w3 ⟨rfl, t2, k2⟩
  replace HT := Lib.hid (show IsTab w3 _ from Or.inr t2)
  replace HB := Lib.hid (below_chg HB.out k2 (fun i h => by omega))
  clear t2 k2
  go_wp2_with (fail)
  refine (KR.out _).mono ?_
  rintro e w4 ⟨rfl, b2⟩
  replace HT := Lib.hid (is_below HT.out b2)
  replace HB := Lib.hid (below_on HB.out b2)
  clear b2
  go_wp2_with (fail)
  refine (KK.out _ _ HT.out).mono ?_
  rintro e w5 ⟨rfl, t2, k2⟩
  replace HT := Lib.hid (show IsTab w5 _ from Or.inr t2)
  replace HB := Lib.hid (below_chg HB.out k2 (fun i h => by omega))
  clear t2 k2
  go_wp2_with (fail)
  refine (KS.out _).mono ?_
  rintro e w6 ⟨rfl, b2⟩
  replace HT := Lib.hid (is_below HT.out b2)
  replace HB := Lib.hid (below_on HB.out b2)
  clear b2
  go_wp2_with (fail)
  refine (N1.out _).mono ?_
  rintro e w7 ⟨rfl, rfl⟩
  go_wp2_with (fail)
  refine (N2.out _).mono ?_
  rintro e w7 ⟨rfl, rfl⟩
  go_wp2_with (fail)
  refine (N3.out _ _).mono ?_
  rintro e w7 ⟨rfl, rfl⟩
  go_wp2_with (fail)
  go_ret
  exact ⟨rfl, HB.out⟩
end Go.Proofs.Ytcfggoainfnbgaa.Sum
