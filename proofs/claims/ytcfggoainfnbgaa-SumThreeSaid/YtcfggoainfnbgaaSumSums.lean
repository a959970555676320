/- SumSums answers true: the walk (own text). -/
import Derived.Test.YtcfggoainfnbgaaSumFixed
namespace Go.Proofs.Ytcfggoainfnbgaa.Sum
open Go.RowKit Go.Proofs.Ytcfggoainfnbgaa.Mem Go.Proofs.Ytcfggoainfnbgaa.Once
set_option linter.unusedVariables false
set_option linter.unusedSimpArgs false
theorem tb_chg {w w' : World} {b c : Nat} {d s : Int} {f : Nat → Nat} (h : Tb w b d s f) (k : Chg (fun x => x = c) w w') (hne : b ≠ c) : Tb w' b d s f := by
  have hl := World.block_lt_of_cell? w _ h.c0
  have hb := k.block b hl hne
  have hc : ∀ i, w'.cell? ⟨b, i, none⟩ = w.cell? ⟨b, i, none⟩ := fun i => by unfold World.cell?; simp only [hb]
  have hf : ∀ i, w'.frozen? ⟨b, i, none⟩ = w.frozen? ⟨b, i, none⟩ := fun i => by unfold World.frozen?; simp only [hb]
  exact ⟨(hc 0).trans h.c0, (hc 1).trans h.c1, fun i hi => (hc _).trans (h.cE i hi), fun i hi => (hf _).trans (h.z i hi)⟩
theorem tb_below {w w' : World} {b : Nat} {d s : Int} {f : Nat → Nat} (h : Tb w b d s f) (k : Below w.heap.size w w') : Tb w' b d s f := by
  have hl := World.block_lt_of_cell? w _ h.c0
  have hb := k.block b hl
  have hc : ∀ i, w'.cell? ⟨b, i, none⟩ = w.cell? ⟨b, i, none⟩ := fun i => by unfold World.cell?; simp only [hb]
  have hf : ∀ i, w'.frozen? ⟨b, i, none⟩ = w.frozen? ⟨b, i, none⟩ := fun i => by unfold World.frozen?; simp only [hb]
  exact ⟨(hc 0).trans h.c0, (hc 1).trans h.c1, fun i hi => (hc _).trans (h.cE i hi), fun i hi => (hf _).trans (h.z i hi)⟩
theorem is_chg {w w' : World} {b c : Nat} (h : IsTab w b) (k : Chg (fun x => x = c) w w') (hne : b ≠ c) : IsTab w' b := h.imp (fun h => tb_chg h k hne) (fun h => tb_chg h k hne)
theorem is_below {w w' : World} {b : Nat} (h : IsTab w b) (k : Below w.heap.size w w') : IsTab w' b := h.imp (fun h => tb_below h k) (fun h => tb_below h k)
theorem sums_long1 (s a : ByteArray) (w : World) (h : 5000 < s.size) :
    Calls Try.prog 3 #[.string s, .string a] w fun e w' => e = .returned (.bool true) ∧ Below w.heap.size w w' := by
  have c1 : decide ((5000 : Int) < (s.size : Int)) = true := by simp; omega
  go_enter Try.func3, Try.ntmps3
  go_wp2_with (go_at_call 8; (with_reducible refine (fixed_any _).mono ?_); rintro e w9 ⟨rfl, hb9⟩)
  go_ret
  exact ⟨rfl, hb9⟩
theorem sums_long2 (s a : ByteArray) (w : World) (h1 : s.size ≤ 5000) (h : 5000 < a.size) :
    Calls Try.prog 3 #[.string s, .string a] w fun e w' => e = .returned (.bool true) ∧ Below w.heap.size w w' := by
  have c1 : decide ((5000 : Int) < (s.size : Int)) = false := by simp; omega
  have c2 : decide ((5000 : Int) < (a.size : Int)) = true := by simp; omega
  go_enter Try.func3, Try.ntmps3
  go_wp2_with (go_at_call 8; (with_reducible refine (fixed_any _).mono ?_); rintro e w9 ⟨rfl, hb9⟩)
  go_ret
  exact ⟨rfl, hb9⟩
theorem sums_ok (s a : ByteArray) (w : World) (h1 : s.size ≤ 5000) (h2 : a.size ≤ 5000) :
    Calls Try.prog 3 #[.string s, .string a] w fun e w' => e = .returned (.bool true) ∧ Below w.heap.size w w' := by
  have c1 : decide ((5000 : Int) < (s.size : Int)) = false := by simp; omega
  have c2 : decide ((5000 : Int) < (a.size : Int)) = false := by simp; omega
  have K := Lib.hid (fun (b : Nat) (W : World) (h : IsTab W b) => sum_any b s W h (by omega))
  have KA := Lib.hid (fun (b : Nat) (W : World) (h : IsTab W b) => sum_any b a W h (by omega))
  have KR := Lib.hid (fun (W : World) => refSum_any s W (by omega))
  have KF := Lib.hid fixed_any
  go_enter Try.func3, Try.ntmps3
  go_wp2_with (fail)
  refine (new_any w).mono ?_
  rintro e w1 ⟨rfl, t1, b1, z1⟩
  have HT := Lib.hid (show IsTab w1 w.heap.size from Or.inl t1)
  have HB := Lib.hid b1
  clear t1 b1
  go_wp2_with (fail)
  refine (new_any w1).mono ?_
  rintro e w2 ⟨rfl, t2, b2, z2⟩
  replace HT := Lib.hid (is_below HT.out b2)
  replace HB := Lib.hid (below_on HB.out b2)
  have HU := Lib.hid (show IsTab w2 w1.heap.size from Or.inl t2)
  clear t2 b2
  generalize w1.heap.size = y at *
  go_wp2_with (fail)
  refine (KA.out _ _ HU.out).mono ?_
  rintro e w3 ⟨rfl, t2, k2⟩
  replace HT := Lib.hid (is_chg HT.out k2 (by omega))
  replace HU := Lib.hid (show IsTab w3 _ from Or.inr t2)
  replace HB := Lib.hid (below_chg HB.out k2 (fun i h => by omega))
  clear t2 k2
  go_wp2_with (fail)
  refine (KF.out _).mono ?_
  rintro e w4 ⟨rfl, b2⟩
  replace HT := Lib.hid (is_below HT.out b2)
  replace HU := Lib.hid (is_below HU.out b2)
  replace HB := Lib.hid (below_on HB.out b2)
  clear b2
  go_wp2_with (fail)
  refine (K.out _ _ HT.out).mono ?_
  rintro e w5 ⟨rfl, t2, k2⟩
  replace HU := Lib.hid (is_chg HU.out k2 (by omega))
  replace HT := Lib.hid (show IsTab w5 _ from Or.inr t2)
  replace HB := Lib.hid (below_chg HB.out k2 (fun i h => by omega))
  clear t2 k2
  go_wp2_with (fail)
  refine (KR.out _).mono ?_
  rintro e w6 ⟨rfl, b2⟩
  replace HT := Lib.hid (is_below HT.out b2)
  replace HU := Lib.hid (is_below HU.out b2)
  replace HB := Lib.hid (below_on HB.out b2)
  clear b2
  go_wp2_with (fail)
  refine (K.out _ _ HU.out).mono ?_
  rintro e w7 ⟨rfl, t2, k2⟩
  replace HT := Lib.hid (is_chg HT.out k2 (by omega))
  replace HU := Lib.hid (show IsTab w7 _ from Or.inr t2)
  replace HB := Lib.hid (below_chg HB.out k2 (fun i h => by omega))
  clear t2 k2
  go_wp2_with (fail)
  refine (KR.out _).mono ?_
  rintro e w8 ⟨rfl, b2⟩
  replace HT := Lib.hid (is_below HT.out b2)
  replace HU := Lib.hid (is_below HU.out b2)
  replace HB := Lib.hid (below_on HB.out b2)
  clear b2
  go_wp2_with (fail)
  refine (K.out _ _ HT.out).mono ?_
  rintro e w9 ⟨rfl, t2, k2⟩
  replace HU := Lib.hid (is_chg HU.out k2 (by omega))
  replace HT := Lib.hid (show IsTab w9 _ from Or.inr t2)
  replace HB := Lib.hid (below_chg HB.out k2 (fun i h => by omega))
  clear t2 k2
  go_wp2_with (fail)
  refine (KR.out _).mono ?_
  rintro e w10 ⟨rfl, b2⟩
  replace HT := Lib.hid (is_below HT.out b2)
  replace HU := Lib.hid (is_below HU.out b2)
  replace HB := Lib.hid (below_on HB.out b2)
  clear b2
  go_wp2_with (fail)
  go_ret
  exact ⟨rfl, HB.out⟩
theorem SumSums_walk (s a : ByteArray) (w : World) :
    Calls Try.prog 3 #[.string s, .string a] w fun e w' => e = .returned (.bool true) ∧ Below w.heap.size w w' := by
  by_cases h1 : s.size ≤ 5000
  · by_cases h2 : a.size ≤ 5000
    · exact sums_ok s a w h1 h2
    · exact sums_long2 s a w h1 (by omega)
  · exact sums_long1 s a w (by omega)
end Go.Proofs.Ytcfggoainfnbgaa.Sum
