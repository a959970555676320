/- SumBit answers true: the walk (own text). -/
import Derived.Test.YtcfggoainfnbgaaSumByte
import Derived.Deep.Cut
namespace Go.Proofs.Ytcfggoainfnbgaa.Sum
open Go.RowKit Go.Proofs.Ytcfggoainfnbgaa.Mem Go.Proofs.Ytcfggoainfnbgaa.Once
set_option linter.unusedVariables false
set_option linter.unusedSimpArgs false
theorem unlike_more (s t : ByteArray) (p : Nat) (hz : t.size = s.size) (hp : p < s.size) (hne : by' s p ≠ by' t p) (heq : ∀ k, k < s.size → k ≠ p → by' s k = by' t k) : more 0 s ≠ more 0 t := by
  intro h
  unfold more at h
  rw [hz] at h
  have h2 := congrArg (· ^^^ 4294967295) h
  simp only [Nat.xor_assoc, Nat.xor_self, Nat.xor_zero] at h2
  exact unlike s t p s.size hp hne heq (y := 0 ^^^ 4294967295) (by decide) h2
theorem sbit_long (s : ByteArray) (x y : Int) (w : World) (h : 5000 < s.size) :
    Calls Try.prog 6 #[.string s, .int .u16 x, .int .u8 y] w fun e w' => e = .returned (.bool true) ∧ Below w.heap.size w w' := by
  have c1 : decide ((5000 : Int) < (s.size : Int)) = true := by simp; omega
  go_enter Try.func6, Try.ntmps6
  go_wp2_with (go_at_call 8; (with_reducible refine (fixed_any _).mono ?_); rintro e w9 ⟨rfl, hb9⟩)
  go_ret
  exact ⟨rfl, hb9⟩
theorem sbit_none (s : ByteArray) (x y : Int) (w : World) (h : s.size = 0) :
    Calls Try.prog 6 #[.string s, .int .u16 x, .int .u8 y] w fun e w' => e = .returned (.bool true) ∧ Below w.heap.size w w' := by
  have c1 : decide ((5000 : Int) < (s.size : Int)) = false := by simp; omega
  have c2 : ((s.size : Int) == 0) = true := by rw [h]; rfl
  go_enter Try.func6, Try.ntmps6
  go_wp2_with (go_at_call 8; (with_reducible refine (fixed_any _).mono ?_); rintro e w9 ⟨rfl, hb9⟩)
  go_ret
  exact ⟨rfl, hb9⟩
theorem sbit_ok (s : ByteArray) (x y : Nat) (w : World) (hx : x < 65536) (hy : y < 256) (h1 : s.size ≤ 5000) (h2 : 0 < s.size) :
    Calls Try.prog 6 #[.string s, .int .u16 x, .int .u8 y] w fun e w' => e = .returned (.bool true) ∧ Below w.heap.size w w' := by
  have c1 : decide ((5000 : Int) < (s.size : Int)) = false := by simp; omega
  have c2 : ((s.size : Int) == 0) = false := beq_eq_false_iff_ne.2 (by omega)
  have kc := fun (W : World) => Lib.run_convert_string_bytes (P := Try.prog) W 9 33 5 s (u := .string) rfl rfl rfl
  have K := Lib.hid (fun (b : Nat) (W : World) (h : IsTab W b) => sum_any b s W h (by omega))
  have KF := Lib.hid fixed_any
  go_enter Try.func6, Try.ntmps6
  go_wp2_with (fail)
  refine (new_any w).mono ?_
  rintro e w1 ⟨rfl, t1, b1, z1⟩
  have HT := Lib.hid (show IsTab w1 w.heap.size from Or.inl t1)
  have HB := Lib.hid b1
  clear t1 b1
  go_upto_region 5 with (fail)
  replace HT := Lib.hid (is_below HT.out (below_bytes w1 s))
  have HR := Lib.hid (row_bytes w1 s)
  replace HB := Lib.hid (below_on HB.out (below_bytes w1 s))
  clear kc
  generalize Lib.bytesWorld w1 5 s = w2 at *
  generalize w1.heap.size = b at *
  generalize grownCap w1 s.size 0 5 = cap at *
  clear w1
  obtain ⟨k, hk, hkx⟩ : ∃ k : Nat, k < s.size ∧ x % s.size = k := ⟨x % s.size, Nat.mod_lt _ h2, rfl⟩
  obtain ⟨d, hd, hdy, hd0⟩ : ∃ d : Nat, d < 256 ∧ 2 ^ (y % 8) = d ∧ d ≠ 0 := ⟨2 ^ (y % 8), by
    have : y % 8 < 8 := Nat.mod_lt _ (by decide)
    exact Nat.pow_lt_pow_right (show 1 < 2 by decide) this, rfl, by
    have := Nat.pow_pos (n := y % 8) (show 0 < 2 by decide); omega⟩
  have e1 := HR.out.c k hk
  have e2 := HR.out.z k hk
  have e3 := HR.out.l k
  have q1 : (x : Int) % (s.size : Int) = (k : Int) := by rw [← hkx]; omega
  have q0 : (2 : Int) ^ (y % 8) % 256 = (d : Int) := by
    have e : (2 : Int) ^ (y % 8) = ((2 ^ (y % 8) : Nat) : Int) := by simp
    rw [e, hdy]; omega
  have hv : by' s k ^^^ d < 256 := Nat.xor_lt_two_pow (n := 8) e3 hd
  have q2 : bits .xor .u8 ((by' s k : Nat) : Int) ((2 : Int) ^ (y % 8) % 256) = ((by' s k ^^^ d : Nat) : Int) := by rw [q0]; exact u8_xor_nat _ _ e3 hd
  clear q0
  have hne : by' s k ≠ by' s k ^^^ d := by
    intro h
    have h2 : by' s k ^^^ by' s k = d := by
      have := congrArg (by' s k ^^^ ·) h
      simp only [← Nat.xor_assoc, Nat.xor_self, Nat.zero_xor] at this
      rw [Nat.xor_self]; exact this
    rw [Nat.xor_self] at h2
    exact hd0 h2.symm
  generalize by' s k ^^^ d = v at *
  go_upto_region 6 with (fail)
  have HC : Hid (Chg (fun x => x = b) w2 (w2.setCell ⟨b, k, none⟩ (.int .u8 v))) := Lib.hid (chg_set (chg_refl _ w2) rfl)
  replace HR := Lib.hid (row_set HR.out hk hv)
  replace HT := Lib.hid (is_chg HT.out HC.out (by omega))
  replace HB := Lib.hid (below_chg HB.out HC.out (fun i h => by omega))
  clear HC e1 e2
  generalize w2.setCell ⟨b, k, none⟩ (.int .u8 v) = w3 at *
  clear q1 q2
  go_wp2_with (fail)
  refine (KF.out _).mono ?_
  rintro e w4 ⟨rfl, b2⟩
  replace HT := Lib.hid (is_below HT.out b2)
  replace HR := Lib.hid (row_below HR.out b2)
  replace HB := Lib.hid (below_on HB.out b2)
  clear b2
  obtain ⟨u, hu⟩ : ∃ u, u = ofB s.size (fun i => if i = k then v else by' s i) := ⟨_, rfl⟩
  have kv : (convert 33 9 (.slice (some ⟨b, 0, none⟩) s.size cap)).run Try.prog w4 = .ok (.string u) w4 := by rw [hu]; exact row_conv HR.out
  have us : u.size = s.size := by rw [hu, ofB_size]
  have hun : (((more 0 u : Nat) : Int) != ((more 0 s : Nat) : Int)) = true := by
    have : more 0 s ≠ more 0 u := unlike_more s u k us hk
      (by rw [hu, ofB_at _ _ _ hk (by simp; exact hv)]; simp; exact hne)
      (fun i hi hik => by rw [hu, ofB_at _ _ _ hi (by simp [hik]; exact by_lt s i)]; simp [hik])
    exact bne_iff_ne.2 (by omega)
  clear hu
  go_wp2_with (fail)
  refine (sum_any _ u w4 HT.out (by omega)).mono ?_
  rintro e w5 ⟨rfl, t2, k2⟩
  replace HT := Lib.hid (show IsTab w5 _ from Or.inr t2)
  replace HB := Lib.hid (below_chg HB.out k2 (fun i h => by omega))
  clear t2 k2 kv
  go_wp2_with (fail)
  refine (K.out _ _ HT.out).mono ?_
  rintro e w6 ⟨rfl, t2, k2⟩
  replace HB := Lib.hid (below_chg HB.out k2 (fun i h => by omega))
  clear t2 k2
  go_wp2_with (fail)
  go_ret
  exact ⟨rfl, HB.out⟩
theorem SumBit_walk (s : ByteArray) (x y : Int) (w : World) (hx : 0 ≤ x ∧ x ≤ 65535) (hy : 0 ≤ y ∧ y ≤ 255) :
    Calls Try.prog 6 #[.string s, .int .u16 x, .int .u8 y] w fun e w' => e = .returned (.bool true) ∧ Below w.heap.size w w' := by
  by_cases h1 : s.size ≤ 5000
  · by_cases h2 : s.size = 0
    · exact sbit_none s x y w h2
    · obtain ⟨n, rfl⟩ : ∃ n : Nat, x = n := ⟨x.toNat, by omega⟩
      obtain ⟨m, rfl⟩ : ∃ m : Nat, y = m := ⟨y.toNat, by omega⟩
      exact sbit_ok s n m w (by omega) (by omega) h1 (by omega)
  · exact sbit_long s x y w (by omega)
end Go.Proofs.Ytcfggoainfnbgaa.Sum
