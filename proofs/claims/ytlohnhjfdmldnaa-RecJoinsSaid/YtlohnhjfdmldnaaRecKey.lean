/- Which records may be, which are live, and the reference's order: the walks (own text; printed by wip/tools/gen_recref.py, a program of this session). -/
import Derived.Test.YtlohnhjfdmldnaaRecPlain
namespace Go.Proofs.Ytlohnhjfdmldnaa.Rec
open Go.RowKit Go.Proofs.Ytlohnhjfdmldnaa.Mem Go.Proofs.Ytlohnhjfdmldnaa.Hlc Go.Proofs.Ytlohnhjfdmldnaa
set_option linter.unusedVariables false
set_option linter.unusedSimpArgs false
/-- Which keys may be. -/
def keyMay (s : ByteArray) : Bool := decide (1 ≤ s.size ∧ s.size ≤ 250 ∧ ∀ i, i < s.size → 33 ≤ bt s i ∧ bt s i ≠ 127)
theorem empty_of {s : ByteArray} (h : s.size = 0) : s.toList.isEmpty = true := by
  rw [Lib.toList_data, List.isEmpty_iff, ← List.length_eq_zero_iff, ← Lib.size_eq]; exact h
theorem full_of {s : ByteArray} (h : ¬ s.size = 0) : s.toList.isEmpty = false := by
  rw [Lib.toList_data, List.isEmpty_eq_false_iff, ← List.length_pos_iff, ← Lib.size_eq]; omega
theorem keyMay_bad {s : ByteArray} {k : Nat} (hk : k < s.size) (h : bt s k < 33 ∨ bt s k = 127) : keyMay s = false := decide_eq_false (fun g => by have := g.2.2 k hk; omega)
theorem keyMay_size {s : ByteArray} (h : s.size = 0 ∨ 250 < s.size) : keyMay s = false := decide_eq_false (fun g => by omega)
theorem keyMay_good {s : ByteArray} (h0 : s.size ≠ 0) (h1 : ¬ 250 < s.size) (h : ∀ i, i < s.size → 33 ≤ bt s i ∧ bt s i ≠ 127) : keyMay s = true := decide_eq_true ⟨by omega, by omega, h⟩
theorem key_any_loop (s : ByteArray) (w : World) (hsz : s.size ≤ 1000000) :
    Calls Try.prog 17 #[.string s] w fun e w' => e = .returned (.bool (keyMay s)) ∧ Below w.heap.size w w' := by
  have HE := Lib.hid (fun h => keyMay_good (s := s) (And.left h) (And.left (And.right h)) (And.right (And.right h)))
  go_enter Try.func17, Try.ntmps17
  go_wp2_with (fail)
  go_loopw [6] (fun x w' => ∃ k : Nat, k ≤ s.size ∧ x = .int .i64 k ∧ Hid (∀ i, i < k → 33 ≤ bt s i ∧ bt s i ≠ 127) ∧ w' = w) (fun x _ => s.size - (intOf x).toNat)
  case atStart => exact ⟨0, by omega, rfl, Lib.hid (fun i hi => by omega), rfl⟩
  case round =>
    obtain ⟨k, hk, rfl, HZ, rfl⟩ := hrel
    by_cases hlt : k < s.size
    · have hat := bt_at s k hlt
      have hbad := Lib.hid (fun h => keyMay_bad hlt h)
      have hz := Lib.hid (fun (h : 33 ≤ bt s k ∧ bt s k ≠ 127) => (fun i hi => by by_cases e : i = k; exact e ▸ h; exact HZ.out i (by omega) : ∀ i, i < k + 1 → 33 ≤ bt s i ∧ bt s i ≠ 127))
      generalize hzz : bt s k = z at hat hbad hz
      clear hzz
      by_cases h1 : z < 33
      · have hr := hbad.out (Or.inl h1)
        have c1 : decide ((z : Int) ≤ 32) = true := decide_eq_true (by omega)
        clear hz hbad
        go_wp2_with (fail)
        go_ret
        exact ⟨by rw [hr]; rfl, Below.refl _ _⟩
      · have c1 : decide ((z : Int) ≤ 32) = false := decide_eq_false (by omega)
        by_cases h2 : z = 127
        · have hr := hbad.out (Or.inr h2)
          subst h2
          clear hz hbad h1
          go_wp2_with (fail)
          go_ret
          exact ⟨by rw [hr]; rfl, Below.refl _ _⟩
        · have c2 : ((z : Int) == 127) = false := beq_eq_false_iff_ne.2 (by omega)
          have hz3 := Lib.hid (hz.out ⟨by omega, h2⟩)
          clear hz hbad
          go_wp2_with (fail)
          exact ⟨⟨k + 1, by omega, by go_num, hz3, trivial⟩, by simp [intOf]; omega⟩
    · obtain rfl : k = s.size := by omega
      by_cases g0 : s.size = 0
      · have hr := keyMay_size (Or.inl g0)
        have c3 : decide ((1 : Int) ≤ (s.size : Int)) = false := decide_eq_false (by omega)
        clear g0
        go_wp2_with (fail)
        go_ret
        exact ⟨by rw [hr]; rfl, Below.refl _ _⟩
      · have c3 : decide ((1 : Int) ≤ (s.size : Int)) = true := decide_eq_true (by omega)
        by_cases g1 : 250 < s.size
        · have hr := keyMay_size (Or.inr g1)
          have c4 : decide ((s.size : Int) ≤ 250) = false := decide_eq_false (by omega)
          go_wp2_with (fail)
          go_ret
          exact ⟨by rw [hr]; rfl, Below.refl _ _⟩
        · have hr := HE.out ⟨g0, g1, HZ.out⟩
          have c4 : decide ((s.size : Int) ≤ 250) = true := decide_eq_true (by omega)
          go_wp2_with (fail)
          go_ret
          exact ⟨by rw [hr]; rfl, Below.refl _ _⟩
theorem key_any (s : ByteArray) (w : World) (hsz : s.size ≤ 1000000) : Calls Try.prog 17 #[.string s] w fun e w' => e = .returned (.bool (keyMay s)) ∧ Below w.heap.size w w' := key_any_loop s w hsz
theorem refKey_any_loop (s : ByteArray) (w : World) (hsz : s.size ≤ 1000000) (hs0 : s.size ≠ 0) (hs1 : ¬ 250 < s.size) :
    Calls Try.prog 18 #[.string s] w fun e w' => e = .returned (.bool (keyMay s)) ∧ Below w.heap.size w w' := by
  have c8 : ((s.size : Int) == 0) = false := beq_eq_false_iff_ne.2 (by omega)
  have c9 : decide ((250 : Int) < (s.size : Int)) = false := decide_eq_false (by omega)
  have HE := Lib.hid (fun h => keyMay_good (s := s) hs0 hs1 h)
  clear hs0 hs1
  go_enter Try.func18, Try.ntmps18
  go_wp2_with (fail)
  go_loopw [3] (fun x w' => ∃ k : Nat, k ≤ s.size ∧ x = .int .i64 k ∧ Hid (∀ i, i < k → 33 ≤ bt s i ∧ bt s i ≠ 127) ∧ w' = w) (fun x _ => s.size - (intOf x).toNat)
  case atStart => exact ⟨0, by omega, rfl, Lib.hid (fun i hi => by omega), rfl⟩
  case round =>
    obtain ⟨k, hk, rfl, HZ, rfl⟩ := hrel
    by_cases hlt : k < s.size
    · have hat := bt_at s k hlt
      have hbad := Lib.hid (fun h => keyMay_bad hlt h)
      have hz := Lib.hid (fun (h : 33 ≤ bt s k ∧ bt s k ≠ 127) => (fun i hi => by by_cases e : i = k; exact e ▸ h; exact HZ.out i (by omega) : ∀ i, i < k + 1 → 33 ≤ bt s i ∧ bt s i ≠ 127))
      generalize hzz : bt s k = z at hat hbad hz
      clear hzz
      by_cases h1 : z < 33
      · have hr := hbad.out (Or.inl h1)
        have c1 : decide ((z : Int) < 33) = true := decide_eq_true (by omega)
        clear hz hbad
        go_wp2_with (fail)
        go_ret
        exact ⟨by rw [hr]; rfl, Below.refl _ _⟩
      · have c1 : decide ((z : Int) < 33) = false := decide_eq_false (by omega)
        by_cases h2 : z = 127
        · have hr := hbad.out (Or.inr h2)
          subst h2
          clear hz hbad h1
          go_wp2_with (fail)
          go_ret
          exact ⟨by rw [hr]; rfl, Below.refl _ _⟩
        · have c2 : ((z : Int) == 127) = false := beq_eq_false_iff_ne.2 (by omega)
          have hz3 := Lib.hid (hz.out ⟨by omega, h2⟩)
          clear hz hbad
          go_wp2_with (fail)
          exact ⟨⟨k + 1, by omega, by go_num, hz3, trivial⟩, by simp [intOf]; omega⟩
    · obtain rfl : k = s.size := by omega
      have hr := HE.out HZ.out
      go_wp2_with (fail)
      go_ret
      exact ⟨by rw [hr]; rfl, Below.refl _ _⟩
theorem refKey_any (s : ByteArray) (w : World) (hsz : s.size ≤ 1000000) : Calls Try.prog 18 #[.string s] w fun e w' => e = .returned (.bool (keyMay s)) ∧ Below w.heap.size w w' := by
  by_cases g0 : s.size = 0
  · rw [keyMay_size (Or.inl g0)]
    have c8 : ((s.size : Int) == 0) = true := beq_iff_eq.2 (by omega)
    clear g0
    go_enter Try.func18, Try.ntmps18
    go_wp2_with (fail)
    go_ret
    exact ⟨rfl, Below.refl _ _⟩
  · by_cases g1 : 250 < s.size
    · rw [keyMay_size (Or.inr g1)]
      have c8 : ((s.size : Int) == 0) = false := beq_eq_false_iff_ne.2 (by omega)
      have c9 : decide ((250 : Int) < (s.size : Int)) = true := decide_eq_true (by omega)
      go_enter Try.func18, Try.ntmps18
      go_wp2_with (fail)
      go_ret
      exact ⟨rfl, Below.refl _ _⟩
    · exact refKey_any_loop s w hsz g0 g1
end Go.Proofs.Ytlohnhjfdmldnaa.Rec
