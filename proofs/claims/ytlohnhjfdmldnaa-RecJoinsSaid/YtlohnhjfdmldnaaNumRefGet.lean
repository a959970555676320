/- What the reference's Get comes to: the same as num.Get (own text). -/
import Derived.Test.YtlohnhjfdmldnaaNumRefPut
namespace Go.Proofs.Ytlohnhjfdmldnaa.Num
open Go.RowKit Go.Proofs.YtlohnhjfdmldnaaW.PrintWords Go.Proofs.YtlohnhjfdmldnaaW.PrintLast Go.Proofs.YtlohnhjfdmldnaaW.PrintMore
set_option linter.unusedVariables false
set_option linter.unusedSimpArgs false

/-- A number's bytes. -/
def bytesL (n : Int) : List Int :=
  if n < 64 then [n] else if n < 16384 then [64 + (n / 256), n % 256]
  else if n < 1073741824 then [128 + (((n / 256) / 256) / 256), ((n / 256) / 256) % 256, (n / 256) % 256, n % 256]
  else [192 + (((((((n / 256) / 256) / 256) / 256) / 256) / 256) / 256), ((((((n / 256) / 256) / 256) / 256) / 256) / 256) % 256, (((((n / 256) / 256) / 256) / 256) / 256) % 256, ((((n / 256) / 256) / 256) / 256) % 256, (((n / 256) / 256) / 256) % 256, ((n / 256) / 256) % 256, (n / 256) % 256, n % 256]
/-- A number's text, and the error's number. -/
def putB (n : Int) : ByteArray := if 4611686018427387904 ≤ n then ⟨#[]⟩ else strOfNums (bytesL n)
def putE (n : Int) : Int := if 4611686018427387904 ≤ n then 4 else 0
theorem putB_small {n : Int} (h : n < 4611686018427387904) : putB n = strOfNums (bytesL n) := if_neg (by omega)
theorem putE_small {n : Int} (h : n < 4611686018427387904) : putE n = 0 := if_neg (by omega)
theorem putB_size {n : Int} (h : n < 4611686018427387904) : (putB n).size = (bytesL n).length := by rw [putB_small h, strOfNums_size]
theorem bytesL_0 {n : Int} (h1 : n < 64) : bytesL n = [n] := if_pos h1
theorem bytesL_1 {n : Int} (h0 : 64 ≤ n) (h1 : n < 16384) : bytesL n = [64 + (n / 256), n % 256] := by
  unfold bytesL; rw [if_neg (by omega), if_pos h1]
theorem bytesL_2 {n : Int} (h0 : 16384 ≤ n) (h1 : n < 1073741824) : bytesL n = [128 + (((n / 256) / 256) / 256), ((n / 256) / 256) % 256, (n / 256) % 256, n % 256] := by
  unfold bytesL; rw [if_neg (by omega), if_neg (by omega), if_pos h1]
theorem bytesL_3 {n : Int} (h0 : 1073741824 ≤ n) : bytesL n = [192 + (((((((n / 256) / 256) / 256) / 256) / 256) / 256) / 256), ((((((n / 256) / 256) / 256) / 256) / 256) / 256) % 256, (((((n / 256) / 256) / 256) / 256) / 256) % 256, ((((n / 256) / 256) / 256) / 256) % 256, (((n / 256) / 256) / 256) % 256, ((n / 256) / 256) % 256, (n / 256) % 256, n % 256] := by
  unfold bytesL; rw [if_neg (by omega), if_neg (by omega), if_neg (by omega)]
theorem bytesL_length (n : Int) : (bytesL n).length = if n < 64 then 1 else if n < 16384 then 2 else if n < 1073741824 then 4 else 8 := by
  unfold bytesL; split
  · rfl
  · split
    · rfl
    · split <;> rfl

set_option maxHeartbeats 400000 in
theorem put_any (n : Int) (w : World) (h0 : 0 ≤ n) :
    Calls Try.prog 40 #[.int .u64 n] w fun e w' => e = .returned (.tuple #[.string (putB n), .int .i64 (putE n)]) ∧ Below w.heap.size w w' := by
  by_cases h : n < 4611686018427387904
  · rw [putB_small h, putE_small h]
    by_cases h1 : n < 64
    · rw [bytesL_0 h1]; exact put0 n w h0 h1
    · by_cases h2 : n < 16384
      · rw [bytesL_1 (by omega) h2]; exact put1 n w (by omega) h2
      · by_cases h3 : n < 1073741824
        · rw [bytesL_2 (by omega) h3]; exact put2 n w (by omega) h3
        · rw [bytesL_3 (by omega)]; exact put3 n w (by omega) h
  · have e1 : putB n = ⟨#[]⟩ := if_pos (by omega)
    have e2 : putE n = 4 := if_pos (by omega)
    rw [e1, e2]
    have c1 : decide (4611686018427387904 ≤ n) = true := by simp; omega
    clear e1 e2
    go_enter Try.func40, Try.ntmps40
    go_wp2
    go_ret2
    exact ⟨rfl, Below.refl _ _⟩
set_option maxHeartbeats 400000 in
theorem refPut_any (n : Int) (w : World) (h0 : 0 ≤ n) :
    Calls Try.prog 42 #[.int .u64 n] w fun e w' => e = .returned (.tuple #[.string (putB n), .int .i64 (putE n)]) ∧ Below w.heap.size w w' := by
  by_cases h : n < 4611686018427387904
  · rw [putB_small h, putE_small h]
    by_cases h1 : n < 64
    · rw [bytesL_0 h1]; exact refPut0 n w h0 h1
    · by_cases h2 : n < 16384
      · rw [bytesL_1 (by omega) h2]; exact refPut1 n w (by omega) h2
      · by_cases h3 : n < 1073741824
        · rw [bytesL_2 (by omega) h3]; exact refPut2 n w (by omega) h3
        · rw [bytesL_3 (by omega)]; exact refPut3 n w (by omega) h
  · have e1 : putB n = ⟨#[]⟩ := if_pos (by omega)
    have e2 : putE n = 4 := if_pos (by omega)
    rw [e1, e2]
    have c1 : decide (4611686018427387904 ≤ n) = true := by simp; omega
    clear e1 e2
    go_enter Try.func42, Try.ntmps42
    go_wp2
    go_ret2
    exact ⟨rfl, Below.refl _ _⟩

theorem putB_lt1 {n : Int} (h0 : 0 ≤ n) (h : n < 64) : (putB n).size < 2 := by rw [putB_size (by omega), bytesL_length, if_pos h]; decide
theorem putB_lt2 {n : Int} (h0 : 0 ≤ n) (h : n < 16384) : (putB n).size < 4 := by
  rw [putB_size (by omega), bytesL_length, if_pos h]; split
  · decide
  · decide
theorem putB_lt3 {n : Int} (h0 : 0 ≤ n) (h : n < 1073741824) : (putB n).size < 8 := by
  rw [putB_size (by omega), bytesL_length, if_pos h]; split
  · decide
  · split
    · decide
    · decide
theorem putB_eq0 {n : Int} (h : n < 64) : (putB n).size = 1 := by rw [putB_size (by omega), bytesL_length, if_pos h]
theorem putB_eq1 {n : Int} (h0 : 64 ≤ n) (h : n < 16384) : (putB n).size = 2 := by rw [putB_size (by omega), bytesL_length, if_neg (by omega), if_pos h]
theorem putB_eq2 {n : Int} (h0 : 16384 ≤ n) (h : n < 1073741824) : (putB n).size = 4 := by rw [putB_size (by omega), bytesL_length, if_neg (by omega), if_neg (by omega), if_pos h]
theorem putB_eq3 {n : Int} (h0 : 1073741824 ≤ n) (h : n < 4611686018427387904) : (putB n).size = 8 := by rw [putB_size (by omega), bytesL_length, if_neg (by omega), if_neg (by omega), if_neg (by omega)]

theorem add_byte (s : ByteArray) (a : Int) (i : Nat) (hi : i < 7) (hlt : (a + ((i : Int) + 1)).toNat < s.size) :
    IntKind.u64.wrap (IntKind.u64.wrap (nval s a i * 256) + IntKind.u64.wrap ((s[(a + ((i : Int) + 1)).toNat]'hlt).toNat : Int)) = nval s a (i + 1) := by
  rw [byt_at s _ hlt]
  have h1 := nval_pos s a i
  have h3 := byt_range s (a + ((i : Int) + 1))
  have h5 := nval_max s a (i + 1) (by omega)
  rw [nval_step] at h5 ⊢
  rw [IntWalk.u64_in (nval s a i * 256) ⟨by omega, by omega⟩, IntWalk.u64_in (byt s (a + ((i : Int) + 1))) ⟨by omega, by omega⟩, IntWalk.u64_in _ ⟨by omega, by omega⟩]

set_option maxHeartbeats 400000 in
theorem refGet_out (s : ByteArray) (a : Int) (w : World) (h : a < 0 ∨ a > s.size) :
    Calls Try.prog 46 #[.string s, .int .i64 a] w fun e w' => e = .returned (getV (0, 0, 1)) ∧ Below w.heap.size w w' := by
  by_cases h1 : a < 0
  · have h1 : decide (a < 0) = true := by simpa using h1
    go_enter Try.func46, Try.ntmps46
    go_wp2
    go_ret3
    exact ⟨rfl, Below.refl _ _⟩
  · have h1 : decide (a < 0) = false := by simpa using h1
    have h2 : decide ((s.size : Int) < a) = true := by simp; omega
    go_enter Try.func46, Try.ntmps46
    go_wp2
    go_ret3
    exact ⟨rfl, Below.refl _ _⟩
set_option maxHeartbeats 400000 in
theorem refGet_end (s : ByteArray) (w : World) :
    Calls Try.prog 46 #[.string s, .int .i64 s.size] w fun e w' => e = .returned (getV (0, 0, 2)) ∧ Below w.heap.size w w' := by
  have h1 : decide ((s.size : Int) < 0) = false := by simp
  have h2 : decide ((s.size : Int) < s.size) = false := by simp
  go_enter Try.func46, Try.ntmps46
  go_wp2
  go_ret3
  exact ⟨rfl, Below.refl _ _⟩

set_option maxHeartbeats 400000 in
theorem refGet_full0 (s : ByteArray) (a : Int) (w : World) (hs : s.size ≤ maxLen) (h0 : 0 ≤ a) (h1 : a + 1 ≤ s.size) (hb : byt s a / 64 = 0) :
    Calls Try.prog 46 #[.string s, .int .i64 a] w fun e w' => e = .returned (getV (whole (nval s a 0) 0 a 1)) ∧ Below w.heap.size w w' := by
  unfold maxLen at hs
  have c1 : decide (a < 0) = false := by simp; omega
  have c2 : decide (a > (s.size : Int)) = false := by simp; omega
  have c3 : (a == (s.size : Int)) = false := by simp; omega
  have hx := byt_at s a
  have hr := byt_range s a
  have hlt : a < (s.size : Int) := by omega
  have c4 : decide ((s.size : Int) - a < 1) = false := by simp; omega
  have hp := nval_pos s a 0
  go_enter Try.func46, Try.ntmps46
  go_wp2
  clear hx c1 c2 c3 c4 hb
  go_loop [8, 9] (fun n i => ∃ k : Nat, k < 1 ∧ i = .int .i64 (k + 1 : Nat) ∧ n = .int .u64 (nval s a k)) (fun _ i => 1 - (intOf i).toNat)
  case atStart => exact ⟨0, by omega, rfl, rfl⟩
  case round =>
    obtain ⟨k, hk, rfl, rfl⟩ := hrel
    by_cases hlt : k + 1 < 1
    · have c5 : decide (((k + 1 : Nat) : Int) < 1) = true := by simp; omega
      omega
    · obtain rfl : k = 0 := by omega
      have hm := nval_max s a 0 (by omega)
      have hm2 := nval_lt s a 0
      by_cases hl : nval s a 0 < 0
      · 
        omega
      · have hz : (putB (nval s a 0)).size = 1 := putB_eq0 hm2
        clear hm
        go_wp2_with (go_at_call 42; (with_reducible refine (refPut_any _ _ (by assumption)).mono ?_); rintro e w1 ⟨rfl, hb⟩)
        go_ret3
        exact ⟨by rw [whole_hi (by omega)]; rfl, hb⟩

set_option maxHeartbeats 400000 in
theorem refGet_short1 (s : ByteArray) (a : Int) (w : World) (hs : s.size ≤ maxLen) (h0 : 0 ≤ a) (h1 : a < s.size) (h2 : (s.size : Int) - a < 2) (hb : byt s a / 64 = 1) :
    Calls Try.prog 46 #[.string s, .int .i64 a] w fun e w' => e = .returned (getV (0, 0, 2)) ∧ Below w.heap.size w w' := by
  unfold maxLen at hs
  have c1 : decide (a < 0) = false := by simp; omega
  have c2 : decide (a > (s.size : Int)) = false := by simp; omega
  have c3 : (a == (s.size : Int)) = false := by simp; omega
  have hx := byt_at s a
  have hr := byt_range s a
  have hlt : a < (s.size : Int) := by omega
  have c4 : decide ((s.size : Int) - a < 2) = true := by simp; omega
  go_enter Try.func46, Try.ntmps46
  go_wp2
  go_ret3
  exact ⟨rfl, Below.refl _ _⟩

set_option maxHeartbeats 400000 in
theorem refGet_full1 (s : ByteArray) (a : Int) (w : World) (hs : s.size ≤ maxLen) (h0 : 0 ≤ a) (h1 : a + 2 ≤ s.size) (hb : byt s a / 64 = 1) :
    Calls Try.prog 46 #[.string s, .int .i64 a] w fun e w' => e = .returned (getV (whole (nval s a 1) 64 a 2)) ∧ Below w.heap.size w w' := by
  unfold maxLen at hs
  have c1 : decide (a < 0) = false := by simp; omega
  have c2 : decide (a > (s.size : Int)) = false := by simp; omega
  have c3 : (a == (s.size : Int)) = false := by simp; omega
  have hx := byt_at s a
  have hr := byt_range s a
  have hlt : a < (s.size : Int) := by omega
  have c4 : decide ((s.size : Int) - a < 2) = false := by simp; omega
  have hp := nval_pos s a 1
  go_enter Try.func46, Try.ntmps46
  go_wp2
  clear hx c1 c2 c3 c4 hb
  go_loop [8, 9] (fun n i => ∃ k : Nat, k < 2 ∧ i = .int .i64 (k + 1 : Nat) ∧ n = .int .u64 (nval s a k)) (fun _ i => 2 - (intOf i).toNat)
  case atStart => exact ⟨0, by omega, rfl, rfl⟩
  case round =>
    obtain ⟨k, hk, rfl, rfl⟩ := hrel
    by_cases hlt : k + 1 < 2
    · have c5 : decide (((k + 1 : Nat) : Int) < 2) = true := by simp; omega
      go_wp2
      go_round
      case rel => exact ⟨k + 1, by omega, by go_num, by rw [add_byte s a k (by omega)]⟩
      case measure => simp [intOf]; omega
    · obtain rfl : k = 1 := by omega
      have hm := nval_max s a 1 (by omega)
      have hm2 := nval_lt s a 1
      by_cases hl : nval s a 1 < 64
      · 
        have hz : (putB (nval s a 1)).size < 2 := putB_lt1 hp hl
        clear hm
        go_wp2_with (go_at_call 42; (with_reducible refine (refPut_any _ _ (by assumption)).mono ?_); rintro e w1 ⟨rfl, hb⟩)
        go_ret3
        exact ⟨by rw [whole_lo hl]; rfl, hb⟩
      · have hz : (putB (nval s a 1)).size = 2 := putB_eq1 (by omega) (by omega)
        clear hm
        go_wp2_with (go_at_call 42; (with_reducible refine (refPut_any _ _ (by assumption)).mono ?_); rintro e w1 ⟨rfl, hb⟩)
        go_ret3
        exact ⟨by rw [whole_hi (by omega)]; rfl, hb⟩

set_option maxHeartbeats 400000 in
theorem refGet_short2 (s : ByteArray) (a : Int) (w : World) (hs : s.size ≤ maxLen) (h0 : 0 ≤ a) (h1 : a < s.size) (h2 : (s.size : Int) - a < 4) (hb : byt s a / 64 = 2) :
    Calls Try.prog 46 #[.string s, .int .i64 a] w fun e w' => e = .returned (getV (0, 0, 2)) ∧ Below w.heap.size w w' := by
  unfold maxLen at hs
  have c1 : decide (a < 0) = false := by simp; omega
  have c2 : decide (a > (s.size : Int)) = false := by simp; omega
  have c3 : (a == (s.size : Int)) = false := by simp; omega
  have hx := byt_at s a
  have hr := byt_range s a
  have hlt : a < (s.size : Int) := by omega
  have c4 : decide ((s.size : Int) - a < 4) = true := by simp; omega
  go_enter Try.func46, Try.ntmps46
  go_wp2
  go_ret3
  exact ⟨rfl, Below.refl _ _⟩

set_option maxHeartbeats 400000 in
theorem refGet_full2 (s : ByteArray) (a : Int) (w : World) (hs : s.size ≤ maxLen) (h0 : 0 ≤ a) (h1 : a + 4 ≤ s.size) (hb : byt s a / 64 = 2) :
    Calls Try.prog 46 #[.string s, .int .i64 a] w fun e w' => e = .returned (getV (whole (nval s a 3) 16384 a 4)) ∧ Below w.heap.size w w' := by
  unfold maxLen at hs
  have c1 : decide (a < 0) = false := by simp; omega
  have c2 : decide (a > (s.size : Int)) = false := by simp; omega
  have c3 : (a == (s.size : Int)) = false := by simp; omega
  have hx := byt_at s a
  have hr := byt_range s a
  have hlt : a < (s.size : Int) := by omega
  have c4 : decide ((s.size : Int) - a < 4) = false := by simp; omega
  have hp := nval_pos s a 3
  go_enter Try.func46, Try.ntmps46
  go_wp2
  clear hx c1 c2 c3 c4 hb
  go_loop [8, 9] (fun n i => ∃ k : Nat, k < 4 ∧ i = .int .i64 (k + 1 : Nat) ∧ n = .int .u64 (nval s a k)) (fun _ i => 4 - (intOf i).toNat)
  case atStart => exact ⟨0, by omega, rfl, rfl⟩
  case round =>
    obtain ⟨k, hk, rfl, rfl⟩ := hrel
    by_cases hlt : k + 1 < 4
    · have c5 : decide (((k + 1 : Nat) : Int) < 4) = true := by simp; omega
      go_wp2
      go_round
      case rel => exact ⟨k + 1, by omega, by go_num, by rw [add_byte s a k (by omega)]⟩
      case measure => simp [intOf]; omega
    · obtain rfl : k = 3 := by omega
      have hm := nval_max s a 3 (by omega)
      have hm2 := nval_lt s a 3
      by_cases hl : nval s a 3 < 16384
      · 
        have hz : (putB (nval s a 3)).size < 4 := putB_lt2 hp hl
        clear hm
        go_wp2_with (go_at_call 42; (with_reducible refine (refPut_any _ _ (by assumption)).mono ?_); rintro e w1 ⟨rfl, hb⟩)
        go_ret3
        exact ⟨by rw [whole_lo hl]; rfl, hb⟩
      · have hz : (putB (nval s a 3)).size = 4 := putB_eq2 (by omega) (by omega)
        clear hm
        go_wp2_with (go_at_call 42; (with_reducible refine (refPut_any _ _ (by assumption)).mono ?_); rintro e w1 ⟨rfl, hb⟩)
        go_ret3
        exact ⟨by rw [whole_hi (by omega)]; rfl, hb⟩

set_option maxHeartbeats 400000 in
theorem refGet_short3 (s : ByteArray) (a : Int) (w : World) (hs : s.size ≤ maxLen) (h0 : 0 ≤ a) (h1 : a < s.size) (h2 : (s.size : Int) - a < 8) (hb : byt s a / 64 = 3) :
    Calls Try.prog 46 #[.string s, .int .i64 a] w fun e w' => e = .returned (getV (0, 0, 2)) ∧ Below w.heap.size w w' := by
  unfold maxLen at hs
  have c1 : decide (a < 0) = false := by simp; omega
  have c2 : decide (a > (s.size : Int)) = false := by simp; omega
  have c3 : (a == (s.size : Int)) = false := by simp; omega
  have hx := byt_at s a
  have hr := byt_range s a
  have hlt : a < (s.size : Int) := by omega
  have c4 : decide ((s.size : Int) - a < 8) = true := by simp; omega
  go_enter Try.func46, Try.ntmps46
  go_wp2
  go_ret3
  exact ⟨rfl, Below.refl _ _⟩

set_option maxHeartbeats 400000 in
theorem refGet_full3 (s : ByteArray) (a : Int) (w : World) (hs : s.size ≤ maxLen) (h0 : 0 ≤ a) (h1 : a + 8 ≤ s.size) (hb : byt s a / 64 = 3) :
    Calls Try.prog 46 #[.string s, .int .i64 a] w fun e w' => e = .returned (getV (whole (nval s a 7) 1073741824 a 8)) ∧ Below w.heap.size w w' := by
  unfold maxLen at hs
  have c1 : decide (a < 0) = false := by simp; omega
  have c2 : decide (a > (s.size : Int)) = false := by simp; omega
  have c3 : (a == (s.size : Int)) = false := by simp; omega
  have hx := byt_at s a
  have hr := byt_range s a
  have hlt : a < (s.size : Int) := by omega
  have c4 : decide ((s.size : Int) - a < 8) = false := by simp; omega
  have hp := nval_pos s a 7
  go_enter Try.func46, Try.ntmps46
  go_wp2
  clear hx c1 c2 c3 c4 hb
  go_loop [8, 9] (fun n i => ∃ k : Nat, k < 8 ∧ i = .int .i64 (k + 1 : Nat) ∧ n = .int .u64 (nval s a k)) (fun _ i => 8 - (intOf i).toNat)
  case atStart => exact ⟨0, by omega, rfl, rfl⟩
  case round =>
    obtain ⟨k, hk, rfl, rfl⟩ := hrel
    by_cases hlt : k + 1 < 8
    · have c5 : decide (((k + 1 : Nat) : Int) < 8) = true := by simp; omega
      go_wp2
      go_round
      case rel => exact ⟨k + 1, by omega, by go_num, by rw [add_byte s a k (by omega)]⟩
      case measure => simp [intOf]; omega
    · obtain rfl : k = 7 := by omega
      have hm := nval_max s a 7 (by omega)
      have hm2 := nval_lt s a 7
      by_cases hl : nval s a 7 < 1073741824
      · 
        have hz : (putB (nval s a 7)).size < 8 := putB_lt3 hp hl
        clear hm
        go_wp2_with (go_at_call 42; (with_reducible refine (refPut_any _ _ (by assumption)).mono ?_); rintro e w1 ⟨rfl, hb⟩)
        go_ret3
        exact ⟨by rw [whole_lo hl]; rfl, hb⟩
      · have hz : (putB (nval s a 7)).size = 8 := putB_eq3 (by omega) (by omega)
        clear hm
        go_wp2_with (go_at_call 42; (with_reducible refine (refPut_any _ _ (by assumption)).mono ?_); rintro e w1 ⟨rfl, hb⟩)
        go_ret3
        exact ⟨by rw [whole_hi (by omega)]; rfl, hb⟩

theorem refGet_any (s : ByteArray) (a : Int) (w : World) (hs : s.size ≤ maxLen) :
    Calls Try.prog 46 #[.string s, .int .i64 a] w fun e w' => e = .returned (getV (getS s a)) ∧ Below w.heap.size w w' := by
  unfold getS
  by_cases h : a < 0 ∨ a > s.size
  · rw [if_pos h]; exact refGet_out s a w h
  rw [if_neg h]
  by_cases h1 : a = s.size
  · rw [if_pos h1]; subst h1; exact refGet_end s w
  rw [if_neg h1]
  have hr := byt_range s a
  have hc : byt s a / 64 = 0 ∨ byt s a / 64 = 1 ∨ byt s a / 64 = 2 ∨ byt s a / 64 = 3 := by omega
  rcases hc with hc | hc | hc | hc
  · rw [hc]
    have e1 : wide 0 = 1 := rfl
    have e2 : least 0 = 0 := rfl
    rw [e1, e2]
    by_cases h2 : (s.size : Int) - a < ((1 : Nat) : Int)
    · rw [if_pos h2]; omega
    · rw [if_neg h2]; exact refGet_full0 s a w hs (by omega) (by omega) hc
  · rw [hc]
    have e1 : wide 1 = 2 := rfl
    have e2 : least 1 = 64 := rfl
    rw [e1, e2]
    by_cases h2 : (s.size : Int) - a < ((2 : Nat) : Int)
    · rw [if_pos h2]; exact refGet_short1 s a w hs (by omega) (by omega) h2 hc
    · rw [if_neg h2]; exact refGet_full1 s a w hs (by omega) (by omega) hc
  · rw [hc]
    have e1 : wide 2 = 4 := rfl
    have e2 : least 2 = 16384 := rfl
    rw [e1, e2]
    by_cases h2 : (s.size : Int) - a < ((4 : Nat) : Int)
    · rw [if_pos h2]; exact refGet_short2 s a w hs (by omega) (by omega) h2 hc
    · rw [if_neg h2]; exact refGet_full2 s a w hs (by omega) (by omega) hc
  · rw [hc]
    have e1 : wide 3 = 8 := rfl
    have e2 : least 3 = 1073741824 := rfl
    rw [e1, e2]
    by_cases h2 : (s.size : Int) - a < ((8 : Nat) : Int)
    · rw [if_pos h2]; exact refGet_short3 s a w hs (by omega) (by omega) h2 hc
    · rw [if_neg h2]; exact refGet_full3 s a w hs (by omega) (by omega) hc

end Go.Proofs.Ytlohnhjfdmldnaa.Num
