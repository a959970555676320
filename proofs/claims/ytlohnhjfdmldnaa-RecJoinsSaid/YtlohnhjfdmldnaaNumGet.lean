/- What the given program's num.Get comes to: contracts over the number form (own text). -/
import Derived.Test.YtlohnhjfdmldnaaProg
import Derived.WalkKit
import Derived.Deep.QuietTactic
import Derived.BigQuiet
import Derived.WalkLawsBesides
import Derived.WalkSpells
import Derived.Deep.LoopGhost
import Derived.PlainAid
namespace Go.Proofs.Ytlohnhjfdmldnaa.Num
open Go.RowKit
set_option linter.unusedVariables false
set_option linter.unusedSimpArgs false

/-- The byte of a text at a place, as a whole number. -/
def byt (s : ByteArray) (i : Int) : Int := if h : i.toNat < s.size then ((s[i.toNat]'h).toNat : Int) else 0
theorem byt_at (s : ByteArray) (i : Int) : ∀ (h : i.toNat < s.size), ((s[i.toNat]'h).toNat : Int) = byt s i := fun h => by unfold byt; rw [dif_pos h]
theorem byt_range (s : ByteArray) (i : Int) : 0 ≤ byt s i ∧ byt s i < 256 := by
  unfold byt
  split
  · rename_i h
    have := (s[i.toNat]'h).toNat_lt
    omega
  · omega
/-- The number so far, behind i bytes more. -/
def nval (s : ByteArray) (a : Int) : Nat → Int
  | 0 => byt s a % 64
  | i + 1 => nval s a i * 256 + byt s (a + ((i : Int) + 1))
theorem nval_pos (s : ByteArray) (a : Int) (i : Nat) : 0 ≤ nval s a i := by
  induction i with
  | zero => simp only [nval]; omega
  | succ i ih => have := byt_range s (a + ((i : Int) + 1)); simp only [nval]; omega
theorem nval_step (s : ByteArray) (a : Int) (i : Nat) : nval s a (i + 1) = nval s a i * 256 + byt s (a + ((i : Int) + 1)) := rfl
theorem nval_lt (s : ByteArray) (a : Int) (i : Nat) : nval s a i < 64 * 256 ^ i := by
  induction i with
  | zero => simp only [nval]; omega
  | succ i ih => have := byt_range s (a + ((i : Int) + 1)); simp only [nval, Int.pow_succ]; omega
theorem nval_max (s : ByteArray) (a : Int) (i : Nat) (h : i ≤ 7) : nval s a i < 4611686018427387904 := by
  have h1 := nval_lt s a i
  have h2 : (64 * 256 ^ i : Int) ≤ 64 * 256 ^ 7 := by
    have : (256 ^ i : Nat) ≤ 256 ^ 7 := Nat.pow_le_pow_right (by decide) h
    have h3 : ((256 ^ i : Nat) : Int) ≤ ((256 ^ 7 : Nat) : Int) := by exact_mod_cast this
    simp only [Int.natCast_pow] at h3
    have h4 : ((256 : Nat) : Int) = 256 := rfl
    rw [h4] at h3
    omega
  have h5 : (64 * 256 ^ 7 : Int) = 4611686018427387904 := by decide
  omega
theorem p64 : ((2 : Int) ^ 64) = 18446744073709551616 := by decide
theorem or_byte (x y : Int) (hx : 0 ≤ x) (hx1 : x < 18014398509481984) (hy : 0 ≤ y) (hy1 : y < 256) :
    bits .or .u64 (IntKind.u64.wrap (x * 256)) (IntKind.u64.wrap y) = x * 256 + y := by
  rw [IntWalk.u64_in _ ⟨by omega, by omega⟩, IntWalk.u64_in _ ⟨by omega, by omega⟩]
  have hk : ∀ n : Int, 0 ≤ n → n < 2 ^ 64 → IntKind.u64.wrap n = n := fun n h0 h1 => by
    rw [p64] at h1
    exact IntWalk.u64_in n ⟨h0, by omega⟩
  exact bits_join .u64 64 (by decide) hk 8 _ _ (by omega) (by omega) (by rw [p64]; omega) hy (by omega) (by rw [p64]; omega)
theorem nval_or (s : ByteArray) (a : Int) (i : Nat) (hi : i < 7) (hlt : (a + ((i : Int) + 1)).toNat < s.size) :
    bits .or .u64 (IntKind.u64.wrap (nval s a i * 256)) (IntKind.u64.wrap ((s[(a + ((i : Int) + 1)).toNat]'hlt).toNat : Int)) = nval s a (i + 1) := by
  rw [byt_at s _ hlt]
  have h1 := nval_pos s a i
  have h2 := nval_lt s a i
  have h3 := byt_range s (a + ((i : Int) + 1))
  have h4 : nval s a i < 18014398509481984 := by
    have h5 := nval_max s a (i + 1) (by omega)
    rw [nval_step] at h5
    omega
  rw [or_byte _ _ h1 h4 h3.1 h3.2, nval_step]
/-- The least number of a form. -/
def least (c : Int) : Int := if c = 1 then 64 else if c = 2 then 16384 else if c = 3 then 1073741824 else 0
/-- How many bytes a form has. -/
def wide (c : Int) : Nat := if c = 1 then 2 else if c = 2 then 4 else if c = 3 then 8 else 1
/-- A number that was read whole: in its own form, or not. -/
def whole (n lim a w : Int) : Int × Int × Int := if n < lim then (0, 0, 3) else (n, a + w, 0)
theorem whole_lo {n lim a w : Int} (h : n < lim) : whole n lim a w = (0, 0, 3) := if_pos h
theorem whole_hi {n lim a w : Int} (h : ¬ n < lim) : whole n lim a w = (n, a + w, 0) := if_neg h
/-- What Get tells: the number, the place behind it, the error's number. -/
def getS (s : ByteArray) (a : Int) : Int × Int × Int :=
  if a < 0 ∨ a > s.size then (0, 0, 1) else if a = s.size then (0, 0, 2)
  else if (s.size : Int) - a < wide (byt s a / 64) then (0, 0, 2)
  else whole (nval s a (wide (byt s a / 64) - 1)) (least (byt s a / 64)) a (wide (byt s a / 64))
/-- The same, as the machine hands it over. -/
def getV (r : Int × Int × Int) : Value := .tuple #[.int .u64 r.1, .int .i64 r.2.1, .int .i64 r.2.2]

set_option maxHeartbeats 400000 in
theorem get_out (s : ByteArray) (a : Int) (w : World) (_hs : s.size ≤ maxLen) (h : a < 0 ∨ a > s.size) :
    Calls Try.prog 56 #[.string s, .int .i64 a] w fun e w' => e = .returned (getV (0, 0, 1)) ∧ ∃ n, w' = w.drewN n := by
  by_cases h1 : a < 0
  · have h1 : decide (a < 0) = true := by simpa using h1
    go_enter Try.func56, Try.ntmps56
    go_wp2
    go_ret3
    exact ⟨rfl, 0, rfl⟩
  · have h1 : decide (a < 0) = false := by simpa using h1
    have h2 : decide ((s.size : Int) < a) = true := by simp; omega
    go_enter Try.func56, Try.ntmps56
    go_wp2
    go_ret3
    exact ⟨rfl, 0, rfl⟩
set_option maxHeartbeats 400000 in
theorem get_end (s : ByteArray) (w : World) :
    Calls Try.prog 56 #[.string s, .int .i64 s.size] w fun e w' => e = .returned (getV (0, 0, 2)) ∧ ∃ n, w' = w.drewN n := by
  have h1 : decide ((s.size : Int) < 0) = false := by simp
  have h2 : decide ((s.size : Int) < s.size) = false := by simp
  go_enter Try.func56, Try.ntmps56
  go_wp2
  go_ret3
  exact ⟨rfl, 0, rfl⟩

set_option maxHeartbeats 400000 in
theorem get_full0 (s : ByteArray) (a : Int) (w : World) (hs : s.size ≤ maxLen) (h0 : 0 ≤ a) (h1 : a + 1 ≤ s.size) (hb : byt s a / 64 = 0) :
    Calls Try.prog 56 #[.string s, .int .i64 a] w fun e w' => e = .returned (getV (whole (nval s a 0) 0 a 1)) ∧ ∃ n, w' = w.drewN n := by
  unfold maxLen at hs
  have c1 : decide (a < 0) = false := by simp; omega
  have c2 : decide (a > (s.size : Int)) = false := by simp; omega
  have c3 : (a == (s.size : Int)) = false := by simp; omega
  have hx := byt_at s a
  have hr := byt_range s a
  have hlt : a < (s.size : Int) := by omega
  have c4 : decide ((s.size : Int) - a < 1) = false := by simp; omega
  have hp := nval_pos s a 0
  go_enter Try.func56, Try.ntmps56
  go_wp2
  clear hx c1 c2 c3 c4
  go_loop [8, 9] (fun n i => ∃ k : Nat, k < 1 ∧ i = .int .i64 (k + 1 : Nat) ∧ n = .int .u64 (nval s a k)) (fun _ i => 1 - (intOf i).toNat)
  case atStart => exact ⟨0, by omega, rfl, rfl⟩
  case round =>
    obtain ⟨k, hk, rfl, rfl⟩ := hrel
    by_cases hlt : k + 1 < 1
    · have c5 : decide (((k + 1 : Nat) : Int) < 1) = true := by simp; omega
      omega


    · obtain rfl : k = 0 := by omega
      by_cases hl : nval s a 0 < 0
      · omega
      · go_wp2
        go_quiet (fail)
        go_wp2
        go_ret3
        exact ⟨by rw [whole_hi (by omega)]; rfl, _, rfl⟩

set_option maxHeartbeats 400000 in
theorem get_short1 (s : ByteArray) (a : Int) (w : World) (hs : s.size ≤ maxLen) (h0 : 0 ≤ a) (h1 : a < s.size) (h2 : (s.size : Int) - a < 2) (hb : byt s a / 64 = 1) :
    Calls Try.prog 56 #[.string s, .int .i64 a] w fun e w' => e = .returned (getV (0, 0, 2)) ∧ ∃ n, w' = w.drewN n := by
  unfold maxLen at hs
  have c1 : decide (a < 0) = false := by simp; omega
  have c2 : decide (a > (s.size : Int)) = false := by simp; omega
  have c3 : (a == (s.size : Int)) = false := by simp; omega
  have hx := byt_at s a
  have hr := byt_range s a
  have hlt : a < (s.size : Int) := by omega
  have c4 : decide ((s.size : Int) - a < 2) = true := by simp; omega
  go_enter Try.func56, Try.ntmps56
  go_wp2
  go_ret3
  exact ⟨rfl, 0, rfl⟩

set_option maxHeartbeats 400000 in
theorem get_full1 (s : ByteArray) (a : Int) (w : World) (hs : s.size ≤ maxLen) (h0 : 0 ≤ a) (h1 : a + 2 ≤ s.size) (hb : byt s a / 64 = 1) :
    Calls Try.prog 56 #[.string s, .int .i64 a] w fun e w' => e = .returned (getV (whole (nval s a 1) 64 a 2)) ∧ ∃ n, w' = w.drewN n := by
  unfold maxLen at hs
  have c1 : decide (a < 0) = false := by simp; omega
  have c2 : decide (a > (s.size : Int)) = false := by simp; omega
  have c3 : (a == (s.size : Int)) = false := by simp; omega
  have hx := byt_at s a
  have hr := byt_range s a
  have hlt : a < (s.size : Int) := by omega
  have c4 : decide ((s.size : Int) - a < 2) = false := by simp; omega
  have hp := nval_pos s a 1
  go_enter Try.func56, Try.ntmps56
  go_wp2
  clear hx c1 c2 c3 c4
  go_loop [8, 9] (fun n i => ∃ k : Nat, k < 2 ∧ i = .int .i64 (k + 1 : Nat) ∧ n = .int .u64 (nval s a k)) (fun _ i => 2 - (intOf i).toNat)
  case atStart => exact ⟨0, by omega, rfl, rfl⟩
  case round =>
    obtain ⟨k, hk, rfl, rfl⟩ := hrel
    by_cases hlt : k + 1 < 2
    · have c5 : decide (((k + 1 : Nat) : Int) < 2) = true := by simp; omega
      go_wp2
      go_round
      case rel => exact ⟨k + 1, by omega, by go_num, by rw [nval_or s a k (by omega)]⟩
      case measure => simp [intOf]; omega
    · obtain rfl : k = 1 := by omega
      by_cases hl : nval s a 1 < 64
      · go_wp2
        go_ret3
        exact ⟨by rw [whole_lo hl]; rfl, 0, rfl⟩
      · go_wp2
        go_quiet (fail)
        go_wp2
        go_ret3
        exact ⟨by rw [whole_hi (by omega)]; rfl, _, rfl⟩

set_option maxHeartbeats 400000 in
theorem get_short2 (s : ByteArray) (a : Int) (w : World) (hs : s.size ≤ maxLen) (h0 : 0 ≤ a) (h1 : a < s.size) (h2 : (s.size : Int) - a < 4) (hb : byt s a / 64 = 2) :
    Calls Try.prog 56 #[.string s, .int .i64 a] w fun e w' => e = .returned (getV (0, 0, 2)) ∧ ∃ n, w' = w.drewN n := by
  unfold maxLen at hs
  have c1 : decide (a < 0) = false := by simp; omega
  have c2 : decide (a > (s.size : Int)) = false := by simp; omega
  have c3 : (a == (s.size : Int)) = false := by simp; omega
  have hx := byt_at s a
  have hr := byt_range s a
  have hlt : a < (s.size : Int) := by omega
  have c4 : decide ((s.size : Int) - a < 4) = true := by simp; omega
  go_enter Try.func56, Try.ntmps56
  go_wp2
  go_ret3
  exact ⟨rfl, 0, rfl⟩

set_option maxHeartbeats 400000 in
theorem get_full2 (s : ByteArray) (a : Int) (w : World) (hs : s.size ≤ maxLen) (h0 : 0 ≤ a) (h1 : a + 4 ≤ s.size) (hb : byt s a / 64 = 2) :
    Calls Try.prog 56 #[.string s, .int .i64 a] w fun e w' => e = .returned (getV (whole (nval s a 3) 16384 a 4)) ∧ ∃ n, w' = w.drewN n := by
  unfold maxLen at hs
  have c1 : decide (a < 0) = false := by simp; omega
  have c2 : decide (a > (s.size : Int)) = false := by simp; omega
  have c3 : (a == (s.size : Int)) = false := by simp; omega
  have hx := byt_at s a
  have hr := byt_range s a
  have hlt : a < (s.size : Int) := by omega
  have c4 : decide ((s.size : Int) - a < 4) = false := by simp; omega
  have hp := nval_pos s a 3
  go_enter Try.func56, Try.ntmps56
  go_wp2
  clear hx c1 c2 c3 c4
  go_loop [8, 9] (fun n i => ∃ k : Nat, k < 4 ∧ i = .int .i64 (k + 1 : Nat) ∧ n = .int .u64 (nval s a k)) (fun _ i => 4 - (intOf i).toNat)
  case atStart => exact ⟨0, by omega, rfl, rfl⟩
  case round =>
    obtain ⟨k, hk, rfl, rfl⟩ := hrel
    by_cases hlt : k + 1 < 4
    · have c5 : decide (((k + 1 : Nat) : Int) < 4) = true := by simp; omega
      go_wp2
      go_round
      case rel => exact ⟨k + 1, by omega, by go_num, by rw [nval_or s a k (by omega)]⟩
      case measure => simp [intOf]; omega
    · obtain rfl : k = 3 := by omega
      by_cases hl : nval s a 3 < 16384
      · go_wp2
        go_ret3
        exact ⟨by rw [whole_lo hl]; rfl, 0, rfl⟩
      · go_wp2
        go_quiet (fail)
        go_wp2
        go_ret3
        exact ⟨by rw [whole_hi (by omega)]; rfl, _, rfl⟩

set_option maxHeartbeats 400000 in
theorem get_short3 (s : ByteArray) (a : Int) (w : World) (hs : s.size ≤ maxLen) (h0 : 0 ≤ a) (h1 : a < s.size) (h2 : (s.size : Int) - a < 8) (hb : byt s a / 64 = 3) :
    Calls Try.prog 56 #[.string s, .int .i64 a] w fun e w' => e = .returned (getV (0, 0, 2)) ∧ ∃ n, w' = w.drewN n := by
  unfold maxLen at hs
  have c1 : decide (a < 0) = false := by simp; omega
  have c2 : decide (a > (s.size : Int)) = false := by simp; omega
  have c3 : (a == (s.size : Int)) = false := by simp; omega
  have hx := byt_at s a
  have hr := byt_range s a
  have hlt : a < (s.size : Int) := by omega
  have c4 : decide ((s.size : Int) - a < 8) = true := by simp; omega
  go_enter Try.func56, Try.ntmps56
  go_wp2
  go_ret3
  exact ⟨rfl, 0, rfl⟩

set_option maxHeartbeats 400000 in
theorem get_full3 (s : ByteArray) (a : Int) (w : World) (hs : s.size ≤ maxLen) (h0 : 0 ≤ a) (h1 : a + 8 ≤ s.size) (hb : byt s a / 64 = 3) :
    Calls Try.prog 56 #[.string s, .int .i64 a] w fun e w' => e = .returned (getV (whole (nval s a 7) 1073741824 a 8)) ∧ ∃ n, w' = w.drewN n := by
  unfold maxLen at hs
  have c1 : decide (a < 0) = false := by simp; omega
  have c2 : decide (a > (s.size : Int)) = false := by simp; omega
  have c3 : (a == (s.size : Int)) = false := by simp; omega
  have hx := byt_at s a
  have hr := byt_range s a
  have hlt : a < (s.size : Int) := by omega
  have c4 : decide ((s.size : Int) - a < 8) = false := by simp; omega
  have hp := nval_pos s a 7
  go_enter Try.func56, Try.ntmps56
  go_wp2
  clear hx c1 c2 c3 c4
  go_loop [8, 9] (fun n i => ∃ k : Nat, k < 8 ∧ i = .int .i64 (k + 1 : Nat) ∧ n = .int .u64 (nval s a k)) (fun _ i => 8 - (intOf i).toNat)
  case atStart => exact ⟨0, by omega, rfl, rfl⟩
  case round =>
    obtain ⟨k, hk, rfl, rfl⟩ := hrel
    by_cases hlt : k + 1 < 8
    · have c5 : decide (((k + 1 : Nat) : Int) < 8) = true := by simp; omega
      go_wp2
      go_round
      case rel => exact ⟨k + 1, by omega, by go_num, by rw [nval_or s a k (by omega)]⟩
      case measure => simp [intOf]; omega
    · obtain rfl : k = 7 := by omega
      by_cases hl : nval s a 7 < 1073741824
      · go_wp2
        go_ret3
        exact ⟨by rw [whole_lo hl]; rfl, 0, rfl⟩
      · go_wp2
        go_quiet (fail)
        go_wp2
        go_ret3
        exact ⟨by rw [whole_hi (by omega)]; rfl, _, rfl⟩

theorem get_any (s : ByteArray) (a : Int) (w : World) (hs : s.size ≤ maxLen) :
    Calls Try.prog 56 #[.string s, .int .i64 a] w fun e w' => e = .returned (getV (getS s a)) ∧ ∃ n, w' = w.drewN n := by
  unfold getS
  by_cases h : a < 0 ∨ a > s.size
  · rw [if_pos h]; exact get_out s a w hs h
  rw [if_neg h]
  by_cases h1 : a = s.size
  · rw [if_pos h1]; subst h1; exact get_end s w
  rw [if_neg h1]
  have hr := byt_range s a
  have hc : byt s a / 64 = 0 ∨ byt s a / 64 = 1 ∨ byt s a / 64 = 2 ∨ byt s a / 64 = 3 := by omega
  rcases hc with hc | hc | hc | hc
  · rw [hc]
    have e1 : wide 0 = 1 := rfl
    have e2 : least 0 = 0 := rfl
    rw [e1, e2]
    by_cases h2 : (s.size : Int) - a < ((1 : Nat) : Int)
    · rw [if_pos h2]; omega
    · rw [if_neg h2]; exact get_full0 s a w hs (by omega) (by omega) hc
  · rw [hc]
    have e1 : wide 1 = 2 := rfl
    have e2 : least 1 = 64 := rfl
    rw [e1, e2]
    by_cases h2 : (s.size : Int) - a < ((2 : Nat) : Int)
    · rw [if_pos h2]; exact get_short1 s a w hs (by omega) (by omega) h2 hc
    · rw [if_neg h2]; exact get_full1 s a w hs (by omega) (by omega) hc
  · rw [hc]
    have e1 : wide 2 = 4 := rfl
    have e2 : least 2 = 16384 := rfl
    rw [e1, e2]
    by_cases h2 : (s.size : Int) - a < ((4 : Nat) : Int)
    · rw [if_pos h2]; exact get_short2 s a w hs (by omega) (by omega) h2 hc
    · rw [if_neg h2]; exact get_full2 s a w hs (by omega) (by omega) hc
  · rw [hc]
    have e1 : wide 3 = 8 := rfl
    have e2 : least 3 = 1073741824 := rfl
    rw [e1, e2]
    by_cases h2 : (s.size : Int) - a < ((8 : Nat) : Int)
    · rw [if_pos h2]; exact get_short3 s a w hs (by omega) (by omega) h2 hc
    · rw [if_neg h2]; exact get_full3 s a w hs (by omega) (by omega) hc

end Go.Proofs.Ytlohnhjfdmldnaa.Num
