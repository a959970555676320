/- A record's number, the program's and the reference's: the walks (own text). -/
import Derived.Test.YtlohnhjfdmldnaaRecPlain
import Derived.Laws.BitsAllLaws
namespace Go.Proofs.Ytlohnhjfdmldnaa.Rec
open Go.RowKit Go.Proofs.Ytlohnhjfdmldnaa.Mem
set_option linter.unusedVariables false
set_option linter.unusedSimpArgs false
def hlf (d x : Nat) : Nat := x ^^^ x / d
def mulN (c x : Nat) : Nat := x * c % 18446744073709551616
/-- A number, mixed. -/
def mixN (x : Nat) : Nat := hlf 2147483648 (mulN 10723151780598845931 (hlf 134217728 (mulN 13787848793156543929 (hlf 1073741824 x))))
theorem hlf_lt (d : Nat) {x : Nat} (h : x < 18446744073709551616) : hlf d x < 18446744073709551616 := Nat.xor_lt_two_pow (n := 64) h (Nat.lt_of_le_of_lt (Nat.div_le_self _ _) h)
theorem mulN_lt (c x : Nat) : mulN c x < 18446744073709551616 := Nat.mod_lt _ (by decide)
theorem mixN_lt (x : Nat) : mixN x < 18446744073709551616 := hlf_lt _ (mulN_lt _ _)
theorem hlf_bits {d x : Nat} (h : x < 18446744073709551616) : bits .xor .u64 (x : Int) ((x : Int) / (d : Int)) = (hlf d x : Nat) := by
  rw [← Int.natCast_ediv]
  exact u64_xor_nat _ _ h (Nat.lt_of_le_of_lt (Nat.div_le_self _ _) h)
theorem mulN_wrap (c x : Nat) : IntKind.u64.wrap ((x : Int) * (c : Int)) = (mulN c x : Nat) := by
  rw [IntKind.wrap_u64]
  unfold mulN
  rw [← Int.natCast_mul]
  omega
theorem mix_any (x : Nat) (w : World) (hx : x < 18446744073709551616) :
    Calls Try.prog 53 #[.int .u64 x] w fun e w' => e = .returned (.int .u64 (mixN x)) ∧ Below w.heap.size w w' := by
  obtain ⟨a, ha⟩ : ∃ a, a = hlf 1073741824 x := ⟨_, rfl⟩
  obtain ⟨b, hb⟩ : ∃ b, b = mulN 13787848793156543929 a := ⟨_, rfl⟩
  obtain ⟨c, hc⟩ : ∃ c, c = hlf 134217728 b := ⟨_, rfl⟩
  obtain ⟨d, hd⟩ : ∃ d, d = mulN 10723151780598845931 c := ⟨_, rfl⟩
  have he : mixN x = hlf 2147483648 d := by rw [hd, hc, hb, ha]; rfl
  have q1 : bits .xor .u64 (x : Int) ((x : Int) / 1073741824) = (a : Int) := by rw [ha]; exact hlf_bits hx
  have q2 : IntKind.u64.wrap ((a : Int) * 13787848793156543929) = (b : Int) := by rw [hb]; exact mulN_wrap _ _
  have q3 : bits .xor .u64 (b : Int) ((b : Int) / 134217728) = (c : Int) := by rw [hc]; exact hlf_bits (hb ▸ mulN_lt _ _)
  have q4 : IntKind.u64.wrap ((c : Int) * 10723151780598845931) = (d : Int) := by rw [hd]; exact mulN_wrap _ _
  have q5 : bits .xor .u64 (d : Int) ((d : Int) / 2147483648) = (mixN x : Nat) := by rw [he]; exact hlf_bits (hd ▸ mulN_lt _ _)
  clear ha hb hc hd he
  generalize mixN x = m at *
  go_enter Try.func53, Try.ntmps53
  go_wp2_with (fail)
  go_ret
  exact ⟨rfl, Below.refl _ _⟩
def dv (x : Nat) : Nat → Nat
  | 0 => x
  | k + 1 => dv x k / 2
theorem dv_le (x : Nat) : ∀ k, dv x k ≤ x
  | 0 => Nat.le_refl _
  | k + 1 => Nat.le_trans (Nat.div_le_self _ _) (dv_le x k)
theorem dv_pow (x : Nat) : ∀ k, dv x k = x / 2 ^ k
  | 0 => by simp [dv]
  | k + 1 => by unfold dv; rw [dv_pow x k, Nat.div_div_eq_div_mul, Nat.pow_succ]
theorem half_any (x k : Nat) (w : World) (hx : x < 18446744073709551616) (hk : k ≤ 64) :
    Calls Try.prog 58 #[.int .u64 x, .int .i64 k] w fun e w' => e = .returned (.int .u64 (hlf (2 ^ k) x)) ∧ Below w.heap.size w w' := by
  have hend : bits .xor .u64 (x : Int) ((dv x k : Nat) : Int) = (hlf (2 ^ k) x : Nat) := by
    rw [u64_xor_nat _ _ hx (Nat.lt_of_le_of_lt (dv_le x k) hx), dv_pow]; rfl
  go_enter Try.func58, Try.ntmps58
  go_wp2_with (fail)
  go_loopw [5, 6] (fun y i w' => ∃ j : Nat, j ≤ k ∧ y = .int .u64 (dv x j : Nat) ∧ i = .int .i64 j ∧ w' = w) (fun _ i _ => k - (intOf i).toNat)
  case atStart => exact ⟨0, by omega, rfl, rfl, rfl⟩
  case round =>
    obtain ⟨j, hj, rfl, rfl, rfl⟩ := hrel
    have hs : ((dv x (j + 1) : Nat) : Int) = ((dv x j : Nat) : Int) / 2 := by show ((dv x j / 2 : Nat) : Int) = _; omega
    have hl := dv_le x j
    by_cases hlt : j < k
    · have c1 : decide (j < k) = true := decide_eq_true hlt
      generalize dv x j = y at *
      go_wp2_with (fail)
      exact ⟨⟨j + 1, by omega, by rw [hs], by go_num, trivial⟩, by simp [intOf]; omega⟩
    · obtain rfl : j = k := by omega
      have c1 : decide (j < j) = false := decide_eq_false hlt
      clear hs
      generalize dv x j = y at *
      go_wp2_with (fail)
      go_ret
      exact ⟨rfl, Below.refl _ _⟩
theorem refMix_any (x : Nat) (w : World) (hx : x < 18446744073709551616) :
    Calls Try.prog 54 #[.int .u64 x] w fun e w' => e = .returned (.int .u64 (mixN x)) ∧ Below w.heap.size w w' := by
  obtain ⟨a, ha⟩ : ∃ a, a = hlf 1073741824 x := ⟨_, rfl⟩
  obtain ⟨b, hb⟩ : ∃ b, b = mulN 13787848793156543929 a := ⟨_, rfl⟩
  obtain ⟨c, hc⟩ : ∃ c, c = hlf 134217728 b := ⟨_, rfl⟩
  obtain ⟨d, hd⟩ : ∃ d, d = mulN 10723151780598845931 c := ⟨_, rfl⟩
  have he : mixN x = hlf 2147483648 d := by rw [hd, hc, hb, ha]; rfl
  have q2 : IntKind.u64.wrap ((a : Int) * 13787848793156543929) = (b : Int) := by rw [hb]; exact mulN_wrap _ _
  have q4 : IntKind.u64.wrap ((c : Int) * 10723151780598845931) = (d : Int) := by rw [hd]; exact mulN_wrap _ _
  have h1 : ∀ w : World, Calls Try.prog 58 #[.int .u64 x, .int .i64 30] w fun e w' => e = .returned (.int .u64 a) ∧ Below w.heap.size w w' := fun w => by rw [ha]; exact half_any x 30 w hx (by decide)
  have h2 : ∀ w : World, Calls Try.prog 58 #[.int .u64 b, .int .i64 27] w fun e w' => e = .returned (.int .u64 c) ∧ Below w.heap.size w w' := fun w => by rw [hc]; exact half_any b 27 w (hb ▸ mulN_lt _ _) (by decide)
  have h3 : ∀ w : World, Calls Try.prog 58 #[.int .u64 d, .int .i64 31] w fun e w' => e = .returned (.int .u64 (mixN x)) ∧ Below w.heap.size w w' := fun w => by rw [he]; exact half_any d 31 w (hd ▸ mulN_lt _ _) (by decide)
  have H1 := Lib.hid h1
  have H2 := Lib.hid h2
  have H3 := Lib.hid h3
  clear ha hb hc hd he h1 h2 h3
  generalize mixN x = m at *
  go_enter Try.func54, Try.ntmps54
  go_wp2_with (fail)
  refine (H1.out _).mono ?_
  rintro e w1 ⟨rfl, b1⟩
  go_wp2_with (fail)
  refine (H2.out _).mono ?_
  rintro e w2 ⟨rfl, b2⟩
  go_wp2_with (fail)
  refine (H3.out _).mono ?_
  rintro e w3 ⟨rfl, b3⟩
  go_wp2_with (fail)
  go_ret
  exact ⟨rfl, below_on (below_on b1 b2) b3⟩
/-- A text's state behind k bytes. -/
def txt (s : ByteArray) : Nat → Nat
  | 0 => 11400714819323198485
  | k + 1 => mixN (txt s k ^^^ bt s k)
theorem txt_lt (s : ByteArray) : ∀ k, txt s k < 18446744073709551616
  | 0 => show (11400714819323198485 : Nat) < _ by decide
  | _ + 1 => mixN_lt _
def textN (s : ByteArray) : Nat := mixN (txt s s.size ^^^ s.size)
def twoN (x y : Nat) : Nat := mixN (mixN x ^^^ y)
theorem text_any (s : ByteArray) (w : World) (hs : s.size ≤ 1000000) :
    Calls Try.prog 35 #[.string s] w fun e w' => e = .returned (.int .u64 (textN s)) ∧ Below w.heap.size w w' := by
  have HM := Lib.hid (fun (x : Nat) (h : x < 18446744073709551616) (w : World) => mix_any x w h)
  go_enter Try.func35, Try.ntmps35
  go_wp2_with (fail)
  go_loopw [3, 7] (fun y i w' => ∃ j : Nat, j ≤ s.size ∧ y = .int .u64 (txt s j : Nat) ∧ i = .int .i64 j ∧ Hid (Below w.heap.size w w')) (fun _ i _ => s.size - (intOf i).toNat)
  case atStart => exact ⟨0, by omega, rfl, rfl, Lib.hid (Below.refl _ _)⟩
  case round =>
    obtain ⟨j, hj, rfl, rfl, HB⟩ := hrel
    have hl := txt_lt s j
    by_cases hlt : j < s.size
    · have hn : mixN (txt s j ^^^ bt s j) = txt s (j + 1) := rfl
      have hat := bt_at s j hlt
      have hb := bt_lt s j
      have q1 := u64_xor_nat (txt s j) (bt s j) hl (by omega)
      have KM := HM.out (txt s j ^^^ bt s j) (Nat.xor_lt_two_pow (n := 64) hl (by omega))
      rw [hn] at KM
      have K2 := Lib.hid KM
      clear KM hn
      generalize txt s j ^^^ bt s j = z at *
      generalize bt s j = y at *
      obtain ⟨m, hm⟩ : ∃ m, m = txt s (j + 1) := ⟨_, rfl⟩
      rw [← hm] at K2
      generalize txt s j = v at *
      go_wp2_with (fail)
      refine (K2.out _).mono ?_
      rintro e w1 ⟨rfl, b1⟩
      go_wp2_with (fail)
      exact ⟨⟨j + 1, by omega, by first | rfl | rw [hm], by go_num, Lib.hid (below_on HB.out b1)⟩, by simp [intOf]; omega⟩
    · obtain rfl : j = s.size := by omega
      have hn : mixN (txt s s.size ^^^ s.size) = textN s := rfl
      have q1 := u64_xor_nat (txt s s.size) s.size hl (by omega)
      have KM := HM.out (txt s s.size ^^^ s.size) (Nat.xor_lt_two_pow (n := 64) hl (by omega))
      rw [hn] at KM
      have K2 := Lib.hid KM
      clear KM hn
      generalize txt s s.size ^^^ s.size = z at *
      obtain ⟨m, hm⟩ : ∃ m, m = textN s := ⟨_, rfl⟩
      rw [← hm] at K2
      generalize txt s s.size = v at *
      go_wp2_with (fail)
      refine (K2.out _).mono ?_
      rintro e w1 ⟨rfl, b1⟩
      go_wp2_with (fail)
      go_ret
      exact ⟨by rw [← hm]; rfl, below_on HB.out b1⟩
theorem refText_any (s : ByteArray) (w : World) (hs : s.size ≤ 1000000) :
    Calls Try.prog 37 #[.string s] w fun e w' => e = .returned (.int .u64 (textN s)) ∧ Below w.heap.size w w' := by
  have HM := Lib.hid (fun (x : Nat) (h : x < 18446744073709551616) (w : World) => refMix_any x w h)
  go_enter Try.func37, Try.ntmps37
  go_wp2_with (fail)
  go_loopw [3, 4] (fun y i w' => ∃ j : Nat, j ≤ s.size ∧ y = .int .u64 (txt s j : Nat) ∧ i = .int .i64 j ∧ Hid (Below w.heap.size w w')) (fun _ i _ => s.size - (intOf i).toNat)
  case atStart => exact ⟨0, by omega, rfl, rfl, Lib.hid (Below.refl _ _)⟩
  case round =>
    obtain ⟨j, hj, rfl, rfl, HB⟩ := hrel
    have hl := txt_lt s j
    by_cases hlt : j < s.size
    · have hn : mixN (txt s j ^^^ bt s j) = txt s (j + 1) := rfl
      have hat := bt_at s j hlt
      have hb := bt_lt s j
      have q1 := u64_xor_nat (txt s j) (bt s j) hl (by omega)
      have KM := HM.out (txt s j ^^^ bt s j) (Nat.xor_lt_two_pow (n := 64) hl (by omega))
      rw [hn] at KM
      have K2 := Lib.hid KM
      clear KM hn
      generalize txt s j ^^^ bt s j = z at *
      generalize bt s j = y at *
      obtain ⟨m, hm⟩ : ∃ m, m = txt s (j + 1) := ⟨_, rfl⟩
      rw [← hm] at K2
      generalize txt s j = v at *
      go_wp2_with (fail)
      refine (K2.out _).mono ?_
      rintro e w1 ⟨rfl, b1⟩
      go_wp2_with (fail)
      exact ⟨⟨j + 1, by omega, by first | rfl | rw [hm], by go_num, Lib.hid (below_on HB.out b1)⟩, by simp [intOf]; omega⟩
    · obtain rfl : j = s.size := by omega
      have hn : mixN (txt s s.size ^^^ s.size) = textN s := rfl
      have q1 := u64_xor_nat (txt s s.size) s.size hl (by omega)
      have KM := HM.out (txt s s.size ^^^ s.size) (Nat.xor_lt_two_pow (n := 64) hl (by omega))
      rw [hn] at KM
      have K2 := Lib.hid KM
      clear KM hn
      generalize txt s s.size ^^^ s.size = z at *
      obtain ⟨m, hm⟩ : ∃ m, m = textN s := ⟨_, rfl⟩
      rw [← hm] at K2
      generalize txt s s.size = v at *
      go_wp2_with (fail)
      refine (K2.out _).mono ?_
      rintro e w1 ⟨rfl, b1⟩
      go_wp2_with (fail)
      go_ret
      exact ⟨by rw [← hm]; rfl, below_on HB.out b1⟩
theorem two_any (x y : Nat) (w : World) (hx : x < 18446744073709551616) (hy : y < 18446744073709551616) :
    Calls Try.prog 36 #[.int .u64 x, .int .u64 y] w fun e w' => e = .returned (.int .u64 (twoN x y)) ∧ Below w.heap.size w w' := by
  have hz := mixN_lt x
  have q1 := u64_xor_nat (mixN x) y hz hy
  have H1 := Lib.hid (fun w => mix_any x w hx)
  have H2 := Lib.hid (fun w => mix_any (mixN x ^^^ y) w (Nat.xor_lt_two_pow (n := 64) hz hy))
  rw [show mixN (mixN x ^^^ y) = twoN x y from rfl] at H2
  generalize mixN x ^^^ y = u at *
  generalize twoN x y = m at *
  generalize mixN x = v at *
  go_enter Try.func36, Try.ntmps36
  go_wp2_with (fail)
  refine (H1.out _).mono ?_
  rintro e w1 ⟨rfl, b1⟩
  go_wp2_with (fail)
  refine (H2.out _).mono ?_
  rintro e w2 ⟨rfl, b2⟩
  go_wp2_with (fail)
  go_ret
  exact ⟨rfl, below_on b1 b2⟩
theorem refTwo_any (x y : Nat) (w : World) (hx : x < 18446744073709551616) (hy : y < 18446744073709551616) :
    Calls Try.prog 38 #[.int .u64 x, .int .u64 y] w fun e w' => e = .returned (.int .u64 (twoN x y)) ∧ Below w.heap.size w w' := by
  have hz := mixN_lt x
  have q1 := u64_xor_nat (mixN x) y hz hy
  have H1 := Lib.hid (fun w => refMix_any x w hx)
  have H2 := Lib.hid (fun w => refMix_any (mixN x ^^^ y) w (Nat.xor_lt_two_pow (n := 64) hz hy))
  rw [show mixN (mixN x ^^^ y) = twoN x y from rfl] at H2
  generalize mixN x ^^^ y = u at *
  generalize twoN x y = m at *
  generalize mixN x = v at *
  go_enter Try.func38, Try.ntmps38
  go_wp2_with (fail)
  refine (H1.out _).mono ?_
  rintro e w1 ⟨rfl, b1⟩
  go_wp2_with (fail)
  refine (H2.out _).mono ?_
  rintro e w2 ⟨rfl, b2⟩
  go_wp2_with (fail)
  go_ret
  exact ⟨rfl, below_on b1 b2⟩
end Go.Proofs.Ytlohnhjfdmldnaa.Rec
