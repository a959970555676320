/- New, Entry, More, Sum of the program's table: the walks (own text). -/
import Derived.Test.YtkddaedjgbakkaaSumOnce
namespace Go.Proofs.Ytkddaedjgbakkaa.Sum
open Go.RowKit Go.Proofs.Ytkddaedjgbakkaa.Mem Go.Proofs.Ytkddaedjgbakkaa.Once
set_option linter.unusedVariables false
set_option linter.unusedSimpArgs false
theorem tb_drewN {w : World} {b n : Nat} {d s : Int} {f : Nat → Nat} (h : Tb w b d s f) : Tb (w.drewN n) b d s f := ⟨h.c0, h.c1, h.cE, h.z⟩
theorem more_any (b y : Nat) (s : ByteArray) (w : World) (h : IsTab w b) (hy : y < 4294967296) (hsz : s.size ≤ 1000000) :
    Calls Try.prog 19 #[.pointer (some ⟨b, 0, none⟩), .int .u32 y, .string s] w fun e w' => e = .returned (.int .u32 (more y s)) ∧ Tb w' b 1 0 tab ∧ Chg (fun x => x = b) w w' := by
  have q0 : bits .xor .u32 IntKind.u32.max (y : Int) = ((y ^^^ 4294967295 : Nat) : Int) := by
    rw [Nat.xor_comm]; exact u32_xor_nat 4294967295 y (by decide) hy
  have hsg : IntKind.u32.signed = false := rfl
  have hx : y ^^^ 4294967295 < 4294967296 := Nat.xor_lt_two_pow (n := 32) hy (by decide)
  have hend : more y s = go s (y ^^^ 4294967295) s.size ^^^ 4294967295 := rfl
  have HD := Lib.hid (do_any b w h)
  have hmf : ∀ (fn : Fn) (first cap : Array Value) (w : World), (Instr.makeFunc fn first cap).run Try.prog w = .ok (.func fn first cap) w := fun _ _ _ _ => rfl
  clear h
  go_enter Try.func19, Try.ntmps19
  go_wp2_with (fail)
  refine HD.out.mono ?_
  rintro e w1 ⟨rfl, hT, hC⟩
  have HT := Lib.hid hT
  have HC := Lib.hid hC
  clear hT hC
  go_wp2_with (fail)
  generalize y ^^^ 4294967295 = x at *
  go_loopw [7, 21] (fun v0 v3 w' => ∃ k : Nat, k ≤ s.size ∧ v0 = .int .u32 (go s x k : Nat) ∧ v3 = .int .i64 k ∧ Hid (Tb w' b 1 0 tab) ∧ Hid (Chg (fun x => x = b) w w')) (fun _ v _ => s.size - (intOf v).toNat)
  case atStart => exact ⟨0, by omega, rfl, rfl, HT, HC⟩
  case round =>
    clear HT HC
    obtain ⟨k, hk, rfl, rfl, HT, HC⟩ := hrel
    have hg := go_lt s hx k
    have hs : go s x (k + 1) = ei (go s x k ^^^ by' s k) := rfl
    by_cases hlt : k < s.size
    · generalize go s x k = z at *
      have hb1 := by_lt s k
      have hat := by_at s k
      obtain ⟨c, hc⟩ : ∃ c, c = z % 256 := ⟨_, rfl⟩
      have q1 : IntKind.u8.wrap (z : Int) = (c : Int) := by rw [IntKind.wrap_u8']; omega
      obtain ⟨t, ht⟩ : ∃ t, t = c ^^^ by' s k := ⟨_, rfl⟩
      have q2 : bits .xor .u8 (c : Int) (by' s k : Int) = (t : Int) := by rw [ht]; exact u8_xor_nat c (by' s k) (by omega) hb1
      have t1 : t < 256 := by rw [ht]; exact Nat.xor_lt_two_pow (n := 8) (by omega) hb1
      have e0 := HT.out.cE t t1
      rw [show tab t = ei t by unfold tab; rw [if_pos t1]] at e0
      have e2 := ei_lt (show t < 4294967296 by omega)
      have q3 : bits .xor .u32 ((z : Int) / 256) ((ei t : Nat) : Int) = ((z / 256 ^^^ ei t : Nat) : Int) := by
        rw [show (z : Int) / 256 = ((z / 256 : Nat) : Int) by omega]; exact u32_xor_nat (z / 256) (ei t) (by omega) e2
      have hs' : go s x (k + 1) = z / 256 ^^^ ei t := by rw [hs, by_table z (by' s k) hb1, ht, hc]
      clear hs ht hc
      go_wp2_with (fail)
      go_quiet (fail)
      go_wp2_with (fail)
      exact ⟨⟨k + 1, by omega, by rw [hs'], by go_num, Lib.hid (tb_drewN HT.out), Lib.hid (chg_drewN HC.out)⟩, by simp [intOf]; omega⟩
    · obtain rfl : k = s.size := by omega
      have q4 : bits .xor .u32 IntKind.u32.max ((go s x s.size : Nat) : Int) = ((go s x s.size ^^^ 4294967295 : Nat) : Int) := by
        rw [Nat.xor_comm]; exact u32_xor_nat 4294967295 _ (by decide) hg
      generalize go s x s.size = z at *
      go_wp2_with (fail)
      go_ret
      exact ⟨by rw [hend]; rfl, HT.out, HC.out⟩
theorem sum_any (b : Nat) (s : ByteArray) (w : World) (h : IsTab w b) (hsz : s.size ≤ 1000000) :
    Calls Try.prog 15 #[.pointer (some ⟨b, 0, none⟩), .string s] w fun e w' => e = .returned (.int .u32 (more 0 s)) ∧ Tb w' b 1 0 tab ∧ Chg (fun x => x = b) w w' := by
  have H0 : Calls Try.prog 19 #[.pointer (some ⟨b, 0, none⟩), .int .u32 0, .string s] w fun e w' => e = .returned (.int .u32 (more 0 s)) ∧ Tb w' b 1 0 tab ∧ Chg (fun x => x = b) w w' := more_any b 0 s w h (by decide) hsz
  have H1 := Lib.hid H0
  clear H0 h
  go_enter Try.func15, Try.ntmps15
  go_wp2_with (fail)
  refine H1.out.mono ?_
  rintro e w1 ⟨rfl, hT, hC⟩
  go_wp2_with (fail)
  go_ret
  exact ⟨rfl, hT, hC⟩
theorem more_nil (y : Int) (s : ByteArray) (w : World) :
    Calls Try.prog 19 #[.pointer none, .int .u32 y, .string s] w fun e w' => e = .returned (.int .u32 0) ∧ w' = w := by
  go_enter Try.func19, Try.ntmps19
  go_wp2_with (fail)
  go_ret
  exact ⟨rfl, rfl⟩
theorem sum_nil (s : ByteArray) (w : World) :
    Calls Try.prog 15 #[.pointer none, .string s] w fun e w' => e = .returned (.int .u32 0) ∧ w' = w := by
  go_enter Try.func15, Try.ntmps15
  go_wp2_with (go_at_call 19; (with_reducible refine (more_nil 0 s _).mono ?_); rintro e w1 ⟨rfl, rfl⟩)
  go_ret
  exact ⟨rfl, rfl⟩
end Go.Proofs.Ytkddaedjgbakkaa.Sum
