/- The document's sums: what eight, Entry, More and Sum answer (own text). -/
import Derived.Test.YtkddaedjgbakkaaSumPlain
import Derived.Laws.BitsAllLaws
namespace Go.Proofs.Ytkddaedjgbakkaa.Sum
open Go.RowKit Go.Proofs.Ytkddaedjgbakkaa.Mem
set_option linter.unusedVariables false
set_option linter.unusedSimpArgs false
theorem eight_any (x : Nat) (w : World) (hx : x < 4294967296) :
    Calls Try.prog 23 #[.int .u32 x] w fun e w' => e = .returned (.int .u32 (ei x)) ∧ Below w.heap.size w w' := by
  go_enter Try.func23, Try.ntmps23
  go_wp2_with (fail)
  go_loopw [0, 3] (fun v0 v3 w' => ∃ j : Nat, j ≤ 8 ∧ v0 = .int .u32 (it j x : Nat) ∧ v3 = .int .i64 j ∧ Below w.heap.size w w') (fun _ v _ => 8 - (intOf v).toNat)
  case atStart => exact ⟨0, by omega, rfl, rfl, Below.refl _ _⟩
  case round =>
    obtain ⟨j, hj, rfl, rfl, hb⟩ := hrel
    have hy : it j x < 4294967296 := it_lt hx j
    have hs : it (j + 1) x = st (it j x) := rfl
    have h8 : j = 8 → it j x = ei x := fun h => by rw [h]; rfl
    generalize it j x = y at *
    by_cases hlt : j < 8
    · by_cases ho : y % 2 = 1
      · have q1 : (y : Int) % 2 = 1 := by omega
        have q3 : bits .xor .u32 ((y : Int) / 2) 3988292384 = ((y / 2 ^^^ 3988292384 : Nat) : Int) := by
          rw [show (y : Int) / 2 = ((y / 2 : Nat) : Int) by omega]; exact u32_xor_nat (y / 2) 3988292384 (by omega) (by decide)
        have hs' : it (j + 1) x = y / 2 ^^^ 3988292384 := by rw [hs]; unfold st; rw [if_pos ho]
        go_wp2_with (fail)
        exact ⟨⟨j + 1, by omega, by rw [hs'], by go_num, hb⟩, by simp [intOf]; omega⟩
      · have q1 : (y : Int) % 2 = 0 := by omega
        have hs' : ((it (j + 1) x : Nat) : Int) = (y : Int) / 2 := by rw [hs]; unfold st; rw [if_neg ho]; omega
        go_wp2_with (fail)
        exact ⟨⟨j + 1, by omega, by rw [hs'], by go_num, hb⟩, by simp [intOf]; omega⟩
    · obtain rfl : j = 8 := by omega
      rw [h8 rfl]
      go_wp2_with (fail)
      go_ret
      exact ⟨rfl, hb⟩
theorem u8_u32 (b : Nat) (h : b < 256) : IntKind.u32.wrap (b : Int) = b := by rw [IntKind.wrap_u32']; omega
theorem refMore_any (y : Nat) (s : ByteArray) (w : World) (hy : y < 4294967296) (hsz : s.size ≤ 1000000) :
    Calls Try.prog 20 #[.int .u32 y, .string s] w fun e w' => e = .returned (.int .u32 (more y s)) ∧ Below w.heap.size w w' := by
  have q0 : bits .xor .u32 (y : Int) 4294967295 = ((y ^^^ 4294967295 : Nat) : Int) := u32_xor_nat y 4294967295 hy (by decide)
  have hx : y ^^^ 4294967295 < 4294967296 := Nat.xor_lt_two_pow (n := 32) hy (by decide)
  have hend : more y s = go s (y ^^^ 4294967295) s.size ^^^ 4294967295 := rfl
  go_enter Try.func20, Try.ntmps20
  go_wp2_with (fail)
  generalize y ^^^ 4294967295 = x at *
  go_loopw [5, 6] (fun v0 v3 w' => ∃ k : Nat, k ≤ s.size ∧ v0 = .int .u32 (go s x k : Nat) ∧ v3 = .int .i64 k ∧ Below w.heap.size w w') (fun _ v _ => s.size - (intOf v).toNat)
  case atStart => exact ⟨0, by omega, rfl, rfl, Below.refl _ _⟩
  case round =>
    obtain ⟨k, hk, rfl, rfl, hb⟩ := hrel
    have hg := go_lt s hx k
    have hs : go s x (k + 1) = ei (go s x k ^^^ by' s k) := rfl
    by_cases hlt : k < s.size
    · generalize go s x k = z at *
      have hb1 := by_lt s k
      have hat := by_at s k
      have q3 : bits .xor .u32 (z : Int) (by' s k : Int) = ((z ^^^ by' s k : Nat) : Int) := u32_xor_nat z (by' s k) hg (by omega)
      have hz : z ^^^ by' s k < 4294967296 := Nat.xor_lt_two_pow (n := 32) hg (by omega)
      go_wp2_with (go_at_call 23; (with_reducible refine (eight_any (z ^^^ by' s k) _ hz).mono ?_); rintro e w2 ⟨rfl, h2⟩)
      exact ⟨⟨k + 1, by omega, by rw [hs], by go_num, below_on hb h2⟩, by simp [intOf]; omega⟩
    · obtain rfl : k = s.size := by omega
      have q4 : bits .xor .u32 ((go s x s.size : Nat) : Int) 4294967295 = ((go s x s.size ^^^ 4294967295 : Nat) : Int) := u32_xor_nat _ 4294967295 hg (by decide)
      generalize go s x s.size = z at *
      go_wp2_with (fail)
      go_ret
      exact ⟨by rw [hend]; rfl, hb⟩
theorem refSum_any (s : ByteArray) (w : World) (hsz : s.size ≤ 1000000) :
    Calls Try.prog 17 #[.string s] w fun e w' => e = .returned (.int .u32 (more 0 s)) ∧ Below w.heap.size w w' := by
  have H0 : ∀ W, Calls Try.prog 20 #[.int .u32 0, .string s] W fun e w' => e = .returned (.int .u32 (more 0 s)) ∧ Below W.heap.size W w' := fun W => refMore_any 0 s W (by decide) hsz
  have H1 := Lib.hid H0
  clear H0
  go_enter Try.func17, Try.ntmps17
  go_wp2_with (go_at_call 20; (with_reducible refine (H1.out _).mono ?_); rintro e w2 ⟨rfl, h2⟩)
  go_ret
  exact ⟨rfl, h2⟩
/-- The byte that an int becomes. -/
def lowB (i : Int) : Nat := (i % 256).toNat
theorem lowB_lt (i : Int) : lowB i < 256 := by unfold lowB; omega
theorem lowB_wrap (i : Int) : IntKind.u8.wrap i = (lowB i : Int) := by rw [IntKind.wrap_u8']; unfold lowB; omega
end Go.Proofs.Ytkddaedjgbakkaa.Sum
