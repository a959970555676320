/- A record's number of its own: the walks (own text; printed by wip/tools/gen_recdig.py, a program of this session). -/
import Derived.Test.YtlohnhjfdmldnaaRecMix
namespace Go.Proofs.Ytlohnhjfdmldnaa.Rec
open Go.RowKit Go.Proofs.Ytlohnhjfdmldnaa.Mem
set_option linter.unusedVariables false
set_option linter.unusedSimpArgs false
/-- A record's number. -/
def digN (rk : ByteArray) (rp rl rn rd : Nat) : Nat := twoN (twoN (twoN (twoN (textN rk) rp) rl) rn) rd
theorem twoN_lt (x y : Nat) : twoN x y < 18446744073709551616 := mixN_lt _
theorem refDig_any (rk : ByteArray) (rp rl rn rd : Nat) (rf rx : Int) (rb : ByteArray) (w : World) (hz : rk.size ≤ 1000000) (hp : rp < 18446744073709551616) (hl : rl < 4294967296) (hn : rn < 256) (hd : rd < 256) :
    Calls Try.prog 23 #[.agg #[.string rk, .int .u64 (rp : Int), .int .u32 (rl : Int), .int .u8 (rn : Int), .int .u8 (rd : Int), .int .u32 rf, .int .u64 rx, .string rb]] w fun e w' => e = .returned (.int .u64 (digN rk rp rl rn rd)) ∧ Below w.heap.size w w' := by
  obtain ⟨x0, e0⟩ : ∃ x, x = textN rk := ⟨_, rfl⟩
  obtain ⟨x1, e1⟩ : ∃ x, x = twoN x0 rp := ⟨_, rfl⟩
  obtain ⟨x2, e2⟩ : ∃ x, x = twoN x1 rl := ⟨_, rfl⟩
  obtain ⟨x3, e3⟩ : ∃ x, x = twoN x2 rn := ⟨_, rfl⟩
  have he : digN rk rp rl rn rd = twoN x3 rd := by rw [e3, e2, e1, e0]; rfl
  have l0 : x0 < 18446744073709551616 := by rw [e0]; exact mixN_lt _
  have l1 : x1 < 18446744073709551616 := by rw [e1]; exact mixN_lt _
  have l2 : x2 < 18446744073709551616 := by rw [e2]; exact mixN_lt _
  have l3 : x3 < 18446744073709551616 := by rw [e3]; exact mixN_lt _
  have h0 := fun w => refText_any rk w hz
  have h1 := fun w => refTwo_any x0 rp w l0 hp
  have h2 := fun w => refTwo_any x1 rl w l1 (by omega)
  have h3 := fun w => refTwo_any x2 rn w l2 (by omega)
  have h4 := fun w => refTwo_any x3 rd w l3 (by omega)
  rw [← e0] at h0
  rw [← e1] at h1
  rw [← e2] at h2
  rw [← e3] at h3
  rw [← he] at h4
  have H0 := Lib.hid h0
  have H1 := Lib.hid h1
  have H2 := Lib.hid h2
  have H3 := Lib.hid h3
  have H4 := Lib.hid h4
  clear h0 h1 h2 h3 h4 e0 e1 e2 e3 he
  go_enter Try.func23, Try.ntmps23
  go_wp2_with (fail)
  refine (H0.out _).mono ?_
  rintro e w1 ⟨rfl, b1⟩
  have HA := Lib.hid (at_below (at_new w #[.string rk, .int .u64 (rp : Int), .int .u32 (rl : Int), .int .u8 (rn : Int), .int .u8 (rd : Int), .int .u32 rf, .int .u64 rx, .string rb] 27) b1)
  have HB := Lib.hid (below_on (below_al (o := .cells #[.string rk, .int .u64 (rp : Int), .int .u32 (rl : Int), .int .u8 (rn : Int), .int .u8 (rd : Int), .int .u32 rf, .int .u64 rx, .string rb] 27) (Below.refl w.heap.size w)) b1)
  clear b1
  obtain ⟨c0, c1, c2, c3, c4, c5, c6, c7, -⟩ := at8 HA.out
  go_wp2_with (fail)
  clear c0 c1 c2 c3 c4 c5 c6 c7
  refine (H1.out _).mono ?_
  rintro e w2 ⟨rfl, b1⟩
  replace HA := Lib.hid (at_below HA.out b1)
  replace HB := Lib.hid (below_on HB.out b1)
  clear b1
  obtain ⟨c0, c1, c2, c3, c4, c5, c6, c7, -⟩ := at8 HA.out
  go_wp2_with (fail)
  clear c0 c1 c2 c3 c4 c5 c6 c7
  refine (H2.out _).mono ?_
  rintro e w3 ⟨rfl, b1⟩
  replace HA := Lib.hid (at_below HA.out b1)
  replace HB := Lib.hid (below_on HB.out b1)
  clear b1
  obtain ⟨c0, c1, c2, c3, c4, c5, c6, c7, -⟩ := at8 HA.out
  go_wp2_with (fail)
  clear c0 c1 c2 c3 c4 c5 c6 c7
  refine (H3.out _).mono ?_
  rintro e w4 ⟨rfl, b1⟩
  replace HA := Lib.hid (at_below HA.out b1)
  replace HB := Lib.hid (below_on HB.out b1)
  clear b1
  obtain ⟨c0, c1, c2, c3, c4, c5, c6, c7, -⟩ := at8 HA.out
  go_wp2_with (fail)
  clear c0 c1 c2 c3 c4 c5 c6 c7
  refine (H4.out _).mono ?_
  rintro e w5 ⟨rfl, b1⟩
  replace HA := Lib.hid (at_below HA.out b1)
  replace HB := Lib.hid (below_on HB.out b1)
  clear b1
  go_wp2_with (fail)
  go_ret
  exact ⟨rfl, HB.out⟩
set_option maxRecDepth 100000 in
set_option maxHeartbeats 800000 in
theorem dig_any (rk : ByteArray) (rp rl rn rd : Nat) (rf rx : Int) (rb : ByteArray) (w : World) (hz : rk.size ≤ 1000000) (hp : rp < 18446744073709551616) (hl : rl < 4294967296) (hn : rn < 256) (hd : rd < 256) :
    Calls Try.prog 22 #[.agg #[.string rk, .int .u64 (rp : Int), .int .u32 (rl : Int), .int .u8 (rn : Int), .int .u8 (rd : Int), .int .u32 rf, .int .u64 rx, .string rb]] w fun e w' => e = .returned (.int .u64 (digN rk rp rl rn rd)) ∧ Below w.heap.size w w' := by
  obtain ⟨x0, e0⟩ : ∃ x, x = textN rk := ⟨_, rfl⟩
  obtain ⟨x1, e1⟩ : ∃ x, x = twoN x0 rp := ⟨_, rfl⟩
  obtain ⟨x2, e2⟩ : ∃ x, x = twoN x1 rl := ⟨_, rfl⟩
  obtain ⟨x3, e3⟩ : ∃ x, x = twoN x2 rn := ⟨_, rfl⟩
  have he : digN rk rp rl rn rd = twoN x3 rd := by rw [e3, e2, e1, e0]; rfl
  have l0 : x0 < 18446744073709551616 := by rw [e0]; exact mixN_lt _
  have l1 : x1 < 18446744073709551616 := by rw [e1]; exact mixN_lt _
  have l2 : x2 < 18446744073709551616 := by rw [e2]; exact mixN_lt _
  have l3 : x3 < 18446744073709551616 := by rw [e3]; exact mixN_lt _
  have h0 := fun w => text_any rk w hz
  have h1 := fun w => two_any x0 rp w l0 hp
  have h2 := fun w => two_any x1 rl w l1 (by omega)
  have h3 := fun w => two_any x2 rn w l2 (by omega)
  have h4 := fun w => two_any x3 rd w l3 (by omega)
  rw [← e0] at h0
  rw [← e1] at h1
  rw [← e2] at h2
  rw [← e3] at h3
  rw [← he] at h4
  have H0 := Lib.hid h0
  have H1 := Lib.hid h1
  have H2 := Lib.hid h2
  have H3 := Lib.hid h3
  have H4 := Lib.hid h4
  clear h0 h1 h2 h3 h4 e0 e1 e2 e3 he
  have hi0 : ∀ W : World, (Instr.index 59 (.agg #[.int .u64 (rp : Int), .int .u64 (rl : Int), .int .u64 (rn : Int), .int .u64 (rd : Int)]) (.int .i64 0)).run Try.prog W = .ok (.int .u64 (rp : Int)) W := fun _ => rfl
  have hi1 : ∀ W : World, (Instr.index 59 (.agg #[.int .u64 (rp : Int), .int .u64 (rl : Int), .int .u64 (rn : Int), .int .u64 (rd : Int)]) (.int .i64 1)).run Try.prog W = .ok (.int .u64 (rl : Int)) W := fun _ => rfl
  have hi2 : ∀ W : World, (Instr.index 59 (.agg #[.int .u64 (rp : Int), .int .u64 (rl : Int), .int .u64 (rn : Int), .int .u64 (rd : Int)]) (.int .i64 2)).run Try.prog W = .ok (.int .u64 (rn : Int)) W := fun _ => rfl
  have hi3 : ∀ W : World, (Instr.index 59 (.agg #[.int .u64 (rp : Int), .int .u64 (rl : Int), .int .u64 (rn : Int), .int .u64 (rd : Int)]) (.int .i64 3)).run Try.prog W = .ok (.int .u64 (rd : Int)) W := fun _ => rfl
  go_enter Try.func22, Try.ntmps22
  go_wp2_with (fail)
  refine (H0.out _).mono ?_
  rintro e w1 ⟨rfl, b1⟩
  have HA := Lib.hid (at_below (at_new w #[.string rk, .int .u64 (rp : Int), .int .u32 (rl : Int), .int .u8 (rn : Int), .int .u8 (rd : Int), .int .u32 rf, .int .u64 rx, .string rb] 27) b1)
  have HB := Lib.hid (below_on (below_al (o := .cells #[.string rk, .int .u64 (rp : Int), .int .u32 (rl : Int), .int .u8 (rn : Int), .int .u8 (rd : Int), .int .u32 rf, .int .u64 rx, .string rb] 27) (Below.refl w.heap.size w)) b1)
  clear b1
  obtain ⟨c0, c1, c2, c3, c4, c5, c6, c7, -⟩ := at8 HA.out
  go_wp2_with (fail)
  clear c0 c1 c2 c3 c4 c5 c6 c7
  go_loopw [3, 24] (fun y i w' => ∃ j : Nat, ((j = 0 ∧ y = .int .u64 (x0 : Int)) ∨ (j = 1 ∧ y = .int .u64 (x1 : Int)) ∨ (j = 2 ∧ y = .int .u64 (x2 : Int)) ∨ (j = 3 ∧ y = .int .u64 (x3 : Int)) ∨ (j = 4 ∧ y = .int .u64 (digN rk rp rl rn rd : Nat))) ∧ i = .int .i64 j ∧ Hid (Below w.heap.size w w')) (fun _ i _ => 4 - (intOf i).toNat)
  case atStart => exact ⟨0, Or.inl ⟨rfl, rfl⟩, rfl, HB⟩
  case round =>
    clear HB HA
    obtain ⟨j, hj, rfl, HB⟩ := hrel
    rcases hj with ⟨rfl, rfl⟩ | ⟨rfl, rfl⟩ | ⟨rfl, rfl⟩ | ⟨rfl, rfl⟩ | ⟨rfl, rfl⟩
    · go_wp2_with (fail)
      refine (H1.out _).mono ?_
      rintro e w2 ⟨rfl, b2⟩
      go_wp2_with (fail)
      exact ⟨⟨1, by simp, by rfl, Lib.hid (below_on HB.out b2)⟩, by simp [intOf]⟩
    · go_wp2_with (fail)
      refine (H2.out _).mono ?_
      rintro e w2 ⟨rfl, b2⟩
      go_wp2_with (fail)
      exact ⟨⟨2, by simp, by rfl, Lib.hid (below_on HB.out b2)⟩, by simp [intOf]⟩
    · go_wp2_with (fail)
      refine (H3.out _).mono ?_
      rintro e w2 ⟨rfl, b2⟩
      go_wp2_with (fail)
      exact ⟨⟨3, by simp, by rfl, Lib.hid (below_on HB.out b2)⟩, by simp [intOf]⟩
    · go_wp2_with (fail)
      refine (H4.out _).mono ?_
      rintro e w2 ⟨rfl, b2⟩
      go_wp2_with (fail)
      exact ⟨⟨4, by simp, by rfl, Lib.hid (below_on HB.out b2)⟩, by simp [intOf]⟩
    · go_wp2_with (fail)
      go_ret
      exact ⟨rfl, HB.out⟩
end Go.Proofs.Ytlohnhjfdmldnaa.Rec
